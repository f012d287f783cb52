/- The machine's call of stamp.months. -/
import Derived.Test.YtbondhnhiinlbaaTK0
import Derived.Deep.RegionWith
set_option linter.unusedVariables false
set_option linter.unusedSimpArgs false
namespace Go.Proofs.Ytbondhnhiinlbaa.Pr
open Go.RowKit Go.Proofs.YtbondhnhiinlbaaW.PrintWords Go.Proofs.YtbondhnhiinlbaaW.PrintLast Go.Proofs.YtbondhnhiinlbaaW.PrintMore
def mvals (t : Int) : Array Value := #[.int .i64 31, .int .i64 (wrap64 (28 + t)), .int .i64 31, .int .i64 30, .int .i64 31, .int .i64 30, .int .i64 31, .int .i64 31, .int .i64 30, .int .i64 31, .int .i64 30, .int .i64 31]
set_option maxHeartbeats 2000000 in
theorem stamp_months.calls (y t : Int) (w : World) (ht : stamp_leap.f y = some t) :
    Calls Try.prog 34 #[.int .i64 y] w fun e w' => e = .returned (.agg (mvals t)) ∧ Below w.heap.size w w' := by
  have hu64 := Try.underlying64
  have HT := Aside0.mk ht
  clear ht
  unfold mvals
  go_enter Try.func34, Try.ntmps34
  go_wp2
  have b2 : ((w.alloc (.cells #[.int .i64 0, .int .i64 0, .int .i64 0, .int .i64 0, .int .i64 0, .int .i64 0, .int .i64 0, .int .i64 0, .int .i64 0, .int .i64 0, .int .i64 0, .int .i64 0] 64)).alloc (.cells #[.int .i64 31, .int .i64 28, .int .i64 31, .int .i64 30, .int .i64 31, .int .i64 30, .int .i64 31, .int .i64 31, .int .i64 30, .int .i64 31, .int .i64 30, .int .i64 31] 64)).heap[w.heap.size]? = some (.cells #[.int .i64 0, .int .i64 0, .int .i64 0, .int .i64 0, .int .i64 0, .int .i64 0, .int .i64 0, .int .i64 0, .int .i64 0, .int .i64 0, .int .i64 0, .int .i64 0] 64 (0, 0)) := blk_alloc (blk_new w _) _
  have b3 : ((w.alloc (.cells #[.int .i64 0, .int .i64 0, .int .i64 0, .int .i64 0, .int .i64 0, .int .i64 0, .int .i64 0, .int .i64 0, .int .i64 0, .int .i64 0, .int .i64 0, .int .i64 0] 64)).alloc (.cells #[.int .i64 31, .int .i64 28, .int .i64 31, .int .i64 30, .int .i64 31, .int .i64 30, .int .i64 31, .int .i64 31, .int .i64 30, .int .i64 31, .int .i64 30, .int .i64 31] 64)).heap[w.heap.size + 1]? = some (.cells #[.int .i64 31, .int .i64 28, .int .i64 31, .int .i64 30, .int .i64 31, .int .i64 30, .int .i64 31, .int .i64 31, .int .i64 30, .int .i64 31, .int .i64 30, .int .i64 31] 64 (0, 0)) := by
    have h := blk_new (w.alloc (.cells #[.int .i64 0, .int .i64 0, .int .i64 0, .int .i64 0, .int .i64 0, .int .i64 0, .int .i64 0, .int .i64 0, .int .i64 0, .int .i64 0, .int .i64 0, .int .i64 0] 64)) (.cells #[.int .i64 31, .int .i64 28, .int .i64 31, .int .i64 30, .int .i64 31, .int .i64 30, .int .i64 31, .int .i64 31, .int .i64 30, .int .i64 31, .int .i64 30, .int .i64 31] 64)
    rw [show (w.alloc (.cells #[.int .i64 0, .int .i64 0, .int .i64 0, .int .i64 0, .int .i64 0, .int .i64 0, .int .i64 0, .int .i64 0, .int .i64 0, .int .i64 0, .int .i64 0, .int .i64 0] 64)).heap.size = w.heap.size + 1 from by simp] at h
    exact h
  have hb : Below w.heap.size w ((w.alloc (.cells #[.int .i64 0, .int .i64 0, .int .i64 0, .int .i64 0, .int .i64 0, .int .i64 0, .int .i64 0, .int .i64 0, .int .i64 0, .int .i64 0, .int .i64 0, .int .i64 0] 64)).alloc (.cells #[.int .i64 31, .int .i64 28, .int .i64 31, .int .i64 30, .int .i64 31, .int .i64 30, .int .i64 31, .int .i64 31, .int .i64 30, .int .i64 31, .int .i64 30, .int .i64 31] 64)) := below_alloc (below_alloc (Below.refl w.heap.size w) _) _
  generalize (w.alloc _).alloc _ = W at b2 b3 hb ⊢
  obtain ⟨g2, hg2⟩ : ∃ g, g = w.heap.size := ⟨_, rfl⟩
  obtain ⟨g3, hg3⟩ : ∃ g, g = w.heap.size + 1 := ⟨_, rfl⟩
  rw [← hg2] at b2
  rw [← hg3] at b3
  rw [show w.heap.size + 1 = g3 from hg3.symm]
  rw [show Value.pointer (some (⟨w.heap.size, 0, none⟩ : Addr)) = Value.pointer (some ⟨g2, 0, none⟩) from by rw [hg2]]
  have hne : g2 ≠ g3 := by omega
  have hge : w.heap.size ≤ g2 := by omega
  have hge3 : w.heap.size ≤ g3 := by omega
  clear hg2 hg3
  have B2 := Aside0.mk b2
  have B3 := Aside0.mk b3
  have HB := Aside0.mk hb
  have HNE := Aside0.mk hne
  have c1 := (blk_cell b3 1).trans rfl
  have f1 := blk_frozen b3 1
  clear b2 b3 hb hne
  go_wp2
  go_region_with (go_at_call 43; (with_reducible refine (stamp_leap.calls y t _ HT.out).mono ?_); rintro e w' ⟨rfl, ⟨nd, rfl⟩⟩)
  all_goals
    have b3 : ∀ k, ((W.drewN k).setCell ⟨g3, 1, none⟩ (.int .i64 (IntKind.i64.wrap (28 + t)))).heap[g3]? = some (.cells #[.int .i64 31, .int .i64 (wrap64 (28 + t)), .int .i64 31, .int .i64 30, .int .i64 31, .int .i64 30, .int .i64 31, .int .i64 31, .int .i64 30, .int .i64 31, .int .i64 30, .int .i64 31] 64 (0, 0)) := fun k => blk_put (blk_drewN B3.out k) 1 _ (by rw [i64_w]; rfl)
    have b2 : ∀ k, ((W.drewN k).setCell ⟨g3, 1, none⟩ (.int .i64 (IntKind.i64.wrap (28 + t)))).heap[g2]? = some (.cells #[.int .i64 0, .int .i64 0, .int .i64 0, .int .i64 0, .int .i64 0, .int .i64 0, .int .i64 0, .int .i64 0, .int .i64 0, .int .i64 0, .int .i64 0, .int .i64 0] 64 (0, 0)) := fun k => blk_far (blk_drewN B2.out k) HNE.out _
    have hb : ∀ k, Below w.heap.size w ((W.drewN k).setCell ⟨g3, 1, none⟩ (.int .i64 (IntKind.i64.wrap (28 + t)))) := fun k => below_set (pw_below_drewN HB.out k) hge3
    replace b3 := b3 (1 + nd)
    replace b2 := b2 (1 + nd)
    replace hb := hb (1 + nd)
    rw [i64_w] at b3 b2 hb ⊢
    generalize (W.drewN (1 + nd)).setCell _ _ = W2 at b3 b2 hb ⊢
    clear c1 f1
    have B22 := Aside0.mk b2
    have B33 := Aside0.mk b3
    have HB2 := Aside0.mk hb
    have c0 := (blk_cell b3 0).trans rfl
    have c1 := (blk_cell b3 1).trans rfl
    have c2 := (blk_cell b3 2).trans rfl
    have c3 := (blk_cell b3 3).trans rfl
    have c4 := (blk_cell b3 4).trans rfl
    have c5 := (blk_cell b3 5).trans rfl
    have c6 := (blk_cell b3 6).trans rfl
    have c7 := (blk_cell b3 7).trans rfl
    have c8 := (blk_cell b3 8).trans rfl
    have c9 := (blk_cell b3 9).trans rfl
    have c10 := (blk_cell b3 10).trans rfl
    have c11 := (blk_cell b3 11).trans rfl
    have d0 := (blk_cell b2 0).trans rfl
    have d1 := (blk_cell b2 1).trans rfl
    have d2 := (blk_cell b2 2).trans rfl
    have d3 := (blk_cell b2 3).trans rfl
    have d4 := (blk_cell b2 4).trans rfl
    have d5 := (blk_cell b2 5).trans rfl
    have d6 := (blk_cell b2 6).trans rfl
    have d7 := (blk_cell b2 7).trans rfl
    have d8 := (blk_cell b2 8).trans rfl
    have d9 := (blk_cell b2 9).trans rfl
    have d10 := (blk_cell b2 10).trans rfl
    have d11 := (blk_cell b2 11).trans rfl
    have e0 := blk_frozen b2 0
    have e1 := blk_frozen b2 1
    have e2 := blk_frozen b2 2
    have e3 := blk_frozen b2 3
    have e4 := blk_frozen b2 4
    have e5 := blk_frozen b2 5
    have e6 := blk_frozen b2 6
    have e7 := blk_frozen b2 7
    have e8 := blk_frozen b2 8
    have e9 := blk_frozen b2 9
    have e10 := blk_frozen b2 10
    have e11 := blk_frozen b2 11
    have f0 := blk_frozen b3 0
    have f1 := blk_frozen b3 1
    have f2 := blk_frozen b3 2
    have f3 := blk_frozen b3 3
    have f4 := blk_frozen b3 4
    have f5 := blk_frozen b3 5
    have f6 := blk_frozen b3 6
    have f7 := blk_frozen b3 7
    have f8 := blk_frozen b3 8
    have f9 := blk_frozen b3 9
    have f10 := blk_frozen b3 10
    have f11 := blk_frozen b3 11
    clear b2 b3 hb
    go_wp2
    exact bodyPost_ret (results_cell_row rfl _ _ g2 64 #[.int .i64 31, .int .i64 (wrap64 (28 + t)), .int .i64 31, .int .i64 30, .int .i64 31, .int .i64 30, .int .i64 31, .int .i64 31, .int .i64 30, .int .i64 31, .int .i64 30, .int .i64 31] (0, 0) _ rfl (by refine blk_put (cs := #[.int .i64 31, .int .i64 (wrap64 (28 + t)), .int .i64 31, .int .i64 30, .int .i64 31, .int .i64 30, .int .i64 31, .int .i64 31, .int .i64 30, .int .i64 31, .int .i64 30, .int .i64 0]) ?_ 11 _ rfl; refine blk_put (cs := #[.int .i64 31, .int .i64 (wrap64 (28 + t)), .int .i64 31, .int .i64 30, .int .i64 31, .int .i64 30, .int .i64 31, .int .i64 31, .int .i64 30, .int .i64 31, .int .i64 0, .int .i64 0]) ?_ 10 _ rfl; refine blk_put (cs := #[.int .i64 31, .int .i64 (wrap64 (28 + t)), .int .i64 31, .int .i64 30, .int .i64 31, .int .i64 30, .int .i64 31, .int .i64 31, .int .i64 30, .int .i64 0, .int .i64 0, .int .i64 0]) ?_ 9 _ rfl; refine blk_put (cs := #[.int .i64 31, .int .i64 (wrap64 (28 + t)), .int .i64 31, .int .i64 30, .int .i64 31, .int .i64 30, .int .i64 31, .int .i64 31, .int .i64 0, .int .i64 0, .int .i64 0, .int .i64 0]) ?_ 8 _ rfl; refine blk_put (cs := #[.int .i64 31, .int .i64 (wrap64 (28 + t)), .int .i64 31, .int .i64 30, .int .i64 31, .int .i64 30, .int .i64 31, .int .i64 0, .int .i64 0, .int .i64 0, .int .i64 0, .int .i64 0]) ?_ 7 _ rfl; refine blk_put (cs := #[.int .i64 31, .int .i64 (wrap64 (28 + t)), .int .i64 31, .int .i64 30, .int .i64 31, .int .i64 30, .int .i64 0, .int .i64 0, .int .i64 0, .int .i64 0, .int .i64 0, .int .i64 0]) ?_ 6 _ rfl; refine blk_put (cs := #[.int .i64 31, .int .i64 (wrap64 (28 + t)), .int .i64 31, .int .i64 30, .int .i64 31, .int .i64 0, .int .i64 0, .int .i64 0, .int .i64 0, .int .i64 0, .int .i64 0, .int .i64 0]) ?_ 5 _ rfl; refine blk_put (cs := #[.int .i64 31, .int .i64 (wrap64 (28 + t)), .int .i64 31, .int .i64 30, .int .i64 0, .int .i64 0, .int .i64 0, .int .i64 0, .int .i64 0, .int .i64 0, .int .i64 0, .int .i64 0]) ?_ 4 _ rfl; refine blk_put (cs := #[.int .i64 31, .int .i64 (wrap64 (28 + t)), .int .i64 31, .int .i64 0, .int .i64 0, .int .i64 0, .int .i64 0, .int .i64 0, .int .i64 0, .int .i64 0, .int .i64 0, .int .i64 0]) ?_ 3 _ rfl; refine blk_put (cs := #[.int .i64 31, .int .i64 (wrap64 (28 + t)), .int .i64 0, .int .i64 0, .int .i64 0, .int .i64 0, .int .i64 0, .int .i64 0, .int .i64 0, .int .i64 0, .int .i64 0, .int .i64 0]) ?_ 2 _ rfl; refine blk_put (cs := #[.int .i64 31, .int .i64 0, .int .i64 0, .int .i64 0, .int .i64 0, .int .i64 0, .int .i64 0, .int .i64 0, .int .i64 0, .int .i64 0, .int .i64 0, .int .i64 0]) ?_ 1 _ rfl; refine blk_put (cs := #[.int .i64 0, .int .i64 0, .int .i64 0, .int .i64 0, .int .i64 0, .int .i64 0, .int .i64 0, .int .i64 0, .int .i64 0, .int .i64 0, .int .i64 0, .int .i64 0]) ?_ 0 _ rfl; exact B22.out) hu64 rfl (by kernel_rfl)) rfl ⟨rfl, by repeat (first | (with_reducible first | exact HB2.out | apply below_alloc | apply pw_below_drewN | apply below_drew1 | refine below_set ?_ hge | refine below_set ?_ hge3) | exact HB2.out)⟩
end Go.Proofs.Ytbondhnhiinlbaa.Pr
