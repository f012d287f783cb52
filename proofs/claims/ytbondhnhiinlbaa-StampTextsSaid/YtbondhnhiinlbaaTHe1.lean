/- The machine's call of the reference's ToDate, a date that is one. -/
import Derived.Test.YtbondhnhiinlbaaTHe0
import Derived.Test.YtbondhnhiinlbaaTHc
import Derived.Test.YtbondhnhiinlbaaTK0
set_option linter.unusedVariables false
set_option linter.unusedSimpArgs false
namespace Go.Proofs.Ytbondhnhiinlbaa.Pr
open Go.RowKit Go.Proofs.YtbondhnhiinlbaaW.PrintWords Go.Proofs.YtbondhnhiinlbaaW.PrintLast Go.Proofs.YtbondhnhiinlbaaW.PrintMore
set_option maxHeartbeats 4000000 in
set_option maxRecDepth 100000 in
theorem reftodate_good (j : Nat) (a0_0 a0_2 a0_3 a0_4 a0_5 a0_6 : Int) (k : Nat) (w : World) (t n B S : Int) (hj : j < 12)
    (hF : foliotref02_first.f k a0_0 = some B) (hF2 : foliotref02_first.f k 1900 = some 693595)
    (hM : ∀ (i : Nat) (m : Int), i < 12 → (mtab t)[i]? = some m → foliotref02_month.f k a0_0 ((i : Int) + 1) = some m) (hn : (mtab t)[j]? = some n)
    (hS : toSecs (sumDays ((mtab t).take j) (wrap64 (wrap64 (wrap64 (B - 693595) + a0_2) - 1))) a0_3 a0_4 a0_5 = S) (hS1 : -15 * 4294967296 ≤ S) (hS2 : S < 3 * 4294967296) (hfr : 0 ≤ a0_6 ∧ a0_6 < 4294967296)
    (d0 : decide (a0_0 < 1) = false)
    (d1 : decide (2100 < a0_0) = false)
    (d2 : decide (((j : Int) + 1) < 1) = false)
    (d3 : decide (12 < ((j : Int) + 1)) = false)
    (d4 : decide (a0_2 < 1) = false)
    (d5 : decide (n < a0_2) = false)
    (d6 : decide (a0_3 < 0) = false)
    (d7 : decide (23 < a0_3) = false)
    (d8 : decide (a0_4 < 0) = false)
    (d9 : decide (59 < a0_4) = false)
    (d10 : decide (a0_5 < 0) = false)
    (d11 : decide (59 < a0_5) = false) :
    Calls Try.prog 18 #[.agg #[.int .i64 a0_0, .int .i64 ((j : Int) + 1), .int .i64 a0_2, .int .i64 a0_3, .int .i64 a0_4, .int .i64 a0_5, .int .u32 a0_6]] w fun e w' => e = .returned (.tuple #[.agg #[.int .i64 (S / 4294967296), .int .u64 (S % 4294967296 * 4294967296 + a0_6)], .int .i64 0]) ∧ Below w.heap.size w w' := by
  have hu33 := Try.underlying33
  have hu36 := Try.underlying36
  have HF := Aside0.mk hF
  have HF2 := Aside0.mk hF2
  have HM := Aside0.mk hM
  have HN := Aside0.mk (hM j n hj hn)
  have HS := Aside0.mk hS
  have HS1 := Aside0.mk hS1
  have HS2 := Aside0.mk hS2
  have HFR := Aside0.mk hfr
  have HJ := Aside0.mk hj
  clear hF hF2 hM hn hS hS1 hS2 hfr hj
  go_enter Try.func18, Try.ntmps18
  go_wp2
  have b1 : ((w.alloc (.cells #[.int .i64 a0_0, .int .i64 ((j : Int) + 1), .int .i64 a0_2, .int .i64 a0_3, .int .i64 a0_4, .int .i64 a0_5, .int .u32 a0_6] 33)).alloc (.cells #[.int .i64 0, .int .u64 0] 36)).heap[w.heap.size]? = some (.cells #[.int .i64 a0_0, .int .i64 ((j : Int) + 1), .int .i64 a0_2, .int .i64 a0_3, .int .i64 a0_4, .int .i64 a0_5, .int .u32 a0_6] 33 (0, 0)) := blk_alloc (blk_new w _) _
  have b2 : ((w.alloc (.cells #[.int .i64 a0_0, .int .i64 ((j : Int) + 1), .int .i64 a0_2, .int .i64 a0_3, .int .i64 a0_4, .int .i64 a0_5, .int .u32 a0_6] 33)).alloc (.cells #[.int .i64 0, .int .u64 0] 36)).heap[w.heap.size + 1]? = some (.cells #[.int .i64 0, .int .u64 0] 36 (0, 0)) := by
    have h := blk_new (w.alloc (.cells #[.int .i64 a0_0, .int .i64 ((j : Int) + 1), .int .i64 a0_2, .int .i64 a0_3, .int .i64 a0_4, .int .i64 a0_5, .int .u32 a0_6] 33)) (.cells #[.int .i64 0, .int .u64 0] 36)
    rw [show (w.alloc (.cells #[.int .i64 a0_0, .int .i64 ((j : Int) + 1), .int .i64 a0_2, .int .i64 a0_3, .int .i64 a0_4, .int .i64 a0_5, .int .u32 a0_6] 33)).heap.size = w.heap.size + 1 from by simp] at h
    exact h
  have hb : Below w.heap.size w ((w.alloc (.cells #[.int .i64 a0_0, .int .i64 ((j : Int) + 1), .int .i64 a0_2, .int .i64 a0_3, .int .i64 a0_4, .int .i64 a0_5, .int .u32 a0_6] 33)).alloc (.cells #[.int .i64 0, .int .u64 0] 36)) := below_alloc (below_alloc (Below.refl _ _) _) _
  generalize (w.alloc _).alloc _ = W at b1 b2 hb ⊢
  obtain ⟨g1, hg1⟩ : ∃ g, g = w.heap.size := ⟨_, rfl⟩
  obtain ⟨g2, hg2⟩ : ∃ g, g = w.heap.size + 1 := ⟨_, rfl⟩
  rw [← hg1] at b1
  rw [← hg2] at b2
  simp only [← hg2]
  simp only [← hg1]
  have B1 := Aside0.mk b1
  have B2 := Aside0.mk b2
  have HB := Aside0.mk hb
  have G2 := Aside0.mk (show w.heap.size ≤ g2 by omega)
  have c0 := (blk_cell b1 0).trans rfl
  have c1 := (blk_cell b1 1).trans rfl
  have c2 := (blk_cell b1 2).trans rfl
  have c3 := (blk_cell b1 3).trans rfl
  have c4 := (blk_cell b1 4).trans rfl
  have c5 := (blk_cell b1 5).trans rfl
  clear b1 b2 hb hg1 hg2
  go_quiet ((go_at_call 37; (with_reducible refine (foliotref02_month.calls k _ _ _ _ HN.out).mono ?_); rintro e w' ⟨rfl, ⟨nd, rfl⟩⟩; (try first | exact ⟨rfl, _, World.drewN_drewN _ _ _⟩ | exact ⟨rfl, _, Eq.trans (World.drewN_drewN _ _ _) (congrArg (World.drewN _) (Nat.add_assoc _ _ _))⟩)))
  go_wp2
  go_quiet (first | (go_at_call 35; (with_reducible refine (foliotref02_first.calls k a0_0 _ _ HF.out).mono ?_); rintro e w' ⟨rfl, ⟨nd, rfl⟩⟩; (try first | exact ⟨rfl, _, World.drewN_drewN _ _ _⟩ | exact ⟨rfl, _, Eq.trans (World.drewN_drewN _ _ _) (congrArg (World.drewN _) (Nat.add_assoc _ _ _))⟩)) | (go_at_call 35; (with_reducible refine (foliotref02_first.calls k 1900 _ _ HF2.out).mono ?_); rintro e w' ⟨rfl, ⟨nd, rfl⟩⟩; (try first | exact ⟨rfl, _, World.drewN_drewN _ _ _⟩ | exact ⟨rfl, _, Eq.trans (World.drewN_drewN _ _ _) (congrArg (World.drewN _) (Nat.add_assoc _ _ _))⟩)))
  go_wp2
  clear d0 d1 d2 d3 d4 d5 d6 d7 d8 d9 d10 d11 c0 c1 c2 c3 c4 c5
  generalize hW2 : W.drewN _ = W2
  have hh : W.heap = W2.heap := by rw [← hW2]; simp
  have b1 := B1.out
  rw [hh] at b1
  have b2 := B2.out
  rw [hh] at b2
  have hb : Below w.heap.size w W2 := by rw [← hW2]; exact pw_below_drewN HB.out _
  clear B1 B2 HB hW2 hh
  have B1 := Aside0.mk b1
  have B2 := Aside0.mk b2
  have HB := Aside0.mk hb
  clear b1 b2 hb
  go_loopg [4, 5] j (fun kq v4 v5 w' => ∃ (i : Nat) (dq : Int), v4 = .int .i64 dq ∧ v5 = .int .i64 ((i : Int) + 1) ∧ Aside0 (i + kq = j) ∧ Aside0 (toSecs (sumDays (((mtab t).take j).drop i) dq) a0_3 a0_4 a0_5 = S) ∧ Aside0 (w'.heap[g1]? = some (.cells #[.int .i64 a0_0, .int .i64 ((j : Int) + 1), .int .i64 a0_2, .int .i64 a0_3, .int .i64 a0_4, .int .i64 a0_5, .int .u32 a0_6] 33 (0, 0))) ∧ Aside0 (w'.heap[g2]? = some (.cells #[.int .i64 0, .int .u64 0] 36 (0, 0))) ∧ Aside0 (Below w.heap.size w w'))
  case atStart => exact ⟨0, _, rfl, rfl, ⟨by omega⟩, ⟨HS.out⟩, ⟨blk_drewN B1.out _⟩, ⟨blk_drewN B2.out _⟩, ⟨pw_below_drewN HB.out _⟩⟩
  case round =>
    clear HS HN HF HF2 B1 B2 HB
    obtain ⟨i, dq, rfl, rfl, HI, HD, B1, B2, HB⟩ := hrel
    have c0 := (blk_cell B1.out 0).trans rfl
    have c1 := (blk_cell B1.out 1).trans rfl
    by_cases hi : i < j
    · obtain ⟨m, hm⟩ : ∃ m, (mtab t)[i]? = some m := ⟨_, List.getElem?_eq_getElem (by have := HJ.out; simp [mtab]; omega)⟩
      have HMI := Aside0.mk (HM.out i m (by have := HJ.out; omega) hm)
      have hdr : ((mtab t).take j).drop i = m :: ((mtab t).take j).drop (i + 1) := by
        have hl : i < ((mtab t).take j).length := by have := HJ.out; simp [mtab]; omega
        rw [List.drop_eq_getElem_cons hl]
        obtain ⟨hl2, rfl⟩ := List.getElem?_eq_some_iff.1 hm
        simp
      have hd := HD.out
      rw [hdr] at hd
      have HD2 : Aside0 (toSecs (sumDays (((mtab t).take j).drop (i + 1)) (wrap64 (dq + m))) a0_3 a0_4 a0_5 = S) := ⟨hd⟩
      clear hdr hd HD hm
      have k1 : decide ((i : Int) + 1 < (j : Int) + 1) = true := decide_eq_true (by omega)
      go_wp2_with ((go_at_call 37; (with_reducible refine (foliotref02_month.calls k _ _ _ _ HMI.out).mono ?_); rintro e w' ⟨rfl, ⟨nd', rfl⟩⟩))
      go_roundg (gk - 1)
      case measure => have := HI.out; omega
      case rel => exact ⟨i + 1, _, rfl, by rw [show wrap64 ((i : Int) + 1 + 1) = (((i + 1 : Nat) : Int) + 1) from by have := HJ.out; unfold wrap64; omega], ⟨by have := HI.out; omega⟩, HD2, ⟨blk_drewN B1.out _⟩, ⟨blk_drewN B2.out _⟩, ⟨pw_below_drewN HB.out _⟩⟩
    · have hij : i = j := by have := HI.out; omega
      have hd := HD.out
      rw [List.drop_eq_nil_of_le (by rw [List.length_take]; omega)] at hd
      have hd' : toSecs dq a0_3 a0_4 a0_5 = S := hd
      have HD2 := Aside0.mk hd'
      have k1 : decide ((i : Int) + 1 < (j : Int) + 1) = false := decide_eq_false (by omega)
      have k2 : decide ((i : Int) < (j : Int)) = false := decide_eq_false (by omega)
      clear HD hd hd' HM HI hij
      have c3 := (blk_cell B1.out 3).trans rfl
      have c4 := (blk_cell B1.out 4).trans rfl
      have c5 := (blk_cell B1.out 5).trans rfl
      have c6 := (blk_cell B1.out 6).trans rfl
      have e0 := (blk_cell B2.out 0).trans rfl
      have e1 := (blk_cell B2.out 1).trans rfl
      have f0 := blk_frozen B2.out 0
      have f1 := blk_frozen B2.out 1
      have q5 : IntKind.u64.wrap a0_6 = a0_6 := by rw [IntKind.wrap_u64]; have := HFR.out; omega
      go_wp2
      clear c0 c1 c3 c4 c5 c6 e0 e1 f0 f1 k1 k2 q5 hi
      have hs : wrap64 (wrap64 (wrap64 (wrap64 (dq * 86400) + wrap64 (a0_3 * 3600)) + wrap64 (a0_4 * 60)) + a0_5) = S := HD2.out
      simp only [hs]
      clear hs HD2
      have b2 : (wr.alloc (.cells #[.int .i64 0, .int .u64 a0_6] 36)).heap[g2]? = some (.cells #[.int .i64 0, .int .u64 0] 36 (0, 0)) := blk_alloc B2.out _
      have b7 : (wr.alloc (.cells #[.int .i64 0, .int .u64 a0_6] 36)).heap[wr.heap.size]? = some (.cells #[.int .i64 0, .int .u64 a0_6] 36 (0, 0)) := blk_new wr _
      have hb : Below w.heap.size w (wr.alloc (.cells #[.int .i64 0, .int .u64 a0_6] 36)) := below_alloc HB.out _
      have hlt : g2 < wr.heap.size := blk_lt B2.out
      have G2' := G2.out
      generalize wr.alloc _ = W3 at b2 b7 hb ⊢
      obtain ⟨g7, hg7⟩ : ∃ g, g = wr.heap.size := ⟨_, rfl⟩
      rw [← hg7] at b7
      simp only [← hg7]
      have NE := Aside0.mk (show g2 ≠ g7 by omega)
      have G7 := Aside0.mk (show w.heap.size ≤ g7 by omega)
      clear B1 B2 HB hlt G2' hg7
      have B2 := Aside0.mk b2
      have B7 := Aside0.mk b7
      have HB := Aside0.mk hb
      clear b2 b7 hb
      obtain ⟨q, hq0, hq1, hq2⟩ : ∃ q : Int, q ≤ 0 ∧ q ≤ S / 4294967296 ∧ (q = 0 ∨ q = S / 4294967296) := by
        by_cases hs : 0 ≤ S / 4294967296
        · exact ⟨0, by omega, hs, .inl rfl⟩
        · exact ⟨S / 4294967296, by omega, by omega, .inr rfl⟩
      have Q := Aside0.mk (And.intro hq0 (And.intro hq1 hq2))
      obtain ⟨m0, hm0⟩ : ∃ m0 : Nat, (m0 : Int) = -q := ⟨(-q).toNat, by omega⟩
      have M0 := Aside0.mk hm0
      clear hq0 hq1 hq2 hm0
      go_loopg [6] m0 (fun kq v6 w' => ∃ (e : Int), v6 = .int .i64 (S - e * 4294967296) ∧ Aside0 (e = q + kq) ∧ Aside0 (e ≤ 0) ∧ Aside0 (w'.heap[g2]? = some (.cells #[.int .i64 0, .int .u64 0] 36 (0, 0))) ∧ Aside0 (w'.heap[g7]? = some (.cells #[.int .i64 e, .int .u64 a0_6] 36 (0, 0))) ∧ Aside0 (Below w.heap.size w w'))
      case atStart => exact ⟨0, by simp, ⟨by have := M0.out; omega⟩, ⟨by omega⟩, B2, B7, HB⟩
      case round =>
        clear B2 B7 HB M0
        obtain ⟨e, rfl, HE, HE0, B2, B7, HB⟩ := hrel
        have e0 := (blk_cell B7.out 0).trans rfl
        have f0 := blk_frozen B7.out 0
        by_cases hc : S - e * 4294967296 < 0
        · have hc' : decide (S - e * 4294967296 < 0) = true := decide_eq_true hc
          go_wp2
          go_roundg (gk - 1)
          case measure => have := HE.out; have := Q.out; omega
          case rel => exact ⟨e - 1, by rw [show wrap64 (S - e * 4294967296 + 4294967296) = S - (e - 1) * 4294967296 from by have := HS1.out; have := HS2.out; have := HE0.out; have := HE.out; have := Q.out; unfold wrap64; omega], ⟨by have := HE.out; have := Q.out; omega⟩, ⟨by have := HE0.out; omega⟩, ⟨blk_far B2.out NE.out _⟩, ⟨blk_put (cs := #[.int .i64 e, .int .u64 a0_6]) B7.out 0 _ (by rw [show wrap64 (e - 1) = e - 1 from by have := HS1.out; have := HE0.out; have := HE.out; have := Q.out; unfold wrap64; omega]; rfl)⟩, ⟨below_set HB.out G7.out⟩⟩
        · have hc' : decide (S - e * 4294967296 < 0) = false := decide_eq_false hc
          have HC := Aside0.mk hc
          clear hc
          go_wp2
          clear e0 f0 hc'
          obtain ⟨m1, hm1⟩ : ∃ m1 : Nat, (m1 : Int) = S / 4294967296 - e := ⟨(S / 4294967296 - e).toNat, by have := HC.out; omega⟩
          have M1 := Aside0.mk hm1
          have HEL := Aside0.mk (show -16 ≤ e by have := HE.out; have := Q.out; have := HS1.out; omega)
          clear hm1 HE Q
          go_loopg [6] m1 (fun kq v6 w' => ∃ (e : Int), v6 = .int .i64 (S - e * 4294967296) ∧ Aside0 (S / 4294967296 = e + kq) ∧ Aside0 (-16 ≤ e) ∧ Aside0 (w'.heap[g2]? = some (.cells #[.int .i64 0, .int .u64 0] 36 (0, 0))) ∧ Aside0 (w'.heap[g7]? = some (.cells #[.int .i64 e, .int .u64 a0_6] 36 (0, 0))) ∧ Aside0 (Below w.heap.size w w'))
          case atStart => exact ⟨e, rfl, ⟨by have := M1.out; omega⟩, HEL, B2, B7, HB⟩
          case round =>
            clear B2 B7 HB M1 HEL HC HE0

            obtain ⟨e, rfl, HE, HEL, B2, B7, HB⟩ := hrel
            have e0 := (blk_cell B7.out 0).trans rfl
            have f0 := blk_frozen B7.out 0
            by_cases hc : 4294967296 ≤ S - e * 4294967296
            · have hc' : decide (4294967296 ≤ S - e * 4294967296) = true := decide_eq_true hc
              go_wp2
              go_roundg (gk - 1)
              case measure => have := HE.out; omega
              case rel => exact ⟨e + 1, by rw [show wrap64 (S - e * 4294967296 - 4294967296) = S - (e + 1) * 4294967296 from by have := HS1.out; have := HS2.out; have := HEL.out; have := HE.out; unfold wrap64; omega], ⟨by have := HE.out; omega⟩, ⟨by have := HEL.out; omega⟩, ⟨blk_far B2.out NE.out _⟩, ⟨blk_put (cs := #[.int .i64 e, .int .u64 a0_6]) B7.out 0 _ (by rw [show wrap64 (e + 1) = e + 1 from by have := HS1.out; have := HS2.out; have := HEL.out; have := HE.out; unfold wrap64; omega]; rfl)⟩, ⟨below_set HB.out G7.out⟩⟩
            · have hc' : decide (4294967296 ≤ S - e * 4294967296) = false := decide_eq_false hc
              have he : S / 4294967296 = e := by have := HE.out; omega
              have hm : S - e * 4294967296 = S % 4294967296 := by omega
              simp only [hm] at hc' ⊢
              clear hm hc HE
              have e1 := (blk_cell B7.out 1).trans rfl
              have f1 := blk_frozen B7.out 1
              have z0 := (blk_cell B2.out 0).trans rfl
              have z1 := (blk_cell B2.out 1).trans rfl
              have y0 := blk_frozen B2.out 0
              have y1 := blk_frozen B2.out 1
              have ne1 := NE.out
              have ne2 := ne1.symm
              have q2 : IntKind.u64.wrap (S % 4294967296) = S % 4294967296 := by rw [IntKind.wrap_u64]; omega
              have q3 : IntKind.u64.wrap (S % 4294967296 * 4294967296) = S % 4294967296 * 4294967296 := by rw [IntKind.wrap_u64]; omega
              have q4 : IntKind.u64.wrap (a0_6 + S % 4294967296 * 4294967296) = S % 4294967296 * 4294967296 + a0_6 := by have := HFR.out; rw [IntKind.wrap_u64]; omega
              go_wp2
              subst he
              refine bodyPost_ret (results_ct rfl _ _ g2 36 #[.int .i64 (S / 4294967296), .int .u64 (S % 4294967296 * 4294967296 + a0_6)] (0, 0) _ rfl (by refine blk_put (cs := #[.int .i64 (S / 4294967296), .int .u64 0]) ?_ 1 _ rfl; refine blk_put (cs := #[.int .i64 0, .int .u64 0]) ?_ 0 _ rfl; exact blk_far B2.out NE.out _) hu36 rfl (by kernel_rfl)) rfl ⟨rfl, ?_⟩
              exact below_set (below_set (below_set HB.out G7.out) G2.out) G2.out
end Go.Proofs.Ytbondhnhiinlbaa.Pr
