-- PRINTED by print.py (a twelfth state) out of the translation. Not trusted: Lean checks it.
import Derived.Test.YtlhecfleanppmaaPrx0
import Derived.Test.YtlhecfleanppmaaPrx4
namespace Go.Proofs.Ytlhecfleanppmaa.Pr
open Go.RowKit Go.Proofs.YtlhecfleanppmaaW.PrintWords Go.Proofs.YtlhecfleanppmaaW.PrintLast Go.Proofs.YtlhecfleanppmaaW.PrintMore
attribute [local go_sem] max2_int min2_int max_two min_two max_three min_three max_four min_four   -- for this text's walks alone
set_option linter.unusedVariables false
set_option linter.unusedSimpArgs false

/-! ### foliotref13_those: function 30 -/
mutual
def foliotref13_those.l0 : Nat → List (S26) → List (S26) → Int → Option ((List (S26)))
  | 0, _, _, _ => none
  | k + 1, x0, x3, x4 => if x4 < (x0.length : Int) then (foliotref13_those.j1 k x0 x3 x4 (decide ((x3.length : Int) < 64))) else (foliotref13_those.j1 k x0 x3 x4 false)
def foliotref13_those.j1 : Nat → List (S26) → List (S26) → Int → Bool → Option ((List (S26)))
  | 0, _, _, _, _ => none
  | k + 1, x0, x3, x4, x14 => if x14 = true then (if 0 ≤ x4 then (if x4 < (x0.length : Int) then ((foliotref13_counts.f ((rd_T26 x0 x4).f0) ((rd_T26 x0 x4).f1) ((rd_T26 x0 x4).f2) ((rd_T26 x0 x4).f3) ((rd_T26 x0 x4).f4) ((rd_T26 x0 x4).f5) ((rd_T26 x0 x4).f6)).bind fun t117 => (if t117 = true then (if x3.length < 2932031007402 then (foliotref13_those.l0 k x0 (x3 ++ [(⟨(rd_T26 x0 x4).f0, (rd_T26 x0 x4).f1, (rd_T26 x0 x4).f2, (rd_T26 x0 x4).f3, (rd_T26 x0 x4).f4, (rd_T26 x0 x4).f5, (rd_T26 x0 x4).f6⟩ : S26)]) (wrap64 (x4 + 1))) else (none)) else (foliotref13_those.l0 k x0 x3 (wrap64 (x4 + 1))))) else (none)) else (none)) else (some x3)
end
def foliotref13_those.f (k : Nat) (l0 : List (S26)) : Option ((List (S26))) := foliotref13_those.l0 k l0 (([] : List (S26))) 0
theorem foliotref13_those.mono_l : ∀ k, (∀ y0 y1 y2, LeO (foliotref13_those.l0 k y0 y1 y2) (foliotref13_those.l0 (k + 1) y0 y1 y2)) ∧ (∀ y0 y1 y2 y3, LeO (foliotref13_those.j1 k y0 y1 y2 y3) (foliotref13_those.j1 (k + 1) y0 y1 y2 y3))
  | 0 => ⟨fun _ _ _ r h => by simp [foliotref13_those.l0] at h, fun _ _ _ _ r h => by simp [foliotref13_those.j1] at h⟩
  | k + 1 => by
    obtain ⟨ih0, ih1⟩ := foliotref13_those.mono_l k
    refine ⟨?_, ?_⟩
    · intro y0 y1 y2
      unfold foliotref13_those.l0
      repeat' first
      | (with_reducible exact ih0 _ _ _)
      | (with_reducible exact ih1 _ _ _ _)
      | (with_reducible exact LeO.refl _)
      | (with_reducible exact LeO.none _)
      | (with_reducible refine LeO.ite ?_ ?_)
      | (with_reducible refine LeO.bind ?_ (fun _ => ?_))
      | exact ih0 _ _ _
      | exact ih1 _ _ _ _
      | exact LeO.none _
      | refine LeO.ite ?_ ?_
      | refine LeO.bind ?_ (fun _ => ?_)
    · intro y0 y1 y2 y3
      unfold foliotref13_those.j1
      repeat' first
      | (with_reducible exact ih0 _ _ _)
      | (with_reducible exact ih1 _ _ _ _)
      | (with_reducible exact LeO.refl _)
      | (with_reducible exact LeO.none _)
      | (with_reducible refine LeO.ite ?_ ?_)
      | (with_reducible refine LeO.bind ?_ (fun _ => ?_))
      | exact ih0 _ _ _
      | exact ih1 _ _ _ _
      | exact LeO.none _
      | refine LeO.ite ?_ ?_
      | refine LeO.bind ?_ (fun _ => ?_)
theorem foliotref13_those.mono : ∀ a0 k, LeO (foliotref13_those.f k a0) (foliotref13_those.f (k + 1) a0) := by
  intro a0 k
  obtain ⟨ih0, ih1⟩ := foliotref13_those.mono_l k
  unfold foliotref13_those.f
  repeat' first
      | (with_reducible exact ih0 _ _ _)
      | (with_reducible exact ih1 _ _ _ _)
      | (with_reducible exact LeO.refl _)
      | (with_reducible exact LeO.none _)
      | (with_reducible refine LeO.ite ?_ ?_)
      | (with_reducible refine LeO.bind ?_ (fun _ => ?_))
      | exact ih0 _ _ _
      | exact ih1 _ _ _ _
      | exact LeO.none _
      | refine LeO.ite ?_ ?_
      | refine LeO.bind ?_ (fun _ => ?_)
set_option maxHeartbeats 8000000 in
set_option maxRecDepth 100000 in
theorem foliotref13_those.calls (k : Nat) (A0 : Option Addr) (c0 : Nat) (l0 : List (S26)) (r : List (S26)) (w : World) (hr0 : Kd.C k26 w A0 l0.length l0) (hc0 : l0.length ≤ c0) (h : foliotref13_those.f k l0 = some r) :
    Calls Try.prog 30 #[.slice A0 l0.length c0] w fun e w' => ∃ v0_ : Value, e = .returned (v0_) ∧ Kd.R k26 26 w' w.heap.size (fun _ => True) v0_ r ∧ Below w.heap.size w w' := by
  have hu26 := Try.underlying26
  have HR0 := Aside0.mk hr0
  have HC0 := Aside0.mk hc0
  clear hr0 hc0
  have HB := Aside0.mk (Below.refl w.heap.size w)
  have H : (foliotref13_those.l0 k l0 (([] : List (S26))) 0) = some r := h
  clear h
  obtain ⟨y113, hy113⟩ : ∃ y_ : List (S26), y_ = (([] : List (S26))) := ⟨_, rfl⟩
  replace H : (foliotref13_those.l0 k l0 y113 0) = some r := by first | (rw [hy113]; with_reducible exact H) | (have H2_ := (Option.bind_some _ _).symm.trans H; rw [hy113]; with_reducible exact H2_) | (have H2_ := (Option.bind_some _ _).symm.trans H; with_reducible exact H2_) | with_reducible exact H | (rw [hy113]; exact H) | exact H
  have Ny113 := Aside0.mk hy113
  clear hy113
  have H' := Aside0.mk H
  clear H
  go_enter Try.func30, Try.ntmps30
  go_wp2_with (first | ((with_reducible refine gate_dst (N := 5) rfl ?_); (try (refine gate_guard (by rfl) ?_; dsimp only)); refine Kd.R_lit k26 _ 26 ?hg (N := 5) ?hd (xs := ([] : List (S26))) (inner := []) (ok := fun _ => True) (okp := fun _ => True) ?hr ?hp (fun _ hk => hk) trivial (Below.refl _ _) (Nat.le_refl _) (by simp) ?_; (case hd => rfl); (case hg => rfl); (case hr => first | (go_simp; done) | (go_simp; rfl)); (case hp => exact (Reps.none _ _)); intro v114 w2 ho3 hb hg_ hnew_; clear hg_ hnew_; (first | rw [← Ny113.out] at ho3 | (simp only [Int.reduceToNat] at ho3; rw [← Ny113.out] at ho3)); have n0_ := Aside0.mk (Kd.R_lower ho3 (below_size (by repeat (first | (with_reducible first | exact HB.out | apply below_alloc | apply pw_below_drewN | apply below_drew1) | exact HB.out)))); have n1_ := Aside0.mk (below_step (by repeat (first | (with_reducible first | exact HB.out | apply below_alloc | apply pw_below_drewN | apply below_drew1) | exact HB.out)) hb); clear HB; have HO115 := n0_; have HB := n1_; clear n0_ n1_; clear hb ho3))
  go_loopg [3, 4] k (fun kq v3 v4 w' => ∃ (x3_1 : List (S26)) (x4_1 : Int), v4 = .int .i64 x4_1 ∧ Aside0 (foliotref13_those.l0 kq l0 x3_1 x4_1 = some r) ∧ Aside0 (kq ≤ k) ∧ Aside0 (Kd.R k26 26 w' w.heap.size (fun _ => True) v3 x3_1) ∧ Aside0 (Below w.heap.size w w'))
  case atStart => exact ⟨(y113), (0), (by first | rfl | (simp; done) | (simp [*]; done)), H', ⟨Nat.le_refl _⟩, ⟨by (with_reducible repeat (first | apply Kd.R_alloc | apply Kd.R_drewN | apply Kd.R_drew)); exact HO115.out⟩, ⟨by repeat (first | (with_reducible first | exact HB.out | apply below_alloc | apply pw_below_drewN | apply below_drew1) | exact HB.out)⟩⟩
  case round =>
    clear H'
    try clear p2
    try clear c3
    obtain ⟨x3_1, x4_1, rfl, HA, HK1, HO_3, HB⟩ := hrel
    cases gk with
    | zero => exact absurd HA.out (by simp [foliotref13_those.l0])
    | succ k1 =>
      have H := HA.out
      clear HA
      simp only [foliotref13_those.l0] at H
      have HC4 := Aside0.mk H
      clear H
      go_upto_region 3 with (fail)
      go_cut [14] (fun v14 wc => ∃ (kq : Nat) (x14_3 : Bool), v14 = .bool x14_3 ∧ Aside0 (foliotref13_those.j1 kq l0 x3_1 x4_1 x14_3 = some r) ∧ Aside0 (kq ≤ k1) ∧ Aside0 (Kd.R k26 26 wc w.heap.size (fun _ => True) u3 x3_1) ∧ Aside0 (Below w.heap.size w wc))
      case first =>
        have H := HC4.out
        clear HC4
        by_cases c5 : x4_1 < (l0.length : Int)
        · rw [if_pos c5] at H
          have c5b0 : decide (x4_1 < (l0.length : Int)) = true := decide_eq_true c5
          clear c5
          (first | rw [c5b0] | (simp only [i64_w, i32_w]; rw [c5b0]) | skip)
          have H' := Aside0.mk H
          clear H
          obtain ⟨Ao6, co6, eo6⟩ := Kd.R_slice HO_3.out
          subst eo6
          go_wp2
          go_meet
          case rel => exact ⟨_, (decide ((x3_1.length : Int) < 64)), (by first | rfl | (simp; done) | (simp [*]; done)), H', ⟨by have := HK1.out; first | omega | exact Nat.le_refl _⟩, ⟨by (with_reducible repeat (first | apply Kd.R_alloc | apply Kd.R_drewN | apply Kd.R_drew)); exact HO_3.out⟩, ⟨by repeat (first | (with_reducible first | exact HB.out | apply below_alloc | apply pw_below_drewN | apply below_drew1) | exact HB.out)⟩⟩
        · rw [if_neg c5] at H
          have c5b0 : decide (x4_1 < (l0.length : Int)) = false := decide_eq_false c5
          clear c5
          (first | rw [c5b0] | (simp only [i64_w, i32_w]; rw [c5b0]) | skip)
          have H' := Aside0.mk H
          clear H
          go_wp2
          go_meet
          case rel => exact ⟨_, (false), (by first | rfl | (simp; done) | (simp [*]; done)), H', ⟨by have := HK1.out; first | omega | exact Nat.le_refl _⟩, ⟨by (with_reducible repeat (first | apply Kd.R_alloc | apply Kd.R_drewN | apply Kd.R_drew)); exact HO_3.out⟩, ⟨by repeat (first | (with_reducible first | exact HB.out | apply below_alloc | apply pw_below_drewN | apply below_drew1) | exact HB.out)⟩⟩
      case rest =>
        clear HC4
        try clear p2
        try clear c3
        try clear c5
        try clear c5b0
        try clear p2
        obtain ⟨kq, x14_3, rfl, HA, HJ3, HO_3, HB⟩ := hcut
        cases kq with
        | zero => exact absurd HA.out (by simp [foliotref13_those.j1])
        | succ kj3 =>
          have H := HA.out
          clear HA
          simp only [foliotref13_those.j1] at H
          by_cases c7 : x14_3 = true
          · subst c7
            have H1 : (if 0 ≤ x4_1 then (if x4_1 < (l0.length : Int) then ((foliotref13_counts.f ((rd_T26 l0 x4_1).f0) ((rd_T26 l0 x4_1).f1) ((rd_T26 l0 x4_1).f2) ((rd_T26 l0 x4_1).f3) ((rd_T26 l0 x4_1).f4) ((rd_T26 l0 x4_1).f5) ((rd_T26 l0 x4_1).f6)).bind fun t117 => (if t117 = true then (if x3_1.length < 2932031007402 then (foliotref13_those.l0 kj3 l0 (x3_1 ++ [(⟨(rd_T26 l0 x4_1).f0, (rd_T26 l0 x4_1).f1, (rd_T26 l0 x4_1).f2, (rd_T26 l0 x4_1).f3, (rd_T26 l0 x4_1).f4, (rd_T26 l0 x4_1).f5, (rd_T26 l0 x4_1).f6⟩ : S26)]) (wrap64 (x4_1 + 1))) else (none)) else (foliotref13_those.l0 kj3 l0 x3_1 (wrap64 (x4_1 + 1))))) else (none)) else (none)) = some r := by rw [if_pos rfl] at H; exact H
            clear H
            have H := H1
            clear H1
            by_cases c8 : 0 ≤ x4_1
            · rw [if_pos c8] at H
              have c8b0 : decide (0 ≤ x4_1) = true := decide_eq_true c8
              clear c8
              by_cases c9 : x4_1 < (l0.length : Int)
              · rw [if_pos c9] at H
                have c9b0 : decide (x4_1 < (l0.length : Int)) = true := decide_eq_true c9
                clear c9
                replace H := Option.bind_eq_some_iff.mp H
                obtain ⟨t117, A100, H⟩ := H
                replace H : (if t117 = true then (if x3_1.length < 2932031007402 then (foliotref13_those.l0 kj3 l0 (x3_1 ++ [(⟨(rd_T26 l0 x4_1).f0, (rd_T26 l0 x4_1).f1, (rd_T26 l0 x4_1).f2, (rd_T26 l0 x4_1).f3, (rd_T26 l0 x4_1).f4, (rd_T26 l0 x4_1).f5, (rd_T26 l0 x4_1).f6⟩ : S26)]) (wrap64 (x4_1 + 1))) else (none)) else (foliotref13_those.l0 kj3 l0 x3_1 (wrap64 (x4_1 + 1)))) = some r := H
                have A10 := Aside0.mk A100
                clear A100
                by_cases c11 : t117 = true
                · subst c11
                  have H1 : (if x3_1.length < 2932031007402 then (foliotref13_those.l0 kj3 l0 (x3_1 ++ [(⟨(rd_T26 l0 x4_1).f0, (rd_T26 l0 x4_1).f1, (rd_T26 l0 x4_1).f2, (rd_T26 l0 x4_1).f3, (rd_T26 l0 x4_1).f4, (rd_T26 l0 x4_1).f5, (rd_T26 l0 x4_1).f6⟩ : S26)]) (wrap64 (x4_1 + 1))) else (none)) = some r := by rw [if_pos rfl] at H; exact H
                  clear H
                  have H := H1
                  clear H1
                  by_cases c12 : x3_1.length < 2932031007402
                  · rw [if_pos c12] at H
                    have LMc12 := Aside0.mk c12
                    clear c12
                    obtain ⟨y119, hy119⟩ : ∃ y_ : List (S26), y_ = (x3_1 ++ [(⟨(rd_T26 l0 x4_1).f0, (rd_T26 l0 x4_1).f1, (rd_T26 l0 x4_1).f2, (rd_T26 l0 x4_1).f3, (rd_T26 l0 x4_1).f4, (rd_T26 l0 x4_1).f5, (rd_T26 l0 x4_1).f6⟩ : S26)]) := ⟨_, rfl⟩
                    replace H : (foliotref13_those.l0 kj3 l0 y119 (wrap64 (x4_1 + 1))) = some r := by first | (rw [hy119]; with_reducible exact H) | (have H2_ := (Option.bind_some _ _).symm.trans H; rw [hy119]; with_reducible exact H2_) | (have H2_ := (Option.bind_some _ _).symm.trans H; with_reducible exact H2_) | with_reducible exact H | (rw [hy119]; exact H) | exact H
                    have Ny119 := Aside0.mk hy119
                    clear hy119
                    have H' := Aside0.mk H
                    clear H
                    have p116 : 0 ≤ (x4_1 : Int) := of_decide_eq_true (by first | (with_reducible assumption) | assumption)
                    have q116 : x4_1 < (l0.length : Int) := of_decide_eq_true (by first | (with_reducible assumption) | assumption)
                    obtain ⟨ad116, e116, hx116_0, hx116_1, hx116_2, hx116_3, hx116_4, hx116_5, hx116_6⟩ := at_T26 HR0.out x4_1 p116 q116
                    cases e116
                    replace hx116_0 := (HB.out.cell (World.block_lt_of_cell? w _ hx116_0)).trans hx116_0
                    replace hx116_1 := (HB.out.cell (World.block_lt_of_cell? w _ hx116_1)).trans hx116_1
                    replace hx116_2 := (HB.out.cell (World.block_lt_of_cell? w _ hx116_2)).trans hx116_2
                    replace hx116_3 := (HB.out.cell (World.block_lt_of_cell? w _ hx116_3)).trans hx116_3
                    replace hx116_4 := (HB.out.cell (World.block_lt_of_cell? w _ hx116_4)).trans hx116_4
                    replace hx116_5 := (HB.out.cell (World.block_lt_of_cell? w _ hx116_5)).trans hx116_5
                    replace hx116_6 := (HB.out.cell (World.block_lt_of_cell? w _ hx116_6)).trans hx116_6
                    replace p116 := eq_true p116
                    replace q116 := eq_true q116
                    go_wp2_with (first | ((with_reducible refine gate_callee (f := 26) rfl ?_); refine goesL_ (some 21) rfl rfl Try.func26 (by kernel_rfl) rfl #[.agg #[.int .i64 ((rd_T26 l0 x4_1).f0), .int .i64 ((rd_T26 l0 x4_1).f1), .int .i64 ((rd_T26 l0 x4_1).f2), .int .i64 ((rd_T26 l0 x4_1).f3), .int .i64 ((rd_T26 l0 x4_1).f4), .bool ((rd_T26 l0 x4_1).f5), .bool ((rd_T26 l0 x4_1).f6)]] rfl (by (try simp only [List.map_toArray, List.map_cons, List.map_nil]); first | done | rfl | (simp only [List.length_drop, List.length_take]; rfl)) ?_; (with_reducible refine (foliotref13_counts.calls ((rd_T26 l0 x4_1).f0) ((rd_T26 l0 x4_1).f1) ((rd_T26 l0 x4_1).f2) ((rd_T26 l0 x4_1).f3) ((rd_T26 l0 x4_1).f4) ((rd_T26 l0 x4_1).f5) ((rd_T26 l0 x4_1).f6) true _ A10.out).mono ?_); rintro e w13 ⟨rfl, hb⟩; refine ⟨_, rfl, ?_⟩; have n0_ := Aside0.mk (Kd.R_below (by (with_reducible repeat (first | apply Kd.R_alloc | apply Kd.R_drewN | apply Kd.R_drew)); exact HO_3.out) hb); have n1_ := Aside0.mk (below_step (by repeat (first | (with_reducible first | exact HB.out | apply below_alloc | apply pw_below_drewN | apply below_drew1) | exact HB.out)) hb); clear HO_3; clear HB; have HO_3 := n0_; have HB := n1_; clear n0_ n1_; (try clear hb); (try clear hb2); (try clear hk); (try clear hi); have p118 : 0 ≤ (x4_1 : Int) := of_decide_eq_true (by first | (with_reducible assumption) | assumption); have q118 : x4_1 < (l0.length : Int) := of_decide_eq_true (by first | (with_reducible assumption) | assumption); obtain ⟨ad118, e118, hx118_0, hx118_1, hx118_2, hx118_3, hx118_4, hx118_5, hx118_6⟩ := at_T26 HR0.out x4_1 p118 q118; obtain rfl : ad116 = ad118 := (by injection e118); replace hx118_0 := (HB.out.cell (World.block_lt_of_cell? w _ hx118_0)).trans hx118_0; replace hx118_1 := (HB.out.cell (World.block_lt_of_cell? w _ hx118_1)).trans hx118_1; replace hx118_2 := (HB.out.cell (World.block_lt_of_cell? w _ hx118_2)).trans hx118_2; replace hx118_3 := (HB.out.cell (World.block_lt_of_cell? w _ hx118_3)).trans hx118_3; replace hx118_4 := (HB.out.cell (World.block_lt_of_cell? w _ hx118_4)).trans hx118_4; replace hx118_5 := (HB.out.cell (World.block_lt_of_cell? w _ hx118_5)).trans hx118_5; replace hx118_6 := (HB.out.cell (World.block_lt_of_cell? w _ hx118_6)).trans hx118_6; replace p118 := eq_true p118; replace q118 := eq_true q118) | ((with_reducible refine gate_builtin (b := .append) (xs := #[.tmp 22, .tmp 27]) rfl ?_); (try (refine gate_guard (by rfl) ?_; dsimp only)); at_builtin; refine Kd.R_append k26 (w0 := w) w.heap.size rfl (.tmp 22) (.tmp 27) 22 26 (.agg #[(.int .i64 0), (.int .i64 0), (.int .i64 0), (.int .i64 0), (.int .i64 0), (.bool false), (.bool false)]) 48 rfl Try.underlying22 info26 rfl (by decide) (by omega) u3 x3_1 (⟨(rd_T26 l0 x4_1).f0, (rd_T26 l0 x4_1).f1, (rd_T26 l0 x4_1).f2, (rd_T26 l0 x4_1).f3, (rd_T26 l0 x4_1).f4, (rd_T26 l0 x4_1).f5, (rd_T26 l0 x4_1).f6⟩ : S26) [.int .i64 ((rd_T26 l0 x4_1).f0), .int .i64 ((rd_T26 l0 x4_1).f1), .int .i64 ((rd_T26 l0 x4_1).f2), .int .i64 ((rd_T26 l0 x4_1).f3), .int .i64 ((rd_T26 l0 x4_1).f4), .bool ((rd_T26 l0 x4_1).f5), .bool ((rd_T26 l0 x4_1).f6)] (fun _ => True) (fun _ => False) rfl rfl ?aP (fun _ hk => hk.elim) ?aF ?aO ?aB ?aS ?aL ?_; (case aP => exact k26_mkM _ _ _ (⟨(rd_T26 l0 x4_1).f0, (rd_T26 l0 x4_1).f1, (rd_T26 l0 x4_1).f2, (rd_T26 l0 x4_1).f3, (rd_T26 l0 x4_1).f4, (rd_T26 l0 x4_1).f5, (rd_T26 l0 x4_1).f6⟩ : S26)); (case aB => exact (by repeat (first | (with_reducible first | exact HB.out | apply below_alloc | apply pw_below_drewN | apply below_drew1) | exact HB.out))); (case aF => exact (fun _ _ => trivial)); (case aO => exact (by (with_reducible repeat (first | apply Kd.R_alloc | apply Kd.R_drewN | apply Kd.R_drew)); exact HO_3.out)); (case aS => exact (below_size (by repeat (first | (with_reducible first | exact HB.out | apply below_alloc | apply pw_below_drewN | apply below_drew1) | exact HB.out)))); (case aL => have := LMc12.out; omega); intro v120 w14 ho hb hg hat; rw [← Ny119.out] at ho; have n0_ := Aside0.mk (hb); have n1_ := Aside0.mk (ho); clear HB; clear HO_3; have HB := n0_; have HO121 := n1_; clear n0_ n1_; clear ho hb hg hat))
                    go_roundg kj3
                    case measure => have := HK1.out; have := HJ3.out; omega
                    case rel => exact ⟨(y119), (wrap64 (x4_1 + 1)), (by first | rfl | (simp; done) | (simp [*]; done)), H', ⟨by have := HK1.out; have := HJ3.out; omega⟩, ⟨by (with_reducible repeat (first | apply Kd.R_alloc | apply Kd.R_drewN | apply Kd.R_drew)); exact HO121.out⟩, ⟨by repeat (first | (with_reducible first | exact HB.out | apply below_alloc | apply pw_below_drewN | apply below_drew1) | exact HB.out)⟩⟩
                  · rw [if_neg c12] at H
                    exact absurd H (by simp)
                · replace c11 := Bool.eq_false_iff.mpr c11
                  subst c11
                  have H1 : (foliotref13_those.l0 kj3 l0 x3_1 (wrap64 (x4_1 + 1))) = some r := by rw [if_neg (show ¬ (false = true) by decide)] at H; exact H
                  clear H
                  have H := H1
                  clear H1
                  have H' := Aside0.mk H
                  clear H
                  have p116 : 0 ≤ (x4_1 : Int) := of_decide_eq_true (by first | (with_reducible assumption) | assumption)
                  have q116 : x4_1 < (l0.length : Int) := of_decide_eq_true (by first | (with_reducible assumption) | assumption)
                  obtain ⟨ad116, e116, hx116_0, hx116_1, hx116_2, hx116_3, hx116_4, hx116_5, hx116_6⟩ := at_T26 HR0.out x4_1 p116 q116
                  cases e116
                  replace hx116_0 := (HB.out.cell (World.block_lt_of_cell? w _ hx116_0)).trans hx116_0
                  replace hx116_1 := (HB.out.cell (World.block_lt_of_cell? w _ hx116_1)).trans hx116_1
                  replace hx116_2 := (HB.out.cell (World.block_lt_of_cell? w _ hx116_2)).trans hx116_2
                  replace hx116_3 := (HB.out.cell (World.block_lt_of_cell? w _ hx116_3)).trans hx116_3
                  replace hx116_4 := (HB.out.cell (World.block_lt_of_cell? w _ hx116_4)).trans hx116_4
                  replace hx116_5 := (HB.out.cell (World.block_lt_of_cell? w _ hx116_5)).trans hx116_5
                  replace hx116_6 := (HB.out.cell (World.block_lt_of_cell? w _ hx116_6)).trans hx116_6
                  replace p116 := eq_true p116
                  replace q116 := eq_true q116
                  go_wp2_with (first | ((with_reducible refine gate_callee (f := 26) rfl ?_); refine goesL_ (some 21) rfl rfl Try.func26 (by kernel_rfl) rfl #[.agg #[.int .i64 ((rd_T26 l0 x4_1).f0), .int .i64 ((rd_T26 l0 x4_1).f1), .int .i64 ((rd_T26 l0 x4_1).f2), .int .i64 ((rd_T26 l0 x4_1).f3), .int .i64 ((rd_T26 l0 x4_1).f4), .bool ((rd_T26 l0 x4_1).f5), .bool ((rd_T26 l0 x4_1).f6)]] rfl (by (try simp only [List.map_toArray, List.map_cons, List.map_nil]); first | done | rfl | (simp only [List.length_drop, List.length_take]; rfl)) ?_; (with_reducible refine (foliotref13_counts.calls ((rd_T26 l0 x4_1).f0) ((rd_T26 l0 x4_1).f1) ((rd_T26 l0 x4_1).f2) ((rd_T26 l0 x4_1).f3) ((rd_T26 l0 x4_1).f4) ((rd_T26 l0 x4_1).f5) ((rd_T26 l0 x4_1).f6) false _ A10.out).mono ?_); rintro e w15 ⟨rfl, hb⟩; refine ⟨_, rfl, ?_⟩; have n0_ := Aside0.mk (Kd.R_below (by (with_reducible repeat (first | apply Kd.R_alloc | apply Kd.R_drewN | apply Kd.R_drew)); exact HO_3.out) hb); have n1_ := Aside0.mk (below_step (by repeat (first | (with_reducible first | exact HB.out | apply below_alloc | apply pw_below_drewN | apply below_drew1) | exact HB.out)) hb); clear HO_3; clear HB; have HO_3 := n0_; have HB := n1_; clear n0_ n1_; (try clear hb); (try clear hb2); (try clear hk); (try clear hi)))
                  go_roundg kj3
                  case measure => have := HK1.out; have := HJ3.out; omega
                  case rel => exact ⟨(x3_1), (wrap64 (x4_1 + 1)), (by first | rfl | (simp; done) | (simp [*]; done)), H', ⟨by have := HK1.out; have := HJ3.out; omega⟩, ⟨by (with_reducible repeat (first | apply Kd.R_alloc | apply Kd.R_drewN | apply Kd.R_drew)); exact HO_3.out⟩, ⟨by repeat (first | (with_reducible first | exact HB.out | apply below_alloc | apply pw_below_drewN | apply below_drew1) | exact HB.out)⟩⟩
              · rw [if_neg c9] at H
                exact absurd H (by simp)
            · rw [if_neg c8] at H
              exact absurd H (by simp)
          · replace c7 := Bool.eq_false_iff.mpr c7
            subst c7
            have H1 : (some x3_1) = some r := by rw [if_neg (show ¬ (false = true) by decide)] at H; exact H
            clear H
            have H := H1
            clear H1
            obtain rfl := Option.some.inj H
            go_wp2
            go_ret
            exact ⟨_, by first | rfl | (simp [errW_none, errW_some] <;> rfl) | (simp [*, errW_none, errW_some] <;> rfl), by (with_reducible repeat (first | apply Kd.R_alloc | apply Kd.R_drewN | apply Kd.R_drew)); exact HO_3.out, by repeat (first | (with_reducible first | exact HB.out | apply below_alloc | apply pw_below_drewN | apply below_drew1) | exact HB.out)⟩

end Go.Proofs.Ytlhecfleanppmaa.Pr
