-- PRINTED by print.py (a twelfth state) out of the translation. Not trusted: Lean checks it.
import Derived.Test.YtlhecfleanppmaaPrx0
import Derived.Test.YtlhecfleanppmaaPrx7
import Derived.Test.YtlhecfleanppmaaHand
namespace Go.Proofs.Ytlhecfleanppmaa.Pr
open Go.RowKit Go.Proofs.YtlhecfleanppmaaW.PrintWords Go.Proofs.YtlhecfleanppmaaW.PrintLast Go.Proofs.YtlhecfleanppmaaW.PrintMore
attribute [local go_sem] max2_int min2_int max_two min_two max_three min_three max_four min_four   -- for this text's walks alone
set_option linter.unusedVariables false
set_option linter.unusedSimpArgs false

/-! ### choose_Survivors: function 21 -/
def choose_Survivors.l0 : Nat → Int → Int → List (S26) → List (S26) → Int → Int → Option ((List (S26)))
  | 0, _, _, _, _, _, _ => none
  | k + 1, x3, x4, x6, x19, x20, x21 => if x21 < x20 then (if 0 ≤ x21 then (if x21 < (x19.length : Int) then (if x3 ≤ (wrap64 ((((rd_T26 x19 x21).f1) / 65536) * 65536)) then (if (wrap64 ((((rd_T26 x19 x21).f1) / 65536) * 65536)) ≤ x4 then (if x6.length < 2932031007402 then (choose_Survivors.l0 k x3 x4 (x6 ++ [(⟨(rd_T26 x19 x21).f0, (rd_T26 x19 x21).f1, (rd_T26 x19 x21).f2, (rd_T26 x19 x21).f3, (rd_T26 x19 x21).f4, (rd_T26 x19 x21).f5, (rd_T26 x19 x21).f6⟩ : S26)]) x19 x20 (wrap64 (x21 + 1))) else (none)) else (choose_Survivors.l0 k x3 x4 x6 x19 x20 (wrap64 (x21 + 1)))) else (choose_Survivors.l0 k x3 x4 x6 x19 x20 (wrap64 (x21 + 1)))) else (none)) else (none)) else (some x6)
def choose_Survivors.f (k : Nat) (l0 : List (S26)) : Option ((List (S26))) := (choose_Meet.f l0).bind fun bt234 => (if bt234.2.2 = true then ((choose_that.f k l0).bind fun t237 => (choose_Survivors.l0 k bt234.1 bt234.2.1 ([] : List (S26)) t237 (t237.length : Int) 0)) else (some ([] : List (S26))))
theorem choose_Survivors.mono_l : ∀ k, (∀ y0 y1 y2 y3 y4 y5, LeO (choose_Survivors.l0 k y0 y1 y2 y3 y4 y5) (choose_Survivors.l0 (k + 1) y0 y1 y2 y3 y4 y5))
  | 0 => fun _ _ _ _ _ _ r h => by simp [choose_Survivors.l0] at h
  | k + 1 => by
    have ih0 := choose_Survivors.mono_l k
    · intro y0 y1 y2 y3 y4 y5
      unfold choose_Survivors.l0
      repeat' first
      | (with_reducible exact ih0 _ _ _ _ _ _)
      | (with_reducible exact choose_that.mono _ _)
      | (with_reducible exact LeO.refl _)
      | (with_reducible exact LeO.none _)
      | (with_reducible refine LeO.ite ?_ ?_)
      | (with_reducible refine LeO.bind ?_ (fun _ => ?_))
      | exact ih0 _ _ _ _ _ _
      | exact choose_that.mono _ _
      | exact LeO.none _
      | refine LeO.ite ?_ ?_
      | refine LeO.bind ?_ (fun _ => ?_)
theorem choose_Survivors.mono : ∀ a0 k, LeO (choose_Survivors.f k a0) (choose_Survivors.f (k + 1) a0) := by
  intro a0 k
  have ih0 := choose_Survivors.mono_l k
  unfold choose_Survivors.f
  repeat' first
      | (with_reducible exact ih0 _ _ _ _ _ _)
      | (with_reducible exact choose_that.mono _ _)
      | (with_reducible exact LeO.refl _)
      | (with_reducible exact LeO.none _)
      | (with_reducible refine LeO.ite ?_ ?_)
      | (with_reducible refine LeO.bind ?_ (fun _ => ?_))
      | exact ih0 _ _ _ _ _ _
      | exact choose_that.mono _ _
      | exact LeO.none _
      | refine LeO.ite ?_ ?_
      | refine LeO.bind ?_ (fun _ => ?_)
set_option maxHeartbeats 8000000 in
set_option maxRecDepth 100000 in
theorem choose_Survivors.calls (k : Nat) (A0 : Option Addr) (c0 : Nat) (l0 : List (S26)) (r : List (S26)) (w : World) (hr0 : Kd.C k26 w A0 l0.length l0) (hc0 : l0.length ≤ c0) (h : choose_Survivors.f k l0 = some r) :
    Calls Try.prog 21 #[.slice A0 l0.length c0] w fun e w' => ∃ v0_ : Value, e = .returned (v0_) ∧ Kd.R k26 26 w' w.heap.size (fun _ => True) v0_ r ∧ Below w.heap.size w w' := by
  have hu26 := Try.underlying26
  have HR0 := Aside0.mk hr0
  have HC0 := Aside0.mk hc0
  clear hr0 hc0
  have HB := Aside0.mk (Below.refl w.heap.size w)
  have H : ((choose_Meet.f l0).bind fun bt234 => (if bt234.2.2 = true then ((choose_that.f k l0).bind fun t237 => (choose_Survivors.l0 k bt234.1 bt234.2.1 ([] : List (S26)) t237 (t237.length : Int) 0)) else (some ([] : List (S26))))) = some r := h
  clear h
  replace H := Option.bind_eq_some_iff.mp H
  obtain ⟨⟨t234, t235, t236⟩, A20, H⟩ := H
  replace H : (if t236 = true then ((choose_that.f k l0).bind fun t237 => (choose_Survivors.l0 k t234 t235 ([] : List (S26)) t237 (t237.length : Int) 0)) else (some ([] : List (S26)))) = some r := H
  have A2 := Aside0.mk A20
  clear A20
  by_cases c3 : t236 = true
  · subst c3
    have H1 : ((choose_that.f k l0).bind fun t237 => (choose_Survivors.l0 k t234 t235 ([] : List (S26)) t237 (t237.length : Int) 0)) = some r := by rw [if_pos rfl] at H; exact H
    clear H
    have H := H1
    clear H1
    replace H := Option.bind_eq_some_iff.mp H
    obtain ⟨t237, A40, H⟩ := H
    replace H : (choose_Survivors.l0 k t234 t235 ([] : List (S26)) t237 (t237.length : Int) 0) = some r := H
    have A4 := Aside0.mk A40
    clear A40
    have H' := Aside0.mk H
    clear H
    go_enter Try.func21, Try.ntmps21
    go_wp2_with (first | ((with_reducible refine gate_callee (f := 17) rfl ?_); refine goesL_ (some 12) rfl rfl Try.func17 (by kernel_rfl) rfl #[.slice A0 l0.length c0] rfl (by (try simp only [List.map_toArray, List.map_cons, List.map_nil]); first | done | rfl | (simp only [List.length_drop, List.length_take]; rfl)) ?_; (with_reducible refine (choose_Meet.calls _ _ l0 t234 t235 true _ ?side1 ?side2 A2.out).mono ?_); (case side1 => repeat (first | exact HR0.out | (with_reducible refine Kd.C_alloc ?_ _) | (with_reducible refine Kd.C_drewN ?_ _) | (with_reducible refine Kd.C_drew ?_))); (case side2 => exact HC0.out); rintro e w5 ⟨rfl, hb⟩; refine ⟨_, rfl, ?_⟩; have n0_ := Aside0.mk (below_step (by repeat (first | (with_reducible first | exact HB.out | apply below_alloc | apply pw_below_drewN | apply below_drew1) | exact HB.out)) hb); clear HB; have HB := n0_; clear n0_; (try clear hb); (try clear hb2); (try clear hk); (try clear hi)) | ((with_reducible refine gate_callee (f := 27) rfl ?_); refine goesL_ (some 19) rfl rfl Try.func27 (by kernel_rfl) rfl #[.slice A0 l0.length c0] rfl (by (try simp only [List.map_toArray, List.map_cons, List.map_nil]); first | done | rfl | (simp only [List.length_drop, List.length_take]; rfl)) ?_; (with_reducible refine (choose_that.calls k _ _ l0 t237 _ ?side1 ?side2 A4.out).mono ?_); (case side1 => repeat (first | exact (Kd.C_below HR0.out HB.out) | (with_reducible refine Kd.C_alloc ?_ _) | (with_reducible refine Kd.C_drewN ?_ _) | (with_reducible refine Kd.C_drew ?_))); (case side2 => exact HC0.out); rintro e w6 ⟨v238, rfl, ho0, hb⟩; refine ⟨_, rfl, ?_⟩; have n0_ := Aside0.mk (Kd.R_lower ho0 (below_size (by repeat (first | (with_reducible first | exact HB.out | apply below_alloc | apply pw_below_drewN | apply below_drew1) | exact HB.out)))); have n1_ := Aside0.mk (below_step (by repeat (first | (with_reducible first | exact HB.out | apply below_alloc | apply pw_below_drewN | apply below_drew1) | exact HB.out)) hb); clear HB; have HO239 := n0_; have HB := n1_; clear n0_ n1_; (try clear hb); (try clear hb2); (try clear hk); (try clear hi); (try clear ho0); obtain ⟨Ao7, co7, eo7⟩ := Kd.R_slice HO239.out; subst eo7))
    go_loopg [6, 21] k (fun kq v6 v21 w' => ∃ (x6_1 : List (S26)) (x21_1 : Int), v21 = .int .i64 x21_1 ∧ Aside0 (choose_Survivors.l0 kq t234 t235 x6_1 t237 (t237.length : Int) x21_1 = some r) ∧ Aside0 (kq ≤ k) ∧ Aside0 (Kd.R k26 26 w' w.heap.size (fun k_ => some k_ ≠ ((.slice Ao7 t237.length co7) : Value).ownBlock) v6 x6_1) ∧ Aside0 (Kd.R k26 26 w' w.heap.size (fun k_ => some k_ ≠ (v6 : Value).ownBlock) (.slice Ao7 t237.length co7) t237) ∧ Aside0 (Below w.heap.size w w'))
    case atStart => exact ⟨(([] : List (S26))), (0), (by first | rfl | (simp; done) | (simp [*]; done)), H', ⟨Nat.le_refl _⟩, ⟨by first | exact Kd.R_nil _ _ _ _ _ | exact Kd.N_nil _ _ _ _ _ | exact Kd.V_nil _ _ _ _ _ | exact Kd.Q_nil _ _ _ _ _ | exact Kd.S_nil _ _ _ _ _⟩, ⟨by (with_reducible repeat (first | apply Kd.R_alloc | apply Kd.R_drewN | apply Kd.R_drew)); exact Kd.R_mono HO239.out (fun _ hk => (by simp [Value.ownBlock]))⟩, ⟨by repeat (first | (with_reducible first | exact HB.out | apply below_alloc | apply pw_below_drewN | apply below_drew1) | exact HB.out)⟩⟩
    case round =>
      clear H'
      try clear c1
      try clear c2
      try clear p2
      try clear c3
      obtain ⟨x6_1, x21_1, rfl, HA, HK1, HO_6, HO_19, HB⟩ := hrel
      cases gk with
      | zero => exact absurd HA.out (by simp [choose_Survivors.l0])
      | succ k1 =>
        have H := HA.out
        clear HA
        simp only [choose_Survivors.l0] at H
        by_cases c8 : x21_1 < (t237.length : Int)
        · rw [if_pos c8] at H
          have c8b0 : decide (x21_1 < (t237.length : Int)) = true := decide_eq_true c8
          clear c8
          by_cases c9 : 0 ≤ x21_1
          · rw [if_pos c9] at H
            have c9b0 : decide (0 ≤ x21_1) = true := decide_eq_true c9
            clear c9
            by_cases c10 : x21_1 < (t237.length : Int)
            · rw [if_pos c10] at H
              have c10b0 : decide (x21_1 < (t237.length : Int)) = true := decide_eq_true c10
              clear c10
              by_cases c11 : t234 ≤ (wrap64 ((((rd_T26 t237 x21_1).f1) / 65536) * 65536))
              · rw [if_pos c11] at H
                have c11b0 : decide (t234 ≤ (wrap64 ((((rd_T26 t237 x21_1).f1) / 65536) * 65536))) = true := decide_eq_true c11
                clear c11
                by_cases c12 : (wrap64 ((((rd_T26 t237 x21_1).f1) / 65536) * 65536)) ≤ t235
                · rw [if_pos c12] at H
                  have c12b0 : decide ((wrap64 ((((rd_T26 t237 x21_1).f1) / 65536) * 65536)) ≤ t235) = true := decide_eq_true c12
                  clear c12
                  by_cases c13 : x6_1.length < 2932031007402
                  · rw [if_pos c13] at H
                    have LMc13 := Aside0.mk c13
                    clear c13
                    obtain ⟨y242, hy242⟩ : ∃ y_ : List (S26), y_ = (x6_1 ++ [(⟨(rd_T26 t237 x21_1).f0, (rd_T26 t237 x21_1).f1, (rd_T26 t237 x21_1).f2, (rd_T26 t237 x21_1).f3, (rd_T26 t237 x21_1).f4, (rd_T26 t237 x21_1).f5, (rd_T26 t237 x21_1).f6⟩ : S26)]) := ⟨_, rfl⟩
                    replace H : (choose_Survivors.l0 k1 t234 t235 y242 t237 (t237.length : Int) (wrap64 (x21_1 + 1))) = some r := by first | (rw [hy242]; with_reducible exact H) | (have H2_ := (Option.bind_some _ _).symm.trans H; rw [hy242]; with_reducible exact H2_) | (have H2_ := (Option.bind_some _ _).symm.trans H; with_reducible exact H2_) | with_reducible exact H | (rw [hy242]; exact H) | exact H
                    have Ny242 := Aside0.mk hy242
                    clear hy242
                    have H' := Aside0.mk H
                    clear H
                    have p240 : 0 ≤ (x21_1 : Int) := of_decide_eq_true (by first | (with_reducible assumption) | assumption)
                    have q240 : x21_1 < (t237.length : Int) := of_decide_eq_true (by first | (with_reducible assumption) | assumption)
                    obtain ⟨ad240, e240, hx240_0, hx240_1, hx240_2, hx240_3, hx240_4, hx240_5, hx240_6⟩ := at_T26 (Kd.R_reads' HO_19.out).2.2 x21_1 p240 q240
                    cases e240
                    replace p240 := eq_true p240
                    replace q240 := eq_true q240
                    go_wp2_with (first | ((with_reducible refine gate_dst (N := 8) rfl ?_); refine box_event ?hg (N := 8) ?hd (cs := #[.int .i64 0, .int .i64 0, .int .i64 0, .int .i64 0, .int .i64 0, .bool false, .bool false]) (t := 26) ?hr ?_; (case hd => rfl); (case hg => rfl); (case hr => first | (go_simp; done) | (go_simp; rfl)); intro gb241 hg w14 hbox hb; have n0_ := Aside0.mk (Kd.R_below (Kd.R_elderB (by (with_reducible repeat (first | apply Kd.R_alloc | apply Kd.R_drewN | apply Kd.R_drew)); exact HO_6.out) gb241 (Nat.le_of_eq hg.symm)) hb); have n1_ := Aside0.mk (Kd.R_below (Kd.R_elderB (by (with_reducible repeat (first | apply Kd.R_alloc | apply Kd.R_drewN | apply Kd.R_drew)); exact HO_19.out) gb241 (Nat.le_of_eq hg.symm)) hb); have n2_ := Aside0.mk (below_step (by repeat (first | (with_reducible first | exact HB.out | apply below_alloc | apply pw_below_drewN | apply below_drew1) | exact HB.out)) hb); have n3_ := Aside0.mk (hbox); have n4_ := Aside0.mk ((by rw [hg]; exact (below_size (by repeat (first | (with_reducible first | exact HB.out | apply below_alloc | apply pw_below_drewN | apply below_drew1) | exact HB.out))) : w.heap.size ≤ gb241)); have n5_ := Aside0.mk ((by rw [hg]; exact (below_size (by repeat (first | (with_reducible first | exact HB.out | apply below_alloc | apply pw_below_drewN | apply below_drew1) | exact HB.out))) : w.heap.size ≤ gb241)); clear HO_6; clear HO_19; clear HB; have HO_6 := n0_; have HO_19 := n1_; have HB := n2_; have BK241 := n3_; have GW241 := n4_; have GE241 := n5_; clear n0_ n1_ n2_ n3_ n4_ n5_; clear hb hbox hg; have hcz15_0 : w14.cell? ⟨gb241, 0, none⟩ = some (.int .i64 0) := (blk_cell BK241.out 0).trans rfl; have hcz15_1 : w14.cell? ⟨gb241, 1, none⟩ = some (.int .i64 0) := (blk_cell BK241.out 1).trans rfl; have hcz15_2 : w14.cell? ⟨gb241, 2, none⟩ = some (.int .i64 0) := (blk_cell BK241.out 2).trans rfl; have hcz15_3 : w14.cell? ⟨gb241, 3, none⟩ = some (.int .i64 0) := (blk_cell BK241.out 3).trans rfl; have hcz15_4 : w14.cell? ⟨gb241, 4, none⟩ = some (.int .i64 0) := (blk_cell BK241.out 4).trans rfl; have hcz15_5 : w14.cell? ⟨gb241, 5, none⟩ = some (.bool false) := (blk_cell BK241.out 5).trans rfl; have hcz15_6 : w14.cell? ⟨gb241, 6, none⟩ = some (.bool false) := (blk_cell BK241.out 6).trans rfl; have hfz15_0 := blk_frozen BK241.out 0; have hfz15_1 := blk_frozen BK241.out 1; have hfz15_2 := blk_frozen BK241.out 2; have hfz15_3 := blk_frozen BK241.out 3; have hfz15_4 := blk_frozen BK241.out 4; have hfz15_5 := blk_frozen BK241.out 5; have hfz15_6 := blk_frozen BK241.out 6) | ((with_reducible refine gate_builtin (b := .append) (xs := #[.tmp 37, .tmp 39]) rfl ?_); at_builtin; refine Kd.R_append k26 (w0 := w) w.heap.size rfl (.tmp 37) (.tmp 39) 22 26 (.agg #[(.int .i64 0), (.int .i64 0), (.int .i64 0), (.int .i64 0), (.int .i64 0), (.bool false), (.bool false)]) 48 rfl Try.underlying22 info26 rfl (by decide) (by omega) u6 x6_1 (⟨(rd_T26 t237 x21_1).f0, (rd_T26 t237 x21_1).f1, (rd_T26 t237 x21_1).f2, (rd_T26 t237 x21_1).f3, (rd_T26 t237 x21_1).f4, (rd_T26 t237 x21_1).f5, (rd_T26 t237 x21_1).f6⟩ : S26) [.int .i64 ((rd_T26 t237 x21_1).f0), .int .i64 ((rd_T26 t237 x21_1).f1), .int .i64 ((rd_T26 t237 x21_1).f2), .int .i64 ((rd_T26 t237 x21_1).f3), .int .i64 ((rd_T26 t237 x21_1).f4), .bool ((rd_T26 t237 x21_1).f5), .bool ((rd_T26 t237 x21_1).f6)] (fun k_ => some k_ ≠ (.slice (some ad240) t237.length co7 : Value).ownBlock ∧ k_ ≠ gb241) (fun _ => False) rfl (by first | (go_simp; done) | (go_simp; rfl)) ?aP (fun _ hk => hk.elim) ?aF ?aO ?aB ?aS ?aL ?_; (case aP => exact k26_mkM _ _ _ (⟨(rd_T26 t237 x21_1).f0, (rd_T26 t237 x21_1).f1, (rd_T26 t237 x21_1).f2, (rd_T26 t237 x21_1).f3, (rd_T26 t237 x21_1).f4, (rd_T26 t237 x21_1).f5, (rd_T26 t237 x21_1).f6⟩ : S26)); (case aB => exact (by repeat (first | (with_reducible first | exact HB.out | apply below_alloc | apply pw_below_drewN | apply below_drew1 | refine below_set ?_ GE241.out) | exact HB.out))); (case aF => exact (fun k_ hk => ⟨Kd.fresh' (Kd.R_lt (by (with_reducible repeat (first | apply Kd.R_alloc | apply Kd.R_drewN | apply Kd.R_drew)); exact (Kd.R_mono (Kd.R_far (p := ⟨gb241, 6, none⟩) (Kd.R_far (p := ⟨gb241, 5, none⟩) (Kd.R_far (p := ⟨gb241, 4, none⟩) (Kd.R_far (p := ⟨gb241, 3, none⟩) (Kd.R_far (p := ⟨gb241, 2, none⟩) (Kd.R_far (p := ⟨gb241, 1, none⟩) (Kd.R_far (p := ⟨gb241, 0, none⟩) (Kd.R_mono HO_19.out (fun k_ hk => (⟨hk, hk.2⟩ : _ ∧ k_ ≠ gb241))) (fun _ hk => hk.2) (.int .i64 ((rd_T26 t237 x21_1).f0))) (fun _ hk => hk.2) (.int .i64 ((rd_T26 t237 x21_1).f1))) (fun _ hk => hk.2) (.int .i64 ((rd_T26 t237 x21_1).f2))) (fun _ hk => hk.2) (.int .i64 ((rd_T26 t237 x21_1).f3))) (fun _ hk => hk.2) (.int .i64 ((rd_T26 t237 x21_1).f4))) (fun _ hk => hk.2) (.bool ((rd_T26 t237 x21_1).f5))) (fun _ hk => hk.2) (.bool ((rd_T26 t237 x21_1).f6))) (fun _ h_ => h_.1)))) k_ hk, Kd.freshB (g := gb241) (o := .cells #[.int .i64 ((rd_T26 t237 x21_1).f0), .int .i64 ((rd_T26 t237 x21_1).f1), .int .i64 ((rd_T26 t237 x21_1).f2), .int .i64 ((rd_T26 t237 x21_1).f3), .int .i64 ((rd_T26 t237 x21_1).f4), .bool ((rd_T26 t237 x21_1).f5), .bool ((rd_T26 t237 x21_1).f6)] 26 (0, 0)) (by (with_reducible repeat (first | refine blk_drewN ?_ _ | refine blk_drew ?_ | refine blk_alloc ?_ _)); refine blk_put (cs := #[.int .i64 ((rd_T26 t237 x21_1).f0), .int .i64 ((rd_T26 t237 x21_1).f1), .int .i64 ((rd_T26 t237 x21_1).f2), .int .i64 ((rd_T26 t237 x21_1).f3), .int .i64 ((rd_T26 t237 x21_1).f4), .bool ((rd_T26 t237 x21_1).f5), .bool false]) ?_ 6 _ rfl; (with_reducible repeat (first | refine blk_drewN ?_ _ | refine blk_drew ?_ | refine blk_alloc ?_ _)); refine blk_put (cs := #[.int .i64 ((rd_T26 t237 x21_1).f0), .int .i64 ((rd_T26 t237 x21_1).f1), .int .i64 ((rd_T26 t237 x21_1).f2), .int .i64 ((rd_T26 t237 x21_1).f3), .int .i64 ((rd_T26 t237 x21_1).f4), .bool false, .bool false]) ?_ 5 _ rfl; (with_reducible repeat (first | refine blk_drewN ?_ _ | refine blk_drew ?_ | refine blk_alloc ?_ _)); refine blk_put (cs := #[.int .i64 ((rd_T26 t237 x21_1).f0), .int .i64 ((rd_T26 t237 x21_1).f1), .int .i64 ((rd_T26 t237 x21_1).f2), .int .i64 ((rd_T26 t237 x21_1).f3), .int .i64 0, .bool false, .bool false]) ?_ 4 _ rfl; (with_reducible repeat (first | refine blk_drewN ?_ _ | refine blk_drew ?_ | refine blk_alloc ?_ _)); refine blk_put (cs := #[.int .i64 ((rd_T26 t237 x21_1).f0), .int .i64 ((rd_T26 t237 x21_1).f1), .int .i64 ((rd_T26 t237 x21_1).f2), .int .i64 0, .int .i64 0, .bool false, .bool false]) ?_ 3 _ rfl; (with_reducible repeat (first | refine blk_drewN ?_ _ | refine blk_drew ?_ | refine blk_alloc ?_ _)); refine blk_put (cs := #[.int .i64 ((rd_T26 t237 x21_1).f0), .int .i64 ((rd_T26 t237 x21_1).f1), .int .i64 0, .int .i64 0, .int .i64 0, .bool false, .bool false]) ?_ 2 _ rfl; (with_reducible repeat (first | refine blk_drewN ?_ _ | refine blk_drew ?_ | refine blk_alloc ?_ _)); refine blk_put (cs := #[.int .i64 ((rd_T26 t237 x21_1).f0), .int .i64 0, .int .i64 0, .int .i64 0, .int .i64 0, .bool false, .bool false]) ?_ 1 _ rfl; (with_reducible repeat (first | refine blk_drewN ?_ _ | refine blk_drew ?_ | refine blk_alloc ?_ _)); refine blk_put (cs := #[.int .i64 0, .int .i64 0, .int .i64 0, .int .i64 0, .int .i64 0, .bool false, .bool false]) ?_ 0 _ rfl; (with_reducible repeat (first | refine blk_drewN ?_ _ | refine blk_drew ?_ | refine blk_alloc ?_ _)); exact BK241.out) k_ hk⟩)); (case aO => exact (by (with_reducible repeat (first | apply Kd.R_alloc | apply Kd.R_drewN | apply Kd.R_drew)); exact Kd.R_mono (Kd.R_far (p := ⟨gb241, 6, none⟩) (Kd.R_far (p := ⟨gb241, 5, none⟩) (Kd.R_far (p := ⟨gb241, 4, none⟩) (Kd.R_far (p := ⟨gb241, 3, none⟩) (Kd.R_far (p := ⟨gb241, 2, none⟩) (Kd.R_far (p := ⟨gb241, 1, none⟩) (Kd.R_far (p := ⟨gb241, 0, none⟩) (Kd.R_mono HO_6.out (fun k_ hk => (⟨hk, hk.2⟩ : _ ∧ k_ ≠ gb241))) (fun _ hk => hk.2) (.int .i64 ((rd_T26 t237 x21_1).f0))) (fun _ hk => hk.2) (.int .i64 ((rd_T26 t237 x21_1).f1))) (fun _ hk => hk.2) (.int .i64 ((rd_T26 t237 x21_1).f2))) (fun _ hk => hk.2) (.int .i64 ((rd_T26 t237 x21_1).f3))) (fun _ hk => hk.2) (.int .i64 ((rd_T26 t237 x21_1).f4))) (fun _ hk => hk.2) (.bool ((rd_T26 t237 x21_1).f5))) (fun _ hk => hk.2) (.bool ((rd_T26 t237 x21_1).f6))) (fun _ hk => ⟨hk.1.1, hk.1.2⟩))); (case aS => exact (below_size (by repeat (first | (with_reducible first | exact HB.out | apply below_alloc | apply pw_below_drewN | apply below_drew1 | refine below_set ?_ GE241.out) | exact HB.out)))); (case aL => have := LMc13.out; omega); intro v243 w16 ho hb hg hat; rw [← Ny242.out] at ho; have n0_ := Aside0.mk (Kd.R_after (ok := (fun k_ => k_ ≠ gb241)) (by (with_reducible repeat (first | apply Kd.R_alloc | apply Kd.R_drewN | apply Kd.R_drew)); exact Kd.R_mono (Kd.R_far (p := ⟨gb241, 6, none⟩) (Kd.R_far (p := ⟨gb241, 5, none⟩) (Kd.R_far (p := ⟨gb241, 4, none⟩) (Kd.R_far (p := ⟨gb241, 3, none⟩) (Kd.R_far (p := ⟨gb241, 2, none⟩) (Kd.R_far (p := ⟨gb241, 1, none⟩) (Kd.R_far (p := ⟨gb241, 0, none⟩) (Kd.R_mono HO_19.out (fun k_ hk => (⟨hk, hk.2⟩ : _ ∧ k_ ≠ gb241))) (fun _ hk => hk.2) (.int .i64 ((rd_T26 t237 x21_1).f0))) (fun _ hk => hk.2) (.int .i64 ((rd_T26 t237 x21_1).f1))) (fun _ hk => hk.2) (.int .i64 ((rd_T26 t237 x21_1).f2))) (fun _ hk => hk.2) (.int .i64 ((rd_T26 t237 x21_1).f3))) (fun _ hk => hk.2) (.int .i64 ((rd_T26 t237 x21_1).f4))) (fun _ hk => hk.2) (.bool ((rd_T26 t237 x21_1).f5))) (fun _ hk => hk.2) (.bool ((rd_T26 t237 x21_1).f6))) (fun _ hk => ⟨hk.1.2, hk.1.1⟩)) hg hat); have n1_ := Aside0.mk (blk_grown (g := gb241) (o := .cells #[.int .i64 ((rd_T26 t237 x21_1).f0), .int .i64 ((rd_T26 t237 x21_1).f1), .int .i64 ((rd_T26 t237 x21_1).f2), .int .i64 ((rd_T26 t237 x21_1).f3), .int .i64 ((rd_T26 t237 x21_1).f4), .bool ((rd_T26 t237 x21_1).f5), .bool ((rd_T26 t237 x21_1).f6)] 26 (0, 0)) (by (with_reducible repeat (first | refine blk_drewN ?_ _ | refine blk_drew ?_ | refine blk_alloc ?_ _)); refine blk_put (cs := #[.int .i64 ((rd_T26 t237 x21_1).f0), .int .i64 ((rd_T26 t237 x21_1).f1), .int .i64 ((rd_T26 t237 x21_1).f2), .int .i64 ((rd_T26 t237 x21_1).f3), .int .i64 ((rd_T26 t237 x21_1).f4), .bool ((rd_T26 t237 x21_1).f5), .bool false]) ?_ 6 _ rfl; (with_reducible repeat (first | refine blk_drewN ?_ _ | refine blk_drew ?_ | refine blk_alloc ?_ _)); refine blk_put (cs := #[.int .i64 ((rd_T26 t237 x21_1).f0), .int .i64 ((rd_T26 t237 x21_1).f1), .int .i64 ((rd_T26 t237 x21_1).f2), .int .i64 ((rd_T26 t237 x21_1).f3), .int .i64 ((rd_T26 t237 x21_1).f4), .bool false, .bool false]) ?_ 5 _ rfl; (with_reducible repeat (first | refine blk_drewN ?_ _ | refine blk_drew ?_ | refine blk_alloc ?_ _)); refine blk_put (cs := #[.int .i64 ((rd_T26 t237 x21_1).f0), .int .i64 ((rd_T26 t237 x21_1).f1), .int .i64 ((rd_T26 t237 x21_1).f2), .int .i64 ((rd_T26 t237 x21_1).f3), .int .i64 0, .bool false, .bool false]) ?_ 4 _ rfl; (with_reducible repeat (first | refine blk_drewN ?_ _ | refine blk_drew ?_ | refine blk_alloc ?_ _)); refine blk_put (cs := #[.int .i64 ((rd_T26 t237 x21_1).f0), .int .i64 ((rd_T26 t237 x21_1).f1), .int .i64 ((rd_T26 t237 x21_1).f2), .int .i64 0, .int .i64 0, .bool false, .bool false]) ?_ 3 _ rfl; (with_reducible repeat (first | refine blk_drewN ?_ _ | refine blk_drew ?_ | refine blk_alloc ?_ _)); refine blk_put (cs := #[.int .i64 ((rd_T26 t237 x21_1).f0), .int .i64 ((rd_T26 t237 x21_1).f1), .int .i64 0, .int .i64 0, .int .i64 0, .bool false, .bool false]) ?_ 2 _ rfl; (with_reducible repeat (first | refine blk_drewN ?_ _ | refine blk_drew ?_ | refine blk_alloc ?_ _)); refine blk_put (cs := #[.int .i64 ((rd_T26 t237 x21_1).f0), .int .i64 0, .int .i64 0, .int .i64 0, .int .i64 0, .bool false, .bool false]) ?_ 1 _ rfl; (with_reducible repeat (first | refine blk_drewN ?_ _ | refine blk_drew ?_ | refine blk_alloc ?_ _)); refine blk_put (cs := #[.int .i64 0, .int .i64 0, .int .i64 0, .int .i64 0, .int .i64 0, .bool false, .bool false]) ?_ 0 _ rfl; (with_reducible repeat (first | refine blk_drewN ?_ _ | refine blk_drew ?_ | refine blk_alloc ?_ _)); exact BK241.out) hg (Kd.R_away HO_6.out (fun _ hk => hk.2))); have n2_ := Aside0.mk (hb); have n3_ := Aside0.mk (ho); clear HO_19; clear BK241; clear HB; clear HO_6; have HO_19 := n0_; have BK241 := n1_; have HB := n2_; have HO244 := n3_; clear n0_ n1_ n2_ n3_; clear ho hb hg hat))
                    go_roundg k1
                    case measure => have := HK1.out; omega
                    case rel => exact ⟨(y242), (wrap64 (x21_1 + 1)), (by first | rfl | (simp; done) | (simp [*]; done)), H', ⟨by have := HK1.out; omega⟩, ⟨by (with_reducible repeat (first | apply Kd.R_alloc | apply Kd.R_drewN | apply Kd.R_drew)); exact Kd.R_mono HO244.out (fun _ hk => hk.1)⟩, ⟨by (with_reducible repeat (first | apply Kd.R_alloc | apply Kd.R_drewN | apply Kd.R_drew)); exact Kd.R_mono HO_19.out (fun _ hk => hk.2)⟩, ⟨by repeat (first | (with_reducible first | exact HB.out | apply below_alloc | apply pw_below_drewN | apply below_drew1 | refine below_set ?_ GE241.out) | exact HB.out)⟩⟩
                  · rw [if_neg c13] at H
                    exact absurd H (by simp)
                · rw [if_neg c12] at H
                  have c12b0 : decide ((wrap64 ((((rd_T26 t237 x21_1).f1) / 65536) * 65536)) ≤ t235) = false := decide_eq_false c12
                  clear c12
                  have H' := Aside0.mk H
                  clear H
                  have p240 : 0 ≤ (x21_1 : Int) := of_decide_eq_true (by first | (with_reducible assumption) | assumption)
                  have q240 : x21_1 < (t237.length : Int) := of_decide_eq_true (by first | (with_reducible assumption) | assumption)
                  obtain ⟨ad240, e240, hx240_0, hx240_1, hx240_2, hx240_3, hx240_4, hx240_5, hx240_6⟩ := at_T26 (Kd.R_reads' HO_19.out).2.2 x21_1 p240 q240
                  cases e240
                  replace p240 := eq_true p240
                  replace q240 := eq_true q240
                  go_wp2_with (first | ((with_reducible refine gate_dst (N := 8) rfl ?_); refine box_event ?hg (N := 8) ?hd (cs := #[.int .i64 0, .int .i64 0, .int .i64 0, .int .i64 0, .int .i64 0, .bool false, .bool false]) (t := 26) ?hr ?_; (case hd => rfl); (case hg => rfl); (case hr => first | (go_simp; done) | (go_simp; rfl)); intro gb241 hg w17 hbox hb; have n0_ := Aside0.mk (Kd.R_below (Kd.R_elderB (by (with_reducible repeat (first | apply Kd.R_alloc | apply Kd.R_drewN | apply Kd.R_drew)); exact HO_6.out) gb241 (Nat.le_of_eq hg.symm)) hb); have n1_ := Aside0.mk (Kd.R_below (Kd.R_elderB (by (with_reducible repeat (first | apply Kd.R_alloc | apply Kd.R_drewN | apply Kd.R_drew)); exact HO_19.out) gb241 (Nat.le_of_eq hg.symm)) hb); have n2_ := Aside0.mk (below_step (by repeat (first | (with_reducible first | exact HB.out | apply below_alloc | apply pw_below_drewN | apply below_drew1) | exact HB.out)) hb); have n3_ := Aside0.mk (hbox); have n4_ := Aside0.mk ((by rw [hg]; exact (below_size (by repeat (first | (with_reducible first | exact HB.out | apply below_alloc | apply pw_below_drewN | apply below_drew1) | exact HB.out))) : w.heap.size ≤ gb241)); have n5_ := Aside0.mk ((by rw [hg]; exact (below_size (by repeat (first | (with_reducible first | exact HB.out | apply below_alloc | apply pw_below_drewN | apply below_drew1) | exact HB.out))) : w.heap.size ≤ gb241)); clear HO_6; clear HO_19; clear HB; have HO_6 := n0_; have HO_19 := n1_; have HB := n2_; have BK241 := n3_; have GW241 := n4_; have GE241 := n5_; clear n0_ n1_ n2_ n3_ n4_ n5_; clear hb hbox hg; have hcz18_0 : w17.cell? ⟨gb241, 0, none⟩ = some (.int .i64 0) := (blk_cell BK241.out 0).trans rfl; have hcz18_1 : w17.cell? ⟨gb241, 1, none⟩ = some (.int .i64 0) := (blk_cell BK241.out 1).trans rfl; have hcz18_2 : w17.cell? ⟨gb241, 2, none⟩ = some (.int .i64 0) := (blk_cell BK241.out 2).trans rfl; have hcz18_3 : w17.cell? ⟨gb241, 3, none⟩ = some (.int .i64 0) := (blk_cell BK241.out 3).trans rfl; have hcz18_4 : w17.cell? ⟨gb241, 4, none⟩ = some (.int .i64 0) := (blk_cell BK241.out 4).trans rfl; have hcz18_5 : w17.cell? ⟨gb241, 5, none⟩ = some (.bool false) := (blk_cell BK241.out 5).trans rfl; have hcz18_6 : w17.cell? ⟨gb241, 6, none⟩ = some (.bool false) := (blk_cell BK241.out 6).trans rfl; have hfz18_0 := blk_frozen BK241.out 0; have hfz18_1 := blk_frozen BK241.out 1; have hfz18_2 := blk_frozen BK241.out 2; have hfz18_3 := blk_frozen BK241.out 3; have hfz18_4 := blk_frozen BK241.out 4; have hfz18_5 := blk_frozen BK241.out 5; have hfz18_6 := blk_frozen BK241.out 6))
                  go_roundg k1
                  case measure => have := HK1.out; omega
                  case rel => exact ⟨(x6_1), (wrap64 (x21_1 + 1)), (by first | rfl | (simp; done) | (simp [*]; done)), H', ⟨by have := HK1.out; omega⟩, ⟨by (with_reducible repeat (first | apply Kd.R_alloc | apply Kd.R_drewN | apply Kd.R_drew)); exact Kd.R_mono (Kd.R_far (p := ⟨gb241, 6, none⟩) (Kd.R_far (p := ⟨gb241, 5, none⟩) (Kd.R_far (p := ⟨gb241, 4, none⟩) (Kd.R_far (p := ⟨gb241, 3, none⟩) (Kd.R_far (p := ⟨gb241, 2, none⟩) (Kd.R_far (p := ⟨gb241, 1, none⟩) (Kd.R_far (p := ⟨gb241, 0, none⟩) (Kd.R_mono HO_6.out (fun k_ hk => (⟨hk, hk.2⟩ : _ ∧ k_ ≠ gb241))) (fun _ hk => hk.2) (.int .i64 ((rd_T26 t237 x21_1).f0))) (fun _ hk => hk.2) (.int .i64 ((rd_T26 t237 x21_1).f1))) (fun _ hk => hk.2) (.int .i64 ((rd_T26 t237 x21_1).f2))) (fun _ hk => hk.2) (.int .i64 ((rd_T26 t237 x21_1).f3))) (fun _ hk => hk.2) (.int .i64 ((rd_T26 t237 x21_1).f4))) (fun _ hk => hk.2) (.bool ((rd_T26 t237 x21_1).f5))) (fun _ hk => hk.2) (.bool ((rd_T26 t237 x21_1).f6))) (fun _ hk => hk.1.1)⟩, ⟨by (with_reducible repeat (first | apply Kd.R_alloc | apply Kd.R_drewN | apply Kd.R_drew)); exact Kd.R_mono (Kd.R_far (p := ⟨gb241, 6, none⟩) (Kd.R_far (p := ⟨gb241, 5, none⟩) (Kd.R_far (p := ⟨gb241, 4, none⟩) (Kd.R_far (p := ⟨gb241, 3, none⟩) (Kd.R_far (p := ⟨gb241, 2, none⟩) (Kd.R_far (p := ⟨gb241, 1, none⟩) (Kd.R_far (p := ⟨gb241, 0, none⟩) (Kd.R_mono HO_19.out (fun k_ hk => (⟨hk, hk.2⟩ : _ ∧ k_ ≠ gb241))) (fun _ hk => hk.2) (.int .i64 ((rd_T26 t237 x21_1).f0))) (fun _ hk => hk.2) (.int .i64 ((rd_T26 t237 x21_1).f1))) (fun _ hk => hk.2) (.int .i64 ((rd_T26 t237 x21_1).f2))) (fun _ hk => hk.2) (.int .i64 ((rd_T26 t237 x21_1).f3))) (fun _ hk => hk.2) (.int .i64 ((rd_T26 t237 x21_1).f4))) (fun _ hk => hk.2) (.bool ((rd_T26 t237 x21_1).f5))) (fun _ hk => hk.2) (.bool ((rd_T26 t237 x21_1).f6))) (fun _ hk => hk.1.1)⟩, ⟨by repeat (first | (with_reducible first | exact HB.out | apply below_alloc | apply pw_below_drewN | apply below_drew1 | refine below_set ?_ GE241.out) | exact HB.out)⟩⟩
              · rw [if_neg c11] at H
                have c11b0 : decide (t234 ≤ (wrap64 ((((rd_T26 t237 x21_1).f1) / 65536) * 65536))) = false := decide_eq_false c11
                clear c11
                have H' := Aside0.mk H
                clear H
                have p240 : 0 ≤ (x21_1 : Int) := of_decide_eq_true (by first | (with_reducible assumption) | assumption)
                have q240 : x21_1 < (t237.length : Int) := of_decide_eq_true (by first | (with_reducible assumption) | assumption)
                obtain ⟨ad240, e240, hx240_0, hx240_1, hx240_2, hx240_3, hx240_4, hx240_5, hx240_6⟩ := at_T26 (Kd.R_reads' HO_19.out).2.2 x21_1 p240 q240
                cases e240
                replace p240 := eq_true p240
                replace q240 := eq_true q240
                go_wp2_with (first | ((with_reducible refine gate_dst (N := 8) rfl ?_); refine box_event ?hg (N := 8) ?hd (cs := #[.int .i64 0, .int .i64 0, .int .i64 0, .int .i64 0, .int .i64 0, .bool false, .bool false]) (t := 26) ?hr ?_; (case hd => rfl); (case hg => rfl); (case hr => first | (go_simp; done) | (go_simp; rfl)); intro gb241 hg w19 hbox hb; have n0_ := Aside0.mk (Kd.R_below (Kd.R_elderB (by (with_reducible repeat (first | apply Kd.R_alloc | apply Kd.R_drewN | apply Kd.R_drew)); exact HO_6.out) gb241 (Nat.le_of_eq hg.symm)) hb); have n1_ := Aside0.mk (Kd.R_below (Kd.R_elderB (by (with_reducible repeat (first | apply Kd.R_alloc | apply Kd.R_drewN | apply Kd.R_drew)); exact HO_19.out) gb241 (Nat.le_of_eq hg.symm)) hb); have n2_ := Aside0.mk (below_step (by repeat (first | (with_reducible first | exact HB.out | apply below_alloc | apply pw_below_drewN | apply below_drew1) | exact HB.out)) hb); have n3_ := Aside0.mk (hbox); have n4_ := Aside0.mk ((by rw [hg]; exact (below_size (by repeat (first | (with_reducible first | exact HB.out | apply below_alloc | apply pw_below_drewN | apply below_drew1) | exact HB.out))) : w.heap.size ≤ gb241)); have n5_ := Aside0.mk ((by rw [hg]; exact (below_size (by repeat (first | (with_reducible first | exact HB.out | apply below_alloc | apply pw_below_drewN | apply below_drew1) | exact HB.out))) : w.heap.size ≤ gb241)); clear HO_6; clear HO_19; clear HB; have HO_6 := n0_; have HO_19 := n1_; have HB := n2_; have BK241 := n3_; have GW241 := n4_; have GE241 := n5_; clear n0_ n1_ n2_ n3_ n4_ n5_; clear hb hbox hg; have hcz20_0 : w19.cell? ⟨gb241, 0, none⟩ = some (.int .i64 0) := (blk_cell BK241.out 0).trans rfl; have hcz20_1 : w19.cell? ⟨gb241, 1, none⟩ = some (.int .i64 0) := (blk_cell BK241.out 1).trans rfl; have hcz20_2 : w19.cell? ⟨gb241, 2, none⟩ = some (.int .i64 0) := (blk_cell BK241.out 2).trans rfl; have hcz20_3 : w19.cell? ⟨gb241, 3, none⟩ = some (.int .i64 0) := (blk_cell BK241.out 3).trans rfl; have hcz20_4 : w19.cell? ⟨gb241, 4, none⟩ = some (.int .i64 0) := (blk_cell BK241.out 4).trans rfl; have hcz20_5 : w19.cell? ⟨gb241, 5, none⟩ = some (.bool false) := (blk_cell BK241.out 5).trans rfl; have hcz20_6 : w19.cell? ⟨gb241, 6, none⟩ = some (.bool false) := (blk_cell BK241.out 6).trans rfl; have hfz20_0 := blk_frozen BK241.out 0; have hfz20_1 := blk_frozen BK241.out 1; have hfz20_2 := blk_frozen BK241.out 2; have hfz20_3 := blk_frozen BK241.out 3; have hfz20_4 := blk_frozen BK241.out 4; have hfz20_5 := blk_frozen BK241.out 5; have hfz20_6 := blk_frozen BK241.out 6))
                go_roundg k1
                case measure => have := HK1.out; omega
                case rel => exact ⟨(x6_1), (wrap64 (x21_1 + 1)), (by first | rfl | (simp; done) | (simp [*]; done)), H', ⟨by have := HK1.out; omega⟩, ⟨by (with_reducible repeat (first | apply Kd.R_alloc | apply Kd.R_drewN | apply Kd.R_drew)); exact Kd.R_mono (Kd.R_far (p := ⟨gb241, 6, none⟩) (Kd.R_far (p := ⟨gb241, 5, none⟩) (Kd.R_far (p := ⟨gb241, 4, none⟩) (Kd.R_far (p := ⟨gb241, 3, none⟩) (Kd.R_far (p := ⟨gb241, 2, none⟩) (Kd.R_far (p := ⟨gb241, 1, none⟩) (Kd.R_far (p := ⟨gb241, 0, none⟩) (Kd.R_mono HO_6.out (fun k_ hk => (⟨hk, hk.2⟩ : _ ∧ k_ ≠ gb241))) (fun _ hk => hk.2) (.int .i64 ((rd_T26 t237 x21_1).f0))) (fun _ hk => hk.2) (.int .i64 ((rd_T26 t237 x21_1).f1))) (fun _ hk => hk.2) (.int .i64 ((rd_T26 t237 x21_1).f2))) (fun _ hk => hk.2) (.int .i64 ((rd_T26 t237 x21_1).f3))) (fun _ hk => hk.2) (.int .i64 ((rd_T26 t237 x21_1).f4))) (fun _ hk => hk.2) (.bool ((rd_T26 t237 x21_1).f5))) (fun _ hk => hk.2) (.bool ((rd_T26 t237 x21_1).f6))) (fun _ hk => hk.1.1)⟩, ⟨by (with_reducible repeat (first | apply Kd.R_alloc | apply Kd.R_drewN | apply Kd.R_drew)); exact Kd.R_mono (Kd.R_far (p := ⟨gb241, 6, none⟩) (Kd.R_far (p := ⟨gb241, 5, none⟩) (Kd.R_far (p := ⟨gb241, 4, none⟩) (Kd.R_far (p := ⟨gb241, 3, none⟩) (Kd.R_far (p := ⟨gb241, 2, none⟩) (Kd.R_far (p := ⟨gb241, 1, none⟩) (Kd.R_far (p := ⟨gb241, 0, none⟩) (Kd.R_mono HO_19.out (fun k_ hk => (⟨hk, hk.2⟩ : _ ∧ k_ ≠ gb241))) (fun _ hk => hk.2) (.int .i64 ((rd_T26 t237 x21_1).f0))) (fun _ hk => hk.2) (.int .i64 ((rd_T26 t237 x21_1).f1))) (fun _ hk => hk.2) (.int .i64 ((rd_T26 t237 x21_1).f2))) (fun _ hk => hk.2) (.int .i64 ((rd_T26 t237 x21_1).f3))) (fun _ hk => hk.2) (.int .i64 ((rd_T26 t237 x21_1).f4))) (fun _ hk => hk.2) (.bool ((rd_T26 t237 x21_1).f5))) (fun _ hk => hk.2) (.bool ((rd_T26 t237 x21_1).f6))) (fun _ hk => hk.1.1)⟩, ⟨by repeat (first | (with_reducible first | exact HB.out | apply below_alloc | apply pw_below_drewN | apply below_drew1 | refine below_set ?_ GE241.out) | exact HB.out)⟩⟩
            · rw [if_neg c10] at H
              exact absurd H (by simp)
          · rw [if_neg c9] at H
            exact absurd H (by simp)
        · rw [if_neg c8] at H
          have c8b0 : decide (x21_1 < (t237.length : Int)) = false := decide_eq_false c8
          clear c8
          obtain rfl := Option.some.inj H
          go_wp2
          go_ret
          exact ⟨_, by first | rfl | (simp [errW_none, errW_some] <;> rfl) | (simp [*, errW_none, errW_some] <;> rfl), by (with_reducible repeat (first | apply Kd.R_alloc | apply Kd.R_drewN | apply Kd.R_drew)); exact Kd.R_mono HO_6.out (fun _ hk => trivial), by repeat (first | (with_reducible first | exact HB.out | apply below_alloc | apply pw_below_drewN | apply below_drew1) | exact HB.out)⟩
  · replace c3 := Bool.eq_false_iff.mpr c3
    subst c3
    have H1 : (some ([] : List (S26))) = some r := by rw [if_neg (show ¬ (false = true) by decide)] at H; exact H
    clear H
    have H := H1
    clear H1
    obtain rfl := Option.some.inj H
    go_enter Try.func21, Try.ntmps21
    go_wp2_with (first | ((with_reducible refine gate_callee (f := 17) rfl ?_); refine goesL_ (some 12) rfl rfl Try.func17 (by kernel_rfl) rfl #[.slice A0 l0.length c0] rfl (by (try simp only [List.map_toArray, List.map_cons, List.map_nil]); first | done | rfl | (simp only [List.length_drop, List.length_take]; rfl)) ?_; (with_reducible refine (choose_Meet.calls _ _ l0 t234 t235 false _ ?side1 ?side2 A2.out).mono ?_); (case side1 => repeat (first | exact HR0.out | (with_reducible refine Kd.C_alloc ?_ _) | (with_reducible refine Kd.C_drewN ?_ _) | (with_reducible refine Kd.C_drew ?_))); (case side2 => exact HC0.out); rintro e w21 ⟨rfl, hb⟩; refine ⟨_, rfl, ?_⟩; have n0_ := Aside0.mk (below_step (by repeat (first | (with_reducible first | exact HB.out | apply below_alloc | apply pw_below_drewN | apply below_drew1) | exact HB.out)) hb); clear HB; have HB := n0_; clear n0_; (try clear hb); (try clear hb2); (try clear hk); (try clear hi)))
    go_ret
    exact ⟨_, by first | rfl | (simp [errW_none, errW_some] <;> rfl) | (simp [*, errW_none, errW_some] <;> rfl), by first | exact Kd.R_nil _ _ _ _ _ | exact Kd.N_nil _ _ _ _ _ | exact Kd.V_nil _ _ _ _ _ | exact Kd.Q_nil _ _ _ _ _ | exact Kd.S_nil _ _ _ _ _, by repeat (first | (with_reducible first | exact HB.out | apply below_alloc | apply pw_below_drewN | apply below_drew1) | exact HB.out)⟩

end Go.Proofs.Ytlhecfleanppmaa.Pr
