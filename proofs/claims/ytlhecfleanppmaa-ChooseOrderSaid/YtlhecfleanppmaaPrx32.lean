-- PRINTED by print.py (a twelfth state) out of the translation. Not trusted: Lean checks it.
import Derived.Test.YtlhecfleanppmaaPrx0
import Derived.Test.YtlhecfleanppmaaPrx19
import Derived.Test.YtlhecfleanppmaaPrx23
import Derived.Test.YtlhecfleanppmaaHand
namespace Go.Proofs.Ytlhecfleanppmaa.Pr
open Go.RowKit Go.Proofs.YtlhecfleanppmaaW.PrintWords Go.Proofs.YtlhecfleanppmaaW.PrintLast Go.Proofs.YtlhecfleanppmaaW.PrintMore
attribute [local go_sem] max2_int min2_int max_two min_two max_three min_three max_four min_four   -- for this text's walks alone
set_option linter.unusedVariables false
set_option linter.unusedSimpArgs false

/-! ### foliotlaw13_ChooseOrder: function 10 -/
mutual
def foliotlaw13_ChooseOrder.j1 : Nat → List (S26) → List (S26) → Option (Bool)
  | 0, _, _ => none
  | k + 1, x0, x5 => (choose_Meet.f x0).bind fun bt408 => ((choose_Meet.f x5).bind fun bt411 => ((foliotref13_Meet.f k x0).bind fun bt414 => (if bt408.1 = bt411.1 then (if bt408.2.1 = bt411.2.1 then (if (bt408.2.2 == bt411.2.2) = true then (if bt408.1 = bt414.1 then (if bt408.2.1 = bt414.2.1 then (if (bt408.2.2 == bt414.2.2) = true then ((choose_Survivors.f k x0).bind fun t417 => ((choose_Survivors.f k x5).bind fun t420 => (some ((t417.length : Int) == (t420.length : Int))))) else (some false)) else (some false)) else (some false)) else (some false)) else (some false)) else (some false))))
def foliotlaw13_ChooseOrder.l0 : Nat → List (S26) → List Int → List (S26) → Int → Option (Bool)
  | 0, _, _, _, _ => none
  | k + 1, x0, x1, x5, x6 => if x6 < (x5.length : Int) then (if x6 < (x1.length : Int) then (if 0 ≤ x6 then (if (x5.length : Int) = 0 then (none) else (if 0 ≤ (Int.tmod (wrap64 ((Int.tmod (rd x1 x6) (x5.length : Int)) + (x5.length : Int))) (x5.length : Int)) then (if (Int.tmod (wrap64 ((Int.tmod (rd x1 x6) (x5.length : Int)) + (x5.length : Int))) (x5.length : Int)) < (x5.length : Int) then (foliotlaw13_ChooseOrder.l0 k x0 x1 ((x5.set (x6 : Int).toNat (⟨(rd_T26 x5 (Int.tmod (wrap64 ((Int.tmod (rd x1 x6) (x5.length : Int)) + (x5.length : Int))) (x5.length : Int))).f0, (rd_T26 x5 (Int.tmod (wrap64 ((Int.tmod (rd x1 x6) (x5.length : Int)) + (x5.length : Int))) (x5.length : Int))).f1, (rd_T26 x5 (Int.tmod (wrap64 ((Int.tmod (rd x1 x6) (x5.length : Int)) + (x5.length : Int))) (x5.length : Int))).f2, (rd_T26 x5 (Int.tmod (wrap64 ((Int.tmod (rd x1 x6) (x5.length : Int)) + (x5.length : Int))) (x5.length : Int))).f3, (rd_T26 x5 (Int.tmod (wrap64 ((Int.tmod (rd x1 x6) (x5.length : Int)) + (x5.length : Int))) (x5.length : Int))).f4, (rd_T26 x5 (Int.tmod (wrap64 ((Int.tmod (rd x1 x6) (x5.length : Int)) + (x5.length : Int))) (x5.length : Int))).f5, (rd_T26 x5 (Int.tmod (wrap64 ((Int.tmod (rd x1 x6) (x5.length : Int)) + (x5.length : Int))) (x5.length : Int))).f6⟩ : S26)).set ((Int.tmod (wrap64 ((Int.tmod (rd x1 x6) (x5.length : Int)) + (x5.length : Int))) (x5.length : Int)) : Int).toNat (⟨(rd_T26 x5 x6).f0, (rd_T26 x5 x6).f1, (rd_T26 x5 x6).f2, (rd_T26 x5 x6).f3, (rd_T26 x5 x6).f4, (rd_T26 x5 x6).f5, (rd_T26 x5 x6).f6⟩ : S26)) (wrap64 (x6 + 1))) else (none)) else (none))) else (none)) else (foliotlaw13_ChooseOrder.j1 k x0 x5)) else (foliotlaw13_ChooseOrder.j1 k x0 x5)
end
def foliotlaw13_ChooseOrder.f (k : Nat) (l0 : List (S26)) (l1 : List Int) : Option (Bool) := if (l0.length : Int) > 60 then (some true) else ((some (([] : List (S26)) : List (S26))).bind fun y396 => (if y396.length + l0.length < 2932031007402 then (foliotlaw13_ChooseOrder.l0 k l0 l1 (y396 ++ l0) 0) else (none)))
theorem foliotlaw13_ChooseOrder.mono_l : ∀ k, (∀ y0 y1, LeO (foliotlaw13_ChooseOrder.j1 k y0 y1) (foliotlaw13_ChooseOrder.j1 (k + 1) y0 y1)) ∧ (∀ y0 y1 y2 y3, LeO (foliotlaw13_ChooseOrder.l0 k y0 y1 y2 y3) (foliotlaw13_ChooseOrder.l0 (k + 1) y0 y1 y2 y3))
  | 0 => ⟨fun _ _ r h => by simp [foliotlaw13_ChooseOrder.j1] at h, fun _ _ _ _ r h => by simp [foliotlaw13_ChooseOrder.l0] at h⟩
  | k + 1 => by
    obtain ⟨ih0, ih1⟩ := foliotlaw13_ChooseOrder.mono_l k
    refine ⟨?_, ?_⟩
    · intro y0 y1
      unfold foliotlaw13_ChooseOrder.j1
      repeat' first
      | (with_reducible exact ih0 _ _)
      | (with_reducible exact ih1 _ _ _ _)
      | (with_reducible exact choose_Survivors.mono _ _)
      | (with_reducible exact foliotref13_Meet.mono _ _)
      | (with_reducible exact LeO.refl _)
      | (with_reducible exact LeO.none _)
      | (with_reducible refine LeO.ite ?_ ?_)
      | (with_reducible refine LeO.bind ?_ (fun _ => ?_))
      | exact ih0 _ _
      | exact ih1 _ _ _ _
      | exact choose_Survivors.mono _ _
      | exact foliotref13_Meet.mono _ _
      | exact LeO.none _
      | refine LeO.ite ?_ ?_
      | refine LeO.bind ?_ (fun _ => ?_)
    · intro y0 y1 y2 y3
      unfold foliotlaw13_ChooseOrder.l0
      repeat' first
      | (with_reducible exact ih0 _ _)
      | (with_reducible exact ih1 _ _ _ _)
      | (with_reducible exact choose_Survivors.mono _ _)
      | (with_reducible exact foliotref13_Meet.mono _ _)
      | (with_reducible exact LeO.refl _)
      | (with_reducible exact LeO.none _)
      | (with_reducible refine LeO.ite ?_ ?_)
      | (with_reducible refine LeO.bind ?_ (fun _ => ?_))
      | exact ih0 _ _
      | exact ih1 _ _ _ _
      | exact choose_Survivors.mono _ _
      | exact foliotref13_Meet.mono _ _
      | exact LeO.none _
      | refine LeO.ite ?_ ?_
      | refine LeO.bind ?_ (fun _ => ?_)
theorem foliotlaw13_ChooseOrder.mono : ∀ a0 a1 k, LeO (foliotlaw13_ChooseOrder.f k a0 a1) (foliotlaw13_ChooseOrder.f (k + 1) a0 a1) := by
  intro a0 a1 k
  obtain ⟨ih0, ih1⟩ := foliotlaw13_ChooseOrder.mono_l k
  unfold foliotlaw13_ChooseOrder.f
  repeat' first
      | (with_reducible exact ih0 _ _)
      | (with_reducible exact ih1 _ _ _ _)
      | (with_reducible exact choose_Survivors.mono _ _)
      | (with_reducible exact foliotref13_Meet.mono _ _)
      | (with_reducible exact LeO.refl _)
      | (with_reducible exact LeO.none _)
      | (with_reducible refine LeO.ite ?_ ?_)
      | (with_reducible refine LeO.bind ?_ (fun _ => ?_))
      | exact ih0 _ _
      | exact ih1 _ _ _ _
      | exact choose_Survivors.mono _ _
      | exact foliotref13_Meet.mono _ _
      | exact LeO.none _
      | refine LeO.ite ?_ ?_
      | refine LeO.bind ?_ (fun _ => ?_)
set_option maxHeartbeats 8000000 in
set_option maxRecDepth 100000 in
theorem foliotlaw13_ChooseOrder.calls (k : Nat) (A0 : Option Addr) (c0 : Nat) (l0 : List (S26)) (A1 : Option Addr) (c1 : Nat) (l1 : List Int) (r : Bool) (w : World) (hr0 : Kd.C k26 w A0 l0.length l0) (hc0 : l0.length ≤ c0) (hr1 : Kd.C (Kd.int .i64) w A1 l1.length l1) (hc1 : l1.length ≤ c1) (h : foliotlaw13_ChooseOrder.f k l0 l1 = some r) :
    Calls Try.prog 10 #[.slice A0 l0.length c0, .slice A1 l1.length c1] w fun e w' => e = .returned (.bool r) ∧ Below w.heap.size w w' := by
  have hu26 := Try.underlying26
  have HR0 := Aside0.mk hr0
  have HC0 := Aside0.mk hc0
  clear hr0 hc0
  have HR1 := Aside0.mk hr1
  have HC1 := Aside0.mk hc1
  clear hr1 hc1
  have HB := Aside0.mk (Below.refl w.heap.size w)
  have H : (if (l0.length : Int) > 60 then (some true) else ((some (([] : List (S26)) : List (S26))).bind fun y396 => (if y396.length + l0.length < 2932031007402 then (foliotlaw13_ChooseOrder.l0 k l0 l1 (y396 ++ l0) 0) else (none)))) = some r := h
  clear h
  by_cases c3 : (l0.length : Int) > 60
  · rw [if_pos c3] at H
    have c3b0 : decide (60 < (l0.length : Int)) = true := decide_eq_true c3
    have c3b1 : decide (60 < l0.length) = true := decide_eq_true (by omega)
    clear c3
    obtain rfl := Option.some.inj H
    go_enter Try.func10, Try.ntmps10
    go_wp2
    go_ret
    exact ⟨by first | rfl | (simp [errW_none, errW_some] <;> rfl) | (simp [*, errW_none, errW_some] <;> rfl), by repeat (first | (with_reducible first | exact HB.out | apply below_alloc | apply pw_below_drewN | apply below_drew1) | exact HB.out)⟩
  · rw [if_neg c3] at H
    have c3b0 : decide (60 < (l0.length : Int)) = false := decide_eq_false c3
    have c3b1 : decide (60 < l0.length) = false := decide_eq_false (by omega)
    clear c3
    obtain ⟨y396, hy396⟩ : ∃ y_ : List (S26), y_ = (([] : List (S26))) := ⟨_, rfl⟩
    replace H : (if y396.length + l0.length < 2932031007402 then (foliotlaw13_ChooseOrder.l0 k l0 l1 (y396 ++ l0) 0) else (none)) = some r := by first | (rw [hy396]; with_reducible exact H) | (have H2_ := (Option.bind_some _ _).symm.trans H; rw [hy396]; with_reducible exact H2_) | (have H2_ := (Option.bind_some _ _).symm.trans H; with_reducible exact H2_) | with_reducible exact H | (rw [hy396]; exact H) | exact H
    have Ny396 := Aside0.mk hy396
    clear hy396
    by_cases c4 : y396.length + l0.length < 2932031007402
    · rw [if_pos c4] at H
      have LMc4 := Aside0.mk c4
      clear c4
      obtain ⟨y399, hy399⟩ : ∃ y_ : List (S26), y_ = (y396 ++ l0) := ⟨_, rfl⟩
      replace H : (foliotlaw13_ChooseOrder.l0 k l0 l1 y399 0) = some r := by first | (rw [hy399]; with_reducible exact H) | (have H2_ := (Option.bind_some _ _).symm.trans H; rw [hy399]; with_reducible exact H2_) | (have H2_ := (Option.bind_some _ _).symm.trans H; with_reducible exact H2_) | with_reducible exact H | (rw [hy399]; exact H) | exact H
      have Ny399 := Aside0.mk hy399
      clear hy399
      have HC5 := Aside0.mk H
      clear H
      go_enter Try.func10, Try.ntmps10
      go_upto_block 0 with (first | ((with_reducible refine gate_dst (N := 21) rfl ?_); (try (refine gate_guard (by rfl) ?_; dsimp only)); refine Kd.R_lit k26 _ 26 ?hg (N := 21) ?hd (xs := ([] : List (S26))) (inner := []) (ok := fun _ => True) (okp := fun _ => True) ?hr ?hp (fun _ hk => hk) trivial (Below.refl _ _) (Nat.le_refl _) (by simp) ?_; (case hd => rfl); (case hg => rfl); (case hr => first | (go_simp; done) | (go_simp; rfl)); (case hp => exact (Reps.none _ _)); intro v397 w6 ho7 hb hg_ hnew_; clear hg_ hnew_; (first | rw [← Ny396.out] at ho7 | (simp only [Int.reduceToNat] at ho7; rw [← Ny396.out] at ho7)); have n0_ := Aside0.mk (Kd.R_lower ho7 (below_size (by repeat (first | (with_reducible first | exact HB.out | apply below_alloc | apply pw_below_drewN | apply below_drew1) | exact HB.out)))); have n1_ := Aside0.mk (below_step (by repeat (first | (with_reducible first | exact HB.out | apply below_alloc | apply pw_below_drewN | apply below_drew1) | exact HB.out)) hb); clear HB; have HO398 := n0_; have HB := n1_; clear n0_ n1_; clear hb ho7) | ((with_reducible refine gate_builtin (b := .append) (xs := #[.tmp 22, .tmp 23]) rfl ?_); (try (refine gate_guard (by rfl) ?_; dsimp only)); at_builtin; refine Kd.R_append_rows k26 (w0 := w) w.heap.size rfl (.tmp 22) (.tmp 23) 22 26 (.agg #[(.int .i64 0), (.int .i64 0), (.int .i64 0), (.int .i64 0), (.int .i64 0), (.bool false), (.bool false)]) 48 rfl Try.underlying22 info26 rfl (by decide) (by omega) v397 y396 l0 _ _ _ (fun _ => True) (fun _ => False) rfl rfl ?aO ?aR (fun _ _ h => h) (fun _ h => h.elim) ?aF ?aB ?aS ?aL ?_; (case aR => repeat (first | exact (Kd.C_below HR0.out HB.out) | (with_reducible refine Kd.C_alloc ?_ _) | (with_reducible refine Kd.C_drewN ?_ _) | (with_reducible refine Kd.C_drew ?_))); (case aB => exact (by repeat (first | (with_reducible first | exact HB.out | apply below_alloc | apply pw_below_drewN | apply below_drew1) | exact HB.out))); (case aF => exact (fun _ _ => trivial)); (case aO => exact (by (with_reducible repeat (first | apply Kd.R_alloc | apply Kd.R_drewN | apply Kd.R_drew)); exact HO398.out)); (case aS => exact (below_size (by repeat (first | (with_reducible first | exact HB.out | apply below_alloc | apply pw_below_drewN | apply below_drew1) | exact HB.out)))); (case aL => have := LMc4.out; omega); intro v400 w8 ho hb hg hat; rw [← Ny399.out] at ho; have n0_ := Aside0.mk (hb); have n1_ := Aside0.mk (ho); clear HB; clear HO398; have HB := n0_; have HO401 := n1_; clear n0_ n1_; clear ho hb hg hat))
      (try simp only [Act.put, List.setIfInBounds_toArray, List.set_cons_zero, List.set_cons_succ])
      go_cut [] (fun wc => ∃ (kq : Nat) (x5_4 : List (S26)), Aside0 (foliotlaw13_ChooseOrder.j1 kq l0 x5_4 = some r) ∧ Aside0 (kq ≤ k) ∧ Aside0 (Kd.R k26 26 wc w.heap.size (fun _ => True) v400 x5_4) ∧ Aside0 (Below w.heap.size w wc))
      case first =>
        have H := HC5.out
        clear HC5
        have H' := Aside0.mk H
        clear H
        go_wp2
        go_loopg [6] k (fun kq v6 w' => ∃ (x5_1 : List (S26)) (x6_1 : Int), v6 = .int .i64 x6_1 ∧ Aside0 (foliotlaw13_ChooseOrder.l0 kq l0 l1 x5_1 x6_1 = some r) ∧ Aside0 (kq ≤ k) ∧ Aside0 (Kd.R k26 26 w' w.heap.size (fun _ => True) v400 x5_1) ∧ Aside0 (Below w.heap.size w w'))
        case atStart => exact ⟨(y399), (0), (by first | rfl | (simp; done) | (simp [*]; done)), H', ⟨Nat.le_refl _⟩, ⟨by (with_reducible repeat (first | apply Kd.R_alloc | apply Kd.R_drewN | apply Kd.R_drew)); exact HO401.out⟩, ⟨by repeat (first | (with_reducible first | exact HB.out | apply below_alloc | apply pw_below_drewN | apply below_drew1) | exact HB.out)⟩⟩
        case round =>
          clear H'
          try clear c1
          try clear p2
          try clear c3
          try clear c3b0
          try clear c3b1
          try clear c4
          obtain ⟨x5_1, x6_1, rfl, HA, HK1, HO_5, HB⟩ := hrel
          cases gk with
          | zero => exact absurd HA.out (by simp [foliotlaw13_ChooseOrder.l0])
          | succ k1 =>
            have H := HA.out
            clear HA
            simp only [foliotlaw13_ChooseOrder.l0] at H
            by_cases c9 : x6_1 < (x5_1.length : Int)
            · rw [if_pos c9] at H
              have c9b0 : decide (x6_1 < (x5_1.length : Int)) = true := decide_eq_true c9
              clear c9
              (first | rw [c9b0] | (simp only [i64_w, i32_w]; rw [c9b0]) | skip)
              by_cases c10 : x6_1 < (l1.length : Int)
              · rw [if_pos c10] at H
                have c10b0 : decide (x6_1 < (l1.length : Int)) = true := decide_eq_true c10
                clear c10
                by_cases c11 : 0 ≤ x6_1
                · rw [if_pos c11] at H
                  have c11b0 : decide (0 ≤ x6_1) = true := decide_eq_true c11
                  clear c11
                  by_cases c12 : (x5_1.length : Int) = 0
                  · rw [if_pos c12] at H
                    exact absurd H (by simp)
                  · rw [if_neg c12] at H
                    have c12b0 : ((x5_1.length : Int) == 0) = false := beq_eq_false_iff_ne.mpr c12
                    have c12b1 : ((x5_1.length : Int) != 0) = true := bne_iff_ne.mpr c12
                    have c12b2 : ¬ (x5_1 = []) := fun h_ => c12 (by rw [h_]; rfl)
                    obtain ⟨ji13, hji13⟩ : ∃ j_ : Int, (Int.tmod (wrap64 ((Int.tmod (rd l1 x6_1) (x5_1.length : Int)) + (x5_1.length : Int))) (x5_1.length : Int)) = j_ := ⟨_, rfl⟩
                    replace H : (if 0 ≤ (ji13) then (if (ji13) < (x5_1.length : Int) then (foliotlaw13_ChooseOrder.l0 k1 l0 l1 ((x5_1.set (x6_1 : Int).toNat (⟨(rd_T26 x5_1 (ji13)).f0, (rd_T26 x5_1 (ji13)).f1, (rd_T26 x5_1 (ji13)).f2, (rd_T26 x5_1 (ji13)).f3, (rd_T26 x5_1 (ji13)).f4, (rd_T26 x5_1 (ji13)).f5, (rd_T26 x5_1 (ji13)).f6⟩ : S26)).set ((ji13) : Int).toNat (⟨(rd_T26 x5_1 x6_1).f0, (rd_T26 x5_1 x6_1).f1, (rd_T26 x5_1 x6_1).f2, (rd_T26 x5_1 x6_1).f3, (rd_T26 x5_1 x6_1).f4, (rd_T26 x5_1 x6_1).f5, (rd_T26 x5_1 x6_1).f6⟩ : S26)) (wrap64 (x6_1 + 1))) else (none)) else (none)) = some r := by first | (rw [hji13] at H; exact H) | (simp only [hji13] at H ⊢; exact H)
                    by_cases c14 : 0 ≤ (ji13)
                    · rw [if_pos c14] at H
                      have c14b0 : decide (0 ≤ (ji13)) = true := decide_eq_true c14
                      clear c14
                      by_cases c15 : (ji13) < (x5_1.length : Int)
                      · rw [if_pos c15] at H
                        have c15b0 : decide ((ji13) < (x5_1.length : Int)) = true := decide_eq_true c15
                        clear c15
                        obtain ⟨y406, hy406⟩ : ∃ y_ : List (S26), y_ = (x5_1.set (x6_1 : Int).toNat (⟨(rd_T26 x5_1 (ji13)).f0, (rd_T26 x5_1 (ji13)).f1, (rd_T26 x5_1 (ji13)).f2, (rd_T26 x5_1 (ji13)).f3, (rd_T26 x5_1 (ji13)).f4, (rd_T26 x5_1 (ji13)).f5, (rd_T26 x5_1 (ji13)).f6⟩ : S26)) := ⟨_, rfl⟩
                        replace H : (foliotlaw13_ChooseOrder.l0 k1 l0 l1 (y406.set ((ji13) : Int).toNat (⟨(rd_T26 x5_1 x6_1).f0, (rd_T26 x5_1 x6_1).f1, (rd_T26 x5_1 x6_1).f2, (rd_T26 x5_1 x6_1).f3, (rd_T26 x5_1 x6_1).f4, (rd_T26 x5_1 x6_1).f5, (rd_T26 x5_1 x6_1).f6⟩ : S26)) (wrap64 (x6_1 + 1))) = some r := by first | (rw [hy406]; with_reducible exact H) | (have H2_ := (Option.bind_some _ _).symm.trans H; rw [hy406]; with_reducible exact H2_) | (have H2_ := (Option.bind_some _ _).symm.trans H; with_reducible exact H2_) | with_reducible exact H | (rw [hy406]; exact H) | exact H
                        have Ny406 := Aside0.mk hy406
                        clear hy406
                        obtain ⟨y407, hy407⟩ : ∃ y_ : List (S26), y_ = (y406.set ((ji13) : Int).toNat (⟨(rd_T26 x5_1 x6_1).f0, (rd_T26 x5_1 x6_1).f1, (rd_T26 x5_1 x6_1).f2, (rd_T26 x5_1 x6_1).f3, (rd_T26 x5_1 x6_1).f4, (rd_T26 x5_1 x6_1).f5, (rd_T26 x5_1 x6_1).f6⟩ : S26)) := ⟨_, rfl⟩
                        replace H : (foliotlaw13_ChooseOrder.l0 k1 l0 l1 y407 (wrap64 (x6_1 + 1))) = some r := by first | (rw [hy407]; with_reducible exact H) | (have H2_ := (Option.bind_some _ _).symm.trans H; rw [hy407]; with_reducible exact H2_) | (have H2_ := (Option.bind_some _ _).symm.trans H; with_reducible exact H2_) | with_reducible exact H | (rw [hy407]; exact H) | exact H
                        have Ny407 := Aside0.mk hy407
                        clear hy407
                        have H' := Aside0.mk H
                        clear H
                        obtain ⟨Ao18, co18, eo18⟩ := Kd.R_slice HO_5.out
                        subst eo18
                        have p402 : 0 ≤ (x6_1 : Int) := of_decide_eq_true (by first | (with_reducible assumption) | assumption)
                        have q402 : x6_1 < (l1.length : Int) := of_decide_eq_true (by first | (with_reducible assumption) | assumption)
                        obtain ⟨ad402, e402, hx402_0⟩ := Kd.at_int HR1.out x6_1 p402 q402
                        cases e402
                        replace hx402_0 := (HB.out.cell (World.block_lt_of_cell? w _ hx402_0)).trans hx402_0
                        replace p402 := eq_true p402
                        replace q402 := eq_true q402
                        have p403 : 0 ≤ (x6_1 : Int) := of_decide_eq_true (by first | (with_reducible assumption) | assumption)
                        have q403 : x6_1 < (x5_1.length : Int) := of_decide_eq_true (by first | (with_reducible assumption) | assumption)
                        obtain ⟨ad403, e403, hx403_0, hx403_1, hx403_2, hx403_3, hx403_4, hx403_5, hx403_6⟩ := at_T26 (Kd.R_reads' HO_5.out).2.2 x6_1 p403 q403
                        cases e403
                        replace p403 := eq_true p403
                        replace q403 := eq_true q403
                        go_wp2_with (first | ((with_reducible refine gate_dst (N := 8) rfl ?_); (try (refine gate_guard (by rfl) ?_; dsimp only)); refine box_event ?hg (N := 8) ?hd (cs := #[.int .i64 0, .int .i64 0, .int .i64 0, .int .i64 0, .int .i64 0, .bool false, .bool false]) (t := 26) ?hr ?_; (case hd => rfl); (case hg => rfl); (case hr => first | (go_simp; done) | (go_simp; rfl)); intro gb404 hg w19 hbox hb; have n0_ := Aside0.mk (Kd.R_below (Kd.R_elderB (by (with_reducible repeat (first | apply Kd.R_alloc | apply Kd.R_drewN | apply Kd.R_drew)); exact HO_5.out) gb404 (Nat.le_of_eq hg.symm)) hb); have n1_ := Aside0.mk (below_step (by repeat (first | (with_reducible first | exact HB.out | apply below_alloc | apply pw_below_drewN | apply below_drew1) | exact HB.out)) hb); have n2_ := Aside0.mk (hbox); have n3_ := Aside0.mk ((by rw [hg]; exact (below_size (by repeat (first | (with_reducible first | exact HB.out | apply below_alloc | apply pw_below_drewN | apply below_drew1) | exact HB.out))) : w.heap.size ≤ gb404)); have n4_ := Aside0.mk ((by rw [hg]; exact (below_size (by repeat (first | (with_reducible first | exact HB.out | apply below_alloc | apply pw_below_drewN | apply below_drew1) | exact HB.out))) : w.heap.size ≤ gb404)); clear HO_5; clear HB; have HO_5 := n0_; have HB := n1_; have BK404 := n2_; have GW404 := n3_; have GE404 := n4_; clear n0_ n1_ n2_ n3_ n4_; clear hb hbox hg; have hcz20_0 : w19.cell? ⟨gb404, 0, none⟩ = some (.int .i64 0) := (blk_cell BK404.out 0).trans rfl; have hcz20_1 : w19.cell? ⟨gb404, 1, none⟩ = some (.int .i64 0) := (blk_cell BK404.out 1).trans rfl; have hcz20_2 : w19.cell? ⟨gb404, 2, none⟩ = some (.int .i64 0) := (blk_cell BK404.out 2).trans rfl; have hcz20_3 : w19.cell? ⟨gb404, 3, none⟩ = some (.int .i64 0) := (blk_cell BK404.out 3).trans rfl; have hcz20_4 : w19.cell? ⟨gb404, 4, none⟩ = some (.int .i64 0) := (blk_cell BK404.out 4).trans rfl; have hcz20_5 : w19.cell? ⟨gb404, 5, none⟩ = some (.bool false) := (blk_cell BK404.out 5).trans rfl; have hcz20_6 : w19.cell? ⟨gb404, 6, none⟩ = some (.bool false) := (blk_cell BK404.out 6).trans rfl; have hfz20_0 := blk_frozen BK404.out 0; have hfz20_1 := blk_frozen BK404.out 1; have hfz20_2 := blk_frozen BK404.out 2; have hfz20_3 := blk_frozen BK404.out 3; have hfz20_4 := blk_frozen BK404.out 4; have hfz20_5 := blk_frozen BK404.out 5; have hfz20_6 := blk_frozen BK404.out 6) | ((with_reducible refine gate_store (t := 26) (p := 8) rfl ?_); refine store_event (t := 26) (p := 8) (v := ?vo_w21) (w1 := (((((((w19.setCell ⟨gb404, 0, none⟩ (.int .i64 ((rd_T26 x5_1 x6_1).f0))).setCell ⟨gb404, 1, none⟩ (.int .i64 ((rd_T26 x5_1 x6_1).f1))).setCell ⟨gb404, 2, none⟩ (.int .i64 ((rd_T26 x5_1 x6_1).f2))).setCell ⟨gb404, 3, none⟩ (.int .i64 ((rd_T26 x5_1 x6_1).f3))).setCell ⟨gb404, 4, none⟩ (.int .i64 ((rd_T26 x5_1 x6_1).f4))).setCell ⟨gb404, 5, none⟩ (.bool ((rd_T26 x5_1 x6_1).f5))).setCell ⟨gb404, 6, none⟩ (.bool ((rd_T26 x5_1 x6_1).f6)))) ?hg ?ho ?hn ?hr ?_; (case ho => rfl); (case hg => rfl); (case hn => rfl); (case hr => first | (go_simp; done) | (go_simp; rfl)); intro w21 hw; have n0_ : Aside0 (Kd.R k26 26 w21 w.heap.size (fun k_ => k_ ≠ gb404) (.slice (some ad403) x5_1.length co18) x5_1) := ⟨(by rw [hw]; exact (by (with_reducible repeat (first | apply Kd.R_alloc | apply Kd.R_drewN | apply Kd.R_drew)); exact Kd.R_mono (Kd.R_far (p := ⟨gb404, 6, none⟩) (Kd.R_far (p := ⟨gb404, 5, none⟩) (Kd.R_far (p := ⟨gb404, 4, none⟩) (Kd.R_far (p := ⟨gb404, 3, none⟩) (Kd.R_far (p := ⟨gb404, 2, none⟩) (Kd.R_far (p := ⟨gb404, 1, none⟩) (Kd.R_far (p := ⟨gb404, 0, none⟩) (Kd.R_mono HO_5.out (fun k_ hk => (⟨hk, hk.2⟩ : _ ∧ k_ ≠ gb404))) (fun _ hk => hk.2) (.int .i64 ((rd_T26 x5_1 x6_1).f0))) (fun _ hk => hk.2) (.int .i64 ((rd_T26 x5_1 x6_1).f1))) (fun _ hk => hk.2) (.int .i64 ((rd_T26 x5_1 x6_1).f2))) (fun _ hk => hk.2) (.int .i64 ((rd_T26 x5_1 x6_1).f3))) (fun _ hk => hk.2) (.int .i64 ((rd_T26 x5_1 x6_1).f4))) (fun _ hk => hk.2) (.bool ((rd_T26 x5_1 x6_1).f5))) (fun _ hk => hk.2) (.bool ((rd_T26 x5_1 x6_1).f6))) (fun _ hk => hk.1.2)))⟩; have n1_ : Aside0 (w21.heap[gb404]? = some (.cells #[.int .i64 ((rd_T26 x5_1 x6_1).f0), .int .i64 ((rd_T26 x5_1 x6_1).f1), .int .i64 ((rd_T26 x5_1 x6_1).f2), .int .i64 ((rd_T26 x5_1 x6_1).f3), .int .i64 ((rd_T26 x5_1 x6_1).f4), .bool ((rd_T26 x5_1 x6_1).f5), .bool ((rd_T26 x5_1 x6_1).f6)] 26 (0, 0))) := ⟨(by rw [hw]; exact (by (with_reducible repeat (first | refine blk_drewN ?_ _ | refine blk_drew ?_ | refine blk_alloc ?_ _)); refine blk_put (cs := #[.int .i64 ((rd_T26 x5_1 x6_1).f0), .int .i64 ((rd_T26 x5_1 x6_1).f1), .int .i64 ((rd_T26 x5_1 x6_1).f2), .int .i64 ((rd_T26 x5_1 x6_1).f3), .int .i64 ((rd_T26 x5_1 x6_1).f4), .bool ((rd_T26 x5_1 x6_1).f5), .bool false]) ?_ 6 _ rfl; (with_reducible repeat (first | refine blk_drewN ?_ _ | refine blk_drew ?_ | refine blk_alloc ?_ _)); refine blk_put (cs := #[.int .i64 ((rd_T26 x5_1 x6_1).f0), .int .i64 ((rd_T26 x5_1 x6_1).f1), .int .i64 ((rd_T26 x5_1 x6_1).f2), .int .i64 ((rd_T26 x5_1 x6_1).f3), .int .i64 ((rd_T26 x5_1 x6_1).f4), .bool false, .bool false]) ?_ 5 _ rfl; (with_reducible repeat (first | refine blk_drewN ?_ _ | refine blk_drew ?_ | refine blk_alloc ?_ _)); refine blk_put (cs := #[.int .i64 ((rd_T26 x5_1 x6_1).f0), .int .i64 ((rd_T26 x5_1 x6_1).f1), .int .i64 ((rd_T26 x5_1 x6_1).f2), .int .i64 ((rd_T26 x5_1 x6_1).f3), .int .i64 0, .bool false, .bool false]) ?_ 4 _ rfl; (with_reducible repeat (first | refine blk_drewN ?_ _ | refine blk_drew ?_ | refine blk_alloc ?_ _)); refine blk_put (cs := #[.int .i64 ((rd_T26 x5_1 x6_1).f0), .int .i64 ((rd_T26 x5_1 x6_1).f1), .int .i64 ((rd_T26 x5_1 x6_1).f2), .int .i64 0, .int .i64 0, .bool false, .bool false]) ?_ 3 _ rfl; (with_reducible repeat (first | refine blk_drewN ?_ _ | refine blk_drew ?_ | refine blk_alloc ?_ _)); refine blk_put (cs := #[.int .i64 ((rd_T26 x5_1 x6_1).f0), .int .i64 ((rd_T26 x5_1 x6_1).f1), .int .i64 0, .int .i64 0, .int .i64 0, .bool false, .bool false]) ?_ 2 _ rfl; (with_reducible repeat (first | refine blk_drewN ?_ _ | refine blk_drew ?_ | refine blk_alloc ?_ _)); refine blk_put (cs := #[.int .i64 ((rd_T26 x5_1 x6_1).f0), .int .i64 0, .int .i64 0, .int .i64 0, .int .i64 0, .bool false, .bool false]) ?_ 1 _ rfl; (with_reducible repeat (first | refine blk_drewN ?_ _ | refine blk_drew ?_ | refine blk_alloc ?_ _)); refine blk_put (cs := #[.int .i64 0, .int .i64 0, .int .i64 0, .int .i64 0, .int .i64 0, .bool false, .bool false]) ?_ 0 _ rfl; (with_reducible repeat (first | refine blk_drewN ?_ _ | refine blk_drew ?_ | refine blk_alloc ?_ _)); exact BK404.out))⟩; have n2_ : Aside0 (Below w.heap.size w w21) := ⟨(by rw [hw]; exact (by repeat (first | (with_reducible first | exact HB.out | apply below_alloc | apply pw_below_drewN | apply below_drew1 | refine below_set ?_ GE404.out) | exact HB.out)))⟩; clear hw; clear HO_5; clear BK404; clear HB; have HO_5 := n0_; have BK404 := n1_; have HB := n2_; clear n0_ n1_ n2_; have p405 : 0 ≤ ((ji13) : Int) := of_decide_eq_true (by first | (with_reducible assumption) | assumption); have q405 : (ji13) < (x5_1.length : Int) := of_decide_eq_true (by first | (with_reducible assumption) | assumption); obtain ⟨ad405, e405, hx405_0, hx405_1, hx405_2, hx405_3, hx405_4, hx405_5, hx405_6⟩ := at_T26 (Kd.R_reads' HO_5.out).2.2 (ji13) p405 q405; obtain rfl : ad403 = ad405 := (by injection e405); replace p405 := eq_true p405; replace q405 := eq_true q405; have p16 : 0 ≤ (x6_1 : Int) := of_decide_eq_true (by first | (with_reducible assumption) | assumption); have q16 : (x6_1 : Int) < ((x5_1.length : Int) : Int) := of_decide_eq_true (by first | (with_reducible assumption) | assumption); obtain ⟨go16, co16, eo16, gb16, gl16, cl16, HG16⟩ := Kd.R_form HO_5.out (by omega); (first | cases eo16 | (injection eo16 with ea_ en_ ec_; (first | subst ea_ | (injection ea_ with ea_; subst ea_)); subst ec_; clear en_)); have GB16 := Aside0.mk gb16; have GG16 := Aside0.mk HG16; clear gb16 gl16 HG16; (first | simp only [add_plain] at hx403_0 | skip); (first | simp only [add_plain] at hx403_1 | skip); (first | simp only [add_plain] at hx403_2 | skip); (first | simp only [add_plain] at hx403_3 | skip); (first | simp only [add_plain] at hx403_4 | skip); (first | simp only [add_plain] at hx403_5 | skip); (first | simp only [add_plain] at hx403_6 | skip); (first | simp only [add_plain] at hx405_0 | skip); (first | simp only [add_plain] at hx405_1 | skip); (first | simp only [add_plain] at hx405_2 | skip); (first | simp only [add_plain] at hx405_3 | skip); (first | simp only [add_plain] at hx405_4 | skip); (first | simp only [add_plain] at hx405_5 | skip); (first | simp only [add_plain] at hx405_6 | skip); obtain ⟨ce16, hcl16, hM16, hcc16, hfr16⟩ := Kd.R_elem HO_5.out z26 (x6_1 : Int) p16 q16; obtain rfl := k26_openM hM16; have hx16_0 : w21.cell? ⟨go16, (x6_1 : Int).toNat * 7, none⟩ = some (.int .i64 ((rd_T26 x5_1 x6_1).f0)) := hcc16 0 _ rfl; have hx16_1 : w21.cell? ⟨go16, (x6_1 : Int).toNat * 7 + 1, none⟩ = some (.int .i64 ((rd_T26 x5_1 x6_1).f1)) := hcc16 1 _ rfl; have hx16_2 : w21.cell? ⟨go16, (x6_1 : Int).toNat * 7 + 2, none⟩ = some (.int .i64 ((rd_T26 x5_1 x6_1).f2)) := hcc16 2 _ rfl; have hx16_3 : w21.cell? ⟨go16, (x6_1 : Int).toNat * 7 + 3, none⟩ = some (.int .i64 ((rd_T26 x5_1 x6_1).f3)) := hcc16 3 _ rfl; have hx16_4 : w21.cell? ⟨go16, (x6_1 : Int).toNat * 7 + 4, none⟩ = some (.int .i64 ((rd_T26 x5_1 x6_1).f4)) := hcc16 4 _ rfl; have hx16_5 : w21.cell? ⟨go16, (x6_1 : Int).toNat * 7 + 5, none⟩ = some (.bool ((rd_T26 x5_1 x6_1).f5)) := hcc16 5 _ rfl; have hx16_6 : w21.cell? ⟨go16, (x6_1 : Int).toNat * 7 + 6, none⟩ = some (.bool ((rd_T26 x5_1 x6_1).f6)) := hcc16 6 _ rfl; have hf16_0 : w21.frozen? ⟨go16, (x6_1 : Int).toNat * 7, none⟩ = false := hfr16 0; have hf16_1 : w21.frozen? ⟨go16, (x6_1 : Int).toNat * 7 + 1, none⟩ = false := hfr16 1; have hf16_2 : w21.frozen? ⟨go16, (x6_1 : Int).toNat * 7 + 2, none⟩ = false := hfr16 2; have hf16_3 : w21.frozen? ⟨go16, (x6_1 : Int).toNat * 7 + 3, none⟩ = false := hfr16 3; have hf16_4 : w21.frozen? ⟨go16, (x6_1 : Int).toNat * 7 + 4, none⟩ = false := hfr16 4; have hf16_5 : w21.frozen? ⟨go16, (x6_1 : Int).toNat * 7 + 5, none⟩ = false := hfr16 5; have hf16_6 : w21.frozen? ⟨go16, (x6_1 : Int).toNat * 7 + 6, none⟩ = false := hfr16 6; clear hcl16 hcc16 hfr16 hM16; replace p16 := eq_true p16; replace q16 := eq_true q16; have HX22 := Aside0.mk (show Kd.R k26 26 w21 w.heap.size (fun k_ => k_ ≠ gb404) (.slice (some ⟨go16, 0, none⟩) x5_1.length co18) x5_1 from (by (with_reducible repeat (first | apply Kd.R_alloc | apply Kd.R_drewN | apply Kd.R_drew)); exact HO_5.out)); obtain ⟨ce22, hcl22, hM22, hcc22, hfr22⟩ := Kd.R_elem HX22.out z26 (x6_1 : Int) (of_decide_eq_true (by first | (with_reducible assumption) | assumption)) (by have h_ : (x6_1 : Int) < ((x5_1.length : Int) : Int) := of_decide_eq_true (by first | (with_reducible assumption) | assumption); first | exact h_ | (have e_ := (Kd.R_reads' HO_5.out).1; omega) | simpa using h_); obtain rfl := k26_openM hM22; have HP22 := Kd.R_seg HX22.out (x6_1 : Int) (of_decide_eq_true (by first | (with_reducible assumption) | assumption)) (by have h_ : (x6_1 : Int) < ((x5_1.length : Int) : Int) := of_decide_eq_true (by first | (with_reducible assumption) | assumption); first | exact h_ | (have e_ := (Kd.R_reads' HO_5.out).1; omega) | simpa using h_) (seg := [.int .i64 ((rd_T26 x5_1 (ji13)).f0), .int .i64 ((rd_T26 x5_1 (ji13)).f1), .int .i64 ((rd_T26 x5_1 (ji13)).f2), .int .i64 ((rd_T26 x5_1 (ji13)).f3), .int .i64 ((rd_T26 x5_1 (ji13)).f4), .bool ((rd_T26 x5_1 (ji13)).f5), .bool ((rd_T26 x5_1 (ji13)).f6)]) (j := 0) hcl22 hcc22 (show 7 ≤ 7 from by decide) (x' := (⟨(rd_T26 x5_1 (ji13)).f0, (rd_T26 x5_1 (ji13)).f1, (rd_T26 x5_1 (ji13)).f2, (rd_T26 x5_1 (ji13)).f3, (rd_T26 x5_1 (ji13)).f4, (rd_T26 x5_1 (ji13)).f5, (rd_T26 x5_1 (ji13)).f6⟩ : S26)) (k26_mkM _ _ _ (⟨(rd_T26 x5_1 (ji13)).f0, (rd_T26 x5_1 (ji13)).f1, (rd_T26 x5_1 (ji13)).f2, (rd_T26 x5_1 (ji13)).f3, (rd_T26 x5_1 (ji13)).f4, (rd_T26 x5_1 (ji13)).f5, (rd_T26 x5_1 (ji13)).f6⟩ : S26) ) (fun _ hk => hk); have hx22_0 := hcc22 0 _ rfl; (try simp only [show (k26).sz = 7 from rfl, Nat.mul_one, Nat.add_zero] at hx22_0); have hf22_0 := hfr22 0; (try simp only [show (k26).sz = 7 from rfl, Nat.mul_one, Nat.add_zero] at hf22_0); have hx22_1 := hcc22 1 _ rfl; (try simp only [show (k26).sz = 7 from rfl, Nat.mul_one, Nat.add_zero] at hx22_1); have hf22_1 := hfr22 1; (try simp only [show (k26).sz = 7 from rfl, Nat.mul_one, Nat.add_zero] at hf22_1); have hx22_2 := hcc22 2 _ rfl; (try simp only [show (k26).sz = 7 from rfl, Nat.mul_one, Nat.add_zero] at hx22_2); have hf22_2 := hfr22 2; (try simp only [show (k26).sz = 7 from rfl, Nat.mul_one, Nat.add_zero] at hf22_2); have hx22_3 := hcc22 3 _ rfl; (try simp only [show (k26).sz = 7 from rfl, Nat.mul_one, Nat.add_zero] at hx22_3); have hf22_3 := hfr22 3; (try simp only [show (k26).sz = 7 from rfl, Nat.mul_one, Nat.add_zero] at hf22_3); have hx22_4 := hcc22 4 _ rfl; (try simp only [show (k26).sz = 7 from rfl, Nat.mul_one, Nat.add_zero] at hx22_4); have hf22_4 := hfr22 4; (try simp only [show (k26).sz = 7 from rfl, Nat.mul_one, Nat.add_zero] at hf22_4); have hx22_5 := hcc22 5 _ rfl; (try simp only [show (k26).sz = 7 from rfl, Nat.mul_one, Nat.add_zero] at hx22_5); have hf22_5 := hfr22 5; (try simp only [show (k26).sz = 7 from rfl, Nat.mul_one, Nat.add_zero] at hf22_5); have hx22_6 := hcc22 6 _ rfl; (try simp only [show (k26).sz = 7 from rfl, Nat.mul_one, Nat.add_zero] at hx22_6); have hf22_6 := hfr22 6; (try simp only [show (k26).sz = 7 from rfl, Nat.mul_one, Nat.add_zero] at hf22_6); clear hcl22 hcc22 hfr22 hM22) | ((with_reducible refine gate_store (t := 26) (p := 60) rfl ?_); refine store_event (t := 26) (p := 60) (v := ?vo_w23) (w1 := (((((((w21.setCell ⟨go16, (x6_1 : Int).toNat * 7, none⟩ (.int .i64 ((rd_T26 x5_1 (ji13)).f0))).setCell ⟨go16, (x6_1 : Int).toNat * 7 + 1, none⟩ (.int .i64 ((rd_T26 x5_1 (ji13)).f1))).setCell ⟨go16, (x6_1 : Int).toNat * 7 + 2, none⟩ (.int .i64 ((rd_T26 x5_1 (ji13)).f2))).setCell ⟨go16, (x6_1 : Int).toNat * 7 + 3, none⟩ (.int .i64 ((rd_T26 x5_1 (ji13)).f3))).setCell ⟨go16, (x6_1 : Int).toNat * 7 + 4, none⟩ (.int .i64 ((rd_T26 x5_1 (ji13)).f4))).setCell ⟨go16, (x6_1 : Int).toNat * 7 + 5, none⟩ (.bool ((rd_T26 x5_1 (ji13)).f5))).setCell ⟨go16, (x6_1 : Int).toNat * 7 + 6, none⟩ (.bool ((rd_T26 x5_1 (ji13)).f6)))) ?hg ?ho ?hn ?hr ?_; (case ho => rfl); (case hg => rfl); (case hn => rfl); (case hr => first | (go_simp; done) | (go_simp; rfl)); intro w23 hw; have hg : w21.grownBy w23 (some go16) := (by rw [hw]; exact HP22.2); have hp_ : Kd.R k26 26 w23 w.heap.size (fun k_ => k_ ≠ gb404) (.slice (some ⟨go16, 0, none⟩) x5_1.length co18) y406 := (by rw [hw, Ny406.out]; exact HP22.1); clear HP22; have n0_ := Aside0.mk (hp_); have n1_ := Aside0.mk (blk_grown (g := gb404) (o := .cells #[.int .i64 ((rd_T26 x5_1 x6_1).f0), .int .i64 ((rd_T26 x5_1 x6_1).f1), .int .i64 ((rd_T26 x5_1 x6_1).f2), .int .i64 ((rd_T26 x5_1 x6_1).f3), .int .i64 ((rd_T26 x5_1 x6_1).f4), .bool ((rd_T26 x5_1 x6_1).f5), .bool ((rd_T26 x5_1 x6_1).f6)] 26 (0, 0)) (by (with_reducible repeat (first | refine blk_drewN ?_ _ | refine blk_drew ?_ | refine blk_alloc ?_ _)); exact BK404.out) hg (Kd.R_away HO_5.out (fun _ hk => hk))); have n2_ := Aside0.mk ((by rw [hw]; exact below_set (below_set (below_set (below_set (below_set (below_set (below_set (HB.out) GB16.out) GB16.out) GB16.out) GB16.out) GB16.out) GB16.out) GB16.out : Below w.heap.size w w23)); clear HO_5; clear BK404; clear HB; have HO_5 := n0_; have BK404 := n1_; have HB := n2_; clear n0_ n1_ n2_; clear hg hw hp_; have hcz24_0 : w23.cell? ⟨gb404, 0, none⟩ = some (.int .i64 ((rd_T26 x5_1 x6_1).f0)) := (blk_cell BK404.out 0).trans rfl; have hcz24_1 : w23.cell? ⟨gb404, 1, none⟩ = some (.int .i64 ((rd_T26 x5_1 x6_1).f1)) := (blk_cell BK404.out 1).trans rfl; have hcz24_2 : w23.cell? ⟨gb404, 2, none⟩ = some (.int .i64 ((rd_T26 x5_1 x6_1).f2)) := (blk_cell BK404.out 2).trans rfl; have hcz24_3 : w23.cell? ⟨gb404, 3, none⟩ = some (.int .i64 ((rd_T26 x5_1 x6_1).f3)) := (blk_cell BK404.out 3).trans rfl; have hcz24_4 : w23.cell? ⟨gb404, 4, none⟩ = some (.int .i64 ((rd_T26 x5_1 x6_1).f4)) := (blk_cell BK404.out 4).trans rfl; have hcz24_5 : w23.cell? ⟨gb404, 5, none⟩ = some (.bool ((rd_T26 x5_1 x6_1).f5)) := (blk_cell BK404.out 5).trans rfl; have hcz24_6 : w23.cell? ⟨gb404, 6, none⟩ = some (.bool ((rd_T26 x5_1 x6_1).f6)) := (blk_cell BK404.out 6).trans rfl; have hfz24_0 := blk_frozen BK404.out 0; have hfz24_1 := blk_frozen BK404.out 1; have hfz24_2 := blk_frozen BK404.out 2; have hfz24_3 := blk_frozen BK404.out 3; have hfz24_4 := blk_frozen BK404.out 4; have hfz24_5 := blk_frozen BK404.out 5; have hfz24_6 := blk_frozen BK404.out 6; have p17 : 0 ≤ ((ji13) : Int) := of_decide_eq_true (by first | (with_reducible assumption) | assumption); have q17 : ((ji13) : Int) < ((x5_1.length : Int) : Int) := of_decide_eq_true (by first | (with_reducible assumption) | assumption); obtain ⟨ce17, hcl17, hM17, hcc17, hfr17⟩ := Kd.R_elem HO_5.out z26 ((ji13) : Int) p17 q17; obtain rfl := k26_openM hM17; have hx17_0 : w23.cell? ⟨go16, ((ji13) : Int).toNat * 7, none⟩ = some (.int .i64 ((rd_T26 y406 (ji13)).f0)) := hcc17 0 _ rfl; have hx17_1 : w23.cell? ⟨go16, ((ji13) : Int).toNat * 7 + 1, none⟩ = some (.int .i64 ((rd_T26 y406 (ji13)).f1)) := hcc17 1 _ rfl; have hx17_2 : w23.cell? ⟨go16, ((ji13) : Int).toNat * 7 + 2, none⟩ = some (.int .i64 ((rd_T26 y406 (ji13)).f2)) := hcc17 2 _ rfl; have hx17_3 : w23.cell? ⟨go16, ((ji13) : Int).toNat * 7 + 3, none⟩ = some (.int .i64 ((rd_T26 y406 (ji13)).f3)) := hcc17 3 _ rfl; have hx17_4 : w23.cell? ⟨go16, ((ji13) : Int).toNat * 7 + 4, none⟩ = some (.int .i64 ((rd_T26 y406 (ji13)).f4)) := hcc17 4 _ rfl; have hx17_5 : w23.cell? ⟨go16, ((ji13) : Int).toNat * 7 + 5, none⟩ = some (.bool ((rd_T26 y406 (ji13)).f5)) := hcc17 5 _ rfl; have hx17_6 : w23.cell? ⟨go16, ((ji13) : Int).toNat * 7 + 6, none⟩ = some (.bool ((rd_T26 y406 (ji13)).f6)) := hcc17 6 _ rfl; have hf17_0 : w23.frozen? ⟨go16, ((ji13) : Int).toNat * 7, none⟩ = false := hfr17 0; have hf17_1 : w23.frozen? ⟨go16, ((ji13) : Int).toNat * 7 + 1, none⟩ = false := hfr17 1; have hf17_2 : w23.frozen? ⟨go16, ((ji13) : Int).toNat * 7 + 2, none⟩ = false := hfr17 2; have hf17_3 : w23.frozen? ⟨go16, ((ji13) : Int).toNat * 7 + 3, none⟩ = false := hfr17 3; have hf17_4 : w23.frozen? ⟨go16, ((ji13) : Int).toNat * 7 + 4, none⟩ = false := hfr17 4; have hf17_5 : w23.frozen? ⟨go16, ((ji13) : Int).toNat * 7 + 5, none⟩ = false := hfr17 5; have hf17_6 : w23.frozen? ⟨go16, ((ji13) : Int).toNat * 7 + 6, none⟩ = false := hfr17 6; clear hcl17 hcc17 hfr17 hM17; replace p17 := eq_true p17; replace q17 := eq_true q17; have HX25 := Aside0.mk (show Kd.R k26 26 w23 w.heap.size (fun k_ => k_ ≠ gb404) (.slice (some ⟨go16, 0, none⟩) x5_1.length co18) y406 from (by (with_reducible repeat (first | apply Kd.R_alloc | apply Kd.R_drewN | apply Kd.R_drew)); exact HO_5.out)); obtain ⟨ce25, hcl25, hM25, hcc25, hfr25⟩ := Kd.R_elem HX25.out z26 ((ji13) : Int) (of_decide_eq_true (by first | (with_reducible assumption) | assumption)) (by have h_ : ((ji13) : Int) < ((x5_1.length : Int) : Int) := of_decide_eq_true (by first | (with_reducible assumption) | assumption); first | exact h_ | (have e_ := (Kd.R_reads' HO_5.out).1; omega) | simpa using h_); obtain rfl := k26_openM hM25; have HP25 := Kd.R_seg HX25.out ((ji13) : Int) (of_decide_eq_true (by first | (with_reducible assumption) | assumption)) (by have h_ : ((ji13) : Int) < ((x5_1.length : Int) : Int) := of_decide_eq_true (by first | (with_reducible assumption) | assumption); first | exact h_ | (have e_ := (Kd.R_reads' HO_5.out).1; omega) | simpa using h_) (seg := [.int .i64 ((rd_T26 x5_1 x6_1).f0), .int .i64 ((rd_T26 x5_1 x6_1).f1), .int .i64 ((rd_T26 x5_1 x6_1).f2), .int .i64 ((rd_T26 x5_1 x6_1).f3), .int .i64 ((rd_T26 x5_1 x6_1).f4), .bool ((rd_T26 x5_1 x6_1).f5), .bool ((rd_T26 x5_1 x6_1).f6)]) (j := 0) hcl25 hcc25 (show 7 ≤ 7 from by decide) (x' := (⟨(rd_T26 x5_1 x6_1).f0, (rd_T26 x5_1 x6_1).f1, (rd_T26 x5_1 x6_1).f2, (rd_T26 x5_1 x6_1).f3, (rd_T26 x5_1 x6_1).f4, (rd_T26 x5_1 x6_1).f5, (rd_T26 x5_1 x6_1).f6⟩ : S26)) (k26_mkM _ _ _ (⟨(rd_T26 x5_1 x6_1).f0, (rd_T26 x5_1 x6_1).f1, (rd_T26 x5_1 x6_1).f2, (rd_T26 x5_1 x6_1).f3, (rd_T26 x5_1 x6_1).f4, (rd_T26 x5_1 x6_1).f5, (rd_T26 x5_1 x6_1).f6⟩ : S26) ) (fun _ hk => hk); have hx25_0 := hcc25 0 _ rfl; (try simp only [show (k26).sz = 7 from rfl, Nat.mul_one, Nat.add_zero] at hx25_0); have hf25_0 := hfr25 0; (try simp only [show (k26).sz = 7 from rfl, Nat.mul_one, Nat.add_zero] at hf25_0); have hx25_1 := hcc25 1 _ rfl; (try simp only [show (k26).sz = 7 from rfl, Nat.mul_one, Nat.add_zero] at hx25_1); have hf25_1 := hfr25 1; (try simp only [show (k26).sz = 7 from rfl, Nat.mul_one, Nat.add_zero] at hf25_1); have hx25_2 := hcc25 2 _ rfl; (try simp only [show (k26).sz = 7 from rfl, Nat.mul_one, Nat.add_zero] at hx25_2); have hf25_2 := hfr25 2; (try simp only [show (k26).sz = 7 from rfl, Nat.mul_one, Nat.add_zero] at hf25_2); have hx25_3 := hcc25 3 _ rfl; (try simp only [show (k26).sz = 7 from rfl, Nat.mul_one, Nat.add_zero] at hx25_3); have hf25_3 := hfr25 3; (try simp only [show (k26).sz = 7 from rfl, Nat.mul_one, Nat.add_zero] at hf25_3); have hx25_4 := hcc25 4 _ rfl; (try simp only [show (k26).sz = 7 from rfl, Nat.mul_one, Nat.add_zero] at hx25_4); have hf25_4 := hfr25 4; (try simp only [show (k26).sz = 7 from rfl, Nat.mul_one, Nat.add_zero] at hf25_4); have hx25_5 := hcc25 5 _ rfl; (try simp only [show (k26).sz = 7 from rfl, Nat.mul_one, Nat.add_zero] at hx25_5); have hf25_5 := hfr25 5; (try simp only [show (k26).sz = 7 from rfl, Nat.mul_one, Nat.add_zero] at hf25_5); have hx25_6 := hcc25 6 _ rfl; (try simp only [show (k26).sz = 7 from rfl, Nat.mul_one, Nat.add_zero] at hx25_6); have hf25_6 := hfr25 6; (try simp only [show (k26).sz = 7 from rfl, Nat.mul_one, Nat.add_zero] at hf25_6); clear hcl25 hcc25 hfr25 hM25) | ((with_reducible refine gate_store (t := 26) (p := 64) rfl ?_); refine store_event (t := 26) (p := 64) (v := ?vo_w26) (w1 := (((((((w23.setCell ⟨go16, ((ji13) : Int).toNat * 7, none⟩ (.int .i64 ((rd_T26 x5_1 x6_1).f0))).setCell ⟨go16, ((ji13) : Int).toNat * 7 + 1, none⟩ (.int .i64 ((rd_T26 x5_1 x6_1).f1))).setCell ⟨go16, ((ji13) : Int).toNat * 7 + 2, none⟩ (.int .i64 ((rd_T26 x5_1 x6_1).f2))).setCell ⟨go16, ((ji13) : Int).toNat * 7 + 3, none⟩ (.int .i64 ((rd_T26 x5_1 x6_1).f3))).setCell ⟨go16, ((ji13) : Int).toNat * 7 + 4, none⟩ (.int .i64 ((rd_T26 x5_1 x6_1).f4))).setCell ⟨go16, ((ji13) : Int).toNat * 7 + 5, none⟩ (.bool ((rd_T26 x5_1 x6_1).f5))).setCell ⟨go16, ((ji13) : Int).toNat * 7 + 6, none⟩ (.bool ((rd_T26 x5_1 x6_1).f6)))) ?hg ?ho ?hn ?hr ?_; (case ho => rfl); (case hg => rfl); (case hn => rfl); (case hr => first | (go_simp; done) | (go_simp; rfl)); intro w26 hw; have hg : w23.grownBy w26 (some go16) := (by rw [hw]; exact HP25.2); have hp_ : Kd.R k26 26 w26 w.heap.size (fun k_ => k_ ≠ gb404) (.slice (some ⟨go16, 0, none⟩) x5_1.length co18) y407 := (by rw [hw, Ny407.out]; exact HP25.1); clear HP25; have n0_ := Aside0.mk (hp_); have n1_ := Aside0.mk (blk_grown (g := gb404) (o := .cells #[.int .i64 ((rd_T26 x5_1 x6_1).f0), .int .i64 ((rd_T26 x5_1 x6_1).f1), .int .i64 ((rd_T26 x5_1 x6_1).f2), .int .i64 ((rd_T26 x5_1 x6_1).f3), .int .i64 ((rd_T26 x5_1 x6_1).f4), .bool ((rd_T26 x5_1 x6_1).f5), .bool ((rd_T26 x5_1 x6_1).f6)] 26 (0, 0)) (by (with_reducible repeat (first | refine blk_drewN ?_ _ | refine blk_drew ?_ | refine blk_alloc ?_ _)); exact BK404.out) hg (Kd.R_away HO_5.out (fun _ hk => hk))); have n2_ := Aside0.mk ((by rw [hw]; exact below_set (below_set (below_set (below_set (below_set (below_set (below_set (HB.out) GB16.out) GB16.out) GB16.out) GB16.out) GB16.out) GB16.out) GB16.out : Below w.heap.size w w26)); clear HO_5; clear BK404; clear HB; have HO_5 := n0_; have BK404 := n1_; have HB := n2_; clear n0_ n1_ n2_; clear hg hw hp_))
                        go_roundg k1
                        case measure => have := HK1.out; omega
                        case rel => exact ⟨(y407), (wrap64 (x6_1 + 1)), (by first | rfl | (simp; done) | (simp [*]; done)), H', ⟨by have := HK1.out; omega⟩, ⟨by (with_reducible repeat (first | apply Kd.R_alloc | apply Kd.R_drewN | apply Kd.R_drew)); exact Kd.R_mono HO_5.out (fun _ hk => trivial)⟩, ⟨by repeat (first | (with_reducible first | exact HB.out | apply below_alloc | apply pw_below_drewN | apply below_drew1 | refine below_set ?_ GE404.out) | exact HB.out)⟩⟩
                      · rw [if_neg c15] at H
                        exact absurd H (by simp)
                    · rw [if_neg c14] at H
                      exact absurd H (by simp)
                · rw [if_neg c11] at H
                  exact absurd H (by simp)
              · rw [if_neg c10] at H
                have c10b0 : decide (x6_1 < (l1.length : Int)) = false := decide_eq_false c10
                clear c10
                have H' := Aside0.mk H
                clear H
                obtain ⟨Ao27, co27, eo27⟩ := Kd.R_slice HO_5.out
                subst eo27
                go_wp2
                go_meet
                case rel => exact ⟨_, (x5_1), H', ⟨by have := HK1.out; first | omega | exact Nat.le_refl _⟩, ⟨by (with_reducible repeat (first | apply Kd.R_alloc | apply Kd.R_drewN | apply Kd.R_drew)); exact HO_5.out⟩, ⟨by repeat (first | (with_reducible first | exact HB.out | apply below_alloc | apply pw_below_drewN | apply below_drew1) | exact HB.out)⟩⟩
            · rw [if_neg c9] at H
              have c9b0 : decide (x6_1 < (x5_1.length : Int)) = false := decide_eq_false c9
              clear c9
              (first | rw [c9b0] | (simp only [i64_w, i32_w]; rw [c9b0]) | skip)
              have H' := Aside0.mk H
              clear H
              obtain ⟨Ao28, co28, eo28⟩ := Kd.R_slice HO_5.out
              subst eo28
              go_wp2
              go_meet
              case rel => exact ⟨_, (x5_1), H', ⟨by have := HK1.out; first | omega | exact Nat.le_refl _⟩, ⟨by (with_reducible repeat (first | apply Kd.R_alloc | apply Kd.R_drewN | apply Kd.R_drew)); exact HO_5.out⟩, ⟨by repeat (first | (with_reducible first | exact HB.out | apply below_alloc | apply pw_below_drewN | apply below_drew1) | exact HB.out)⟩⟩
      case rest =>
        clear HC5
        try clear c1
        try clear p1
        try clear q1
        try clear hx1
        try clear c2
        try clear p2
        try clear hx2
        try clear hf2
        try clear c3
        try clear c3b0
        try clear c3b1
        try clear c4
        try clear p4
        try clear q4
        try clear hx4
        try clear p6
        try clear c9
        try clear c9b0
        try clear c10
        try clear c10b0
        try clear c11
        try clear c11b0
        try clear c12
        try clear c12b0
        try clear c12b1
        try clear c12b2
        try clear c14
        try clear c14b0
        try clear c15
        try clear c15b0
        try clear c16
        try clear p16
        try clear q16
        try clear hx16
        try clear hf16
        try clear c17
        try clear p17
        try clear q17
        try clear hx17
        try clear hf17
        try clear c22
        try clear hx22
        try clear hf22
        try clear c25
        try clear hx25
        try clear hf25
        try clear hcz20_0
        try clear hcz20_1
        try clear hcz20_2
        try clear hcz20_3
        try clear hcz20_4
        try clear hcz20_5
        try clear hcz20_6
        try clear hcz24_0
        try clear hcz24_1
        try clear hcz24_2
        try clear hcz24_3
        try clear hcz24_4
        try clear hcz24_5
        try clear hcz24_6
        try clear hfz20_0
        try clear hfz20_1
        try clear hfz20_2
        try clear hfz20_3
        try clear hfz20_4
        try clear hfz20_5
        try clear hfz20_6
        try clear hfz24_0
        try clear hfz24_1
        try clear hfz24_2
        try clear hfz24_3
        try clear hfz24_4
        try clear hfz24_5
        try clear hfz24_6
        try clear hx16_0
        try clear hx16_1
        try clear hx16_2
        try clear hx16_3
        try clear hx16_4
        try clear hx16_5
        try clear hx16_6
        try clear hx17_0
        try clear hx17_1
        try clear hx17_2
        try clear hx17_3
        try clear hx17_4
        try clear hx17_5
        try clear hx17_6
        try clear hx22_0
        try clear hx22_1
        try clear hx22_2
        try clear hx22_3
        try clear hx22_4
        try clear hx22_5
        try clear hx22_6
        try clear hx25_0
        try clear hx25_1
        try clear hx25_2
        try clear hx25_3
        try clear hx25_4
        try clear hx25_5
        try clear hx25_6
        try clear hx402_0
        try clear hx403_0
        try clear hx403_1
        try clear hx403_2
        try clear hx403_3
        try clear hx403_4
        try clear hx403_5
        try clear hx403_6
        try clear hx405_0
        try clear hx405_1
        try clear hx405_2
        try clear hx405_3
        try clear hx405_4
        try clear hx405_5
        try clear hx405_6
        try clear p16
        try clear p17
        try clear p2
        try clear p402
        try clear p403
        try clear p405
        try clear q16
        try clear q17
        try clear q402
        try clear q403
        try clear q405
        obtain ⟨kq, x5_4, HA, HJ4, HO_5, HB⟩ := hcut
        cases kq with
        | zero => exact absurd HA.out (by simp [foliotlaw13_ChooseOrder.j1])
        | succ kj4 =>
          have H := HA.out
          clear HA
          simp only [foliotlaw13_ChooseOrder.j1] at H
          replace H := Option.bind_eq_some_iff.mp H
          obtain ⟨⟨t408, t409, t410⟩, A290, H⟩ := H
          replace H : ((choose_Meet.f x5_4).bind fun bt411 => ((foliotref13_Meet.f kj4 l0).bind fun bt414 => (if t408 = bt411.1 then (if t409 = bt411.2.1 then (if (t410 == bt411.2.2) = true then (if t408 = bt414.1 then (if t409 = bt414.2.1 then (if (t410 == bt414.2.2) = true then ((choose_Survivors.f kj4 l0).bind fun t417 => ((choose_Survivors.f kj4 x5_4).bind fun t420 => (some ((t417.length : Int) == (t420.length : Int))))) else (some false)) else (some false)) else (some false)) else (some false)) else (some false)) else (some false)))) = some r := H
          have A29 := Aside0.mk A290
          clear A290
          replace H := Option.bind_eq_some_iff.mp H
          obtain ⟨⟨t411, t412, t413⟩, A300, H⟩ := H
          replace H : ((foliotref13_Meet.f kj4 l0).bind fun bt414 => (if t408 = t411 then (if t409 = t412 then (if (t410 == t413) = true then (if t408 = bt414.1 then (if t409 = bt414.2.1 then (if (t410 == bt414.2.2) = true then ((choose_Survivors.f kj4 l0).bind fun t417 => ((choose_Survivors.f kj4 x5_4).bind fun t420 => (some ((t417.length : Int) == (t420.length : Int))))) else (some false)) else (some false)) else (some false)) else (some false)) else (some false)) else (some false))) = some r := H
          have A30 := Aside0.mk A300
          clear A300
          replace H := Option.bind_eq_some_iff.mp H
          obtain ⟨⟨t414, t415, t416⟩, A310, H⟩ := H
          replace H : (if t408 = t411 then (if t409 = t412 then (if (t410 == t413) = true then (if t408 = t414 then (if t409 = t415 then (if (t410 == t416) = true then ((choose_Survivors.f kj4 l0).bind fun t417 => ((choose_Survivors.f kj4 x5_4).bind fun t420 => (some ((t417.length : Int) == (t420.length : Int))))) else (some false)) else (some false)) else (some false)) else (some false)) else (some false)) else (some false)) = some r := H
          have A31 := Aside0.mk A310
          clear A310
          by_cases c32 : t408 = t411
          · rw [if_pos c32] at H
            have c32b0 : (t408 == t411) = true := beq_iff_eq.mpr c32
            have c32b1 : (t408 != t411) = false := bne_eq_false_iff_eq.mpr c32
            clear c32
            by_cases c33 : t409 = t412
            · rw [if_pos c33] at H
              have c33b0 : (t409 == t412) = true := beq_iff_eq.mpr c33
              have c33b1 : (t409 != t412) = false := bne_eq_false_iff_eq.mpr c33
              clear c33
              by_cases c34 : (t410 == t413) = true
              · rw [if_pos c34] at H
                have c34b0 : (t410 == t413) = true := c34
                (try (have c34b1 : decide (t410 = t413) = true := by simpa using c34))
                (try (have c34b2 : (t410 == t413) = true := by simpa using c34))
                clear c34
                by_cases c35 : t408 = t414
                · rw [if_pos c35] at H
                  have c35b0 : (t408 == t414) = true := beq_iff_eq.mpr c35
                  have c35b1 : (t408 != t414) = false := bne_eq_false_iff_eq.mpr c35
                  clear c35
                  by_cases c36 : t409 = t415
                  · rw [if_pos c36] at H
                    have c36b0 : (t409 == t415) = true := beq_iff_eq.mpr c36
                    have c36b1 : (t409 != t415) = false := bne_eq_false_iff_eq.mpr c36
                    clear c36
                    by_cases c37 : (t410 == t416) = true
                    · rw [if_pos c37] at H
                      have c37b0 : (t410 == t416) = true := c37
                      (try (have c37b1 : decide (t410 = t416) = true := by simpa using c37))
                      (try (have c37b2 : (t410 == t416) = true := by simpa using c37))
                      clear c37
                      replace H := Option.bind_eq_some_iff.mp H
                      obtain ⟨t417, A380, H⟩ := H
                      replace H : ((choose_Survivors.f kj4 x5_4).bind fun t420 => (some ((t417.length : Int) == (t420.length : Int)))) = some r := H
                      have A38 := Aside0.mk A380
                      clear A380
                      replace H := Option.bind_eq_some_iff.mp H
                      obtain ⟨t420, A390, H⟩ := H
                      replace H : (some ((t417.length : Int) == (t420.length : Int))) = some r := H
                      have A39 := Aside0.mk A390
                      clear A390
                      obtain rfl := Option.some.inj H
                      go_wp2_with (first | ((with_reducible refine gate_callee (f := 17) rfl ?_); refine goesL_ (some 67) rfl rfl Try.func17 (by kernel_rfl) rfl #[.slice A0 l0.length c0] rfl (by (try simp only [List.map_toArray, List.map_cons, List.map_nil]); first | done | rfl | (simp only [List.length_drop, List.length_take]; rfl)) ?_; (with_reducible refine (choose_Meet.calls _ _ l0 t408 t409 t410 _ ?side1 ?side2 A29.out).mono ?_); (case side1 => repeat (first | exact (Kd.C_below HR0.out HB.out) | (with_reducible refine Kd.C_alloc ?_ _) | (with_reducible refine Kd.C_drewN ?_ _) | (with_reducible refine Kd.C_drew ?_))); (case side2 => exact HC0.out); rintro e w40 ⟨rfl, hb⟩; refine ⟨_, rfl, ?_⟩; have n0_ := Aside0.mk (Kd.R_below (by (with_reducible repeat (first | apply Kd.R_alloc | apply Kd.R_drewN | apply Kd.R_drew)); exact HO_5.out) hb); have n1_ := Aside0.mk (below_step (by repeat (first | (with_reducible first | exact HB.out | apply below_alloc | apply pw_below_drewN | apply below_drew1) | exact HB.out)) hb); clear HO_5; clear HB; have HO_5 := n0_; have HB := n1_; clear n0_ n1_; (try clear hb); (try clear hb2); (try clear hk); (try clear hi); obtain ⟨Ao41, co41, eo41⟩ := Kd.R_slice HO_5.out; subst eo41) | ((with_reducible refine gate_callee (f := 17) rfl ?_); refine goesL_ (some 73) rfl rfl Try.func17 (by kernel_rfl) rfl #[.slice Ao41 x5_4.length co41] rfl (by (try simp only [List.map_toArray, List.map_cons, List.map_nil]); first | done | rfl | (simp only [List.length_drop, List.length_take]; rfl)) ?_; (with_reducible refine (choose_Meet.calls _ _ x5_4 t411 t412 t413 _ ?side1 ?side2 A30.out).mono ?_); (case side1 => repeat (first | exact (Kd.R_reads' HO_5.out).2.2 | (with_reducible refine Kd.C_alloc ?_ _) | (with_reducible refine Kd.C_drewN ?_ _) | (with_reducible refine Kd.C_drew ?_))); (case side2 => exact (Kd.R_reads' HO_5.out).2.1); rintro e w42 ⟨rfl, hb⟩; refine ⟨_, rfl, ?_⟩; have n0_ := Aside0.mk (Kd.R_below (by (with_reducible repeat (first | apply Kd.R_alloc | apply Kd.R_drewN | apply Kd.R_drew)); exact HO_5.out) hb); have n1_ := Aside0.mk (below_step (by repeat (first | (with_reducible first | exact HB.out | apply below_alloc | apply pw_below_drewN | apply below_drew1) | exact HB.out)) hb); clear HO_5; clear HB; have HO_5 := n0_; have HB := n1_; clear n0_ n1_; (try clear hb); (try clear hb2); (try clear hk); (try clear hi)) | ((with_reducible refine gate_callee (f := 18) rfl ?_); refine goesL_ (some 79) rfl rfl Try.func18 (by kernel_rfl) rfl #[.slice A0 l0.length c0] rfl (by (try simp only [List.map_toArray, List.map_cons, List.map_nil]); first | done | rfl | (simp only [List.length_drop, List.length_take]; rfl)) ?_; (with_reducible refine (foliotref13_Meet.calls kj4 _ _ l0 t414 t415 t416 _ ?side1 ?side2 A31.out).mono ?_); (case side1 => repeat (first | exact (Kd.C_below HR0.out HB.out) | (with_reducible refine Kd.C_alloc ?_ _) | (with_reducible refine Kd.C_drewN ?_ _) | (with_reducible refine Kd.C_drew ?_))); (case side2 => exact HC0.out); rintro e w43 ⟨rfl, hb⟩; refine ⟨_, rfl, ?_⟩; have n0_ := Aside0.mk (Kd.R_below (by (with_reducible repeat (first | apply Kd.R_alloc | apply Kd.R_drewN | apply Kd.R_drew)); exact HO_5.out) hb); have n1_ := Aside0.mk (below_step (by repeat (first | (with_reducible first | exact HB.out | apply below_alloc | apply pw_below_drewN | apply below_drew1) | exact HB.out)) hb); clear HO_5; clear HB; have HO_5 := n0_; have HB := n1_; clear n0_ n1_; (try clear hb); (try clear hb2); (try clear hk); (try clear hi)) | (go_at_call 21; (with_reducible refine (choose_Survivors.calls kj4 _ _ l0 t417 _ ?side1 ?side2 A38.out).mono ?_); (case side1 => repeat (first | exact (Kd.C_below HR0.out HB.out) | (with_reducible refine Kd.C_alloc ?_ _) | (with_reducible refine Kd.C_drewN ?_ _) | (with_reducible refine Kd.C_drew ?_))); (case side2 => exact HC0.out); rintro e w44 ⟨v418, rfl, ho0, hb⟩; have n0_ := Aside0.mk (Kd.R_elder' (by (with_reducible repeat (first | apply Kd.R_alloc | apply Kd.R_drewN | apply Kd.R_drew)); exact HO_5.out) (Kd.R_base ho0) hb); have n1_ := Aside0.mk (Kd.R_lower (Kd.R_new' ho0 (Kd.R_lt (by (with_reducible repeat (first | apply Kd.R_alloc | apply Kd.R_drewN | apply Kd.R_drew)); exact HO_5.out))) (below_size (by repeat (first | (with_reducible first | exact HB.out | apply below_alloc | apply pw_below_drewN | apply below_drew1) | exact HB.out)))); have n2_ := Aside0.mk (below_step (by repeat (first | (with_reducible first | exact HB.out | apply below_alloc | apply pw_below_drewN | apply below_drew1) | exact HB.out)) hb); clear HO_5; clear HB; have HO_5 := n0_; have HO419 := n1_; have HB := n2_; clear n0_ n1_ n2_; (try clear hb); (try clear hb2); (try clear hk); (try clear hi); (try clear ho0); obtain ⟨Ao45, co45, eo45⟩ := Kd.R_slice HO419.out; subst eo45) | (go_at_call 21; (with_reducible refine (choose_Survivors.calls kj4 _ _ x5_4 t420 _ ?side1 ?side2 A39.out).mono ?_); (case side1 => repeat (first | exact (Kd.R_reads' HO_5.out).2.2 | (with_reducible refine Kd.C_alloc ?_ _) | (with_reducible refine Kd.C_drewN ?_ _) | (with_reducible refine Kd.C_drew ?_))); (case side2 => exact (Kd.R_reads' HO_5.out).2.1); rintro e w46 ⟨v421, rfl, ho0, hb⟩; have n0_ := Aside0.mk (Kd.R_elder' (by (with_reducible repeat (first | apply Kd.R_alloc | apply Kd.R_drewN | apply Kd.R_drew)); exact HO_5.out) (Kd.R_base ho0) hb); have n1_ := Aside0.mk (Kd.R_elder' (by (with_reducible repeat (first | apply Kd.R_alloc | apply Kd.R_drewN | apply Kd.R_drew)); exact HO419.out) (Kd.R_base ho0) hb); have n2_ := Aside0.mk (Kd.R_lower (Kd.R_new' (Kd.R_new' ho0 (Kd.R_lt (by (with_reducible repeat (first | apply Kd.R_alloc | apply Kd.R_drewN | apply Kd.R_drew)); exact HO_5.out))) (Kd.R_lt (by (with_reducible repeat (first | apply Kd.R_alloc | apply Kd.R_drewN | apply Kd.R_drew)); exact HO419.out))) (below_size (by repeat (first | (with_reducible first | exact HB.out | apply below_alloc | apply pw_below_drewN | apply below_drew1) | exact HB.out)))); have n3_ := Aside0.mk (below_step (by repeat (first | (with_reducible first | exact HB.out | apply below_alloc | apply pw_below_drewN | apply below_drew1) | exact HB.out)) hb); clear HO_5; clear HO419; clear HB; have HO_5 := n0_; have HO419 := n1_; have HO422 := n2_; have HB := n3_; clear n0_ n1_ n2_ n3_; (try clear hb); (try clear hb2); (try clear hk); (try clear hi); (try clear ho0); obtain ⟨Ao47, co47, eo47⟩ := Kd.R_slice HO422.out; subst eo47))
                      go_ret
                      exact ⟨by first | rfl | (simp [errW_none, errW_some] <;> rfl) | (simp [*, errW_none, errW_some] <;> rfl), by repeat (first | (with_reducible first | exact HB.out | apply below_alloc | apply pw_below_drewN | apply below_drew1) | exact HB.out)⟩
                    · rw [if_neg c37] at H
                      have c37b0 : (t410 == t416) = false := by simpa using c37
                      (try (have c37b1 : decide (t410 = t416) = false := by simpa using c37))
                      (try (have c37b2 : (t410 == t416) = false := by simpa using c37))
                      (try (have c37b3 : ¬ (t410 = t416) := by simpa using c37))
                      clear c37
                      obtain rfl := Option.some.inj H
                      go_wp2_with (first | ((with_reducible refine gate_callee (f := 17) rfl ?_); refine goesL_ (some 67) rfl rfl Try.func17 (by kernel_rfl) rfl #[.slice A0 l0.length c0] rfl (by (try simp only [List.map_toArray, List.map_cons, List.map_nil]); first | done | rfl | (simp only [List.length_drop, List.length_take]; rfl)) ?_; (with_reducible refine (choose_Meet.calls _ _ l0 t408 t409 t410 _ ?side1 ?side2 A29.out).mono ?_); (case side1 => repeat (first | exact (Kd.C_below HR0.out HB.out) | (with_reducible refine Kd.C_alloc ?_ _) | (with_reducible refine Kd.C_drewN ?_ _) | (with_reducible refine Kd.C_drew ?_))); (case side2 => exact HC0.out); rintro e w48 ⟨rfl, hb⟩; refine ⟨_, rfl, ?_⟩; have n0_ := Aside0.mk (Kd.R_below (by (with_reducible repeat (first | apply Kd.R_alloc | apply Kd.R_drewN | apply Kd.R_drew)); exact HO_5.out) hb); have n1_ := Aside0.mk (below_step (by repeat (first | (with_reducible first | exact HB.out | apply below_alloc | apply pw_below_drewN | apply below_drew1) | exact HB.out)) hb); clear HO_5; clear HB; have HO_5 := n0_; have HB := n1_; clear n0_ n1_; (try clear hb); (try clear hb2); (try clear hk); (try clear hi); obtain ⟨Ao49, co49, eo49⟩ := Kd.R_slice HO_5.out; subst eo49) | ((with_reducible refine gate_callee (f := 17) rfl ?_); refine goesL_ (some 73) rfl rfl Try.func17 (by kernel_rfl) rfl #[.slice Ao49 x5_4.length co49] rfl (by (try simp only [List.map_toArray, List.map_cons, List.map_nil]); first | done | rfl | (simp only [List.length_drop, List.length_take]; rfl)) ?_; (with_reducible refine (choose_Meet.calls _ _ x5_4 t411 t412 t413 _ ?side1 ?side2 A30.out).mono ?_); (case side1 => repeat (first | exact (Kd.R_reads' HO_5.out).2.2 | (with_reducible refine Kd.C_alloc ?_ _) | (with_reducible refine Kd.C_drewN ?_ _) | (with_reducible refine Kd.C_drew ?_))); (case side2 => exact (Kd.R_reads' HO_5.out).2.1); rintro e w50 ⟨rfl, hb⟩; refine ⟨_, rfl, ?_⟩; have n0_ := Aside0.mk (Kd.R_below (by (with_reducible repeat (first | apply Kd.R_alloc | apply Kd.R_drewN | apply Kd.R_drew)); exact HO_5.out) hb); have n1_ := Aside0.mk (below_step (by repeat (first | (with_reducible first | exact HB.out | apply below_alloc | apply pw_below_drewN | apply below_drew1) | exact HB.out)) hb); clear HO_5; clear HB; have HO_5 := n0_; have HB := n1_; clear n0_ n1_; (try clear hb); (try clear hb2); (try clear hk); (try clear hi)) | ((with_reducible refine gate_callee (f := 18) rfl ?_); refine goesL_ (some 79) rfl rfl Try.func18 (by kernel_rfl) rfl #[.slice A0 l0.length c0] rfl (by (try simp only [List.map_toArray, List.map_cons, List.map_nil]); first | done | rfl | (simp only [List.length_drop, List.length_take]; rfl)) ?_; (with_reducible refine (foliotref13_Meet.calls kj4 _ _ l0 t414 t415 t416 _ ?side1 ?side2 A31.out).mono ?_); (case side1 => repeat (first | exact (Kd.C_below HR0.out HB.out) | (with_reducible refine Kd.C_alloc ?_ _) | (with_reducible refine Kd.C_drewN ?_ _) | (with_reducible refine Kd.C_drew ?_))); (case side2 => exact HC0.out); rintro e w51 ⟨rfl, hb⟩; refine ⟨_, rfl, ?_⟩; have n0_ := Aside0.mk (Kd.R_below (by (with_reducible repeat (first | apply Kd.R_alloc | apply Kd.R_drewN | apply Kd.R_drew)); exact HO_5.out) hb); have n1_ := Aside0.mk (below_step (by repeat (first | (with_reducible first | exact HB.out | apply below_alloc | apply pw_below_drewN | apply below_drew1) | exact HB.out)) hb); clear HO_5; clear HB; have HO_5 := n0_; have HB := n1_; clear n0_ n1_; (try clear hb); (try clear hb2); (try clear hk); (try clear hi)))
                      go_ret
                      exact ⟨by first | rfl | (simp [errW_none, errW_some] <;> rfl) | (simp [*, errW_none, errW_some] <;> rfl), by repeat (first | (with_reducible first | exact HB.out | apply below_alloc | apply pw_below_drewN | apply below_drew1) | exact HB.out)⟩
                  · rw [if_neg c36] at H
                    have c36b0 : (t409 == t415) = false := beq_eq_false_iff_ne.mpr c36
                    have c36b1 : (t409 != t415) = true := bne_iff_ne.mpr c36
                    obtain rfl := Option.some.inj H
                    go_wp2_with (first | ((with_reducible refine gate_callee (f := 17) rfl ?_); refine goesL_ (some 67) rfl rfl Try.func17 (by kernel_rfl) rfl #[.slice A0 l0.length c0] rfl (by (try simp only [List.map_toArray, List.map_cons, List.map_nil]); first | done | rfl | (simp only [List.length_drop, List.length_take]; rfl)) ?_; (with_reducible refine (choose_Meet.calls _ _ l0 t408 t409 t410 _ ?side1 ?side2 A29.out).mono ?_); (case side1 => repeat (first | exact (Kd.C_below HR0.out HB.out) | (with_reducible refine Kd.C_alloc ?_ _) | (with_reducible refine Kd.C_drewN ?_ _) | (with_reducible refine Kd.C_drew ?_))); (case side2 => exact HC0.out); rintro e w52 ⟨rfl, hb⟩; refine ⟨_, rfl, ?_⟩; have n0_ := Aside0.mk (Kd.R_below (by (with_reducible repeat (first | apply Kd.R_alloc | apply Kd.R_drewN | apply Kd.R_drew)); exact HO_5.out) hb); have n1_ := Aside0.mk (below_step (by repeat (first | (with_reducible first | exact HB.out | apply below_alloc | apply pw_below_drewN | apply below_drew1) | exact HB.out)) hb); clear HO_5; clear HB; have HO_5 := n0_; have HB := n1_; clear n0_ n1_; (try clear hb); (try clear hb2); (try clear hk); (try clear hi); obtain ⟨Ao53, co53, eo53⟩ := Kd.R_slice HO_5.out; subst eo53) | ((with_reducible refine gate_callee (f := 17) rfl ?_); refine goesL_ (some 73) rfl rfl Try.func17 (by kernel_rfl) rfl #[.slice Ao53 x5_4.length co53] rfl (by (try simp only [List.map_toArray, List.map_cons, List.map_nil]); first | done | rfl | (simp only [List.length_drop, List.length_take]; rfl)) ?_; (with_reducible refine (choose_Meet.calls _ _ x5_4 t411 t412 t413 _ ?side1 ?side2 A30.out).mono ?_); (case side1 => repeat (first | exact (Kd.R_reads' HO_5.out).2.2 | (with_reducible refine Kd.C_alloc ?_ _) | (with_reducible refine Kd.C_drewN ?_ _) | (with_reducible refine Kd.C_drew ?_))); (case side2 => exact (Kd.R_reads' HO_5.out).2.1); rintro e w54 ⟨rfl, hb⟩; refine ⟨_, rfl, ?_⟩; have n0_ := Aside0.mk (Kd.R_below (by (with_reducible repeat (first | apply Kd.R_alloc | apply Kd.R_drewN | apply Kd.R_drew)); exact HO_5.out) hb); have n1_ := Aside0.mk (below_step (by repeat (first | (with_reducible first | exact HB.out | apply below_alloc | apply pw_below_drewN | apply below_drew1) | exact HB.out)) hb); clear HO_5; clear HB; have HO_5 := n0_; have HB := n1_; clear n0_ n1_; (try clear hb); (try clear hb2); (try clear hk); (try clear hi)) | ((with_reducible refine gate_callee (f := 18) rfl ?_); refine goesL_ (some 79) rfl rfl Try.func18 (by kernel_rfl) rfl #[.slice A0 l0.length c0] rfl (by (try simp only [List.map_toArray, List.map_cons, List.map_nil]); first | done | rfl | (simp only [List.length_drop, List.length_take]; rfl)) ?_; (with_reducible refine (foliotref13_Meet.calls kj4 _ _ l0 t414 t415 t416 _ ?side1 ?side2 A31.out).mono ?_); (case side1 => repeat (first | exact (Kd.C_below HR0.out HB.out) | (with_reducible refine Kd.C_alloc ?_ _) | (with_reducible refine Kd.C_drewN ?_ _) | (with_reducible refine Kd.C_drew ?_))); (case side2 => exact HC0.out); rintro e w55 ⟨rfl, hb⟩; refine ⟨_, rfl, ?_⟩; have n0_ := Aside0.mk (Kd.R_below (by (with_reducible repeat (first | apply Kd.R_alloc | apply Kd.R_drewN | apply Kd.R_drew)); exact HO_5.out) hb); have n1_ := Aside0.mk (below_step (by repeat (first | (with_reducible first | exact HB.out | apply below_alloc | apply pw_below_drewN | apply below_drew1) | exact HB.out)) hb); clear HO_5; clear HB; have HO_5 := n0_; have HB := n1_; clear n0_ n1_; (try clear hb); (try clear hb2); (try clear hk); (try clear hi)))
                    go_ret
                    exact ⟨by first | rfl | (simp [errW_none, errW_some] <;> rfl) | (simp [*, errW_none, errW_some] <;> rfl), by repeat (first | (with_reducible first | exact HB.out | apply below_alloc | apply pw_below_drewN | apply below_drew1) | exact HB.out)⟩
                · rw [if_neg c35] at H
                  have c35b0 : (t408 == t414) = false := beq_eq_false_iff_ne.mpr c35
                  have c35b1 : (t408 != t414) = true := bne_iff_ne.mpr c35
                  obtain rfl := Option.some.inj H
                  go_wp2_with (first | ((with_reducible refine gate_callee (f := 17) rfl ?_); refine goesL_ (some 67) rfl rfl Try.func17 (by kernel_rfl) rfl #[.slice A0 l0.length c0] rfl (by (try simp only [List.map_toArray, List.map_cons, List.map_nil]); first | done | rfl | (simp only [List.length_drop, List.length_take]; rfl)) ?_; (with_reducible refine (choose_Meet.calls _ _ l0 t408 t409 t410 _ ?side1 ?side2 A29.out).mono ?_); (case side1 => repeat (first | exact (Kd.C_below HR0.out HB.out) | (with_reducible refine Kd.C_alloc ?_ _) | (with_reducible refine Kd.C_drewN ?_ _) | (with_reducible refine Kd.C_drew ?_))); (case side2 => exact HC0.out); rintro e w56 ⟨rfl, hb⟩; refine ⟨_, rfl, ?_⟩; have n0_ := Aside0.mk (Kd.R_below (by (with_reducible repeat (first | apply Kd.R_alloc | apply Kd.R_drewN | apply Kd.R_drew)); exact HO_5.out) hb); have n1_ := Aside0.mk (below_step (by repeat (first | (with_reducible first | exact HB.out | apply below_alloc | apply pw_below_drewN | apply below_drew1) | exact HB.out)) hb); clear HO_5; clear HB; have HO_5 := n0_; have HB := n1_; clear n0_ n1_; (try clear hb); (try clear hb2); (try clear hk); (try clear hi); obtain ⟨Ao57, co57, eo57⟩ := Kd.R_slice HO_5.out; subst eo57) | ((with_reducible refine gate_callee (f := 17) rfl ?_); refine goesL_ (some 73) rfl rfl Try.func17 (by kernel_rfl) rfl #[.slice Ao57 x5_4.length co57] rfl (by (try simp only [List.map_toArray, List.map_cons, List.map_nil]); first | done | rfl | (simp only [List.length_drop, List.length_take]; rfl)) ?_; (with_reducible refine (choose_Meet.calls _ _ x5_4 t411 t412 t413 _ ?side1 ?side2 A30.out).mono ?_); (case side1 => repeat (first | exact (Kd.R_reads' HO_5.out).2.2 | (with_reducible refine Kd.C_alloc ?_ _) | (with_reducible refine Kd.C_drewN ?_ _) | (with_reducible refine Kd.C_drew ?_))); (case side2 => exact (Kd.R_reads' HO_5.out).2.1); rintro e w58 ⟨rfl, hb⟩; refine ⟨_, rfl, ?_⟩; have n0_ := Aside0.mk (Kd.R_below (by (with_reducible repeat (first | apply Kd.R_alloc | apply Kd.R_drewN | apply Kd.R_drew)); exact HO_5.out) hb); have n1_ := Aside0.mk (below_step (by repeat (first | (with_reducible first | exact HB.out | apply below_alloc | apply pw_below_drewN | apply below_drew1) | exact HB.out)) hb); clear HO_5; clear HB; have HO_5 := n0_; have HB := n1_; clear n0_ n1_; (try clear hb); (try clear hb2); (try clear hk); (try clear hi)) | ((with_reducible refine gate_callee (f := 18) rfl ?_); refine goesL_ (some 79) rfl rfl Try.func18 (by kernel_rfl) rfl #[.slice A0 l0.length c0] rfl (by (try simp only [List.map_toArray, List.map_cons, List.map_nil]); first | done | rfl | (simp only [List.length_drop, List.length_take]; rfl)) ?_; (with_reducible refine (foliotref13_Meet.calls kj4 _ _ l0 t414 t415 t416 _ ?side1 ?side2 A31.out).mono ?_); (case side1 => repeat (first | exact (Kd.C_below HR0.out HB.out) | (with_reducible refine Kd.C_alloc ?_ _) | (with_reducible refine Kd.C_drewN ?_ _) | (with_reducible refine Kd.C_drew ?_))); (case side2 => exact HC0.out); rintro e w59 ⟨rfl, hb⟩; refine ⟨_, rfl, ?_⟩; have n0_ := Aside0.mk (Kd.R_below (by (with_reducible repeat (first | apply Kd.R_alloc | apply Kd.R_drewN | apply Kd.R_drew)); exact HO_5.out) hb); have n1_ := Aside0.mk (below_step (by repeat (first | (with_reducible first | exact HB.out | apply below_alloc | apply pw_below_drewN | apply below_drew1) | exact HB.out)) hb); clear HO_5; clear HB; have HO_5 := n0_; have HB := n1_; clear n0_ n1_; (try clear hb); (try clear hb2); (try clear hk); (try clear hi)))
                  go_ret
                  exact ⟨by first | rfl | (simp [errW_none, errW_some] <;> rfl) | (simp [*, errW_none, errW_some] <;> rfl), by repeat (first | (with_reducible first | exact HB.out | apply below_alloc | apply pw_below_drewN | apply below_drew1) | exact HB.out)⟩
              · rw [if_neg c34] at H
                have c34b0 : (t410 == t413) = false := by simpa using c34
                (try (have c34b1 : decide (t410 = t413) = false := by simpa using c34))
                (try (have c34b2 : (t410 == t413) = false := by simpa using c34))
                (try (have c34b3 : ¬ (t410 = t413) := by simpa using c34))
                clear c34
                obtain rfl := Option.some.inj H
                go_wp2_with (first | ((with_reducible refine gate_callee (f := 17) rfl ?_); refine goesL_ (some 67) rfl rfl Try.func17 (by kernel_rfl) rfl #[.slice A0 l0.length c0] rfl (by (try simp only [List.map_toArray, List.map_cons, List.map_nil]); first | done | rfl | (simp only [List.length_drop, List.length_take]; rfl)) ?_; (with_reducible refine (choose_Meet.calls _ _ l0 t408 t409 t410 _ ?side1 ?side2 A29.out).mono ?_); (case side1 => repeat (first | exact (Kd.C_below HR0.out HB.out) | (with_reducible refine Kd.C_alloc ?_ _) | (with_reducible refine Kd.C_drewN ?_ _) | (with_reducible refine Kd.C_drew ?_))); (case side2 => exact HC0.out); rintro e w60 ⟨rfl, hb⟩; refine ⟨_, rfl, ?_⟩; have n0_ := Aside0.mk (Kd.R_below (by (with_reducible repeat (first | apply Kd.R_alloc | apply Kd.R_drewN | apply Kd.R_drew)); exact HO_5.out) hb); have n1_ := Aside0.mk (below_step (by repeat (first | (with_reducible first | exact HB.out | apply below_alloc | apply pw_below_drewN | apply below_drew1) | exact HB.out)) hb); clear HO_5; clear HB; have HO_5 := n0_; have HB := n1_; clear n0_ n1_; (try clear hb); (try clear hb2); (try clear hk); (try clear hi); obtain ⟨Ao61, co61, eo61⟩ := Kd.R_slice HO_5.out; subst eo61) | ((with_reducible refine gate_callee (f := 17) rfl ?_); refine goesL_ (some 73) rfl rfl Try.func17 (by kernel_rfl) rfl #[.slice Ao61 x5_4.length co61] rfl (by (try simp only [List.map_toArray, List.map_cons, List.map_nil]); first | done | rfl | (simp only [List.length_drop, List.length_take]; rfl)) ?_; (with_reducible refine (choose_Meet.calls _ _ x5_4 t411 t412 t413 _ ?side1 ?side2 A30.out).mono ?_); (case side1 => repeat (first | exact (Kd.R_reads' HO_5.out).2.2 | (with_reducible refine Kd.C_alloc ?_ _) | (with_reducible refine Kd.C_drewN ?_ _) | (with_reducible refine Kd.C_drew ?_))); (case side2 => exact (Kd.R_reads' HO_5.out).2.1); rintro e w62 ⟨rfl, hb⟩; refine ⟨_, rfl, ?_⟩; have n0_ := Aside0.mk (Kd.R_below (by (with_reducible repeat (first | apply Kd.R_alloc | apply Kd.R_drewN | apply Kd.R_drew)); exact HO_5.out) hb); have n1_ := Aside0.mk (below_step (by repeat (first | (with_reducible first | exact HB.out | apply below_alloc | apply pw_below_drewN | apply below_drew1) | exact HB.out)) hb); clear HO_5; clear HB; have HO_5 := n0_; have HB := n1_; clear n0_ n1_; (try clear hb); (try clear hb2); (try clear hk); (try clear hi)) | ((with_reducible refine gate_callee (f := 18) rfl ?_); refine goesL_ (some 79) rfl rfl Try.func18 (by kernel_rfl) rfl #[.slice A0 l0.length c0] rfl (by (try simp only [List.map_toArray, List.map_cons, List.map_nil]); first | done | rfl | (simp only [List.length_drop, List.length_take]; rfl)) ?_; (with_reducible refine (foliotref13_Meet.calls kj4 _ _ l0 t414 t415 t416 _ ?side1 ?side2 A31.out).mono ?_); (case side1 => repeat (first | exact (Kd.C_below HR0.out HB.out) | (with_reducible refine Kd.C_alloc ?_ _) | (with_reducible refine Kd.C_drewN ?_ _) | (with_reducible refine Kd.C_drew ?_))); (case side2 => exact HC0.out); rintro e w63 ⟨rfl, hb⟩; refine ⟨_, rfl, ?_⟩; have n0_ := Aside0.mk (Kd.R_below (by (with_reducible repeat (first | apply Kd.R_alloc | apply Kd.R_drewN | apply Kd.R_drew)); exact HO_5.out) hb); have n1_ := Aside0.mk (below_step (by repeat (first | (with_reducible first | exact HB.out | apply below_alloc | apply pw_below_drewN | apply below_drew1) | exact HB.out)) hb); clear HO_5; clear HB; have HO_5 := n0_; have HB := n1_; clear n0_ n1_; (try clear hb); (try clear hb2); (try clear hk); (try clear hi)))
                go_ret
                exact ⟨by first | rfl | (simp [errW_none, errW_some] <;> rfl) | (simp [*, errW_none, errW_some] <;> rfl), by repeat (first | (with_reducible first | exact HB.out | apply below_alloc | apply pw_below_drewN | apply below_drew1) | exact HB.out)⟩
            · rw [if_neg c33] at H
              have c33b0 : (t409 == t412) = false := beq_eq_false_iff_ne.mpr c33
              have c33b1 : (t409 != t412) = true := bne_iff_ne.mpr c33
              obtain rfl := Option.some.inj H
              go_wp2_with (first | ((with_reducible refine gate_callee (f := 17) rfl ?_); refine goesL_ (some 67) rfl rfl Try.func17 (by kernel_rfl) rfl #[.slice A0 l0.length c0] rfl (by (try simp only [List.map_toArray, List.map_cons, List.map_nil]); first | done | rfl | (simp only [List.length_drop, List.length_take]; rfl)) ?_; (with_reducible refine (choose_Meet.calls _ _ l0 t408 t409 t410 _ ?side1 ?side2 A29.out).mono ?_); (case side1 => repeat (first | exact (Kd.C_below HR0.out HB.out) | (with_reducible refine Kd.C_alloc ?_ _) | (with_reducible refine Kd.C_drewN ?_ _) | (with_reducible refine Kd.C_drew ?_))); (case side2 => exact HC0.out); rintro e w64 ⟨rfl, hb⟩; refine ⟨_, rfl, ?_⟩; have n0_ := Aside0.mk (Kd.R_below (by (with_reducible repeat (first | apply Kd.R_alloc | apply Kd.R_drewN | apply Kd.R_drew)); exact HO_5.out) hb); have n1_ := Aside0.mk (below_step (by repeat (first | (with_reducible first | exact HB.out | apply below_alloc | apply pw_below_drewN | apply below_drew1) | exact HB.out)) hb); clear HO_5; clear HB; have HO_5 := n0_; have HB := n1_; clear n0_ n1_; (try clear hb); (try clear hb2); (try clear hk); (try clear hi); obtain ⟨Ao65, co65, eo65⟩ := Kd.R_slice HO_5.out; subst eo65) | ((with_reducible refine gate_callee (f := 17) rfl ?_); refine goesL_ (some 73) rfl rfl Try.func17 (by kernel_rfl) rfl #[.slice Ao65 x5_4.length co65] rfl (by (try simp only [List.map_toArray, List.map_cons, List.map_nil]); first | done | rfl | (simp only [List.length_drop, List.length_take]; rfl)) ?_; (with_reducible refine (choose_Meet.calls _ _ x5_4 t411 t412 t413 _ ?side1 ?side2 A30.out).mono ?_); (case side1 => repeat (first | exact (Kd.R_reads' HO_5.out).2.2 | (with_reducible refine Kd.C_alloc ?_ _) | (with_reducible refine Kd.C_drewN ?_ _) | (with_reducible refine Kd.C_drew ?_))); (case side2 => exact (Kd.R_reads' HO_5.out).2.1); rintro e w66 ⟨rfl, hb⟩; refine ⟨_, rfl, ?_⟩; have n0_ := Aside0.mk (Kd.R_below (by (with_reducible repeat (first | apply Kd.R_alloc | apply Kd.R_drewN | apply Kd.R_drew)); exact HO_5.out) hb); have n1_ := Aside0.mk (below_step (by repeat (first | (with_reducible first | exact HB.out | apply below_alloc | apply pw_below_drewN | apply below_drew1) | exact HB.out)) hb); clear HO_5; clear HB; have HO_5 := n0_; have HB := n1_; clear n0_ n1_; (try clear hb); (try clear hb2); (try clear hk); (try clear hi)) | ((with_reducible refine gate_callee (f := 18) rfl ?_); refine goesL_ (some 79) rfl rfl Try.func18 (by kernel_rfl) rfl #[.slice A0 l0.length c0] rfl (by (try simp only [List.map_toArray, List.map_cons, List.map_nil]); first | done | rfl | (simp only [List.length_drop, List.length_take]; rfl)) ?_; (with_reducible refine (foliotref13_Meet.calls kj4 _ _ l0 t414 t415 t416 _ ?side1 ?side2 A31.out).mono ?_); (case side1 => repeat (first | exact (Kd.C_below HR0.out HB.out) | (with_reducible refine Kd.C_alloc ?_ _) | (with_reducible refine Kd.C_drewN ?_ _) | (with_reducible refine Kd.C_drew ?_))); (case side2 => exact HC0.out); rintro e w67 ⟨rfl, hb⟩; refine ⟨_, rfl, ?_⟩; have n0_ := Aside0.mk (Kd.R_below (by (with_reducible repeat (first | apply Kd.R_alloc | apply Kd.R_drewN | apply Kd.R_drew)); exact HO_5.out) hb); have n1_ := Aside0.mk (below_step (by repeat (first | (with_reducible first | exact HB.out | apply below_alloc | apply pw_below_drewN | apply below_drew1) | exact HB.out)) hb); clear HO_5; clear HB; have HO_5 := n0_; have HB := n1_; clear n0_ n1_; (try clear hb); (try clear hb2); (try clear hk); (try clear hi)))
              go_ret
              exact ⟨by first | rfl | (simp [errW_none, errW_some] <;> rfl) | (simp [*, errW_none, errW_some] <;> rfl), by repeat (first | (with_reducible first | exact HB.out | apply below_alloc | apply pw_below_drewN | apply below_drew1) | exact HB.out)⟩
          · rw [if_neg c32] at H
            have c32b0 : (t408 == t411) = false := beq_eq_false_iff_ne.mpr c32
            have c32b1 : (t408 != t411) = true := bne_iff_ne.mpr c32
            obtain rfl := Option.some.inj H
            go_wp2_with (first | ((with_reducible refine gate_callee (f := 17) rfl ?_); refine goesL_ (some 67) rfl rfl Try.func17 (by kernel_rfl) rfl #[.slice A0 l0.length c0] rfl (by (try simp only [List.map_toArray, List.map_cons, List.map_nil]); first | done | rfl | (simp only [List.length_drop, List.length_take]; rfl)) ?_; (with_reducible refine (choose_Meet.calls _ _ l0 t408 t409 t410 _ ?side1 ?side2 A29.out).mono ?_); (case side1 => repeat (first | exact (Kd.C_below HR0.out HB.out) | (with_reducible refine Kd.C_alloc ?_ _) | (with_reducible refine Kd.C_drewN ?_ _) | (with_reducible refine Kd.C_drew ?_))); (case side2 => exact HC0.out); rintro e w68 ⟨rfl, hb⟩; refine ⟨_, rfl, ?_⟩; have n0_ := Aside0.mk (Kd.R_below (by (with_reducible repeat (first | apply Kd.R_alloc | apply Kd.R_drewN | apply Kd.R_drew)); exact HO_5.out) hb); have n1_ := Aside0.mk (below_step (by repeat (first | (with_reducible first | exact HB.out | apply below_alloc | apply pw_below_drewN | apply below_drew1) | exact HB.out)) hb); clear HO_5; clear HB; have HO_5 := n0_; have HB := n1_; clear n0_ n1_; (try clear hb); (try clear hb2); (try clear hk); (try clear hi); obtain ⟨Ao69, co69, eo69⟩ := Kd.R_slice HO_5.out; subst eo69) | ((with_reducible refine gate_callee (f := 17) rfl ?_); refine goesL_ (some 73) rfl rfl Try.func17 (by kernel_rfl) rfl #[.slice Ao69 x5_4.length co69] rfl (by (try simp only [List.map_toArray, List.map_cons, List.map_nil]); first | done | rfl | (simp only [List.length_drop, List.length_take]; rfl)) ?_; (with_reducible refine (choose_Meet.calls _ _ x5_4 t411 t412 t413 _ ?side1 ?side2 A30.out).mono ?_); (case side1 => repeat (first | exact (Kd.R_reads' HO_5.out).2.2 | (with_reducible refine Kd.C_alloc ?_ _) | (with_reducible refine Kd.C_drewN ?_ _) | (with_reducible refine Kd.C_drew ?_))); (case side2 => exact (Kd.R_reads' HO_5.out).2.1); rintro e w70 ⟨rfl, hb⟩; refine ⟨_, rfl, ?_⟩; have n0_ := Aside0.mk (Kd.R_below (by (with_reducible repeat (first | apply Kd.R_alloc | apply Kd.R_drewN | apply Kd.R_drew)); exact HO_5.out) hb); have n1_ := Aside0.mk (below_step (by repeat (first | (with_reducible first | exact HB.out | apply below_alloc | apply pw_below_drewN | apply below_drew1) | exact HB.out)) hb); clear HO_5; clear HB; have HO_5 := n0_; have HB := n1_; clear n0_ n1_; (try clear hb); (try clear hb2); (try clear hk); (try clear hi)) | ((with_reducible refine gate_callee (f := 18) rfl ?_); refine goesL_ (some 79) rfl rfl Try.func18 (by kernel_rfl) rfl #[.slice A0 l0.length c0] rfl (by (try simp only [List.map_toArray, List.map_cons, List.map_nil]); first | done | rfl | (simp only [List.length_drop, List.length_take]; rfl)) ?_; (with_reducible refine (foliotref13_Meet.calls kj4 _ _ l0 t414 t415 t416 _ ?side1 ?side2 A31.out).mono ?_); (case side1 => repeat (first | exact (Kd.C_below HR0.out HB.out) | (with_reducible refine Kd.C_alloc ?_ _) | (with_reducible refine Kd.C_drewN ?_ _) | (with_reducible refine Kd.C_drew ?_))); (case side2 => exact HC0.out); rintro e w71 ⟨rfl, hb⟩; refine ⟨_, rfl, ?_⟩; have n0_ := Aside0.mk (Kd.R_below (by (with_reducible repeat (first | apply Kd.R_alloc | apply Kd.R_drewN | apply Kd.R_drew)); exact HO_5.out) hb); have n1_ := Aside0.mk (below_step (by repeat (first | (with_reducible first | exact HB.out | apply below_alloc | apply pw_below_drewN | apply below_drew1) | exact HB.out)) hb); clear HO_5; clear HB; have HO_5 := n0_; have HB := n1_; clear n0_ n1_; (try clear hb); (try clear hb2); (try clear hk); (try clear hi)))
            go_ret
            exact ⟨by first | rfl | (simp [errW_none, errW_some] <;> rfl) | (simp [*, errW_none, errW_some] <;> rfl), by repeat (first | (with_reducible first | exact HB.out | apply below_alloc | apply pw_below_drewN | apply below_drew1) | exact HB.out)⟩
    · rw [if_neg c4] at H
      exact absurd H (by simp)

end Go.Proofs.Ytlhecfleanppmaa.Pr
