-- PRINTED by print.py (a twelfth state) out of the translation. Not trusted: Lean checks it.
import Derived.Test.YtlhecfleanppmaaPrx0
import Derived.Test.YtlhecfleanppmaaPrx3
import Derived.Test.YtlhecfleanppmaaPrx5
import Derived.Test.YtlhecfleanppmaaPrx14
import Derived.Test.YtlhecfleanppmaaHand
namespace Go.Proofs.Ytlhecfleanppmaa.Pr
open Go.RowKit Go.Proofs.YtlhecfleanppmaaW.PrintWords Go.Proofs.YtlhecfleanppmaaW.PrintLast Go.Proofs.YtlhecfleanppmaaW.PrintMore
attribute [local go_sem] max2_int min2_int max_two min_two max_three min_three max_four min_four   -- for this text's walks alone
set_option linter.unusedVariables false
set_option linter.unusedSimpArgs false

/-! ### foliotlaw13_ChooseEnds: function 3 -/
def foliotlaw13_ChooseEnds.l0 : Nat → List (S26) → Int → Int → Option (Bool)
  | 0, _, _, _ => none
  | k + 1, x0, x1, x5 => if x5 < (x0.length : Int) then (if 0 ≤ x5 then ((choose_Fit.f ((rd_T26 x0 x5).f0) ((rd_T26 x0 x5).f1) ((rd_T26 x0 x5).f2) ((rd_T26 x0 x5).f3) ((rd_T26 x0 x5).f4) ((rd_T26 x0 x5).f5) ((rd_T26 x0 x5).f6) x1).bind fun t194 => ((foliotref13_Fit.f ((rd_T26 x0 x5).f0) ((rd_T26 x0 x5).f1) ((rd_T26 x0 x5).f2) ((rd_T26 x0 x5).f3) ((rd_T26 x0 x5).f4) ((rd_T26 x0 x5).f5) ((rd_T26 x0 x5).f6) x1).bind fun t196 => (if (t194 != t196) = true then (some false) else (foliotlaw13_ChooseEnds.l0 k x0 x1 (wrap64 (x5 + 1)))))) else (none)) else ((choose_Ends.f x0).bind fun t186 => ((foliotref13_All.f k x0).bind fun t189 => ((foliotlaw13_asTold.f t186 t189).bind fun t192 => (some t192))))
def foliotlaw13_ChooseEnds.f (k : Nat) (l0 : List (S26)) (a1 : Int) : Option (Bool) := if (l0.length : Int) > 256 then (some true) else (foliotlaw13_ChooseEnds.l0 k l0 a1 0)
theorem foliotlaw13_ChooseEnds.mono_l : ∀ k, (∀ y0 y1 y2, LeO (foliotlaw13_ChooseEnds.l0 k y0 y1 y2) (foliotlaw13_ChooseEnds.l0 (k + 1) y0 y1 y2))
  | 0 => fun _ _ _ r h => by simp [foliotlaw13_ChooseEnds.l0] at h
  | k + 1 => by
    have ih0 := foliotlaw13_ChooseEnds.mono_l k
    · intro y0 y1 y2
      unfold foliotlaw13_ChooseEnds.l0
      repeat' first
      | (with_reducible exact ih0 _ _ _)
      | (with_reducible exact foliotref13_All.mono _ _)
      | (with_reducible exact LeO.refl _)
      | (with_reducible exact LeO.none _)
      | (with_reducible refine LeO.ite ?_ ?_)
      | (with_reducible refine LeO.bind ?_ (fun _ => ?_))
      | exact ih0 _ _ _
      | exact foliotref13_All.mono _ _
      | exact LeO.none _
      | refine LeO.ite ?_ ?_
      | refine LeO.bind ?_ (fun _ => ?_)
theorem foliotlaw13_ChooseEnds.mono : ∀ a0 a1 k, LeO (foliotlaw13_ChooseEnds.f k a0 a1) (foliotlaw13_ChooseEnds.f (k + 1) a0 a1) := by
  intro a0 a1 k
  have ih0 := foliotlaw13_ChooseEnds.mono_l k
  unfold foliotlaw13_ChooseEnds.f
  repeat' first
      | (with_reducible exact ih0 _ _ _)
      | (with_reducible exact foliotref13_All.mono _ _)
      | (with_reducible exact LeO.refl _)
      | (with_reducible exact LeO.none _)
      | (with_reducible refine LeO.ite ?_ ?_)
      | (with_reducible refine LeO.bind ?_ (fun _ => ?_))
      | exact ih0 _ _ _
      | exact foliotref13_All.mono _ _
      | exact LeO.none _
      | refine LeO.ite ?_ ?_
      | refine LeO.bind ?_ (fun _ => ?_)
def foliotlaw13_ChooseEnds.T6 : Bool × List (List Nat × List Nat) := (true, [([], []), ([], []), ([0, 1], [0, 1]), ([2], [2]), ([], []), ([3, 4], [3, 4]), ([], []), ([], []), ([6, 7], [6, 7]), ([8], [8]), ([], []), ([9, 10, 5], [9, 10]), ([5, 11], [5, 11])])
def foliotlaw13_ChooseEnds.B6 : List Nat := [0, 0, 3, 7, 0, 31, 0, 0, 192, 448, 0, 2047, 4095]
theorem foliotlaw13_ChooseEnds.tab6 : rtab .any (opsOf Try.f3 6) = foliotlaw13_ChooseEnds.T6 := by kernel_rfl
theorem foliotlaw13_ChooseEnds.bits6 : waitsOk foliotlaw13_ChooseEnds.T6.2 foliotlaw13_ChooseEnds.B6 = true := by kernel_rfl
set_option maxHeartbeats 8000000 in
set_option maxRecDepth 100000 in
theorem foliotlaw13_ChooseEnds.calls (k : Nat) (A0 : Option Addr) (c0 : Nat) (l0 : List (S26)) (a1 : Int) (r : Bool) (w : World) (hr0 : Kd.C k26 w A0 l0.length l0) (hc0 : l0.length ≤ c0) (h : foliotlaw13_ChooseEnds.f k l0 a1 = some r) :
    Calls Try.prog 3 #[.slice A0 l0.length c0, .int .i64 a1] w fun e w' => e = .returned (.bool r) ∧ Below w.heap.size w w' := by
  have hu26 := Try.underlying26
  have HR0 := Aside0.mk hr0
  have HC0 := Aside0.mk hc0
  clear hr0 hc0
  have HB := Aside0.mk (Below.refl w.heap.size w)
  have H : (if (l0.length : Int) > 256 then (some true) else (foliotlaw13_ChooseEnds.l0 k l0 a1 0)) = some r := h
  clear h
  by_cases c3 : (l0.length : Int) > 256
  · rw [if_pos c3] at H
    have c3b0 : decide (256 < (l0.length : Int)) = true := decide_eq_true c3
    have c3b1 : decide (256 < l0.length) = true := decide_eq_true (by omega)
    clear c3
    obtain rfl := Option.some.inj H
    go_enter Try.func3, Try.ntmps3
    go_wp2
    go_ret
    exact ⟨by first | rfl | (simp [errW_none, errW_some] <;> rfl) | (simp [*, errW_none, errW_some] <;> rfl), by repeat (first | (with_reducible first | exact HB.out | apply below_alloc | apply pw_below_drewN | apply below_drew1) | exact HB.out)⟩
  · rw [if_neg c3] at H
    have c3b0 : decide (256 < (l0.length : Int)) = false := decide_eq_false c3
    have c3b1 : decide (256 < l0.length) = false := decide_eq_false (by omega)
    clear c3
    have H' := Aside0.mk H
    clear H
    go_enter Try.func3, Try.ntmps3
    go_wp2
    go_loopg [5] k (fun kq v5 w' => ∃ (x5_1 : Int), v5 = .int .i64 x5_1 ∧ Aside0 (foliotlaw13_ChooseEnds.l0 kq l0 a1 x5_1 = some r) ∧ Aside0 (kq ≤ k) ∧ Aside0 (Below w.heap.size w w'))
    case atStart => exact ⟨(0), (by first | rfl | (simp; done) | (simp [*]; done)), H', ⟨Nat.le_refl _⟩, ⟨by repeat (first | (with_reducible first | exact HB.out | apply below_alloc | apply pw_below_drewN | apply below_drew1) | exact HB.out)⟩⟩
    case round =>
      clear H'
      try clear p2
      try clear c3
      try clear c3b0
      try clear c3b1
      obtain ⟨x5_1, rfl, HA, HK1, HB⟩ := hrel
      cases gk with
      | zero => exact absurd HA.out (by simp [foliotlaw13_ChooseEnds.l0])
      | succ k1 =>
        have H := HA.out
        clear HA
        simp only [foliotlaw13_ChooseEnds.l0] at H
        by_cases c4 : x5_1 < (l0.length : Int)
        · rw [if_pos c4] at H
          have c4b0 : decide (x5_1 < (l0.length : Int)) = true := decide_eq_true c4
          clear c4
          by_cases c5 : 0 ≤ x5_1
          · rw [if_pos c5] at H
            have c5b0 : decide (0 ≤ x5_1) = true := decide_eq_true c5
            clear c5
            replace H := Option.bind_eq_some_iff.mp H
            obtain ⟨t194, A60, H⟩ := H
            replace H : ((foliotref13_Fit.f ((rd_T26 l0 x5_1).f0) ((rd_T26 l0 x5_1).f1) ((rd_T26 l0 x5_1).f2) ((rd_T26 l0 x5_1).f3) ((rd_T26 l0 x5_1).f4) ((rd_T26 l0 x5_1).f5) ((rd_T26 l0 x5_1).f6) a1).bind fun t196 => (if (t194 != t196) = true then (some false) else (foliotlaw13_ChooseEnds.l0 k1 l0 a1 (wrap64 (x5_1 + 1))))) = some r := H
            have A6 := Aside0.mk A60
            clear A60
            replace H := Option.bind_eq_some_iff.mp H
            obtain ⟨t196, A70, H⟩ := H
            replace H : (if (t194 != t196) = true then (some false) else (foliotlaw13_ChooseEnds.l0 k1 l0 a1 (wrap64 (x5_1 + 1)))) = some r := H
            have A7 := Aside0.mk A70
            clear A70
            by_cases c8 : (t194 != t196) = true
            · rw [if_pos c8] at H
              have c8b0 : (t194 != t196) = true := c8
              (try (have c8b1 : decide (t194 = t196) = false := by simpa using c8))
              (try (have c8b2 : (t194 == t196) = false := by simpa using c8))
              (try (have c8b3 : ¬ (t194 = t196) := by simpa using c8))
              clear c8
              obtain rfl := Option.some.inj H
              try go_wp2
              have n0_ := Aside0.mk (below_drew1 HB.out)
              clear HB
              have HB := n0_
              clear n0_
              have p193 : 0 ≤ (x5_1 : Int) := of_decide_eq_true (by first | (with_reducible assumption) | assumption)
              have q193 : x5_1 < (l0.length : Int) := of_decide_eq_true (by first | (with_reducible assumption) | assumption)
              obtain ⟨ad193, e193, hx193_0, hx193_1, hx193_2, hx193_3, hx193_4, hx193_5, hx193_6⟩ := at_T26 HR0.out x5_1 p193 q193
              have hw193_6 := hx193_6
              have hw193_5 := hx193_5
              have hw193_4 := hx193_4
              have hw193_3 := hx193_3
              have hw193_2 := hx193_2
              have hw193_1 := hx193_1
              have hw193_0 := hx193_0
              cases e193
              replace hx193_0 := (HB.out.cell (World.block_lt_of_cell? w _ hx193_0)).trans hx193_0
              replace hx193_1 := (HB.out.cell (World.block_lt_of_cell? w _ hx193_1)).trans hx193_1
              replace hx193_2 := (HB.out.cell (World.block_lt_of_cell? w _ hx193_2)).trans hx193_2
              replace hx193_3 := (HB.out.cell (World.block_lt_of_cell? w _ hx193_3)).trans hx193_3
              replace hx193_4 := (HB.out.cell (World.block_lt_of_cell? w _ hx193_4)).trans hx193_4
              replace hx193_5 := (HB.out.cell (World.block_lt_of_cell? w _ hx193_5)).trans hx193_5
              replace hx193_6 := (HB.out.cell (World.block_lt_of_cell? w _ hx193_6)).trans hx193_6
              replace p193 := eq_true p193
              replace q193 := eq_true q193
              have p195 : 0 ≤ (x5_1 : Int) := of_decide_eq_true (by first | (with_reducible assumption) | assumption)
              have q195 : x5_1 < (l0.length : Int) := of_decide_eq_true (by first | (with_reducible assumption) | assumption)
              obtain ⟨ad195, e195, hx195_0, hx195_1, hx195_2, hx195_3, hx195_4, hx195_5, hx195_6⟩ := at_T26 HR0.out x5_1 p195 q195
              have hw195_6 := hx195_6
              have hw195_5 := hx195_5
              have hw195_4 := hx195_4
              have hw195_3 := hx195_3
              have hw195_2 := hx195_2
              have hw195_1 := hx195_1
              have hw195_0 := hx195_0
              obtain rfl : ad193 = ad195 := (by injection e195)
              replace hx195_0 := (HB.out.cell (World.block_lt_of_cell? w _ hx195_0)).trans hx195_0
              replace hx195_1 := (HB.out.cell (World.block_lt_of_cell? w _ hx195_1)).trans hx195_1
              replace hx195_2 := (HB.out.cell (World.block_lt_of_cell? w _ hx195_2)).trans hx195_2
              replace hx195_3 := (HB.out.cell (World.block_lt_of_cell? w _ hx195_3)).trans hx195_3
              replace hx195_4 := (HB.out.cell (World.block_lt_of_cell? w _ hx195_4)).trans hx195_4
              replace hx195_5 := (HB.out.cell (World.block_lt_of_cell? w _ hx195_5)).trans hx195_5
              replace hx195_6 := (HB.out.cell (World.block_lt_of_cell? w _ hx195_6)).trans hx195_6
              replace p195 := eq_true p195
              replace q195 := eq_true q195
              refine start_ (n := 13) (S := fun w' => w'.cell? (ad193.add ((x5_1).toNat * 7)) = some (.int .i64 ((rd_T26 l0 x5_1).f0)) ∧ w'.cell? ⟨(ad193.add ((x5_1).toNat * 7)).block, (ad193.add ((x5_1).toNat * 7)).off + 1, none⟩ = some (.int .i64 ((rd_T26 l0 x5_1).f1)) ∧ w'.cell? ⟨(ad193.add ((x5_1).toNat * 7)).block, (ad193.add ((x5_1).toNat * 7)).off + 2, none⟩ = some (.int .i64 ((rd_T26 l0 x5_1).f2)) ∧ w'.cell? ⟨(ad193.add ((x5_1).toNat * 7)).block, (ad193.add ((x5_1).toNat * 7)).off + 3, none⟩ = some (.int .i64 ((rd_T26 l0 x5_1).f3)) ∧ w'.cell? ⟨(ad193.add ((x5_1).toNat * 7)).block, (ad193.add ((x5_1).toNat * 7)).off + 4, none⟩ = some (.int .i64 ((rd_T26 l0 x5_1).f4)) ∧ w'.cell? ⟨(ad193.add ((x5_1).toNat * 7)).block, (ad193.add ((x5_1).toNat * 7)).off + 5, none⟩ = some (.bool ((rd_T26 l0 x5_1).f5)) ∧ w'.cell? ⟨(ad193.add ((x5_1).toNat * 7)).block, (ad193.add ((x5_1).toNat * 7)).off + 6, none⟩ = some (.bool ((rd_T26 l0 x5_1).f6)) ∧ w'.cell? (ad193.add ((x5_1).toNat * 7)) = some (.int .i64 ((rd_T26 l0 x5_1).f0)) ∧ w'.cell? ⟨(ad193.add ((x5_1).toNat * 7)).block, (ad193.add ((x5_1).toNat * 7)).off + 1, none⟩ = some (.int .i64 ((rd_T26 l0 x5_1).f1)) ∧ w'.cell? ⟨(ad193.add ((x5_1).toNat * 7)).block, (ad193.add ((x5_1).toNat * 7)).off + 2, none⟩ = some (.int .i64 ((rd_T26 l0 x5_1).f2)) ∧ w'.cell? ⟨(ad193.add ((x5_1).toNat * 7)).block, (ad193.add ((x5_1).toNat * 7)).off + 3, none⟩ = some (.int .i64 ((rd_T26 l0 x5_1).f3)) ∧ w'.cell? ⟨(ad193.add ((x5_1).toNat * 7)).block, (ad193.add ((x5_1).toNat * 7)).off + 4, none⟩ = some (.int .i64 ((rd_T26 l0 x5_1).f4)) ∧ w'.cell? ⟨(ad193.add ((x5_1).toNat * 7)).block, (ad193.add ((x5_1).toNat * 7)).off + 5, none⟩ = some (.bool ((rd_T26 l0 x5_1).f5)) ∧ w'.cell? ⟨(ad193.add ((x5_1).toNat * 7)).block, (ad193.add ((x5_1).toNat * 7)).off + 6, none⟩ = some (.bool ((rd_T26 l0 x5_1).f6))) (ds := []) #[false, false, false, false, false, false, false, false, false, false, false, false, false] (by kernel_rfl) rfl rfl ⟨((HB.out.cell (World.block_lt_of_cell? w _ hw193_0)).trans hw193_0), ((HB.out.cell (World.block_lt_of_cell? w _ hw193_1)).trans hw193_1), ((HB.out.cell (World.block_lt_of_cell? w _ hw193_2)).trans hw193_2), ((HB.out.cell (World.block_lt_of_cell? w _ hw193_3)).trans hw193_3), ((HB.out.cell (World.block_lt_of_cell? w _ hw193_4)).trans hw193_4), ((HB.out.cell (World.block_lt_of_cell? w _ hw193_5)).trans hw193_5), ((HB.out.cell (World.block_lt_of_cell? w _ hw193_6)).trans hw193_6), ((HB.out.cell (World.block_lt_of_cell? w _ hw195_0)).trans hw195_0), ((HB.out.cell (World.block_lt_of_cell? w _ hw195_1)).trans hw195_1), ((HB.out.cell (World.block_lt_of_cell? w _ hw195_2)).trans hw195_2), ((HB.out.cell (World.block_lt_of_cell? w _ hw195_3)).trans hw195_3), ((HB.out.cell (World.block_lt_of_cell? w _ hw195_4)).trans hw195_4), ((HB.out.cell (World.block_lt_of_cell? w _ hw195_5)).trans hw195_5), ((HB.out.cell (World.block_lt_of_cell? w _ hw195_6)).trans hw195_6)⟩ (fun hHeld => ?_); refine with_tabW foliotlaw13_ChooseEnds.tab6 foliotlaw13_ChooseEnds.bits6 (fun HT_ HW_ => ?_)
              generalize wr.drew = w9 at HB hx193_0 hx193_1 hx193_2 hx193_3 hx193_4 hx193_5 hx193_6 hx195_0 hx195_1 hx195_2 hx195_3 hx195_4 hx195_5 hx195_6 hHeld ⊢
              refine pure_ (i := 0) (N := some 15) (v := ?_) (a' := ?_) #[true, false, false, false, false, false, false, false, false, false, false, false, false] rfl rfl (any_of HT_.out (by kernel_rfl)) (fun _ _ _ h => h) (Or.inl ⟨by rfl, ?_⟩) ?_ ?_
              rotate_left
              · intro w'
                go_simp
                with_reducible rfl
              rotate_left
              · simp only [Act.put, List.setIfInBounds_toArray, List.set_cons_zero, List.set_cons_succ, i64_w, i32_w]
                rfl
              refine pure_ (i := 1) (N := some 16) (v := ?_) (a' := ?_) #[true, true, false, false, false, false, false, false, false, false, false, false, false] rfl rfl (any_of HT_.out (by kernel_rfl)) (fun _ _ _ h => h) (Or.inl ⟨by rfl, ?_⟩) ?_ ?_
              rotate_left
              · intro w'
                go_simp
                with_reducible rfl
              rotate_left
              · simp only [Act.put, List.setIfInBounds_toArray, List.set_cons_zero, List.set_cons_succ, i64_w, i32_w]
                rfl
              refine pure_ (i := 2) (N := some 17) (v := ?_) (a' := ?_) #[true, true, true, false, false, false, false, false, false, false, false, false, false] rfl rfl (any_of HT_.out (by kernel_rfl)) (fun _ _ _ h => h) (Or.inl ⟨by rfl, ?_⟩) ?_ ?_
              rotate_left
              · intro w'
                go_simp
                with_reducible rfl
              rotate_left
              · simp only [Act.put, List.setIfInBounds_toArray, List.set_cons_zero, List.set_cons_succ, i64_w, i32_w]
                rfl
              refine pure_ (i := 4) (N := some 19) (v := ?_) (a' := ?_) #[true, true, true, false, true, false, false, false, false, false, false, false, false] rfl rfl (any_of HT_.out (by kernel_rfl)) (fun _ _ _ h => h) (Or.inl ⟨by rfl, ?_⟩) ?_ ?_
              rotate_left
              · intro w'
                go_simp
                with_reducible rfl
              rotate_left
              · simp only [Act.put, List.setIfInBounds_toArray, List.set_cons_zero, List.set_cons_succ, i64_w, i32_w]
                rfl
              refine pure_ (i := 6) (N := some 21) (v := ?_) (a' := ?_) #[true, true, true, false, true, false, true, false, false, false, false, false, false] rfl rfl (any_of HT_.out (by kernel_rfl)) (fun _ _ _ h => h) (Or.inl ⟨by rfl, ?_⟩) ?_ ?_
              rotate_left
              · intro w'
                go_simp
                with_reducible rfl
              rotate_left
              · simp only [Act.put, List.setIfInBounds_toArray, List.set_cons_zero, List.set_cons_succ, i64_w, i32_w]
                rfl
              refine pure_ (i := 7) (N := some 22) (v := ?_) (a' := ?_) #[true, true, true, false, true, false, true, true, false, false, false, false, false] rfl rfl (any_of HT_.out (by kernel_rfl)) (fun _ _ _ h => h) (Or.inl ⟨by rfl, ?_⟩) ?_ ?_
              rotate_left
              · intro w'
                go_simp
                with_reducible rfl
              rotate_left
              · simp only [Act.put, List.setIfInBounds_toArray, List.set_cons_zero, List.set_cons_succ, i64_w, i32_w]
                rfl
              refine pure_ (i := 8) (N := some 23) (v := ?_) (a' := ?_) #[true, true, true, false, true, false, true, true, true, false, false, false, false] rfl rfl (any_of HT_.out (by kernel_rfl)) (fun _ _ _ h => h) (Or.inl ⟨by rfl, ?_⟩) ?_ ?_
              rotate_left
              · intro w'
                go_simp
                with_reducible rfl
              rotate_left
              · simp only [Act.put, List.setIfInBounds_toArray, List.set_cons_zero, List.set_cons_succ, i64_w, i32_w]
                rfl
              refine pure_ (i := 10) (N := some 25) (v := ?_) (a' := ?_) #[true, true, true, false, true, false, true, true, true, false, true, false, false] rfl rfl (any_of HT_.out (by kernel_rfl)) (fun _ _ _ h => h) (Or.inl ⟨by rfl, ?_⟩) ?_ ?_
              rotate_left
              · intro w'
                go_simp
                with_reducible rfl
              rotate_left
              · simp only [Act.put, List.setIfInBounds_toArray, List.set_cons_zero, List.set_cons_succ, i64_w, i32_w]
                rfl
              refine take_ (i := 3) (N := some 18) (v := ?_) (a' := ?_) #[true, true, true, true, true, false, true, true, true, false, true, false, false] rfl rfl (take_ofW HT_.out HW_.out (by kernel_rfl)) (fun _ _ _ h => h) (Or.inl ⟨by rfl, ?_⟩) hHeld ?_ ?_
              rotate_left
              · rintro w' ⟨s0, s1, s2, s3, s4, s5, s6, s7, s8, s9, s10, s11, s12, s13⟩
                go_simp
                with_reducible rfl
              rotate_left
              · simp only [Act.put, List.setIfInBounds_toArray, List.set_cons_zero, List.set_cons_succ, i64_w, i32_w]
                rfl
              refine take_ (i := 9) (N := some 24) (v := ?_) (a' := ?_) #[true, true, true, true, true, false, true, true, true, true, true, false, false] rfl rfl (take_ofW HT_.out HW_.out (by kernel_rfl)) (fun _ _ _ h => h) (Or.inl ⟨by rfl, ?_⟩) hHeld ?_ ?_
              rotate_left
              · rintro w' ⟨s0, s1, s2, s3, s4, s5, s6, s7, s8, s9, s10, s11, s12, s13⟩
                go_simp
                with_reducible rfl
              rotate_left
              · simp only [Act.put, List.setIfInBounds_toArray, List.set_cons_zero, List.set_cons_succ, i64_w, i32_w]
                rfl
              refine one_ (i := 5) (N := some 20) #[true, true, true, true, true, true, true, true, true, true, true, false, false] rfl rfl (one_of HT_.out (by kernel_rfl)) (by decide) (fun K hK => ?_)
              refine goes_ Try.func11 (by kernel_rfl) rfl #[.agg #[.int .i64 ((rd_T26 l0 x5_1).f0), .int .i64 ((rd_T26 l0 x5_1).f1), .int .i64 ((rd_T26 l0 x5_1).f2), .int .i64 ((rd_T26 l0 x5_1).f3), .int .i64 ((rd_T26 l0 x5_1).f4), .bool ((rd_T26 l0 x5_1).f5), .bool ((rd_T26 l0 x5_1).f6)], .int .i64 a1] (by rfl) rfl rfl (by (try simp only [List.map_toArray, List.map_cons, List.map_nil]); first | done | rfl | (simp only [List.length_drop, List.length_take]; rfl)) ?_
              with_reducible refine (choose_Fit.calls ((rd_T26 l0 x5_1).f0) ((rd_T26 l0 x5_1).f1) ((rd_T26 l0 x5_1).f2) ((rd_T26 l0 x5_1).f3) ((rd_T26 l0 x5_1).f4) ((rd_T26 l0 x5_1).f5) ((rd_T26 l0 x5_1).f6) a1 t194 _ A6.out).mono ?_
              rintro e w10 ⟨rfl, hb⟩
              refine ⟨_, rfl, ?_⟩
              have n0_ := Aside0.mk (below_step (by repeat (first | (with_reducible first | exact HB.out | apply below_alloc | apply pw_below_drewN | apply below_drew1) | exact HB.out)) hb)
              clear HB
              have HB := n0_
              clear n0_
              (try clear hb)
              (try clear hb2)
              (try clear hk)
              (try clear hi)
              refine hK.out _ _ ⟨((HB.out.cell (World.block_lt_of_cell? w _ hw193_0)).trans hw193_0), ((HB.out.cell (World.block_lt_of_cell? w _ hw193_1)).trans hw193_1), ((HB.out.cell (World.block_lt_of_cell? w _ hw193_2)).trans hw193_2), ((HB.out.cell (World.block_lt_of_cell? w _ hw193_3)).trans hw193_3), ((HB.out.cell (World.block_lt_of_cell? w _ hw193_4)).trans hw193_4), ((HB.out.cell (World.block_lt_of_cell? w _ hw193_5)).trans hw193_5), ((HB.out.cell (World.block_lt_of_cell? w _ hw193_6)).trans hw193_6), ((HB.out.cell (World.block_lt_of_cell? w _ hw195_0)).trans hw195_0), ((HB.out.cell (World.block_lt_of_cell? w _ hw195_1)).trans hw195_1), ((HB.out.cell (World.block_lt_of_cell? w _ hw195_2)).trans hw195_2), ((HB.out.cell (World.block_lt_of_cell? w _ hw195_3)).trans hw195_3), ((HB.out.cell (World.block_lt_of_cell? w _ hw195_4)).trans hw195_4), ((HB.out.cell (World.block_lt_of_cell? w _ hw195_5)).trans hw195_5), ((HB.out.cell (World.block_lt_of_cell? w _ hw195_6)).trans hw195_6)⟩ (fun hHeld => ?_)
              clear hK K
              refine norm_ (a' := ?_) ?_ ?_
              rotate_left
              · show Act.put _ (some 20) _ = _
                simp only [Act.put, List.setIfInBounds_toArray, List.set_cons_zero, List.set_cons_succ, i64_w, i32_w]
                rfl
              refine one_ (i := 11) (N := some 26) #[true, true, true, true, true, true, true, true, true, true, true, true, false] rfl rfl (one_of HT_.out (by kernel_rfl)) (by decide) (fun K hK => ?_)
              refine goes_ Try.func12 (by kernel_rfl) rfl #[.agg #[.int .i64 ((rd_T26 l0 x5_1).f0), .int .i64 ((rd_T26 l0 x5_1).f1), .int .i64 ((rd_T26 l0 x5_1).f2), .int .i64 ((rd_T26 l0 x5_1).f3), .int .i64 ((rd_T26 l0 x5_1).f4), .bool ((rd_T26 l0 x5_1).f5), .bool ((rd_T26 l0 x5_1).f6)], .int .i64 a1] (by rfl) rfl rfl (by (try simp only [List.map_toArray, List.map_cons, List.map_nil]); first | done | rfl | (simp only [List.length_drop, List.length_take]; rfl)) ?_
              with_reducible refine (foliotref13_Fit.calls ((rd_T26 l0 x5_1).f0) ((rd_T26 l0 x5_1).f1) ((rd_T26 l0 x5_1).f2) ((rd_T26 l0 x5_1).f3) ((rd_T26 l0 x5_1).f4) ((rd_T26 l0 x5_1).f5) ((rd_T26 l0 x5_1).f6) a1 t196 _ A7.out).mono ?_
              rintro e w11 ⟨rfl, hb⟩
              refine ⟨_, rfl, ?_⟩
              have n0_ := Aside0.mk (below_step (by repeat (first | (with_reducible first | exact HB.out | apply below_alloc | apply pw_below_drewN | apply below_drew1) | exact HB.out)) hb)
              clear HB
              have HB := n0_
              clear n0_
              (try clear hb)
              (try clear hb2)
              (try clear hk)
              (try clear hi)
              refine hK.out _ _ ⟨((HB.out.cell (World.block_lt_of_cell? w _ hw193_0)).trans hw193_0), ((HB.out.cell (World.block_lt_of_cell? w _ hw193_1)).trans hw193_1), ((HB.out.cell (World.block_lt_of_cell? w _ hw193_2)).trans hw193_2), ((HB.out.cell (World.block_lt_of_cell? w _ hw193_3)).trans hw193_3), ((HB.out.cell (World.block_lt_of_cell? w _ hw193_4)).trans hw193_4), ((HB.out.cell (World.block_lt_of_cell? w _ hw193_5)).trans hw193_5), ((HB.out.cell (World.block_lt_of_cell? w _ hw193_6)).trans hw193_6), ((HB.out.cell (World.block_lt_of_cell? w _ hw195_0)).trans hw195_0), ((HB.out.cell (World.block_lt_of_cell? w _ hw195_1)).trans hw195_1), ((HB.out.cell (World.block_lt_of_cell? w _ hw195_2)).trans hw195_2), ((HB.out.cell (World.block_lt_of_cell? w _ hw195_3)).trans hw195_3), ((HB.out.cell (World.block_lt_of_cell? w _ hw195_4)).trans hw195_4), ((HB.out.cell (World.block_lt_of_cell? w _ hw195_5)).trans hw195_5), ((HB.out.cell (World.block_lt_of_cell? w _ hw195_6)).trans hw195_6)⟩ (fun hHeld => ?_)
              clear hK K
              refine norm_ (a' := ?_) ?_ ?_
              rotate_left
              · show Act.put _ (some 26) _ = _
                simp only [Act.put, List.setIfInBounds_toArray, List.set_cons_zero, List.set_cons_succ, i64_w, i32_w]
                rfl
              refine pure_ (i := 12) (N := some 27) (v := ?_) (a' := ?_) #[true, true, true, true, true, true, true, true, true, true, true, true, true] rfl rfl (any_of HT_.out (by kernel_rfl)) (fun _ _ _ h => h) (Or.inl ⟨by rfl, ?_⟩) ?_ ?_
              rotate_left
              · intro w'
                go_simp
                with_reducible rfl
              rotate_left
              · simp only [Act.put, List.setIfInBounds_toArray, List.set_cons_zero, List.set_cons_succ, i64_w, i32_w]
                rfl
              refine done_ (done_of HT_.out (by kernel_rfl)) ?_
              try go_wp2
              go_ret
              exact ⟨by first | rfl | (simp [errW_none, errW_some] <;> rfl) | (simp [*, errW_none, errW_some] <;> rfl), by repeat (first | (with_reducible first | exact HB.out | apply below_alloc | apply pw_below_drewN | apply below_drew1) | exact HB.out)⟩
            · rw [if_neg c8] at H
              have c8b0 : (t194 != t196) = false := by simpa using c8
              (try (have c8b1 : decide (t194 = t196) = true := by simpa using c8))
              (try (have c8b2 : (t194 == t196) = true := by simpa using c8))
              clear c8
              have H' := Aside0.mk H
              clear H
              try go_wp2
              have n0_ := Aside0.mk (below_drew1 HB.out)
              clear HB
              have HB := n0_
              clear n0_
              have p193 : 0 ≤ (x5_1 : Int) := of_decide_eq_true (by first | (with_reducible assumption) | assumption)
              have q193 : x5_1 < (l0.length : Int) := of_decide_eq_true (by first | (with_reducible assumption) | assumption)
              obtain ⟨ad193, e193, hx193_0, hx193_1, hx193_2, hx193_3, hx193_4, hx193_5, hx193_6⟩ := at_T26 HR0.out x5_1 p193 q193
              have hw193_6 := hx193_6
              have hw193_5 := hx193_5
              have hw193_4 := hx193_4
              have hw193_3 := hx193_3
              have hw193_2 := hx193_2
              have hw193_1 := hx193_1
              have hw193_0 := hx193_0
              cases e193
              replace hx193_0 := (HB.out.cell (World.block_lt_of_cell? w _ hx193_0)).trans hx193_0
              replace hx193_1 := (HB.out.cell (World.block_lt_of_cell? w _ hx193_1)).trans hx193_1
              replace hx193_2 := (HB.out.cell (World.block_lt_of_cell? w _ hx193_2)).trans hx193_2
              replace hx193_3 := (HB.out.cell (World.block_lt_of_cell? w _ hx193_3)).trans hx193_3
              replace hx193_4 := (HB.out.cell (World.block_lt_of_cell? w _ hx193_4)).trans hx193_4
              replace hx193_5 := (HB.out.cell (World.block_lt_of_cell? w _ hx193_5)).trans hx193_5
              replace hx193_6 := (HB.out.cell (World.block_lt_of_cell? w _ hx193_6)).trans hx193_6
              replace p193 := eq_true p193
              replace q193 := eq_true q193
              have p195 : 0 ≤ (x5_1 : Int) := of_decide_eq_true (by first | (with_reducible assumption) | assumption)
              have q195 : x5_1 < (l0.length : Int) := of_decide_eq_true (by first | (with_reducible assumption) | assumption)
              obtain ⟨ad195, e195, hx195_0, hx195_1, hx195_2, hx195_3, hx195_4, hx195_5, hx195_6⟩ := at_T26 HR0.out x5_1 p195 q195
              have hw195_6 := hx195_6
              have hw195_5 := hx195_5
              have hw195_4 := hx195_4
              have hw195_3 := hx195_3
              have hw195_2 := hx195_2
              have hw195_1 := hx195_1
              have hw195_0 := hx195_0
              obtain rfl : ad193 = ad195 := (by injection e195)
              replace hx195_0 := (HB.out.cell (World.block_lt_of_cell? w _ hx195_0)).trans hx195_0
              replace hx195_1 := (HB.out.cell (World.block_lt_of_cell? w _ hx195_1)).trans hx195_1
              replace hx195_2 := (HB.out.cell (World.block_lt_of_cell? w _ hx195_2)).trans hx195_2
              replace hx195_3 := (HB.out.cell (World.block_lt_of_cell? w _ hx195_3)).trans hx195_3
              replace hx195_4 := (HB.out.cell (World.block_lt_of_cell? w _ hx195_4)).trans hx195_4
              replace hx195_5 := (HB.out.cell (World.block_lt_of_cell? w _ hx195_5)).trans hx195_5
              replace hx195_6 := (HB.out.cell (World.block_lt_of_cell? w _ hx195_6)).trans hx195_6
              replace p195 := eq_true p195
              replace q195 := eq_true q195
              refine start_ (n := 13) (S := fun w' => w'.cell? (ad193.add ((x5_1).toNat * 7)) = some (.int .i64 ((rd_T26 l0 x5_1).f0)) ∧ w'.cell? ⟨(ad193.add ((x5_1).toNat * 7)).block, (ad193.add ((x5_1).toNat * 7)).off + 1, none⟩ = some (.int .i64 ((rd_T26 l0 x5_1).f1)) ∧ w'.cell? ⟨(ad193.add ((x5_1).toNat * 7)).block, (ad193.add ((x5_1).toNat * 7)).off + 2, none⟩ = some (.int .i64 ((rd_T26 l0 x5_1).f2)) ∧ w'.cell? ⟨(ad193.add ((x5_1).toNat * 7)).block, (ad193.add ((x5_1).toNat * 7)).off + 3, none⟩ = some (.int .i64 ((rd_T26 l0 x5_1).f3)) ∧ w'.cell? ⟨(ad193.add ((x5_1).toNat * 7)).block, (ad193.add ((x5_1).toNat * 7)).off + 4, none⟩ = some (.int .i64 ((rd_T26 l0 x5_1).f4)) ∧ w'.cell? ⟨(ad193.add ((x5_1).toNat * 7)).block, (ad193.add ((x5_1).toNat * 7)).off + 5, none⟩ = some (.bool ((rd_T26 l0 x5_1).f5)) ∧ w'.cell? ⟨(ad193.add ((x5_1).toNat * 7)).block, (ad193.add ((x5_1).toNat * 7)).off + 6, none⟩ = some (.bool ((rd_T26 l0 x5_1).f6)) ∧ w'.cell? (ad193.add ((x5_1).toNat * 7)) = some (.int .i64 ((rd_T26 l0 x5_1).f0)) ∧ w'.cell? ⟨(ad193.add ((x5_1).toNat * 7)).block, (ad193.add ((x5_1).toNat * 7)).off + 1, none⟩ = some (.int .i64 ((rd_T26 l0 x5_1).f1)) ∧ w'.cell? ⟨(ad193.add ((x5_1).toNat * 7)).block, (ad193.add ((x5_1).toNat * 7)).off + 2, none⟩ = some (.int .i64 ((rd_T26 l0 x5_1).f2)) ∧ w'.cell? ⟨(ad193.add ((x5_1).toNat * 7)).block, (ad193.add ((x5_1).toNat * 7)).off + 3, none⟩ = some (.int .i64 ((rd_T26 l0 x5_1).f3)) ∧ w'.cell? ⟨(ad193.add ((x5_1).toNat * 7)).block, (ad193.add ((x5_1).toNat * 7)).off + 4, none⟩ = some (.int .i64 ((rd_T26 l0 x5_1).f4)) ∧ w'.cell? ⟨(ad193.add ((x5_1).toNat * 7)).block, (ad193.add ((x5_1).toNat * 7)).off + 5, none⟩ = some (.bool ((rd_T26 l0 x5_1).f5)) ∧ w'.cell? ⟨(ad193.add ((x5_1).toNat * 7)).block, (ad193.add ((x5_1).toNat * 7)).off + 6, none⟩ = some (.bool ((rd_T26 l0 x5_1).f6))) (ds := []) #[false, false, false, false, false, false, false, false, false, false, false, false, false] (by kernel_rfl) rfl rfl ⟨((HB.out.cell (World.block_lt_of_cell? w _ hw193_0)).trans hw193_0), ((HB.out.cell (World.block_lt_of_cell? w _ hw193_1)).trans hw193_1), ((HB.out.cell (World.block_lt_of_cell? w _ hw193_2)).trans hw193_2), ((HB.out.cell (World.block_lt_of_cell? w _ hw193_3)).trans hw193_3), ((HB.out.cell (World.block_lt_of_cell? w _ hw193_4)).trans hw193_4), ((HB.out.cell (World.block_lt_of_cell? w _ hw193_5)).trans hw193_5), ((HB.out.cell (World.block_lt_of_cell? w _ hw193_6)).trans hw193_6), ((HB.out.cell (World.block_lt_of_cell? w _ hw195_0)).trans hw195_0), ((HB.out.cell (World.block_lt_of_cell? w _ hw195_1)).trans hw195_1), ((HB.out.cell (World.block_lt_of_cell? w _ hw195_2)).trans hw195_2), ((HB.out.cell (World.block_lt_of_cell? w _ hw195_3)).trans hw195_3), ((HB.out.cell (World.block_lt_of_cell? w _ hw195_4)).trans hw195_4), ((HB.out.cell (World.block_lt_of_cell? w _ hw195_5)).trans hw195_5), ((HB.out.cell (World.block_lt_of_cell? w _ hw195_6)).trans hw195_6)⟩ (fun hHeld => ?_); refine with_tabW foliotlaw13_ChooseEnds.tab6 foliotlaw13_ChooseEnds.bits6 (fun HT_ HW_ => ?_)
              generalize wr.drew = w12 at HB hx193_0 hx193_1 hx193_2 hx193_3 hx193_4 hx193_5 hx193_6 hx195_0 hx195_1 hx195_2 hx195_3 hx195_4 hx195_5 hx195_6 hHeld ⊢
              refine pure_ (i := 0) (N := some 15) (v := ?_) (a' := ?_) #[true, false, false, false, false, false, false, false, false, false, false, false, false] rfl rfl (any_of HT_.out (by kernel_rfl)) (fun _ _ _ h => h) (Or.inl ⟨by rfl, ?_⟩) ?_ ?_
              rotate_left
              · intro w'
                go_simp
                with_reducible rfl
              rotate_left
              · simp only [Act.put, List.setIfInBounds_toArray, List.set_cons_zero, List.set_cons_succ, i64_w, i32_w]
                rfl
              refine pure_ (i := 1) (N := some 16) (v := ?_) (a' := ?_) #[true, true, false, false, false, false, false, false, false, false, false, false, false] rfl rfl (any_of HT_.out (by kernel_rfl)) (fun _ _ _ h => h) (Or.inl ⟨by rfl, ?_⟩) ?_ ?_
              rotate_left
              · intro w'
                go_simp
                with_reducible rfl
              rotate_left
              · simp only [Act.put, List.setIfInBounds_toArray, List.set_cons_zero, List.set_cons_succ, i64_w, i32_w]
                rfl
              refine pure_ (i := 2) (N := some 17) (v := ?_) (a' := ?_) #[true, true, true, false, false, false, false, false, false, false, false, false, false] rfl rfl (any_of HT_.out (by kernel_rfl)) (fun _ _ _ h => h) (Or.inl ⟨by rfl, ?_⟩) ?_ ?_
              rotate_left
              · intro w'
                go_simp
                with_reducible rfl
              rotate_left
              · simp only [Act.put, List.setIfInBounds_toArray, List.set_cons_zero, List.set_cons_succ, i64_w, i32_w]
                rfl
              refine pure_ (i := 4) (N := some 19) (v := ?_) (a' := ?_) #[true, true, true, false, true, false, false, false, false, false, false, false, false] rfl rfl (any_of HT_.out (by kernel_rfl)) (fun _ _ _ h => h) (Or.inl ⟨by rfl, ?_⟩) ?_ ?_
              rotate_left
              · intro w'
                go_simp
                with_reducible rfl
              rotate_left
              · simp only [Act.put, List.setIfInBounds_toArray, List.set_cons_zero, List.set_cons_succ, i64_w, i32_w]
                rfl
              refine pure_ (i := 6) (N := some 21) (v := ?_) (a' := ?_) #[true, true, true, false, true, false, true, false, false, false, false, false, false] rfl rfl (any_of HT_.out (by kernel_rfl)) (fun _ _ _ h => h) (Or.inl ⟨by rfl, ?_⟩) ?_ ?_
              rotate_left
              · intro w'
                go_simp
                with_reducible rfl
              rotate_left
              · simp only [Act.put, List.setIfInBounds_toArray, List.set_cons_zero, List.set_cons_succ, i64_w, i32_w]
                rfl
              refine pure_ (i := 7) (N := some 22) (v := ?_) (a' := ?_) #[true, true, true, false, true, false, true, true, false, false, false, false, false] rfl rfl (any_of HT_.out (by kernel_rfl)) (fun _ _ _ h => h) (Or.inl ⟨by rfl, ?_⟩) ?_ ?_
              rotate_left
              · intro w'
                go_simp
                with_reducible rfl
              rotate_left
              · simp only [Act.put, List.setIfInBounds_toArray, List.set_cons_zero, List.set_cons_succ, i64_w, i32_w]
                rfl
              refine pure_ (i := 8) (N := some 23) (v := ?_) (a' := ?_) #[true, true, true, false, true, false, true, true, true, false, false, false, false] rfl rfl (any_of HT_.out (by kernel_rfl)) (fun _ _ _ h => h) (Or.inl ⟨by rfl, ?_⟩) ?_ ?_
              rotate_left
              · intro w'
                go_simp
                with_reducible rfl
              rotate_left
              · simp only [Act.put, List.setIfInBounds_toArray, List.set_cons_zero, List.set_cons_succ, i64_w, i32_w]
                rfl
              refine pure_ (i := 10) (N := some 25) (v := ?_) (a' := ?_) #[true, true, true, false, true, false, true, true, true, false, true, false, false] rfl rfl (any_of HT_.out (by kernel_rfl)) (fun _ _ _ h => h) (Or.inl ⟨by rfl, ?_⟩) ?_ ?_
              rotate_left
              · intro w'
                go_simp
                with_reducible rfl
              rotate_left
              · simp only [Act.put, List.setIfInBounds_toArray, List.set_cons_zero, List.set_cons_succ, i64_w, i32_w]
                rfl
              refine take_ (i := 3) (N := some 18) (v := ?_) (a' := ?_) #[true, true, true, true, true, false, true, true, true, false, true, false, false] rfl rfl (take_ofW HT_.out HW_.out (by kernel_rfl)) (fun _ _ _ h => h) (Or.inl ⟨by rfl, ?_⟩) hHeld ?_ ?_
              rotate_left
              · rintro w' ⟨s0, s1, s2, s3, s4, s5, s6, s7, s8, s9, s10, s11, s12, s13⟩
                go_simp
                with_reducible rfl
              rotate_left
              · simp only [Act.put, List.setIfInBounds_toArray, List.set_cons_zero, List.set_cons_succ, i64_w, i32_w]
                rfl
              refine take_ (i := 9) (N := some 24) (v := ?_) (a' := ?_) #[true, true, true, true, true, false, true, true, true, true, true, false, false] rfl rfl (take_ofW HT_.out HW_.out (by kernel_rfl)) (fun _ _ _ h => h) (Or.inl ⟨by rfl, ?_⟩) hHeld ?_ ?_
              rotate_left
              · rintro w' ⟨s0, s1, s2, s3, s4, s5, s6, s7, s8, s9, s10, s11, s12, s13⟩
                go_simp
                with_reducible rfl
              rotate_left
              · simp only [Act.put, List.setIfInBounds_toArray, List.set_cons_zero, List.set_cons_succ, i64_w, i32_w]
                rfl
              refine one_ (i := 5) (N := some 20) #[true, true, true, true, true, true, true, true, true, true, true, false, false] rfl rfl (one_of HT_.out (by kernel_rfl)) (by decide) (fun K hK => ?_)
              refine goes_ Try.func11 (by kernel_rfl) rfl #[.agg #[.int .i64 ((rd_T26 l0 x5_1).f0), .int .i64 ((rd_T26 l0 x5_1).f1), .int .i64 ((rd_T26 l0 x5_1).f2), .int .i64 ((rd_T26 l0 x5_1).f3), .int .i64 ((rd_T26 l0 x5_1).f4), .bool ((rd_T26 l0 x5_1).f5), .bool ((rd_T26 l0 x5_1).f6)], .int .i64 a1] (by rfl) rfl rfl (by (try simp only [List.map_toArray, List.map_cons, List.map_nil]); first | done | rfl | (simp only [List.length_drop, List.length_take]; rfl)) ?_
              with_reducible refine (choose_Fit.calls ((rd_T26 l0 x5_1).f0) ((rd_T26 l0 x5_1).f1) ((rd_T26 l0 x5_1).f2) ((rd_T26 l0 x5_1).f3) ((rd_T26 l0 x5_1).f4) ((rd_T26 l0 x5_1).f5) ((rd_T26 l0 x5_1).f6) a1 t194 _ A6.out).mono ?_
              rintro e w13 ⟨rfl, hb⟩
              refine ⟨_, rfl, ?_⟩
              have n0_ := Aside0.mk (below_step (by repeat (first | (with_reducible first | exact HB.out | apply below_alloc | apply pw_below_drewN | apply below_drew1) | exact HB.out)) hb)
              clear HB
              have HB := n0_
              clear n0_
              (try clear hb)
              (try clear hb2)
              (try clear hk)
              (try clear hi)
              refine hK.out _ _ ⟨((HB.out.cell (World.block_lt_of_cell? w _ hw193_0)).trans hw193_0), ((HB.out.cell (World.block_lt_of_cell? w _ hw193_1)).trans hw193_1), ((HB.out.cell (World.block_lt_of_cell? w _ hw193_2)).trans hw193_2), ((HB.out.cell (World.block_lt_of_cell? w _ hw193_3)).trans hw193_3), ((HB.out.cell (World.block_lt_of_cell? w _ hw193_4)).trans hw193_4), ((HB.out.cell (World.block_lt_of_cell? w _ hw193_5)).trans hw193_5), ((HB.out.cell (World.block_lt_of_cell? w _ hw193_6)).trans hw193_6), ((HB.out.cell (World.block_lt_of_cell? w _ hw195_0)).trans hw195_0), ((HB.out.cell (World.block_lt_of_cell? w _ hw195_1)).trans hw195_1), ((HB.out.cell (World.block_lt_of_cell? w _ hw195_2)).trans hw195_2), ((HB.out.cell (World.block_lt_of_cell? w _ hw195_3)).trans hw195_3), ((HB.out.cell (World.block_lt_of_cell? w _ hw195_4)).trans hw195_4), ((HB.out.cell (World.block_lt_of_cell? w _ hw195_5)).trans hw195_5), ((HB.out.cell (World.block_lt_of_cell? w _ hw195_6)).trans hw195_6)⟩ (fun hHeld => ?_)
              clear hK K
              refine norm_ (a' := ?_) ?_ ?_
              rotate_left
              · show Act.put _ (some 20) _ = _
                simp only [Act.put, List.setIfInBounds_toArray, List.set_cons_zero, List.set_cons_succ, i64_w, i32_w]
                rfl
              refine one_ (i := 11) (N := some 26) #[true, true, true, true, true, true, true, true, true, true, true, true, false] rfl rfl (one_of HT_.out (by kernel_rfl)) (by decide) (fun K hK => ?_)
              refine goes_ Try.func12 (by kernel_rfl) rfl #[.agg #[.int .i64 ((rd_T26 l0 x5_1).f0), .int .i64 ((rd_T26 l0 x5_1).f1), .int .i64 ((rd_T26 l0 x5_1).f2), .int .i64 ((rd_T26 l0 x5_1).f3), .int .i64 ((rd_T26 l0 x5_1).f4), .bool ((rd_T26 l0 x5_1).f5), .bool ((rd_T26 l0 x5_1).f6)], .int .i64 a1] (by rfl) rfl rfl (by (try simp only [List.map_toArray, List.map_cons, List.map_nil]); first | done | rfl | (simp only [List.length_drop, List.length_take]; rfl)) ?_
              with_reducible refine (foliotref13_Fit.calls ((rd_T26 l0 x5_1).f0) ((rd_T26 l0 x5_1).f1) ((rd_T26 l0 x5_1).f2) ((rd_T26 l0 x5_1).f3) ((rd_T26 l0 x5_1).f4) ((rd_T26 l0 x5_1).f5) ((rd_T26 l0 x5_1).f6) a1 t196 _ A7.out).mono ?_
              rintro e w14 ⟨rfl, hb⟩
              refine ⟨_, rfl, ?_⟩
              have n0_ := Aside0.mk (below_step (by repeat (first | (with_reducible first | exact HB.out | apply below_alloc | apply pw_below_drewN | apply below_drew1) | exact HB.out)) hb)
              clear HB
              have HB := n0_
              clear n0_
              (try clear hb)
              (try clear hb2)
              (try clear hk)
              (try clear hi)
              refine hK.out _ _ ⟨((HB.out.cell (World.block_lt_of_cell? w _ hw193_0)).trans hw193_0), ((HB.out.cell (World.block_lt_of_cell? w _ hw193_1)).trans hw193_1), ((HB.out.cell (World.block_lt_of_cell? w _ hw193_2)).trans hw193_2), ((HB.out.cell (World.block_lt_of_cell? w _ hw193_3)).trans hw193_3), ((HB.out.cell (World.block_lt_of_cell? w _ hw193_4)).trans hw193_4), ((HB.out.cell (World.block_lt_of_cell? w _ hw193_5)).trans hw193_5), ((HB.out.cell (World.block_lt_of_cell? w _ hw193_6)).trans hw193_6), ((HB.out.cell (World.block_lt_of_cell? w _ hw195_0)).trans hw195_0), ((HB.out.cell (World.block_lt_of_cell? w _ hw195_1)).trans hw195_1), ((HB.out.cell (World.block_lt_of_cell? w _ hw195_2)).trans hw195_2), ((HB.out.cell (World.block_lt_of_cell? w _ hw195_3)).trans hw195_3), ((HB.out.cell (World.block_lt_of_cell? w _ hw195_4)).trans hw195_4), ((HB.out.cell (World.block_lt_of_cell? w _ hw195_5)).trans hw195_5), ((HB.out.cell (World.block_lt_of_cell? w _ hw195_6)).trans hw195_6)⟩ (fun hHeld => ?_)
              clear hK K
              refine norm_ (a' := ?_) ?_ ?_
              rotate_left
              · show Act.put _ (some 26) _ = _
                simp only [Act.put, List.setIfInBounds_toArray, List.set_cons_zero, List.set_cons_succ, i64_w, i32_w]
                rfl
              refine pure_ (i := 12) (N := some 27) (v := ?_) (a' := ?_) #[true, true, true, true, true, true, true, true, true, true, true, true, true] rfl rfl (any_of HT_.out (by kernel_rfl)) (fun _ _ _ h => h) (Or.inl ⟨by rfl, ?_⟩) ?_ ?_
              rotate_left
              · intro w'
                go_simp
                with_reducible rfl
              rotate_left
              · simp only [Act.put, List.setIfInBounds_toArray, List.set_cons_zero, List.set_cons_succ, i64_w, i32_w]
                rfl
              refine done_ (done_of HT_.out (by kernel_rfl)) ?_
              try go_wp2
              go_roundg k1
              case measure => have := HK1.out; omega
              case rel => exact ⟨(wrap64 (x5_1 + 1)), (by first | rfl | (simp; done) | (simp [*]; done)), H', ⟨by have := HK1.out; omega⟩, ⟨by repeat (first | (with_reducible first | exact HB.out | apply below_alloc | apply pw_below_drewN | apply below_drew1) | exact HB.out)⟩⟩
          · rw [if_neg c5] at H
            exact absurd H (by simp)
        · rw [if_neg c4] at H
          have c4b0 : decide (x5_1 < (l0.length : Int)) = false := decide_eq_false c4
          clear c4
          replace H := Option.bind_eq_some_iff.mp H
          obtain ⟨t186, A150, H⟩ := H
          replace H : ((foliotref13_All.f k1 l0).bind fun t189 => ((foliotlaw13_asTold.f t186 t189).bind fun t192 => (some t192))) = some r := H
          have A15 := Aside0.mk A150
          clear A150
          replace H := Option.bind_eq_some_iff.mp H
          obtain ⟨t189, A160, H⟩ := H
          replace H : ((foliotlaw13_asTold.f t186 t189).bind fun t192 => (some t192)) = some r := H
          have A16 := Aside0.mk A160
          clear A160
          replace H := Option.bind_eq_some_iff.mp H
          obtain ⟨t192, A170, H⟩ := H
          replace H : (some t192) = some r := H
          have A17 := Aside0.mk A170
          clear A170
          obtain rfl := Option.some.inj H
          go_wp2_with (first | ((with_reducible refine gate_callee (f := 14) rfl ?_); refine goesL_ (some 29) rfl rfl Try.func14 (by kernel_rfl) rfl #[.slice A0 l0.length c0] rfl (by (try simp only [List.map_toArray, List.map_cons, List.map_nil]); first | done | rfl | (simp only [List.length_drop, List.length_take]; rfl)) ?_; (with_reducible refine (choose_Ends.calls _ _ l0 t186 _ ?side1 ?side2 A15.out).mono ?_); (case side1 => repeat (first | exact (Kd.C_below HR0.out HB.out) | (with_reducible refine Kd.C_alloc ?_ _) | (with_reducible refine Kd.C_drewN ?_ _) | (with_reducible refine Kd.C_drew ?_))); (case side2 => exact HC0.out); rintro e w18 ⟨v187, rfl, ho0, hb⟩; refine ⟨_, rfl, ?_⟩; have n0_ := Aside0.mk (Kd.R_lower ho0 (below_size (by repeat (first | (with_reducible first | exact HB.out | apply below_alloc | apply pw_below_drewN | apply below_drew1) | exact HB.out)))); have n1_ := Aside0.mk (below_step (by repeat (first | (with_reducible first | exact HB.out | apply below_alloc | apply pw_below_drewN | apply below_drew1) | exact HB.out)) hb); clear HB; have HO188 := n0_; have HB := n1_; clear n0_ n1_; (try clear hb); (try clear hb2); (try clear hk); (try clear hi); (try clear ho0)) | ((with_reducible refine gate_callee (f := 15) rfl ?_); refine goesL_ (some 31) rfl rfl Try.func15 (by kernel_rfl) rfl #[.slice A0 l0.length c0] rfl (by (try simp only [List.map_toArray, List.map_cons, List.map_nil]); first | done | rfl | (simp only [List.length_drop, List.length_take]; rfl)) ?_; (with_reducible refine (foliotref13_All.calls k1 _ _ l0 t189 _ ?side1 ?side2 A16.out).mono ?_); (case side1 => repeat (first | exact (Kd.C_below HR0.out HB.out) | (with_reducible refine Kd.C_alloc ?_ _) | (with_reducible refine Kd.C_drewN ?_ _) | (with_reducible refine Kd.C_drew ?_))); (case side2 => exact HC0.out); rintro e w19 ⟨v190, rfl, ho0, hb⟩; refine ⟨_, rfl, ?_⟩; have n0_ := Aside0.mk (Kd.R_below (by (with_reducible repeat (first | apply Kd.R_alloc | apply Kd.R_drewN | apply Kd.R_drew)); exact HO188.out) hb); have n1_ := Aside0.mk (Kd.R_lower ho0 (below_size (by repeat (first | (with_reducible first | exact HB.out | apply below_alloc | apply pw_below_drewN | apply below_drew1) | exact HB.out)))); have n2_ := Aside0.mk (below_step (by repeat (first | (with_reducible first | exact HB.out | apply below_alloc | apply pw_below_drewN | apply below_drew1) | exact HB.out)) hb); clear HO188; clear HB; have HO188 := n0_; have HO191 := n1_; have HB := n2_; clear n0_ n1_ n2_; (try clear hb); (try clear hb2); (try clear hk); (try clear hi); (try clear ho0); obtain ⟨Ao20, co20, eo20⟩ := Kd.R_slice HO188.out; subst eo20; obtain ⟨Ao21, co21, eo21⟩ := Kd.R_slice HO191.out; subst eo21) | ((with_reducible refine gate_callee (f := 13) rfl ?_); refine goesL_ (some 32) rfl rfl Try.func13 (by kernel_rfl) rfl #[.slice Ao20 t186.length co20, .slice Ao21 t189.length co21] rfl (by (try simp only [List.map_toArray, List.map_cons, List.map_nil]); first | done | rfl | (simp only [List.length_drop, List.length_take]; rfl)) ?_; (with_reducible refine (foliotlaw13_asTold.calls _ _ t186 _ _ t189 t192 _ ?side1 ?side2 ?side3 ?side4 A17.out).mono ?_); (case side1 => repeat (first | exact (Kd.R_reads' HO188.out).2.2 | (with_reducible refine Kd.C_alloc ?_ _) | (with_reducible refine Kd.C_drewN ?_ _) | (with_reducible refine Kd.C_drew ?_))); (case side2 => exact (Kd.R_reads' HO188.out).2.1); (case side3 => repeat (first | exact (Kd.R_reads' HO191.out).2.2 | (with_reducible refine Kd.C_alloc ?_ _) | (with_reducible refine Kd.C_drewN ?_ _) | (with_reducible refine Kd.C_drew ?_))); (case side4 => exact (Kd.R_reads' HO191.out).2.1); rintro e w' ⟨rfl, ⟨nd, rfl⟩⟩; refine ⟨_, rfl, ?_⟩))
          go_ret
          exact ⟨by first | rfl | (simp [errW_none, errW_some] <;> rfl) | (simp [*, errW_none, errW_some] <;> rfl), by repeat (first | (with_reducible first | exact HB.out | apply below_alloc | apply pw_below_drewN | apply below_drew1) | exact HB.out)⟩

end Go.Proofs.Ytlhecfleanppmaa.Pr
