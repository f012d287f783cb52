-- PRINTED by print.py (a twelfth state) out of the translation. Not trusted: Lean checks it.
import Derived.Test.YtlhecfleanppmaaPrx0
import Derived.Test.YtlhecfleanppmaaPrx11
import Derived.Test.YtlhecfleanppmaaPrx14
namespace Go.Proofs.Ytlhecfleanppmaa.Pr
open Go.RowKit Go.Proofs.YtlhecfleanppmaaW.PrintWords Go.Proofs.YtlhecfleanppmaaW.PrintLast Go.Proofs.YtlhecfleanppmaaW.PrintMore
attribute [local go_sem] max2_int min2_int max_two min_two max_three min_three max_four min_four   -- for this text's walks alone
set_option linter.unusedVariables false
set_option linter.unusedSimpArgs false

/-! ### foliotref13_Meet: function 18 -/
mutual
def foliotref13_Meet.l0 : Nat → List (S54) → Int → Int → Option (Int × Int × Bool)
  | 0, _, _, _ => none
  | k + 1, x5, x6, x7 => if (wrap64 (2 * x7)) < x6 then (foliotref13_Meet.l1 k x5 x6 x7 0 (-1) 0 0) else (some (0, 0, false))
def foliotref13_Meet.l1 : Nat → List (S54) → Int → Int → Int → Int → Int → Int → Option (Int × Int × Bool)
  | 0, _, _, _, _, _, _, _ => none
  | k + 1, x5, x6, x7, x8, x9, x10, x11 => if x11 < (x5.length : Int) then (foliotref13_Meet.j2 k x5 x6 x7 x8 x9 x10 x11 (decide (x9 < 0))) else (foliotref13_Meet.j2 k x5 x6 x7 x8 x9 x10 x11 false)
def foliotref13_Meet.j2 : Nat → List (S54) → Int → Int → Int → Int → Int → Int → Bool → Option (Int × Int × Bool)
  | 0, _, _, _, _, _, _, _, _ => none
  | k + 1, x5, x6, x7, x8, x9, x10, x11, x32 => if x32 = true then (if 0 ≤ x11 then (if x11 < (x5.length : Int) then (if ((rd_T54 x5 x11).f1) = 0 then (if (wrap64 (x10 - ((rd_T54 x5 x11).f1))) = (wrap64 (x6 - x7)) then (foliotref13_Meet.l1 k x5 x6 x7 (wrap64 (x8 + 1)) x11 (wrap64 (x10 - ((rd_T54 x5 x11).f1))) (wrap64 (x11 + 1))) else (foliotref13_Meet.l1 k x5 x6 x7 (wrap64 (x8 + 1)) x9 (wrap64 (x10 - ((rd_T54 x5 x11).f1))) (wrap64 (x11 + 1)))) else (if (wrap64 (x10 - ((rd_T54 x5 x11).f1))) = (wrap64 (x6 - x7)) then (foliotref13_Meet.l1 k x5 x6 x7 x8 x11 (wrap64 (x10 - ((rd_T54 x5 x11).f1))) (wrap64 (x11 + 1))) else (foliotref13_Meet.l1 k x5 x6 x7 x8 x9 (wrap64 (x10 - ((rd_T54 x5 x11).f1))) (wrap64 (x11 + 1))))) else (none)) else (none)) else (if x9 < 0 then (foliotref13_Meet.l0 k x5 x6 (wrap64 (x7 + 1))) else (foliotref13_Meet.l2 k x5 x6 x7 x8 x9 0 (-1) (wrap64 ((x5.length : Int) - 1))))
def foliotref13_Meet.l2 : Nat → List (S54) → Int → Int → Int → Int → Int → Int → Int → Option (Int × Int × Bool)
  | 0, _, _, _, _, _, _, _, _ => none
  | k + 1, x5, x6, x7, x8, x9, x10, x12, x13 => if x13 ≥ 0 then (foliotref13_Meet.j4 k x5 x6 x7 x8 x9 x10 x12 x13 (decide (x12 < 0))) else (foliotref13_Meet.j4 k x5 x6 x7 x8 x9 x10 x12 x13 false)
def foliotref13_Meet.j4 : Nat → List (S54) → Int → Int → Int → Int → Int → Int → Int → Bool → Option (Int × Int × Bool)
  | 0, _, _, _, _, _, _, _, _, _ => none
  | k + 1, x5, x6, x7, x8, x9, x10, x12, x13, x66 => if x66 = true then (if 0 ≤ x13 then (if x13 < (x5.length : Int) then (if ((rd_T54 x5 x13).f1) = 0 then (if (wrap64 (x10 + ((rd_T54 x5 x13).f1))) = (wrap64 (x6 - x7)) then (foliotref13_Meet.l2 k x5 x6 x7 (wrap64 (x8 + 1)) x9 (wrap64 (x10 + ((rd_T54 x5 x13).f1))) x13 (wrap64 (x13 - 1))) else (foliotref13_Meet.l2 k x5 x6 x7 (wrap64 (x8 + 1)) x9 (wrap64 (x10 + ((rd_T54 x5 x13).f1))) x12 (wrap64 (x13 - 1)))) else (if (wrap64 (x10 + ((rd_T54 x5 x13).f1))) = (wrap64 (x6 - x7)) then (foliotref13_Meet.l2 k x5 x6 x7 x8 x9 (wrap64 (x10 + ((rd_T54 x5 x13).f1))) x13 (wrap64 (x13 - 1))) else (foliotref13_Meet.l2 k x5 x6 x7 x8 x9 (wrap64 (x10 + ((rd_T54 x5 x13).f1))) x12 (wrap64 (x13 - 1))))) else (none)) else (none)) else (if x12 ≥ 0 then (if x8 ≤ x7 then (if 0 ≤ x9 then (if x9 < (x5.length : Int) then (if 0 ≤ x12 then (if x12 < (x5.length : Int) then (if ((rd_T54 x5 x9).f0) ≤ ((rd_T54 x5 x12).f0) then (some (wrap64 (((rd_T54 x5 x9).f0) * 65536), wrap64 (((rd_T54 x5 x12).f0) * 65536), true)) else (foliotref13_Meet.l0 k x5 x6 (wrap64 (x7 + 1)))) else (none)) else (none)) else (none)) else (none)) else (foliotref13_Meet.l0 k x5 x6 (wrap64 (x7 + 1)))) else (foliotref13_Meet.l0 k x5 x6 (wrap64 (x7 + 1))))
end
def foliotref13_Meet.f (k : Nat) (l0 : List (S26)) : Option (Int × Int × Bool) := (foliotref13_All.f k l0).bind fun t197 => ((foliotref13_those.f k l0).bind fun t200 => (foliotref13_Meet.l0 k t197 (t200.length : Int) 0))
theorem foliotref13_Meet.mono_l : ∀ k, (∀ y0 y1 y2, LeO (foliotref13_Meet.l0 k y0 y1 y2) (foliotref13_Meet.l0 (k + 1) y0 y1 y2)) ∧ (∀ y0 y1 y2 y3 y4 y5 y6, LeO (foliotref13_Meet.l1 k y0 y1 y2 y3 y4 y5 y6) (foliotref13_Meet.l1 (k + 1) y0 y1 y2 y3 y4 y5 y6)) ∧ (∀ y0 y1 y2 y3 y4 y5 y6 y7, LeO (foliotref13_Meet.j2 k y0 y1 y2 y3 y4 y5 y6 y7) (foliotref13_Meet.j2 (k + 1) y0 y1 y2 y3 y4 y5 y6 y7)) ∧ (∀ y0 y1 y2 y3 y4 y5 y6 y7, LeO (foliotref13_Meet.l2 k y0 y1 y2 y3 y4 y5 y6 y7) (foliotref13_Meet.l2 (k + 1) y0 y1 y2 y3 y4 y5 y6 y7)) ∧ (∀ y0 y1 y2 y3 y4 y5 y6 y7 y8, LeO (foliotref13_Meet.j4 k y0 y1 y2 y3 y4 y5 y6 y7 y8) (foliotref13_Meet.j4 (k + 1) y0 y1 y2 y3 y4 y5 y6 y7 y8))
  | 0 => ⟨fun _ _ _ r h => by simp [foliotref13_Meet.l0] at h, fun _ _ _ _ _ _ _ r h => by simp [foliotref13_Meet.l1] at h, fun _ _ _ _ _ _ _ _ r h => by simp [foliotref13_Meet.j2] at h, fun _ _ _ _ _ _ _ _ r h => by simp [foliotref13_Meet.l2] at h, fun _ _ _ _ _ _ _ _ _ r h => by simp [foliotref13_Meet.j4] at h⟩
  | k + 1 => by
    obtain ⟨ih0, ih1, ih2, ih3, ih4⟩ := foliotref13_Meet.mono_l k
    refine ⟨?_, ?_, ?_, ?_, ?_⟩
    · intro y0 y1 y2
      unfold foliotref13_Meet.l0
      repeat' first
      | (with_reducible exact ih0 _ _ _)
      | (with_reducible exact ih1 _ _ _ _ _ _ _)
      | (with_reducible exact ih2 _ _ _ _ _ _ _ _)
      | (with_reducible exact ih3 _ _ _ _ _ _ _ _)
      | (with_reducible exact ih4 _ _ _ _ _ _ _ _ _)
      | (with_reducible exact foliotref13_All.mono _ _)
      | (with_reducible exact foliotref13_those.mono _ _)
      | (with_reducible exact LeO.refl _)
      | (with_reducible exact LeO.none _)
      | (with_reducible refine LeO.ite ?_ ?_)
      | (with_reducible refine LeO.bind ?_ (fun _ => ?_))
      | exact ih0 _ _ _
      | exact ih1 _ _ _ _ _ _ _
      | exact ih2 _ _ _ _ _ _ _ _
      | exact ih3 _ _ _ _ _ _ _ _
      | exact ih4 _ _ _ _ _ _ _ _ _
      | exact foliotref13_All.mono _ _
      | exact foliotref13_those.mono _ _
      | exact LeO.none _
      | refine LeO.ite ?_ ?_
      | refine LeO.bind ?_ (fun _ => ?_)
    · intro y0 y1 y2 y3 y4 y5 y6
      unfold foliotref13_Meet.l1
      repeat' first
      | (with_reducible exact ih0 _ _ _)
      | (with_reducible exact ih1 _ _ _ _ _ _ _)
      | (with_reducible exact ih2 _ _ _ _ _ _ _ _)
      | (with_reducible exact ih3 _ _ _ _ _ _ _ _)
      | (with_reducible exact ih4 _ _ _ _ _ _ _ _ _)
      | (with_reducible exact foliotref13_All.mono _ _)
      | (with_reducible exact foliotref13_those.mono _ _)
      | (with_reducible exact LeO.refl _)
      | (with_reducible exact LeO.none _)
      | (with_reducible refine LeO.ite ?_ ?_)
      | (with_reducible refine LeO.bind ?_ (fun _ => ?_))
      | exact ih0 _ _ _
      | exact ih1 _ _ _ _ _ _ _
      | exact ih2 _ _ _ _ _ _ _ _
      | exact ih3 _ _ _ _ _ _ _ _
      | exact ih4 _ _ _ _ _ _ _ _ _
      | exact foliotref13_All.mono _ _
      | exact foliotref13_those.mono _ _
      | exact LeO.none _
      | refine LeO.ite ?_ ?_
      | refine LeO.bind ?_ (fun _ => ?_)
    · intro y0 y1 y2 y3 y4 y5 y6 y7
      unfold foliotref13_Meet.j2
      repeat' first
      | (with_reducible exact ih0 _ _ _)
      | (with_reducible exact ih1 _ _ _ _ _ _ _)
      | (with_reducible exact ih2 _ _ _ _ _ _ _ _)
      | (with_reducible exact ih3 _ _ _ _ _ _ _ _)
      | (with_reducible exact ih4 _ _ _ _ _ _ _ _ _)
      | (with_reducible exact foliotref13_All.mono _ _)
      | (with_reducible exact foliotref13_those.mono _ _)
      | (with_reducible exact LeO.refl _)
      | (with_reducible exact LeO.none _)
      | (with_reducible refine LeO.ite ?_ ?_)
      | (with_reducible refine LeO.bind ?_ (fun _ => ?_))
      | exact ih0 _ _ _
      | exact ih1 _ _ _ _ _ _ _
      | exact ih2 _ _ _ _ _ _ _ _
      | exact ih3 _ _ _ _ _ _ _ _
      | exact ih4 _ _ _ _ _ _ _ _ _
      | exact foliotref13_All.mono _ _
      | exact foliotref13_those.mono _ _
      | exact LeO.none _
      | refine LeO.ite ?_ ?_
      | refine LeO.bind ?_ (fun _ => ?_)
    · intro y0 y1 y2 y3 y4 y5 y6 y7
      unfold foliotref13_Meet.l2
      repeat' first
      | (with_reducible exact ih0 _ _ _)
      | (with_reducible exact ih1 _ _ _ _ _ _ _)
      | (with_reducible exact ih2 _ _ _ _ _ _ _ _)
      | (with_reducible exact ih3 _ _ _ _ _ _ _ _)
      | (with_reducible exact ih4 _ _ _ _ _ _ _ _ _)
      | (with_reducible exact foliotref13_All.mono _ _)
      | (with_reducible exact foliotref13_those.mono _ _)
      | (with_reducible exact LeO.refl _)
      | (with_reducible exact LeO.none _)
      | (with_reducible refine LeO.ite ?_ ?_)
      | (with_reducible refine LeO.bind ?_ (fun _ => ?_))
      | exact ih0 _ _ _
      | exact ih1 _ _ _ _ _ _ _
      | exact ih2 _ _ _ _ _ _ _ _
      | exact ih3 _ _ _ _ _ _ _ _
      | exact ih4 _ _ _ _ _ _ _ _ _
      | exact foliotref13_All.mono _ _
      | exact foliotref13_those.mono _ _
      | exact LeO.none _
      | refine LeO.ite ?_ ?_
      | refine LeO.bind ?_ (fun _ => ?_)
    · intro y0 y1 y2 y3 y4 y5 y6 y7 y8
      unfold foliotref13_Meet.j4
      repeat' first
      | (with_reducible exact ih0 _ _ _)
      | (with_reducible exact ih1 _ _ _ _ _ _ _)
      | (with_reducible exact ih2 _ _ _ _ _ _ _ _)
      | (with_reducible exact ih3 _ _ _ _ _ _ _ _)
      | (with_reducible exact ih4 _ _ _ _ _ _ _ _ _)
      | (with_reducible exact foliotref13_All.mono _ _)
      | (with_reducible exact foliotref13_those.mono _ _)
      | (with_reducible exact LeO.refl _)
      | (with_reducible exact LeO.none _)
      | (with_reducible refine LeO.ite ?_ ?_)
      | (with_reducible refine LeO.bind ?_ (fun _ => ?_))
      | exact ih0 _ _ _
      | exact ih1 _ _ _ _ _ _ _
      | exact ih2 _ _ _ _ _ _ _ _
      | exact ih3 _ _ _ _ _ _ _ _
      | exact ih4 _ _ _ _ _ _ _ _ _
      | exact foliotref13_All.mono _ _
      | exact foliotref13_those.mono _ _
      | exact LeO.none _
      | refine LeO.ite ?_ ?_
      | refine LeO.bind ?_ (fun _ => ?_)
theorem foliotref13_Meet.mono : ∀ a0 k, LeO (foliotref13_Meet.f k a0) (foliotref13_Meet.f (k + 1) a0) := by
  intro a0 k
  obtain ⟨ih0, ih1, ih2, ih3, ih4⟩ := foliotref13_Meet.mono_l k
  unfold foliotref13_Meet.f
  repeat' first
      | (with_reducible exact ih0 _ _ _)
      | (with_reducible exact ih1 _ _ _ _ _ _ _)
      | (with_reducible exact ih2 _ _ _ _ _ _ _ _)
      | (with_reducible exact ih3 _ _ _ _ _ _ _ _)
      | (with_reducible exact ih4 _ _ _ _ _ _ _ _ _)
      | (with_reducible exact foliotref13_All.mono _ _)
      | (with_reducible exact foliotref13_those.mono _ _)
      | (with_reducible exact LeO.refl _)
      | (with_reducible exact LeO.none _)
      | (with_reducible refine LeO.ite ?_ ?_)
      | (with_reducible refine LeO.bind ?_ (fun _ => ?_))
      | exact ih0 _ _ _
      | exact ih1 _ _ _ _ _ _ _
      | exact ih2 _ _ _ _ _ _ _ _
      | exact ih3 _ _ _ _ _ _ _ _
      | exact ih4 _ _ _ _ _ _ _ _ _
      | exact foliotref13_All.mono _ _
      | exact foliotref13_those.mono _ _
      | exact LeO.none _
      | refine LeO.ite ?_ ?_
      | refine LeO.bind ?_ (fun _ => ?_)
set_option maxHeartbeats 8000000 in
set_option maxRecDepth 100000 in
theorem foliotref13_Meet.calls (k : Nat) (A0 : Option Addr) (c0 : Nat) (l0 : List (S26)) (r1 : Int) (r2 : Int) (r3 : Bool) (w : World) (hr0 : Kd.C k26 w A0 l0.length l0) (hc0 : l0.length ≤ c0) (h : foliotref13_Meet.f k l0 = some (r1, r2, r3)) :
    Calls Try.prog 18 #[.slice A0 l0.length c0] w fun e w' => e = .returned (.tuple #[.int .i64 r1, .int .i64 r2, .bool r3]) ∧ Below w.heap.size w w' := by
  have HR0 := Aside0.mk hr0
  have HC0 := Aside0.mk hc0
  clear hr0 hc0
  have HB := Aside0.mk (Below.refl w.heap.size w)
  have H : ((foliotref13_All.f k l0).bind fun t197 => ((foliotref13_those.f k l0).bind fun t200 => (foliotref13_Meet.l0 k t197 (t200.length : Int) 0))) = some (r1, r2, r3) := h
  clear h
  replace H := Option.bind_eq_some_iff.mp H
  obtain ⟨t197, A20, H⟩ := H
  replace H : ((foliotref13_those.f k l0).bind fun t200 => (foliotref13_Meet.l0 k t197 (t200.length : Int) 0)) = some (r1, r2, r3) := H
  have A2 := Aside0.mk A20
  clear A20
  replace H := Option.bind_eq_some_iff.mp H
  obtain ⟨t200, A30, H⟩ := H
  replace H : (foliotref13_Meet.l0 k t197 (t200.length : Int) 0) = some (r1, r2, r3) := H
  have A3 := Aside0.mk A30
  clear A30
  have H' := Aside0.mk H
  clear H
  go_enter Try.func18, Try.ntmps18
  go_wp2_with (first | (go_at_call 15; (with_reducible refine (foliotref13_All.calls k _ _ l0 t197 _ ?side1 ?side2 A2.out).mono ?_); (case side1 => repeat (first | exact HR0.out | (with_reducible refine Kd.C_alloc ?_ _) | (with_reducible refine Kd.C_drewN ?_ _) | (with_reducible refine Kd.C_drew ?_))); (case side2 => exact HC0.out); rintro e w4 ⟨v198, rfl, ho0, hb⟩; have n0_ := Aside0.mk (Kd.R_lower ho0 (below_size (by repeat (first | (with_reducible first | exact HB.out | apply below_alloc | apply pw_below_drewN | apply below_drew1) | exact HB.out)))); have n1_ := Aside0.mk (below_step (by repeat (first | (with_reducible first | exact HB.out | apply below_alloc | apply pw_below_drewN | apply below_drew1) | exact HB.out)) hb); clear HB; have HO199 := n0_; have HB := n1_; clear n0_ n1_; (try clear hb); (try clear hb2); (try clear hk); (try clear hi); (try clear ho0)) | (go_at_call 30; (with_reducible refine (foliotref13_those.calls k _ _ l0 t200 _ ?side1 ?side2 A3.out).mono ?_); (case side1 => repeat (first | exact (Kd.C_below HR0.out HB.out) | (with_reducible refine Kd.C_alloc ?_ _) | (with_reducible refine Kd.C_drewN ?_ _) | (with_reducible refine Kd.C_drew ?_))); (case side2 => exact HC0.out); rintro e w5 ⟨v201, rfl, ho0, hb⟩; have n0_ := Aside0.mk (Kd.R_below (by (with_reducible repeat (first | apply Kd.R_alloc | apply Kd.R_drewN | apply Kd.R_drew)); exact HO199.out) hb); have n1_ := Aside0.mk (Kd.R_lower ho0 (below_size (by repeat (first | (with_reducible first | exact HB.out | apply below_alloc | apply pw_below_drewN | apply below_drew1) | exact HB.out)))); have n2_ := Aside0.mk (below_step (by repeat (first | (with_reducible first | exact HB.out | apply below_alloc | apply pw_below_drewN | apply below_drew1) | exact HB.out)) hb); clear HO199; clear HB; have HO199 := n0_; have HO202 := n1_; have HB := n2_; clear n0_ n1_ n2_; (try clear hb); (try clear hb2); (try clear hk); (try clear hi); (try clear ho0); obtain ⟨Ao6, co6, eo6⟩ := Kd.R_slice HO202.out; subst eo6))
  repeat (go_quiet (first | (go_at_call 15; (with_reducible refine (foliotref13_All.calls k _ _ l0 t197 _ ?side1 ?side2 A2.out).mono ?_); (case side1 => repeat (first | exact HR0.out | (with_reducible refine Kd.C_alloc ?_ _) | (with_reducible refine Kd.C_drewN ?_ _) | (with_reducible refine Kd.C_drew ?_))); (case side2 => exact HC0.out); rintro e w4 ⟨v198, rfl, ho0, hb⟩; have n0_ := Aside0.mk (Kd.R_lower ho0 (below_size (by repeat (first | (with_reducible first | exact HB.out | apply below_alloc | apply pw_below_drewN | apply below_drew1) | exact HB.out)))); have n1_ := Aside0.mk (below_step (by repeat (first | (with_reducible first | exact HB.out | apply below_alloc | apply pw_below_drewN | apply below_drew1) | exact HB.out)) hb); clear HB; have HO199 := n0_; have HB := n1_; clear n0_ n1_; (try clear hb); (try clear hb2); (try clear hk); (try clear hi); (try clear ho0)) | (go_at_call 30; (with_reducible refine (foliotref13_those.calls k _ _ l0 t200 _ ?side1 ?side2 A3.out).mono ?_); (case side1 => repeat (first | exact (Kd.C_below HR0.out HB.out) | (with_reducible refine Kd.C_alloc ?_ _) | (with_reducible refine Kd.C_drewN ?_ _) | (with_reducible refine Kd.C_drew ?_))); (case side2 => exact HC0.out); rintro e w5 ⟨v201, rfl, ho0, hb⟩; have n0_ := Aside0.mk (Kd.R_below (by (with_reducible repeat (first | apply Kd.R_alloc | apply Kd.R_drewN | apply Kd.R_drew)); exact HO199.out) hb); have n1_ := Aside0.mk (Kd.R_lower ho0 (below_size (by repeat (first | (with_reducible first | exact HB.out | apply below_alloc | apply pw_below_drewN | apply below_drew1) | exact HB.out)))); have n2_ := Aside0.mk (below_step (by repeat (first | (with_reducible first | exact HB.out | apply below_alloc | apply pw_below_drewN | apply below_drew1) | exact HB.out)) hb); clear HO199; clear HB; have HO199 := n0_; have HO202 := n1_; have HB := n2_; clear n0_ n1_ n2_; (try clear hb); (try clear hb2); (try clear hk); (try clear hi); (try clear ho0); obtain ⟨Ao6, co6, eo6⟩ := Kd.R_slice HO202.out; subst eo6)); try go_wp2_with (first | (go_at_call 15; (with_reducible refine (foliotref13_All.calls k _ _ l0 t197 _ ?side1 ?side2 A2.out).mono ?_); (case side1 => repeat (first | exact HR0.out | (with_reducible refine Kd.C_alloc ?_ _) | (with_reducible refine Kd.C_drewN ?_ _) | (with_reducible refine Kd.C_drew ?_))); (case side2 => exact HC0.out); rintro e w4 ⟨v198, rfl, ho0, hb⟩; have n0_ := Aside0.mk (Kd.R_lower ho0 (below_size (by repeat (first | (with_reducible first | exact HB.out | apply below_alloc | apply pw_below_drewN | apply below_drew1) | exact HB.out)))); have n1_ := Aside0.mk (below_step (by repeat (first | (with_reducible first | exact HB.out | apply below_alloc | apply pw_below_drewN | apply below_drew1) | exact HB.out)) hb); clear HB; have HO199 := n0_; have HB := n1_; clear n0_ n1_; (try clear hb); (try clear hb2); (try clear hk); (try clear hi); (try clear ho0)) | (go_at_call 30; (with_reducible refine (foliotref13_those.calls k _ _ l0 t200 _ ?side1 ?side2 A3.out).mono ?_); (case side1 => repeat (first | exact (Kd.C_below HR0.out HB.out) | (with_reducible refine Kd.C_alloc ?_ _) | (with_reducible refine Kd.C_drewN ?_ _) | (with_reducible refine Kd.C_drew ?_))); (case side2 => exact HC0.out); rintro e w5 ⟨v201, rfl, ho0, hb⟩; have n0_ := Aside0.mk (Kd.R_below (by (with_reducible repeat (first | apply Kd.R_alloc | apply Kd.R_drewN | apply Kd.R_drew)); exact HO199.out) hb); have n1_ := Aside0.mk (Kd.R_lower ho0 (below_size (by repeat (first | (with_reducible first | exact HB.out | apply below_alloc | apply pw_below_drewN | apply below_drew1) | exact HB.out)))); have n2_ := Aside0.mk (below_step (by repeat (first | (with_reducible first | exact HB.out | apply below_alloc | apply pw_below_drewN | apply below_drew1) | exact HB.out)) hb); clear HO199; clear HB; have HO199 := n0_; have HO202 := n1_; have HB := n2_; clear n0_ n1_ n2_; (try clear hb); (try clear hb2); (try clear hk); (try clear hi); (try clear ho0); obtain ⟨Ao6, co6, eo6⟩ := Kd.R_slice HO202.out; subst eo6)))
  go_loopg [7] k (fun kq v7 w' => ∃ (x7_1 : Int), v7 = .int .i64 x7_1 ∧ Aside0 (foliotref13_Meet.l0 kq t197 (t200.length : Int) x7_1 = some (r1, r2, r3)) ∧ Aside0 (kq ≤ k) ∧ Aside0 (Kd.R k54 54 w' w.heap.size (fun _ => True) v198 t197) ∧ Aside0 (Below w.heap.size w w'))
  case atStart => exact ⟨(0), (by first | rfl | (simp; done) | (simp [*]; done)), H', ⟨Nat.le_refl _⟩, ⟨by (with_reducible repeat (first | apply Kd.R_alloc | apply Kd.R_drewN | apply Kd.R_drew)); exact HO199.out⟩, ⟨by repeat (first | (with_reducible first | exact HB.out | apply below_alloc | apply pw_below_drewN | apply below_drew1) | exact HB.out)⟩⟩
  case round =>
    clear H'
    try clear c1
    try clear p2
    obtain ⟨x7_1, rfl, HA, HK1, HO_5, HB⟩ := hrel
    cases gk with
    | zero => exact absurd HA.out (by simp [foliotref13_Meet.l0])
    | succ k1 =>
      have H := HA.out
      clear HA
      simp only [foliotref13_Meet.l0] at H
      by_cases c7 : (wrap64 (2 * x7_1)) < (t200.length : Int)
      · rw [if_pos c7] at H
        have c7b0 : decide ((wrap64 (2 * x7_1)) < (t200.length : Int)) = true := decide_eq_true c7
        clear c7
        have H' := Aside0.mk H
        clear H
        go_wp2
        repeat (go_quiet (fail); try go_wp2)
        go_loopg [8, 9, 10, 11] k1 (fun kq v8 v9 v10 v11 w' => ∃ (x8_2 : Int) (x9_2 : Int) (x10_2 : Int) (x11_2 : Int), v8 = .int .i64 x8_2 ∧ v9 = .int .i64 x9_2 ∧ v10 = .int .i64 x10_2 ∧ v11 = .int .i64 x11_2 ∧ Aside0 (foliotref13_Meet.l1 kq t197 (t200.length : Int) x7_1 x8_2 x9_2 x10_2 x11_2 = some (r1, r2, r3)) ∧ Aside0 (kq ≤ k1) ∧ Aside0 (Kd.R k54 54 w' w.heap.size (fun _ => True) v198 t197) ∧ Aside0 (Below w.heap.size w w'))
        case atStart => exact ⟨(0), ((-1)), (0), (0), (by first | rfl | (simp; done) | (simp [*]; done)), (by first | rfl | (simp; done) | (simp [*]; done)), (by first | rfl | (simp; done) | (simp [*]; done)), (by first | rfl | (simp; done) | (simp [*]; done)), H', ⟨Nat.le_refl _⟩, ⟨by (with_reducible repeat (first | apply Kd.R_alloc | apply Kd.R_drewN | apply Kd.R_drew)); exact HO_5.out⟩, ⟨by repeat (first | (with_reducible first | exact HB.out | apply below_alloc | apply pw_below_drewN | apply below_drew1) | exact HB.out)⟩⟩
        case round =>
          clear H'
          try clear c1
          try clear p2
          try clear p6
          try clear c7
          try clear c7b0
          try clear p2
          obtain ⟨x8_2, x9_2, x10_2, x11_2, rfl, rfl, rfl, rfl, HA, HK2, HO_5, HB⟩ := hrel
          cases gk with
          | zero => exact absurd HA.out (by simp [foliotref13_Meet.l1])
          | succ k2 =>
            have H := HA.out
            clear HA
            simp only [foliotref13_Meet.l1] at H
            have HC8 := Aside0.mk H
            clear H
            go_upto_region 10 with (fail)
            repeat (go_quiet (fail); go_upto_region 10 with (fail))
            go_cut [32] (fun v32 wc => ∃ (kq : Nat) (x32_7 : Bool), v32 = .bool x32_7 ∧ Aside0 (foliotref13_Meet.j2 kq t197 (t200.length : Int) x7_1 x8_2 x9_2 x10_2 x11_2 x32_7 = some (r1, r2, r3)) ∧ Aside0 (kq ≤ k2) ∧ Aside0 (Kd.R k54 54 wc w.heap.size (fun _ => True) v198 t197) ∧ Aside0 (Below w.heap.size w wc))
            case first =>
              have H := HC8.out
              clear HC8
              by_cases c9 : x11_2 < (t197.length : Int)
              · rw [if_pos c9] at H
                have c9b0 : decide (x11_2 < (t197.length : Int)) = true := decide_eq_true c9
                clear c9
                (first | rw [c9b0] | (simp only [i64_w, i32_w]; rw [c9b0]) | skip)
                have H' := Aside0.mk H
                clear H
                obtain ⟨Ao10, co10, eo10⟩ := Kd.R_slice HO_5.out
                subst eo10
                go_wp2
                repeat (go_quiet (fail); try go_wp2)
                go_meet
                case rel => exact ⟨_, (decide (x9_2 < 0)), (by first | rfl | (simp; done) | (simp [*]; done)), H', ⟨by have := HK1.out; have := HK2.out; first | omega | exact Nat.le_refl _⟩, ⟨by (with_reducible repeat (first | apply Kd.R_alloc | apply Kd.R_drewN | apply Kd.R_drew)); exact HO_5.out⟩, ⟨by repeat (first | (with_reducible first | exact HB.out | apply below_alloc | apply pw_below_drewN | apply below_drew1) | exact HB.out)⟩⟩
              · rw [if_neg c9] at H
                have c9b0 : decide (x11_2 < (t197.length : Int)) = false := decide_eq_false c9
                clear c9
                (first | rw [c9b0] | (simp only [i64_w, i32_w]; rw [c9b0]) | skip)
                have H' := Aside0.mk H
                clear H
                obtain ⟨Ao11, co11, eo11⟩ := Kd.R_slice HO_5.out
                subst eo11
                go_wp2
                repeat (go_quiet (fail); try go_wp2)
                go_meet
                case rel => exact ⟨_, (false), (by first | rfl | (simp; done) | (simp [*]; done)), H', ⟨by have := HK1.out; have := HK2.out; first | omega | exact Nat.le_refl _⟩, ⟨by (with_reducible repeat (first | apply Kd.R_alloc | apply Kd.R_drewN | apply Kd.R_drew)); exact HO_5.out⟩, ⟨by repeat (first | (with_reducible first | exact HB.out | apply below_alloc | apply pw_below_drewN | apply below_drew1) | exact HB.out)⟩⟩
            case rest =>
              clear HC8
              try clear c1
              try clear p2
              try clear p6
              try clear c7
              try clear c7b0
              try clear c9
              try clear c9b0
              try clear p2
              try clear p6
              obtain ⟨kq, x32_7, rfl, HA, HJ7, HO_5, HB⟩ := hcut
              cases kq with
              | zero => exact absurd HA.out (by simp [foliotref13_Meet.j2])
              | succ kj7 =>
                have H := HA.out
                clear HA
                simp only [foliotref13_Meet.j2] at H
                by_cases c12 : x32_7 = true
                · subst c12
                  have H1 : (if 0 ≤ x11_2 then (if x11_2 < (t197.length : Int) then (if ((rd_T54 t197 x11_2).f1) = 0 then (if (wrap64 (x10_2 - ((rd_T54 t197 x11_2).f1))) = (wrap64 ((t200.length : Int) - x7_1)) then (foliotref13_Meet.l1 kj7 t197 (t200.length : Int) x7_1 (wrap64 (x8_2 + 1)) x11_2 (wrap64 (x10_2 - ((rd_T54 t197 x11_2).f1))) (wrap64 (x11_2 + 1))) else (foliotref13_Meet.l1 kj7 t197 (t200.length : Int) x7_1 (wrap64 (x8_2 + 1)) x9_2 (wrap64 (x10_2 - ((rd_T54 t197 x11_2).f1))) (wrap64 (x11_2 + 1)))) else (if (wrap64 (x10_2 - ((rd_T54 t197 x11_2).f1))) = (wrap64 ((t200.length : Int) - x7_1)) then (foliotref13_Meet.l1 kj7 t197 (t200.length : Int) x7_1 x8_2 x11_2 (wrap64 (x10_2 - ((rd_T54 t197 x11_2).f1))) (wrap64 (x11_2 + 1))) else (foliotref13_Meet.l1 kj7 t197 (t200.length : Int) x7_1 x8_2 x9_2 (wrap64 (x10_2 - ((rd_T54 t197 x11_2).f1))) (wrap64 (x11_2 + 1))))) else (none)) else (none)) = some (r1, r2, r3) := by rw [if_pos rfl] at H; exact H
                  clear H
                  have H := H1
                  clear H1
                  by_cases c13 : 0 ≤ x11_2
                  · rw [if_pos c13] at H
                    have c13b0 : decide (0 ≤ x11_2) = true := decide_eq_true c13
                    clear c13
                    by_cases c14 : x11_2 < (t197.length : Int)
                    · rw [if_pos c14] at H
                      have c14b0 : decide (x11_2 < (t197.length : Int)) = true := decide_eq_true c14
                      clear c14
                      by_cases c15 : ((rd_T54 t197 x11_2).f1) = 0
                      · rw [if_pos c15] at H
                        have c15b0 : (((rd_T54 t197 x11_2).f1) == 0) = true := beq_iff_eq.mpr c15
                        have c15b1 : (((rd_T54 t197 x11_2).f1) != 0) = false := bne_eq_false_iff_eq.mpr c15
                        clear c15
                        by_cases c16 : (wrap64 (x10_2 - ((rd_T54 t197 x11_2).f1))) = (wrap64 ((t200.length : Int) - x7_1))
                        · rw [if_pos c16] at H
                          have c16b0 : ((wrap64 (x10_2 - ((rd_T54 t197 x11_2).f1))) == (wrap64 ((t200.length : Int) - x7_1))) = true := beq_iff_eq.mpr c16
                          have c16b1 : ((wrap64 (x10_2 - ((rd_T54 t197 x11_2).f1))) != (wrap64 ((t200.length : Int) - x7_1))) = false := bne_eq_false_iff_eq.mpr c16
                          clear c16
                          have H' := Aside0.mk H
                          clear H
                          obtain ⟨Ao17, co17, eo17⟩ := Kd.R_slice HO_5.out
                          subst eo17
                          have p203 : 0 ≤ (x11_2 : Int) := of_decide_eq_true (by first | (with_reducible assumption) | assumption)
                          have q203 : x11_2 < (t197.length : Int) := of_decide_eq_true (by first | (with_reducible assumption) | assumption)
                          obtain ⟨ad203, e203, hx203_0, hx203_1⟩ := at_T54 (Kd.R_reads' HO_5.out).2.2 x11_2 p203 q203
                          cases e203
                          replace p203 := eq_true p203
                          replace q203 := eq_true q203
                          have p204 : 0 ≤ (x11_2 : Int) := of_decide_eq_true (by first | (with_reducible assumption) | assumption)
                          have q204 : x11_2 < (t197.length : Int) := of_decide_eq_true (by first | (with_reducible assumption) | assumption)
                          obtain ⟨ad204, e204, hx204_0, hx204_1⟩ := at_T54 (Kd.R_reads' HO_5.out).2.2 x11_2 p204 q204
                          obtain rfl : ad203 = ad204 := (by injection e204)
                          replace p204 := eq_true p204
                          replace q204 := eq_true q204
                          go_wp2
                          repeat (go_quiet (fail); try go_wp2)
                          go_roundg kj7
                          case measure => have := HK1.out; have := HK2.out; have := HJ7.out; omega
                          case rel => exact ⟨(wrap64 (x8_2 + 1)), (x11_2), (wrap64 (x10_2 - ((rd_T54 t197 x11_2).f1))), (wrap64 (x11_2 + 1)), (by first | rfl | (simp; done) | (simp [*]; done)), (by first | rfl | (simp; done) | (simp [*]; done)), (by first | rfl | (simp; done) | (simp [*]; done)), (by first | rfl | (simp; done) | (simp [*]; done)), H', ⟨by have := HK1.out; have := HK2.out; have := HJ7.out; omega⟩, ⟨by (with_reducible repeat (first | apply Kd.R_alloc | apply Kd.R_drewN | apply Kd.R_drew)); exact HO_5.out⟩, ⟨by repeat (first | (with_reducible first | exact HB.out | apply below_alloc | apply pw_below_drewN | apply below_drew1) | exact HB.out)⟩⟩
                        · rw [if_neg c16] at H
                          have c16b0 : ((wrap64 (x10_2 - ((rd_T54 t197 x11_2).f1))) == (wrap64 ((t200.length : Int) - x7_1))) = false := beq_eq_false_iff_ne.mpr c16
                          have c16b1 : ((wrap64 (x10_2 - ((rd_T54 t197 x11_2).f1))) != (wrap64 ((t200.length : Int) - x7_1))) = true := bne_iff_ne.mpr c16
                          have H' := Aside0.mk H
                          clear H
                          obtain ⟨Ao18, co18, eo18⟩ := Kd.R_slice HO_5.out
                          subst eo18
                          have p203 : 0 ≤ (x11_2 : Int) := of_decide_eq_true (by first | (with_reducible assumption) | assumption)
                          have q203 : x11_2 < (t197.length : Int) := of_decide_eq_true (by first | (with_reducible assumption) | assumption)
                          obtain ⟨ad203, e203, hx203_0, hx203_1⟩ := at_T54 (Kd.R_reads' HO_5.out).2.2 x11_2 p203 q203
                          cases e203
                          replace p203 := eq_true p203
                          replace q203 := eq_true q203
                          have p204 : 0 ≤ (x11_2 : Int) := of_decide_eq_true (by first | (with_reducible assumption) | assumption)
                          have q204 : x11_2 < (t197.length : Int) := of_decide_eq_true (by first | (with_reducible assumption) | assumption)
                          obtain ⟨ad204, e204, hx204_0, hx204_1⟩ := at_T54 (Kd.R_reads' HO_5.out).2.2 x11_2 p204 q204
                          obtain rfl : ad203 = ad204 := (by injection e204)
                          replace p204 := eq_true p204
                          replace q204 := eq_true q204
                          go_wp2
                          repeat (go_quiet (fail); try go_wp2)
                          go_roundg kj7
                          case measure => have := HK1.out; have := HK2.out; have := HJ7.out; omega
                          case rel => exact ⟨(wrap64 (x8_2 + 1)), (x9_2), (wrap64 (x10_2 - ((rd_T54 t197 x11_2).f1))), (wrap64 (x11_2 + 1)), (by first | rfl | (simp; done) | (simp [*]; done)), (by first | rfl | (simp; done) | (simp [*]; done)), (by first | rfl | (simp; done) | (simp [*]; done)), (by first | rfl | (simp; done) | (simp [*]; done)), H', ⟨by have := HK1.out; have := HK2.out; have := HJ7.out; omega⟩, ⟨by (with_reducible repeat (first | apply Kd.R_alloc | apply Kd.R_drewN | apply Kd.R_drew)); exact HO_5.out⟩, ⟨by repeat (first | (with_reducible first | exact HB.out | apply below_alloc | apply pw_below_drewN | apply below_drew1) | exact HB.out)⟩⟩
                      · rw [if_neg c15] at H
                        have c15b0 : (((rd_T54 t197 x11_2).f1) == 0) = false := beq_eq_false_iff_ne.mpr c15
                        have c15b1 : (((rd_T54 t197 x11_2).f1) != 0) = true := bne_iff_ne.mpr c15
                        by_cases c19 : (wrap64 (x10_2 - ((rd_T54 t197 x11_2).f1))) = (wrap64 ((t200.length : Int) - x7_1))
                        · rw [if_pos c19] at H
                          have c19b0 : ((wrap64 (x10_2 - ((rd_T54 t197 x11_2).f1))) == (wrap64 ((t200.length : Int) - x7_1))) = true := beq_iff_eq.mpr c19
                          have c19b1 : ((wrap64 (x10_2 - ((rd_T54 t197 x11_2).f1))) != (wrap64 ((t200.length : Int) - x7_1))) = false := bne_eq_false_iff_eq.mpr c19
                          clear c19
                          have H' := Aside0.mk H
                          clear H
                          obtain ⟨Ao20, co20, eo20⟩ := Kd.R_slice HO_5.out
                          subst eo20
                          have p203 : 0 ≤ (x11_2 : Int) := of_decide_eq_true (by first | (with_reducible assumption) | assumption)
                          have q203 : x11_2 < (t197.length : Int) := of_decide_eq_true (by first | (with_reducible assumption) | assumption)
                          obtain ⟨ad203, e203, hx203_0, hx203_1⟩ := at_T54 (Kd.R_reads' HO_5.out).2.2 x11_2 p203 q203
                          cases e203
                          replace p203 := eq_true p203
                          replace q203 := eq_true q203
                          have p204 : 0 ≤ (x11_2 : Int) := of_decide_eq_true (by first | (with_reducible assumption) | assumption)
                          have q204 : x11_2 < (t197.length : Int) := of_decide_eq_true (by first | (with_reducible assumption) | assumption)
                          obtain ⟨ad204, e204, hx204_0, hx204_1⟩ := at_T54 (Kd.R_reads' HO_5.out).2.2 x11_2 p204 q204
                          obtain rfl : ad203 = ad204 := (by injection e204)
                          replace p204 := eq_true p204
                          replace q204 := eq_true q204
                          go_wp2
                          repeat (go_quiet (fail); try go_wp2)
                          go_roundg kj7
                          case measure => have := HK1.out; have := HK2.out; have := HJ7.out; omega
                          case rel => exact ⟨(x8_2), (x11_2), (wrap64 (x10_2 - ((rd_T54 t197 x11_2).f1))), (wrap64 (x11_2 + 1)), (by first | rfl | (simp; done) | (simp [*]; done)), (by first | rfl | (simp; done) | (simp [*]; done)), (by first | rfl | (simp; done) | (simp [*]; done)), (by first | rfl | (simp; done) | (simp [*]; done)), H', ⟨by have := HK1.out; have := HK2.out; have := HJ7.out; omega⟩, ⟨by (with_reducible repeat (first | apply Kd.R_alloc | apply Kd.R_drewN | apply Kd.R_drew)); exact HO_5.out⟩, ⟨by repeat (first | (with_reducible first | exact HB.out | apply below_alloc | apply pw_below_drewN | apply below_drew1) | exact HB.out)⟩⟩
                        · rw [if_neg c19] at H
                          have c19b0 : ((wrap64 (x10_2 - ((rd_T54 t197 x11_2).f1))) == (wrap64 ((t200.length : Int) - x7_1))) = false := beq_eq_false_iff_ne.mpr c19
                          have c19b1 : ((wrap64 (x10_2 - ((rd_T54 t197 x11_2).f1))) != (wrap64 ((t200.length : Int) - x7_1))) = true := bne_iff_ne.mpr c19
                          have H' := Aside0.mk H
                          clear H
                          obtain ⟨Ao21, co21, eo21⟩ := Kd.R_slice HO_5.out
                          subst eo21
                          have p203 : 0 ≤ (x11_2 : Int) := of_decide_eq_true (by first | (with_reducible assumption) | assumption)
                          have q203 : x11_2 < (t197.length : Int) := of_decide_eq_true (by first | (with_reducible assumption) | assumption)
                          obtain ⟨ad203, e203, hx203_0, hx203_1⟩ := at_T54 (Kd.R_reads' HO_5.out).2.2 x11_2 p203 q203
                          cases e203
                          replace p203 := eq_true p203
                          replace q203 := eq_true q203
                          have p204 : 0 ≤ (x11_2 : Int) := of_decide_eq_true (by first | (with_reducible assumption) | assumption)
                          have q204 : x11_2 < (t197.length : Int) := of_decide_eq_true (by first | (with_reducible assumption) | assumption)
                          obtain ⟨ad204, e204, hx204_0, hx204_1⟩ := at_T54 (Kd.R_reads' HO_5.out).2.2 x11_2 p204 q204
                          obtain rfl : ad203 = ad204 := (by injection e204)
                          replace p204 := eq_true p204
                          replace q204 := eq_true q204
                          go_wp2
                          repeat (go_quiet (fail); try go_wp2)
                          go_roundg kj7
                          case measure => have := HK1.out; have := HK2.out; have := HJ7.out; omega
                          case rel => exact ⟨(x8_2), (x9_2), (wrap64 (x10_2 - ((rd_T54 t197 x11_2).f1))), (wrap64 (x11_2 + 1)), (by first | rfl | (simp; done) | (simp [*]; done)), (by first | rfl | (simp; done) | (simp [*]; done)), (by first | rfl | (simp; done) | (simp [*]; done)), (by first | rfl | (simp; done) | (simp [*]; done)), H', ⟨by have := HK1.out; have := HK2.out; have := HJ7.out; omega⟩, ⟨by (with_reducible repeat (first | apply Kd.R_alloc | apply Kd.R_drewN | apply Kd.R_drew)); exact HO_5.out⟩, ⟨by repeat (first | (with_reducible first | exact HB.out | apply below_alloc | apply pw_below_drewN | apply below_drew1) | exact HB.out)⟩⟩
                    · rw [if_neg c14] at H
                      exact absurd H (by simp)
                  · rw [if_neg c13] at H
                    exact absurd H (by simp)
                · replace c12 := Bool.eq_false_iff.mpr c12
                  subst c12
                  have H1 : (if x9_2 < 0 then (foliotref13_Meet.l0 kj7 t197 (t200.length : Int) (wrap64 (x7_1 + 1))) else (foliotref13_Meet.l2 kj7 t197 (t200.length : Int) x7_1 x8_2 x9_2 0 (-1) (wrap64 ((t197.length : Int) - 1)))) = some (r1, r2, r3) := by rw [if_neg (show ¬ (false = true) by decide)] at H; exact H
                  clear H
                  have H := H1
                  clear H1
                  by_cases c22 : x9_2 < 0
                  · rw [if_pos c22] at H
                    have c22b0 : decide (x9_2 < 0) = true := decide_eq_true c22
                    clear c22
                    have H' := Aside0.mk H
                    clear H
                    go_wp2
                    repeat (go_quiet (fail); try go_wp2)
                    go_roundg kj7
                    case measure => have := HK1.out; have := HK2.out; have := HJ7.out; omega
                    case rel => exact ⟨(wrap64 (x7_1 + 1)), (by first | rfl | (simp; done) | (simp [*]; done)), H', ⟨by have := HK1.out; have := HK2.out; have := HJ7.out; omega⟩, ⟨by (with_reducible repeat (first | apply Kd.R_alloc | apply Kd.R_drewN | apply Kd.R_drew)); exact HO_5.out⟩, ⟨by repeat (first | (with_reducible first | exact HB.out | apply below_alloc | apply pw_below_drewN | apply below_drew1) | exact HB.out)⟩⟩
                  · rw [if_neg c22] at H
                    have c22b0 : decide (x9_2 < 0) = false := decide_eq_false c22
                    clear c22
                    have H' := Aside0.mk H
                    clear H
                    obtain ⟨Ao23, co23, eo23⟩ := Kd.R_slice HO_5.out
                    subst eo23
                    go_wp2
                    repeat (go_quiet (fail); try go_wp2)
                    go_loopg [8, 10, 12, 13] kj7 (fun kq v8 v10 v12 v13 w' => ∃ (x8_4 : Int) (x10_4 : Int) (x12_4 : Int) (x13_4 : Int), v8 = .int .i64 x8_4 ∧ v10 = .int .i64 x10_4 ∧ v12 = .int .i64 x12_4 ∧ v13 = .int .i64 x13_4 ∧ Aside0 (foliotref13_Meet.l2 kq t197 (t200.length : Int) x7_1 x8_4 x9_2 x10_4 x12_4 x13_4 = some (r1, r2, r3)) ∧ Aside0 (kq ≤ kj7) ∧ Aside0 (Kd.R k54 54 w' w.heap.size (fun _ => True) (.slice Ao23 t197.length co23) t197) ∧ Aside0 (Below w.heap.size w w'))
                    case atStart => exact ⟨(x8_2), (0), ((-1)), (wrap64 ((t197.length : Int) - 1)), (by first | rfl | (simp; done) | (simp [*]; done)), (by first | rfl | (simp; done) | (simp [*]; done)), (by first | rfl | (simp; done) | (simp [*]; done)), (by first | rfl | (simp; done) | (simp [*]; done)), H', ⟨Nat.le_refl _⟩, ⟨by (with_reducible repeat (first | apply Kd.R_alloc | apply Kd.R_drewN | apply Kd.R_drew)); exact HO_5.out⟩, ⟨by repeat (first | (with_reducible first | exact HB.out | apply below_alloc | apply pw_below_drewN | apply below_drew1) | exact HB.out)⟩⟩
                    case round =>
                      clear H'
                      try clear c1
                      try clear c2
                      try clear p2
                      try clear q2
                      try clear hx2
                      try clear p6
                      try clear c7
                      try clear c7b0
                      try clear c9
                      try clear c9b0
                      try clear c12
                      try clear c13
                      try clear c13b0
                      try clear c14
                      try clear c14b0
                      try clear c15
                      try clear c15b0
                      try clear c15b1
                      try clear c16
                      try clear c16b0
                      try clear c16b1
                      try clear c18
                      try clear c19
                      try clear c19b0
                      try clear c19b1
                      try clear p20
                      try clear q20
                      try clear hx20
                      try clear c22
                      try clear c22b0
                      try clear hx203_0
                      try clear hx203_1
                      try clear hx204_0
                      try clear hx204_1
                      try clear p2
                      try clear p203
                      try clear p204
                      try clear p6
                      try clear q203
                      try clear q204
                      obtain ⟨x8_4, x10_4, x12_4, x13_4, rfl, rfl, rfl, rfl, HA, HK4, HO_5, HB⟩ := hrel
                      cases gk with
                      | zero => exact absurd HA.out (by simp [foliotref13_Meet.l2])
                      | succ k4 =>
                        have H := HA.out
                        clear HA
                        simp only [foliotref13_Meet.l2] at H
                        have HC24 := Aside0.mk H
                        clear H
                        go_upto_region 21 with (fail)
                        repeat (go_quiet (fail); go_upto_region 21 with (fail))
                        go_cut [66] (fun v66 wc => ∃ (kq : Nat) (x66_23 : Bool), v66 = .bool x66_23 ∧ Aside0 (foliotref13_Meet.j4 kq t197 (t200.length : Int) x7_1 x8_4 x9_2 x10_4 x12_4 x13_4 x66_23 = some (r1, r2, r3)) ∧ Aside0 (kq ≤ k4) ∧ Aside0 (Kd.R k54 54 wc w.heap.size (fun _ => True) (.slice Ao23 t197.length co23) t197) ∧ Aside0 (Below w.heap.size w wc))
                        case first =>
                          have H := HC24.out
                          clear HC24
                          by_cases c25 : x13_4 ≥ 0
                          · rw [if_pos c25] at H
                            have c25b0 : decide (0 ≤ x13_4) = true := decide_eq_true c25
                            clear c25
                            (first | rw [c25b0] | (simp only [i64_w, i32_w]; rw [c25b0]) | skip)
                            have H' := Aside0.mk H
                            clear H
                            go_wp2
                            repeat (go_quiet (fail); try go_wp2)
                            go_meet
                            case rel => exact ⟨_, (decide (x12_4 < 0)), (by first | rfl | (simp; done) | (simp [*]; done)), H', ⟨by have := HK1.out; have := HK2.out; have := HJ7.out; have := HK4.out; first | omega | exact Nat.le_refl _⟩, ⟨by (with_reducible repeat (first | apply Kd.R_alloc | apply Kd.R_drewN | apply Kd.R_drew)); exact HO_5.out⟩, ⟨by repeat (first | (with_reducible first | exact HB.out | apply below_alloc | apply pw_below_drewN | apply below_drew1) | exact HB.out)⟩⟩
                          · rw [if_neg c25] at H
                            have c25b0 : decide (0 ≤ x13_4) = false := decide_eq_false c25
                            clear c25
                            (first | rw [c25b0] | (simp only [i64_w, i32_w]; rw [c25b0]) | skip)
                            have H' := Aside0.mk H
                            clear H
                            go_wp2
                            repeat (go_quiet (fail); try go_wp2)
                            go_meet
                            case rel => exact ⟨_, (false), (by first | rfl | (simp; done) | (simp [*]; done)), H', ⟨by have := HK1.out; have := HK2.out; have := HJ7.out; have := HK4.out; first | omega | exact Nat.le_refl _⟩, ⟨by (with_reducible repeat (first | apply Kd.R_alloc | apply Kd.R_drewN | apply Kd.R_drew)); exact HO_5.out⟩, ⟨by repeat (first | (with_reducible first | exact HB.out | apply below_alloc | apply pw_below_drewN | apply below_drew1) | exact HB.out)⟩⟩
                        case rest =>
                          clear HC24
                          try clear c1
                          try clear c2
                          try clear p2
                          try clear q2
                          try clear hx2
                          try clear p6
                          try clear c7
                          try clear c7b0
                          try clear c9
                          try clear c9b0
                          try clear c12
                          try clear c13
                          try clear c13b0
                          try clear c14
                          try clear c14b0
                          try clear c15
                          try clear c15b0
                          try clear c15b1
                          try clear c16
                          try clear c16b0
                          try clear c16b1
                          try clear c18
                          try clear c19
                          try clear c19b0
                          try clear c19b1
                          try clear p20
                          try clear q20
                          try clear hx20
                          try clear c22
                          try clear c22b0
                          try clear c25
                          try clear c25b0
                          try clear hx203_0
                          try clear hx203_1
                          try clear hx204_0
                          try clear hx204_1
                          try clear p2
                          try clear p20
                          try clear p203
                          try clear p204
                          try clear p6
                          try clear q2
                          try clear q20
                          try clear q203
                          try clear q204
                          obtain ⟨kq, x66_23, rfl, HA, HJ23, HO_5, HB⟩ := hcut
                          cases kq with
                          | zero => exact absurd HA.out (by simp [foliotref13_Meet.j4])
                          | succ kj23 =>
                            have H := HA.out
                            clear HA
                            simp only [foliotref13_Meet.j4] at H
                            by_cases c26 : x66_23 = true
                            · subst c26
                              have H1 : (if 0 ≤ x13_4 then (if x13_4 < (t197.length : Int) then (if ((rd_T54 t197 x13_4).f1) = 0 then (if (wrap64 (x10_4 + ((rd_T54 t197 x13_4).f1))) = (wrap64 ((t200.length : Int) - x7_1)) then (foliotref13_Meet.l2 kj23 t197 (t200.length : Int) x7_1 (wrap64 (x8_4 + 1)) x9_2 (wrap64 (x10_4 + ((rd_T54 t197 x13_4).f1))) x13_4 (wrap64 (x13_4 - 1))) else (foliotref13_Meet.l2 kj23 t197 (t200.length : Int) x7_1 (wrap64 (x8_4 + 1)) x9_2 (wrap64 (x10_4 + ((rd_T54 t197 x13_4).f1))) x12_4 (wrap64 (x13_4 - 1)))) else (if (wrap64 (x10_4 + ((rd_T54 t197 x13_4).f1))) = (wrap64 ((t200.length : Int) - x7_1)) then (foliotref13_Meet.l2 kj23 t197 (t200.length : Int) x7_1 x8_4 x9_2 (wrap64 (x10_4 + ((rd_T54 t197 x13_4).f1))) x13_4 (wrap64 (x13_4 - 1))) else (foliotref13_Meet.l2 kj23 t197 (t200.length : Int) x7_1 x8_4 x9_2 (wrap64 (x10_4 + ((rd_T54 t197 x13_4).f1))) x12_4 (wrap64 (x13_4 - 1))))) else (none)) else (none)) = some (r1, r2, r3) := by rw [if_pos rfl] at H; exact H
                              clear H
                              have H := H1
                              clear H1
                              by_cases c27 : 0 ≤ x13_4
                              · rw [if_pos c27] at H
                                have c27b0 : decide (0 ≤ x13_4) = true := decide_eq_true c27
                                clear c27
                                by_cases c28 : x13_4 < (t197.length : Int)
                                · rw [if_pos c28] at H
                                  have c28b0 : decide (x13_4 < (t197.length : Int)) = true := decide_eq_true c28
                                  clear c28
                                  by_cases c29 : ((rd_T54 t197 x13_4).f1) = 0
                                  · rw [if_pos c29] at H
                                    have c29b0 : (((rd_T54 t197 x13_4).f1) == 0) = true := beq_iff_eq.mpr c29
                                    have c29b1 : (((rd_T54 t197 x13_4).f1) != 0) = false := bne_eq_false_iff_eq.mpr c29
                                    clear c29
                                    by_cases c30 : (wrap64 (x10_4 + ((rd_T54 t197 x13_4).f1))) = (wrap64 ((t200.length : Int) - x7_1))
                                    · rw [if_pos c30] at H
                                      have c30b0 : ((wrap64 (x10_4 + ((rd_T54 t197 x13_4).f1))) == (wrap64 ((t200.length : Int) - x7_1))) = true := beq_iff_eq.mpr c30
                                      have c30b1 : ((wrap64 (x10_4 + ((rd_T54 t197 x13_4).f1))) != (wrap64 ((t200.length : Int) - x7_1))) = false := bne_eq_false_iff_eq.mpr c30
                                      clear c30
                                      have H' := Aside0.mk H
                                      clear H
                                      have p209 : 0 ≤ (x13_4 : Int) := of_decide_eq_true (by first | (with_reducible assumption) | assumption)
                                      have q209 : x13_4 < (t197.length : Int) := of_decide_eq_true (by first | (with_reducible assumption) | assumption)
                                      obtain ⟨ad209, e209, hx209_0, hx209_1⟩ := at_T54 (Kd.R_reads' HO_5.out).2.2 x13_4 p209 q209
                                      cases e209
                                      replace p209 := eq_true p209
                                      replace q209 := eq_true q209
                                      have p210 : 0 ≤ (x13_4 : Int) := of_decide_eq_true (by first | (with_reducible assumption) | assumption)
                                      have q210 : x13_4 < (t197.length : Int) := of_decide_eq_true (by first | (with_reducible assumption) | assumption)
                                      obtain ⟨ad210, e210, hx210_0, hx210_1⟩ := at_T54 (Kd.R_reads' HO_5.out).2.2 x13_4 p210 q210
                                      obtain rfl : ad209 = ad210 := (by injection e210)
                                      replace p210 := eq_true p210
                                      replace q210 := eq_true q210
                                      go_wp2
                                      repeat (go_quiet (fail); try go_wp2)
                                      go_roundg kj23
                                      case measure => have := HK1.out; have := HK2.out; have := HJ7.out; have := HK4.out; have := HJ23.out; omega
                                      case rel => exact ⟨(wrap64 (x8_4 + 1)), (wrap64 (x10_4 + ((rd_T54 t197 x13_4).f1))), (x13_4), (wrap64 (x13_4 - 1)), (by first | rfl | (simp; done) | (simp [*]; done)), (by first | rfl | (simp; done) | (simp [*]; done)), (by first | rfl | (simp; done) | (simp [*]; done)), (by first | rfl | (simp; done) | (simp [*]; done)), H', ⟨by have := HK1.out; have := HK2.out; have := HJ7.out; have := HK4.out; have := HJ23.out; omega⟩, ⟨by (with_reducible repeat (first | apply Kd.R_alloc | apply Kd.R_drewN | apply Kd.R_drew)); exact HO_5.out⟩, ⟨by repeat (first | (with_reducible first | exact HB.out | apply below_alloc | apply pw_below_drewN | apply below_drew1) | exact HB.out)⟩⟩
                                    · rw [if_neg c30] at H
                                      have c30b0 : ((wrap64 (x10_4 + ((rd_T54 t197 x13_4).f1))) == (wrap64 ((t200.length : Int) - x7_1))) = false := beq_eq_false_iff_ne.mpr c30
                                      have c30b1 : ((wrap64 (x10_4 + ((rd_T54 t197 x13_4).f1))) != (wrap64 ((t200.length : Int) - x7_1))) = true := bne_iff_ne.mpr c30
                                      have H' := Aside0.mk H
                                      clear H
                                      have p209 : 0 ≤ (x13_4 : Int) := of_decide_eq_true (by first | (with_reducible assumption) | assumption)
                                      have q209 : x13_4 < (t197.length : Int) := of_decide_eq_true (by first | (with_reducible assumption) | assumption)
                                      obtain ⟨ad209, e209, hx209_0, hx209_1⟩ := at_T54 (Kd.R_reads' HO_5.out).2.2 x13_4 p209 q209
                                      cases e209
                                      replace p209 := eq_true p209
                                      replace q209 := eq_true q209
                                      have p210 : 0 ≤ (x13_4 : Int) := of_decide_eq_true (by first | (with_reducible assumption) | assumption)
                                      have q210 : x13_4 < (t197.length : Int) := of_decide_eq_true (by first | (with_reducible assumption) | assumption)
                                      obtain ⟨ad210, e210, hx210_0, hx210_1⟩ := at_T54 (Kd.R_reads' HO_5.out).2.2 x13_4 p210 q210
                                      obtain rfl : ad209 = ad210 := (by injection e210)
                                      replace p210 := eq_true p210
                                      replace q210 := eq_true q210
                                      go_wp2
                                      repeat (go_quiet (fail); try go_wp2)
                                      go_roundg kj23
                                      case measure => have := HK1.out; have := HK2.out; have := HJ7.out; have := HK4.out; have := HJ23.out; omega
                                      case rel => exact ⟨(wrap64 (x8_4 + 1)), (wrap64 (x10_4 + ((rd_T54 t197 x13_4).f1))), (x12_4), (wrap64 (x13_4 - 1)), (by first | rfl | (simp; done) | (simp [*]; done)), (by first | rfl | (simp; done) | (simp [*]; done)), (by first | rfl | (simp; done) | (simp [*]; done)), (by first | rfl | (simp; done) | (simp [*]; done)), H', ⟨by have := HK1.out; have := HK2.out; have := HJ7.out; have := HK4.out; have := HJ23.out; omega⟩, ⟨by (with_reducible repeat (first | apply Kd.R_alloc | apply Kd.R_drewN | apply Kd.R_drew)); exact HO_5.out⟩, ⟨by repeat (first | (with_reducible first | exact HB.out | apply below_alloc | apply pw_below_drewN | apply below_drew1) | exact HB.out)⟩⟩
                                  · rw [if_neg c29] at H
                                    have c29b0 : (((rd_T54 t197 x13_4).f1) == 0) = false := beq_eq_false_iff_ne.mpr c29
                                    have c29b1 : (((rd_T54 t197 x13_4).f1) != 0) = true := bne_iff_ne.mpr c29
                                    by_cases c31 : (wrap64 (x10_4 + ((rd_T54 t197 x13_4).f1))) = (wrap64 ((t200.length : Int) - x7_1))
                                    · rw [if_pos c31] at H
                                      have c31b0 : ((wrap64 (x10_4 + ((rd_T54 t197 x13_4).f1))) == (wrap64 ((t200.length : Int) - x7_1))) = true := beq_iff_eq.mpr c31
                                      have c31b1 : ((wrap64 (x10_4 + ((rd_T54 t197 x13_4).f1))) != (wrap64 ((t200.length : Int) - x7_1))) = false := bne_eq_false_iff_eq.mpr c31
                                      clear c31
                                      have H' := Aside0.mk H
                                      clear H
                                      have p209 : 0 ≤ (x13_4 : Int) := of_decide_eq_true (by first | (with_reducible assumption) | assumption)
                                      have q209 : x13_4 < (t197.length : Int) := of_decide_eq_true (by first | (with_reducible assumption) | assumption)
                                      obtain ⟨ad209, e209, hx209_0, hx209_1⟩ := at_T54 (Kd.R_reads' HO_5.out).2.2 x13_4 p209 q209
                                      cases e209
                                      replace p209 := eq_true p209
                                      replace q209 := eq_true q209
                                      have p210 : 0 ≤ (x13_4 : Int) := of_decide_eq_true (by first | (with_reducible assumption) | assumption)
                                      have q210 : x13_4 < (t197.length : Int) := of_decide_eq_true (by first | (with_reducible assumption) | assumption)
                                      obtain ⟨ad210, e210, hx210_0, hx210_1⟩ := at_T54 (Kd.R_reads' HO_5.out).2.2 x13_4 p210 q210
                                      obtain rfl : ad209 = ad210 := (by injection e210)
                                      replace p210 := eq_true p210
                                      replace q210 := eq_true q210
                                      go_wp2
                                      repeat (go_quiet (fail); try go_wp2)
                                      go_roundg kj23
                                      case measure => have := HK1.out; have := HK2.out; have := HJ7.out; have := HK4.out; have := HJ23.out; omega
                                      case rel => exact ⟨(x8_4), (wrap64 (x10_4 + ((rd_T54 t197 x13_4).f1))), (x13_4), (wrap64 (x13_4 - 1)), (by first | rfl | (simp; done) | (simp [*]; done)), (by first | rfl | (simp; done) | (simp [*]; done)), (by first | rfl | (simp; done) | (simp [*]; done)), (by first | rfl | (simp; done) | (simp [*]; done)), H', ⟨by have := HK1.out; have := HK2.out; have := HJ7.out; have := HK4.out; have := HJ23.out; omega⟩, ⟨by (with_reducible repeat (first | apply Kd.R_alloc | apply Kd.R_drewN | apply Kd.R_drew)); exact HO_5.out⟩, ⟨by repeat (first | (with_reducible first | exact HB.out | apply below_alloc | apply pw_below_drewN | apply below_drew1) | exact HB.out)⟩⟩
                                    · rw [if_neg c31] at H
                                      have c31b0 : ((wrap64 (x10_4 + ((rd_T54 t197 x13_4).f1))) == (wrap64 ((t200.length : Int) - x7_1))) = false := beq_eq_false_iff_ne.mpr c31
                                      have c31b1 : ((wrap64 (x10_4 + ((rd_T54 t197 x13_4).f1))) != (wrap64 ((t200.length : Int) - x7_1))) = true := bne_iff_ne.mpr c31
                                      have H' := Aside0.mk H
                                      clear H
                                      have p209 : 0 ≤ (x13_4 : Int) := of_decide_eq_true (by first | (with_reducible assumption) | assumption)
                                      have q209 : x13_4 < (t197.length : Int) := of_decide_eq_true (by first | (with_reducible assumption) | assumption)
                                      obtain ⟨ad209, e209, hx209_0, hx209_1⟩ := at_T54 (Kd.R_reads' HO_5.out).2.2 x13_4 p209 q209
                                      cases e209
                                      replace p209 := eq_true p209
                                      replace q209 := eq_true q209
                                      have p210 : 0 ≤ (x13_4 : Int) := of_decide_eq_true (by first | (with_reducible assumption) | assumption)
                                      have q210 : x13_4 < (t197.length : Int) := of_decide_eq_true (by first | (with_reducible assumption) | assumption)
                                      obtain ⟨ad210, e210, hx210_0, hx210_1⟩ := at_T54 (Kd.R_reads' HO_5.out).2.2 x13_4 p210 q210
                                      obtain rfl : ad209 = ad210 := (by injection e210)
                                      replace p210 := eq_true p210
                                      replace q210 := eq_true q210
                                      go_wp2
                                      repeat (go_quiet (fail); try go_wp2)
                                      go_roundg kj23
                                      case measure => have := HK1.out; have := HK2.out; have := HJ7.out; have := HK4.out; have := HJ23.out; omega
                                      case rel => exact ⟨(x8_4), (wrap64 (x10_4 + ((rd_T54 t197 x13_4).f1))), (x12_4), (wrap64 (x13_4 - 1)), (by first | rfl | (simp; done) | (simp [*]; done)), (by first | rfl | (simp; done) | (simp [*]; done)), (by first | rfl | (simp; done) | (simp [*]; done)), (by first | rfl | (simp; done) | (simp [*]; done)), H', ⟨by have := HK1.out; have := HK2.out; have := HJ7.out; have := HK4.out; have := HJ23.out; omega⟩, ⟨by (with_reducible repeat (first | apply Kd.R_alloc | apply Kd.R_drewN | apply Kd.R_drew)); exact HO_5.out⟩, ⟨by repeat (first | (with_reducible first | exact HB.out | apply below_alloc | apply pw_below_drewN | apply below_drew1) | exact HB.out)⟩⟩
                                · rw [if_neg c28] at H
                                  exact absurd H (by simp)
                              · rw [if_neg c27] at H
                                exact absurd H (by simp)
                            · replace c26 := Bool.eq_false_iff.mpr c26
                              subst c26
                              have H1 : (if x12_4 ≥ 0 then (if x8_4 ≤ x7_1 then (if 0 ≤ x9_2 then (if x9_2 < (t197.length : Int) then (if 0 ≤ x12_4 then (if x12_4 < (t197.length : Int) then (if ((rd_T54 t197 x9_2).f0) ≤ ((rd_T54 t197 x12_4).f0) then (some (wrap64 (((rd_T54 t197 x9_2).f0) * 65536), wrap64 (((rd_T54 t197 x12_4).f0) * 65536), true)) else (foliotref13_Meet.l0 kj23 t197 (t200.length : Int) (wrap64 (x7_1 + 1)))) else (none)) else (none)) else (none)) else (none)) else (foliotref13_Meet.l0 kj23 t197 (t200.length : Int) (wrap64 (x7_1 + 1)))) else (foliotref13_Meet.l0 kj23 t197 (t200.length : Int) (wrap64 (x7_1 + 1)))) = some (r1, r2, r3) := by rw [if_neg (show ¬ (false = true) by decide)] at H; exact H
                              clear H
                              have H := H1
                              clear H1
                              by_cases c32 : x12_4 ≥ 0
                              · rw [if_pos c32] at H
                                have c32b0 : decide (0 ≤ x12_4) = true := decide_eq_true c32
                                clear c32
                                by_cases c33 : x8_4 ≤ x7_1
                                · rw [if_pos c33] at H
                                  have c33b0 : decide (x8_4 ≤ x7_1) = true := decide_eq_true c33
                                  clear c33
                                  by_cases c34 : 0 ≤ x9_2
                                  · rw [if_pos c34] at H
                                    have c34b0 : decide (0 ≤ x9_2) = true := decide_eq_true c34
                                    clear c34
                                    by_cases c35 : x9_2 < (t197.length : Int)
                                    · rw [if_pos c35] at H
                                      have c35b0 : decide (x9_2 < (t197.length : Int)) = true := decide_eq_true c35
                                      clear c35
                                      by_cases c36 : 0 ≤ x12_4
                                      · rw [if_pos c36] at H
                                        have c36b0 : decide (0 ≤ x12_4) = true := decide_eq_true c36
                                        clear c36
                                        by_cases c37 : x12_4 < (t197.length : Int)
                                        · rw [if_pos c37] at H
                                          have c37b0 : decide (x12_4 < (t197.length : Int)) = true := decide_eq_true c37
                                          clear c37
                                          by_cases c38 : ((rd_T54 t197 x9_2).f0) ≤ ((rd_T54 t197 x12_4).f0)
                                          · rw [if_pos c38] at H
                                            have c38b0 : decide (((rd_T54 t197 x9_2).f0) ≤ ((rd_T54 t197 x12_4).f0)) = true := decide_eq_true c38
                                            clear c38
                                            simp only [Option.some.injEq, Prod.mk.injEq] at H
                                            obtain ⟨rfl, rfl, rfl⟩ := H
                                            have p205 : 0 ≤ (x9_2 : Int) := of_decide_eq_true (by first | (with_reducible assumption) | assumption)
                                            have q205 : x9_2 < (t197.length : Int) := of_decide_eq_true (by first | (with_reducible assumption) | assumption)
                                            obtain ⟨ad205, e205, hx205_0, hx205_1⟩ := at_T54 (Kd.R_reads' HO_5.out).2.2 x9_2 p205 q205
                                            cases e205
                                            replace p205 := eq_true p205
                                            replace q205 := eq_true q205
                                            have p206 : 0 ≤ (x12_4 : Int) := of_decide_eq_true (by first | (with_reducible assumption) | assumption)
                                            have q206 : x12_4 < (t197.length : Int) := of_decide_eq_true (by first | (with_reducible assumption) | assumption)
                                            obtain ⟨ad206, e206, hx206_0, hx206_1⟩ := at_T54 (Kd.R_reads' HO_5.out).2.2 x12_4 p206 q206
                                            obtain rfl : ad205 = ad206 := (by injection e206)
                                            replace p206 := eq_true p206
                                            replace q206 := eq_true q206
                                            have p207 : 0 ≤ (x9_2 : Int) := of_decide_eq_true (by first | (with_reducible assumption) | assumption)
                                            have q207 : x9_2 < (t197.length : Int) := of_decide_eq_true (by first | (with_reducible assumption) | assumption)
                                            obtain ⟨ad207, e207, hx207_0, hx207_1⟩ := at_T54 (Kd.R_reads' HO_5.out).2.2 x9_2 p207 q207
                                            obtain rfl : ad205 = ad207 := (by injection e207)
                                            replace p207 := eq_true p207
                                            replace q207 := eq_true q207
                                            have p208 : 0 ≤ (x12_4 : Int) := of_decide_eq_true (by first | (with_reducible assumption) | assumption)
                                            have q208 : x12_4 < (t197.length : Int) := of_decide_eq_true (by first | (with_reducible assumption) | assumption)
                                            obtain ⟨ad208, e208, hx208_0, hx208_1⟩ := at_T54 (Kd.R_reads' HO_5.out).2.2 x12_4 p208 q208
                                            obtain rfl : ad205 = ad208 := (by injection e208)
                                            replace p208 := eq_true p208
                                            replace q208 := eq_true q208
                                            go_wp2
                                            repeat (go_quiet (fail); try go_wp2)
                                            go_ret3
                                            exact ⟨by first | rfl | (simp [errW_none, errW_some] <;> rfl) | (simp [*, errW_none, errW_some] <;> rfl), by repeat (first | (with_reducible first | exact HB.out | apply below_alloc | apply pw_below_drewN | apply below_drew1) | exact HB.out)⟩
                                          · rw [if_neg c38] at H
                                            have c38b0 : decide (((rd_T54 t197 x9_2).f0) ≤ ((rd_T54 t197 x12_4).f0)) = false := decide_eq_false c38
                                            clear c38
                                            have H' := Aside0.mk H
                                            clear H
                                            have p205 : 0 ≤ (x9_2 : Int) := of_decide_eq_true (by first | (with_reducible assumption) | assumption)
                                            have q205 : x9_2 < (t197.length : Int) := of_decide_eq_true (by first | (with_reducible assumption) | assumption)
                                            obtain ⟨ad205, e205, hx205_0, hx205_1⟩ := at_T54 (Kd.R_reads' HO_5.out).2.2 x9_2 p205 q205
                                            cases e205
                                            replace p205 := eq_true p205
                                            replace q205 := eq_true q205
                                            have p206 : 0 ≤ (x12_4 : Int) := of_decide_eq_true (by first | (with_reducible assumption) | assumption)
                                            have q206 : x12_4 < (t197.length : Int) := of_decide_eq_true (by first | (with_reducible assumption) | assumption)
                                            obtain ⟨ad206, e206, hx206_0, hx206_1⟩ := at_T54 (Kd.R_reads' HO_5.out).2.2 x12_4 p206 q206
                                            obtain rfl : ad205 = ad206 := (by injection e206)
                                            replace p206 := eq_true p206
                                            replace q206 := eq_true q206
                                            go_wp2
                                            repeat (go_quiet (fail); try go_wp2)
                                            go_roundg kj23
                                            case measure => have := HK1.out; have := HK2.out; have := HJ7.out; have := HK4.out; have := HJ23.out; omega
                                            case rel => exact ⟨(wrap64 (x7_1 + 1)), (by first | rfl | (simp; done) | (simp [*]; done)), H', ⟨by have := HK1.out; have := HK2.out; have := HJ7.out; have := HK4.out; have := HJ23.out; omega⟩, ⟨by (with_reducible repeat (first | apply Kd.R_alloc | apply Kd.R_drewN | apply Kd.R_drew)); exact HO_5.out⟩, ⟨by repeat (first | (with_reducible first | exact HB.out | apply below_alloc | apply pw_below_drewN | apply below_drew1) | exact HB.out)⟩⟩
                                        · rw [if_neg c37] at H
                                          exact absurd H (by simp)
                                      · rw [if_neg c36] at H
                                        exact absurd H (by simp)
                                    · rw [if_neg c35] at H
                                      exact absurd H (by simp)
                                  · rw [if_neg c34] at H
                                    exact absurd H (by simp)
                                · rw [if_neg c33] at H
                                  have c33b0 : decide (x8_4 ≤ x7_1) = false := decide_eq_false c33
                                  clear c33
                                  have H' := Aside0.mk H
                                  clear H
                                  go_wp2
                                  repeat (go_quiet (fail); try go_wp2)
                                  go_roundg kj23
                                  case measure => have := HK1.out; have := HK2.out; have := HJ7.out; have := HK4.out; have := HJ23.out; omega
                                  case rel => exact ⟨(wrap64 (x7_1 + 1)), (by first | rfl | (simp; done) | (simp [*]; done)), H', ⟨by have := HK1.out; have := HK2.out; have := HJ7.out; have := HK4.out; have := HJ23.out; omega⟩, ⟨by (with_reducible repeat (first | apply Kd.R_alloc | apply Kd.R_drewN | apply Kd.R_drew)); exact HO_5.out⟩, ⟨by repeat (first | (with_reducible first | exact HB.out | apply below_alloc | apply pw_below_drewN | apply below_drew1) | exact HB.out)⟩⟩
                              · rw [if_neg c32] at H
                                have c32b0 : decide (0 ≤ x12_4) = false := decide_eq_false c32
                                clear c32
                                have H' := Aside0.mk H
                                clear H
                                go_wp2
                                repeat (go_quiet (fail); try go_wp2)
                                go_roundg kj23
                                case measure => have := HK1.out; have := HK2.out; have := HJ7.out; have := HK4.out; have := HJ23.out; omega
                                case rel => exact ⟨(wrap64 (x7_1 + 1)), (by first | rfl | (simp; done) | (simp [*]; done)), H', ⟨by have := HK1.out; have := HK2.out; have := HJ7.out; have := HK4.out; have := HJ23.out; omega⟩, ⟨by (with_reducible repeat (first | apply Kd.R_alloc | apply Kd.R_drewN | apply Kd.R_drew)); exact HO_5.out⟩, ⟨by repeat (first | (with_reducible first | exact HB.out | apply below_alloc | apply pw_below_drewN | apply below_drew1) | exact HB.out)⟩⟩
      · rw [if_neg c7] at H
        have c7b0 : decide ((wrap64 (2 * x7_1)) < (t200.length : Int)) = false := decide_eq_false c7
        clear c7
        simp only [Option.some.injEq, Prod.mk.injEq] at H
        obtain ⟨rfl, rfl, rfl⟩ := H
        go_wp2
        repeat (go_quiet (fail); try go_wp2)
        go_ret3
        exact ⟨by first | rfl | (simp [errW_none, errW_some] <;> rfl) | (simp [*, errW_none, errW_some] <;> rfl), by repeat (first | (with_reducible first | exact HB.out | apply below_alloc | apply pw_below_drewN | apply below_drew1) | exact HB.out)⟩

end Go.Proofs.Ytlhecfleanppmaa.Pr
