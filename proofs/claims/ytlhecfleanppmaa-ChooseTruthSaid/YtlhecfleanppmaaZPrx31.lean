/- Printed walks, packed. -/
import Derived.Test.YtlhecfleanppmaaZK0
import Derived.Test.YtlhecfleanppmaaZK1
import Derived.Test.YtlhecfleanppmaaZK3
import Derived.Test.YtlhecfleanppmaaZPrx30
namespace Go.Proofs.Ytlhecfleanppmaa.Pr
open Go.RowKit Go.Proofs.YtlhecfleanppmaaW.PrintWords Go.Proofs.YtlhecfleanppmaaW.PrintLast Go.Proofs.YtlhecfleanppmaaW.PrintMore
attribute [local go_sem] max2_int min2_int max_two min_two max_three min_three max_four min_four   -- for this text's walks alone
set_option linter.unusedVariables false
set_option linter.unusedSimpArgs false

/-! ### foliotlaw13_ChooseTruth: function 9 -/
mutual
def foliotlaw13_ChooseTruth.j0 : Nat → List (S26) → List (S26) → Int → Bool → Option (Bool)
  | 0, _, _, _, _ => none
  | k + 1, x0, x1, x2, x30 => if x30 = true then (some true) else (foliotlaw13_ChooseTruth.l0 k x0 x1 x2 (([] : List (S26))) 0 0)
def foliotlaw13_ChooseTruth.l0 : Nat → List (S26) → List (S26) → Int → List (S26) → Int → Int → Option (Bool)
  | 0, _, _, _, _, _, _ => none
  | k + 1, x0, x1, x2, x7, x8, x9 => if x9 < (x0.length : Int) then (if 0 ≤ x9 then ((foliotlaw13_near.f ((rd_T26 x0 x9).f0) ((rd_T26 x0 x9).f1) ((rd_T26 x0 x9).f2) ((rd_T26 x0 x9).f3) ((rd_T26 x0 x9).f4) ((rd_T26 x0 x9).f5) ((rd_T26 x0 x9).f6) (wrap64 (x2))).bind fun bt367 => (if x7.length < 2932031007402 then (foliotlaw13_ChooseTruth.l0 k x0 x1 x2 (x7 ++ [(⟨bt367.1, bt367.2.1, bt367.2.2.1, bt367.2.2.2.1, bt367.2.2.2.2.1, bt367.2.2.2.2.2.1, bt367.2.2.2.2.2.2⟩ : S26)]) (mx x8 bt367.2.2.1) (wrap64 (x9 + 1))) else (none))) else (none)) else (foliotlaw13_ChooseTruth.l1 k x1 x2 x7 x8 0)
def foliotlaw13_ChooseTruth.l1 : Nat → List (S26) → Int → List (S26) → Int → Int → Option (Bool)
  | 0, _, _, _, _, _ => none
  | k + 1, x1, x2, x7, x8, x11 => if x11 < (x1.length : Int) then (if 0 ≤ x11 then (if x7.length < 2932031007402 then (foliotlaw13_ChooseTruth.l1 k x1 x2 (x7 ++ [(⟨(rd_T26 x1 x11).f0, Int.tmod ((rd_T26 x1 x11).f1) 1125899906842624, mx (Int.tmod ((rd_T26 x1 x11).f2) 1125899906842624) (wrap64 (-(Int.tmod ((rd_T26 x1 x11).f2) 1125899906842624))), (rd_T26 x1 x11).f3, (rd_T26 x1 x11).f4, (rd_T26 x1 x11).f5, (rd_T26 x1 x11).f6⟩ : S26)]) x8 (wrap64 (x11 + 1))) else (none)) else (none)) else ((foliotref13_Meet.f k x7).bind fun bt383 => ((choose_Meet.f x7).bind fun bt386 => (if (bt386.2.2 != bt383.2.2) = true then (foliotlaw13_ChooseTruth.j3 k x2 x7 x8 bt383.2.2 bt386.1 bt386.2.1 bt386.2.2 true) else (foliotlaw13_ChooseTruth.j3 k x2 x7 x8 bt383.2.2 bt386.1 bt386.2.1 bt386.2.2 (!bt386.2.2)))))
def foliotlaw13_ChooseTruth.j3 : Nat → Int → List (S26) → Int → Bool → Int → Int → Bool → Bool → Option (Bool)
  | 0, _, _, _, _, _, _, _, _ => none
  | k + 1, x2, x7, x8, x15, x16, x17, x18, x98 => if x98 = true then (some (x18 == x15)) else ((choose_Survivors.f k x7).bind fun t389 => (foliotlaw13_ChooseTruth.l2 k x2 x7 x8 x16 x17 t389 0))
def foliotlaw13_ChooseTruth.l2 : Nat → Int → List (S26) → Int → Int → Int → List (S26) → Int → Option (Bool)
  | 0, _, _, _, _, _, _, _ => none
  | k + 1, x2, x7, x8, x16, x17, x19, x20 => if x20 < (x19.length : Int) then (if 0 ≤ x20 then ((foliotlaw13_far.f ((rd_T26 x19 x20).f1) (wrap64 (x2)) (wrap64 ((wrap64 (2 * x8)) + 262144))).bind fun t393 => (if t393 = true then (some false) else (foliotlaw13_ChooseTruth.l2 k x2 x7 x8 x16 x17 x19 (wrap64 (x20 + 1))))) else (none)) else ((foliotlaw13_far.f x16 (wrap64 (x2)) (wrap64 ((wrap64 (2 * x8)) + 131072))).bind fun t394 => (if t394 = true then (some false) else ((foliotlaw13_far.f x17 (wrap64 (x2)) (wrap64 ((wrap64 (2 * x8)) + 131072))).bind fun t395 => (if t395 = true then (some false) else (some (decide ((wrap64 (2 * (x19.length : Int))) > (x7.length : Int))))))))
end
def foliotlaw13_ChooseTruth.f (k : Nat) (l0 : List (S26)) (l1 : List (S26)) (a2 : Int) : Option (Bool) := if (l0.length : Int) > 30 then (foliotlaw13_ChooseTruth.j0 k l0 l1 a2 true) else (foliotlaw13_ChooseTruth.j0 k l0 l1 a2 (decide ((l1.length : Int) ≥ (l0.length : Int))))
theorem foliotlaw13_ChooseTruth.mono_l : ∀ k, (∀ y0 y1 y2 y3, LeO (foliotlaw13_ChooseTruth.j0 k y0 y1 y2 y3) (foliotlaw13_ChooseTruth.j0 (k + 1) y0 y1 y2 y3)) ∧ (∀ y0 y1 y2 y3 y4 y5, LeO (foliotlaw13_ChooseTruth.l0 k y0 y1 y2 y3 y4 y5) (foliotlaw13_ChooseTruth.l0 (k + 1) y0 y1 y2 y3 y4 y5)) ∧ (∀ y0 y1 y2 y3 y4, LeO (foliotlaw13_ChooseTruth.l1 k y0 y1 y2 y3 y4) (foliotlaw13_ChooseTruth.l1 (k + 1) y0 y1 y2 y3 y4)) ∧ (∀ y0 y1 y2 y3 y4 y5 y6 y7, LeO (foliotlaw13_ChooseTruth.j3 k y0 y1 y2 y3 y4 y5 y6 y7) (foliotlaw13_ChooseTruth.j3 (k + 1) y0 y1 y2 y3 y4 y5 y6 y7)) ∧ (∀ y0 y1 y2 y3 y4 y5 y6, LeO (foliotlaw13_ChooseTruth.l2 k y0 y1 y2 y3 y4 y5 y6) (foliotlaw13_ChooseTruth.l2 (k + 1) y0 y1 y2 y3 y4 y5 y6))
  | 0 => ⟨fun _ _ _ _ r h => by simp [foliotlaw13_ChooseTruth.j0] at h, fun _ _ _ _ _ _ r h => by simp [foliotlaw13_ChooseTruth.l0] at h, fun _ _ _ _ _ r h => by simp [foliotlaw13_ChooseTruth.l1] at h, fun _ _ _ _ _ _ _ _ r h => by simp [foliotlaw13_ChooseTruth.j3] at h, fun _ _ _ _ _ _ _ r h => by simp [foliotlaw13_ChooseTruth.l2] at h⟩
  | k + 1 => by
    obtain ⟨ih0, ih1, ih2, ih3, ih4⟩ := foliotlaw13_ChooseTruth.mono_l k
    refine ⟨?_, ?_, ?_, ?_, ?_⟩
    · intro y0 y1 y2 y3
      unfold foliotlaw13_ChooseTruth.j0
      repeat' first
      | (with_reducible exact ih0 _ _ _ _)
      | (with_reducible exact ih1 _ _ _ _ _ _)
      | (with_reducible exact ih2 _ _ _ _ _)
      | (with_reducible exact ih3 _ _ _ _ _ _ _ _)
      | (with_reducible exact ih4 _ _ _ _ _ _ _)
      | (with_reducible exact choose_Survivors.mono _ _)
      | (with_reducible exact foliotref13_Meet.mono _ _)
      | (with_reducible exact LeO.refl _)
      | (with_reducible exact LeO.none _)
      | (with_reducible refine LeO.ite ?_ ?_)
      | (with_reducible refine LeO.bind ?_ (fun _ => ?_))
      | exact ih0 _ _ _ _
      | exact ih1 _ _ _ _ _ _
      | exact ih2 _ _ _ _ _
      | exact ih3 _ _ _ _ _ _ _ _
      | exact ih4 _ _ _ _ _ _ _
      | exact choose_Survivors.mono _ _
      | exact foliotref13_Meet.mono _ _
      | exact LeO.none _
      | refine LeO.ite ?_ ?_
      | refine LeO.bind ?_ (fun _ => ?_)
    · intro y0 y1 y2 y3 y4 y5
      unfold foliotlaw13_ChooseTruth.l0
      repeat' first
      | (with_reducible exact ih0 _ _ _ _)
      | (with_reducible exact ih1 _ _ _ _ _ _)
      | (with_reducible exact ih2 _ _ _ _ _)
      | (with_reducible exact ih3 _ _ _ _ _ _ _ _)
      | (with_reducible exact ih4 _ _ _ _ _ _ _)
      | (with_reducible exact choose_Survivors.mono _ _)
      | (with_reducible exact foliotref13_Meet.mono _ _)
      | (with_reducible exact LeO.refl _)
      | (with_reducible exact LeO.none _)
      | (with_reducible refine LeO.ite ?_ ?_)
      | (with_reducible refine LeO.bind ?_ (fun _ => ?_))
      | exact ih0 _ _ _ _
      | exact ih1 _ _ _ _ _ _
      | exact ih2 _ _ _ _ _
      | exact ih3 _ _ _ _ _ _ _ _
      | exact ih4 _ _ _ _ _ _ _
      | exact choose_Survivors.mono _ _
      | exact foliotref13_Meet.mono _ _
      | exact LeO.none _
      | refine LeO.ite ?_ ?_
      | refine LeO.bind ?_ (fun _ => ?_)
    · intro y0 y1 y2 y3 y4
      unfold foliotlaw13_ChooseTruth.l1
      repeat' first
      | (with_reducible exact ih0 _ _ _ _)
      | (with_reducible exact ih1 _ _ _ _ _ _)
      | (with_reducible exact ih2 _ _ _ _ _)
      | (with_reducible exact ih3 _ _ _ _ _ _ _ _)
      | (with_reducible exact ih4 _ _ _ _ _ _ _)
      | (with_reducible exact choose_Survivors.mono _ _)
      | (with_reducible exact foliotref13_Meet.mono _ _)
      | (with_reducible exact LeO.refl _)
      | (with_reducible exact LeO.none _)
      | (with_reducible refine LeO.ite ?_ ?_)
      | (with_reducible refine LeO.bind ?_ (fun _ => ?_))
      | exact ih0 _ _ _ _
      | exact ih1 _ _ _ _ _ _
      | exact ih2 _ _ _ _ _
      | exact ih3 _ _ _ _ _ _ _ _
      | exact ih4 _ _ _ _ _ _ _
      | exact choose_Survivors.mono _ _
      | exact foliotref13_Meet.mono _ _
      | exact LeO.none _
      | refine LeO.ite ?_ ?_
      | refine LeO.bind ?_ (fun _ => ?_)
    · intro y0 y1 y2 y3 y4 y5 y6 y7
      unfold foliotlaw13_ChooseTruth.j3
      repeat' first
      | (with_reducible exact ih0 _ _ _ _)
      | (with_reducible exact ih1 _ _ _ _ _ _)
      | (with_reducible exact ih2 _ _ _ _ _)
      | (with_reducible exact ih3 _ _ _ _ _ _ _ _)
      | (with_reducible exact ih4 _ _ _ _ _ _ _)
      | (with_reducible exact choose_Survivors.mono _ _)
      | (with_reducible exact foliotref13_Meet.mono _ _)
      | (with_reducible exact LeO.refl _)
      | (with_reducible exact LeO.none _)
      | (with_reducible refine LeO.ite ?_ ?_)
      | (with_reducible refine LeO.bind ?_ (fun _ => ?_))
      | exact ih0 _ _ _ _
      | exact ih1 _ _ _ _ _ _
      | exact ih2 _ _ _ _ _
      | exact ih3 _ _ _ _ _ _ _ _
      | exact ih4 _ _ _ _ _ _ _
      | exact choose_Survivors.mono _ _
      | exact foliotref13_Meet.mono _ _
      | exact LeO.none _
      | refine LeO.ite ?_ ?_
      | refine LeO.bind ?_ (fun _ => ?_)
    · intro y0 y1 y2 y3 y4 y5 y6
      unfold foliotlaw13_ChooseTruth.l2
      repeat' first
      | (with_reducible exact ih0 _ _ _ _)
      | (with_reducible exact ih1 _ _ _ _ _ _)
      | (with_reducible exact ih2 _ _ _ _ _)
      | (with_reducible exact ih3 _ _ _ _ _ _ _ _)
      | (with_reducible exact ih4 _ _ _ _ _ _ _)
      | (with_reducible exact choose_Survivors.mono _ _)
      | (with_reducible exact foliotref13_Meet.mono _ _)
      | (with_reducible exact LeO.refl _)
      | (with_reducible exact LeO.none _)
      | (with_reducible refine LeO.ite ?_ ?_)
      | (with_reducible refine LeO.bind ?_ (fun _ => ?_))
      | exact ih0 _ _ _ _
      | exact ih1 _ _ _ _ _ _
      | exact ih2 _ _ _ _ _
      | exact ih3 _ _ _ _ _ _ _ _
      | exact ih4 _ _ _ _ _ _ _
      | exact choose_Survivors.mono _ _
      | exact foliotref13_Meet.mono _ _
      | exact LeO.none _
      | refine LeO.ite ?_ ?_
      | refine LeO.bind ?_ (fun _ => ?_)
theorem foliotlaw13_ChooseTruth.mono : ∀ a0 a1 a2 k, LeO (foliotlaw13_ChooseTruth.f k a0 a1 a2) (foliotlaw13_ChooseTruth.f (k + 1) a0 a1 a2) := by
  intro a0 a1 a2 k
  obtain ⟨ih0, ih1, ih2, ih3, ih4⟩ := foliotlaw13_ChooseTruth.mono_l k
  unfold foliotlaw13_ChooseTruth.f
  repeat' first
      | (with_reducible exact ih0 _ _ _ _)
      | (with_reducible exact ih1 _ _ _ _ _ _)
      | (with_reducible exact ih2 _ _ _ _ _)
      | (with_reducible exact ih3 _ _ _ _ _ _ _ _)
      | (with_reducible exact ih4 _ _ _ _ _ _ _)
      | (with_reducible exact choose_Survivors.mono _ _)
      | (with_reducible exact foliotref13_Meet.mono _ _)
      | (with_reducible exact LeO.refl _)
      | (with_reducible exact LeO.none _)
      | (with_reducible refine LeO.ite ?_ ?_)
      | (with_reducible refine LeO.bind ?_ (fun _ => ?_))
      | exact ih0 _ _ _ _
      | exact ih1 _ _ _ _ _ _
      | exact ih2 _ _ _ _ _
      | exact ih3 _ _ _ _ _ _ _ _
      | exact ih4 _ _ _ _ _ _ _
      | exact choose_Survivors.mono _ _
      | exact foliotref13_Meet.mono _ _
      | exact LeO.none _
      | refine LeO.ite ?_ ?_
      | refine LeO.bind ?_ (fun _ => ?_)
set_option maxHeartbeats 8000000 in
set_option maxRecDepth 100000 in
theorem foliotlaw13_ChooseTruth.calls (k : Nat) (A0 : Option Addr) (c0 : Nat) (l0 : List (S26)) (A1 : Option Addr) (c1 : Nat) (l1 : List (S26)) (a2 : Int) (r : Bool) (w : World) (hr0 : Kd.C k26 w A0 l0.length l0) (hc0 : l0.length ≤ c0) (hr1 : Kd.C k26 w A1 l1.length l1) (hc1 : l1.length ≤ c1) (h : foliotlaw13_ChooseTruth.f k l0 l1 a2 = some r) :
    Calls Try.prog 9 #[.slice A0 l0.length c0, .slice A1 l1.length c1, .int .i32 a2] w fun e w' => e = .returned (.bool r) ∧ Below w.heap.size w w' := by
  have hu26 := Try.underlying26
  have HR0 := Aside0.mk hr0
  have HC0 := Aside0.mk hc0
  clear hr0 hc0
  have HR1 := Aside0.mk hr1
  have HC1 := Aside0.mk hc1
  clear hr1 hc1
  have HB := Aside0.mk (Below.refl w.heap.size w)
  have H : (if (l0.length : Int) > 30 then (foliotlaw13_ChooseTruth.j0 k l0 l1 a2 true) else (foliotlaw13_ChooseTruth.j0 k l0 l1 a2 (decide ((l1.length : Int) ≥ (l0.length : Int))))) = some r := h
  clear h
  have HC4 := Aside0.mk H
  clear H
  go_enter Try.func9, Try.ntmps9
  go_upto_region 1 with (fail)
  go_cut [30] (fun v30 wc => ∃ (kq : Nat) (x30_3 : Bool), v30 = .bool x30_3 ∧ Aside0 (foliotlaw13_ChooseTruth.j0 kq l0 l1 a2 x30_3 = some r) ∧ Aside0 (kq ≤ k) ∧ Aside0 (Below w.heap.size w wc))
  case first =>
    have H := HC4.out
    clear HC4
    by_cases c5 : (l0.length : Int) > 30
    · rw [if_pos c5] at H
      have c5b0 : decide (30 < (l0.length : Int)) = true := decide_eq_true c5
      have c5b1 : decide (30 < l0.length) = true := decide_eq_true (by omega)
      clear c5
      (first | rw [c5b0] | (simp only [i64_w, i32_w]; rw [c5b0]) | skip)
      have H' := Aside0.mk H
      clear H
      go_wp2
      go_meet
      case rel => exact ⟨_, (true), (by first | rfl | (simp; done) | (simp [*]; done)), H', ⟨by first | omega | exact Nat.le_refl _⟩, ⟨by repeat (first | (with_reducible first | exact HB.out | apply below_alloc | apply pw_below_drewN | apply below_drew1) | exact HB.out)⟩⟩
    · rw [if_neg c5] at H
      have c5b0 : decide (30 < (l0.length : Int)) = false := decide_eq_false c5
      have c5b1 : decide (30 < l0.length) = false := decide_eq_false (by omega)
      clear c5
      (first | rw [c5b0] | (simp only [i64_w, i32_w]; rw [c5b0]) | skip)
      have H' := Aside0.mk H
      clear H
      go_wp2
      go_meet
      case rel => exact ⟨_, (decide ((l1.length : Int) ≥ (l0.length : Int))), (by first | rfl | (simp; done) | (simp [*]; done)), H', ⟨by first | omega | exact Nat.le_refl _⟩, ⟨by repeat (first | (with_reducible first | exact HB.out | apply below_alloc | apply pw_below_drewN | apply below_drew1) | exact HB.out)⟩⟩
  case rest =>
    clear HC4
    try clear c1
    try clear p2
    try clear c5
    try clear c5b0
    try clear c5b1
    obtain ⟨kq, x30_3, rfl, HA, HJ3, HB⟩ := hcut
    cases kq with
    | zero => exact absurd HA.out (by simp [foliotlaw13_ChooseTruth.j0])
    | succ kj3 =>
      have H := HA.out
      clear HA
      simp only [foliotlaw13_ChooseTruth.j0] at H
      by_cases c6 : x30_3 = true
      · subst c6
        have H1 : (some true) = some r := by rw [if_pos rfl] at H; exact H
        clear H
        have H := H1
        clear H1
        obtain rfl := Option.some.inj H
        go_wp2
        go_ret
        exact ⟨by first | rfl | (simp [errW_none, errW_some] <;> rfl) | (simp [*, errW_none, errW_some] <;> rfl), by repeat (first | (with_reducible first | exact HB.out | apply below_alloc | apply pw_below_drewN | apply below_drew1) | exact HB.out)⟩
      · replace c6 := Bool.eq_false_iff.mpr c6
        subst c6
        have H1 : (foliotlaw13_ChooseTruth.l0 kj3 l0 l1 a2 (([] : List (S26))) 0 0) = some r := by rw [if_neg (show ¬ (false = true) by decide)] at H; exact H
        clear H
        have H := H1
        clear H1
        obtain ⟨y363, hy363⟩ : ∃ y_ : List (S26), y_ = (([] : List (S26))) := ⟨_, rfl⟩
        replace H : (foliotlaw13_ChooseTruth.l0 kj3 l0 l1 a2 y363 0 0) = some r := by first | (rw [hy363]; with_reducible exact H) | (have H2_ := (Option.bind_some _ _).symm.trans H; rw [hy363]; with_reducible exact H2_) | (have H2_ := (Option.bind_some _ _).symm.trans H; with_reducible exact H2_) | with_reducible exact H | (rw [hy363]; exact H) | exact H
        have Ny363 := Aside0.mk hy363
        clear hy363
        have H' := Aside0.mk H
        clear H
        go_wp2_with (first | ((with_reducible refine gate_dst (N := 31) rfl ?_); (try (refine gate_guard (by rfl) ?_; dsimp only)); refine Kd.R_lit k26 _ 26 ?hg (N := 31) ?hd (xs := ([] : List (S26))) (inner := []) (ok := fun _ => True) (okp := fun _ => True) ?hr ?hp (fun _ hk => hk) trivial (Below.refl _ _) (Nat.le_refl _) (by simp) ?_; (case hd => rfl); (case hg => rfl); (case hr => first | (go_simp; done) | (go_simp; rfl)); (case hp => exact (Reps.none _ _)); intro v364 w7 ho8 hb hg_ hnew_; clear hg_ hnew_; (first | rw [← Ny363.out] at ho8 | (simp only [Int.reduceToNat] at ho8; rw [← Ny363.out] at ho8)); have n0_ := Aside0.mk (Kd.R_lower ho8 (below_size (by repeat (first | (with_reducible first | exact HB.out | apply below_alloc | apply pw_below_drewN | apply below_drew1) | exact HB.out)))); have n1_ := Aside0.mk (below_step (by repeat (first | (with_reducible first | exact HB.out | apply below_alloc | apply pw_below_drewN | apply below_drew1) | exact HB.out)) hb); clear HB; have HO365 := n0_; have HB := n1_; clear n0_ n1_; clear hb ho8))
        go_loopg [7, 8, 9] kj3 (fun kq v7 v8 v9 w' => ∃ (x7_2 : List (S26)) (x8_2 : Int) (x9_2 : Int), v8 = .int .i64 x8_2 ∧ v9 = .int .i64 x9_2 ∧ Aside0 (foliotlaw13_ChooseTruth.l0 kq l0 l1 a2 x7_2 x8_2 x9_2 = some r) ∧ Aside0 (kq ≤ kj3) ∧ Aside0 (Kd.R k26 26 w' w.heap.size (fun _ => True) v7 x7_2) ∧ Aside0 (Below w.heap.size w w'))
        case atStart => exact ⟨(y363), (0), (0), (by first | rfl | (simp; done) | (simp [*]; done)), (by first | rfl | (simp; done) | (simp [*]; done)), H', ⟨Nat.le_refl _⟩, ⟨by (with_reducible repeat (first | apply Kd.R_alloc | apply Kd.R_drewN | apply Kd.R_drew)); exact HO365.out⟩, ⟨by repeat (first | (with_reducible first | exact HB.out | apply below_alloc | apply pw_below_drewN | apply below_drew1) | exact HB.out)⟩⟩
        case round =>
          clear H'
          try clear c1
          try clear p2
          try clear c5
          try clear c5b0
          try clear c5b1
          try clear c6
          try clear p2
          obtain ⟨x7_2, x8_2, x9_2, rfl, rfl, HA, HK2, HO_7, HB⟩ := hrel
          cases gk with
          | zero => exact absurd HA.out (by simp [foliotlaw13_ChooseTruth.l0])
          | succ k2 =>
            have H := HA.out
            clear HA
            simp only [foliotlaw13_ChooseTruth.l0] at H
            by_cases c9 : x9_2 < (l0.length : Int)
            · rw [if_pos c9] at H
              have c9b0 : decide (x9_2 < (l0.length : Int)) = true := decide_eq_true c9
              clear c9
              by_cases c10 : 0 ≤ x9_2
              · rw [if_pos c10] at H
                have c10b0 : decide (0 ≤ x9_2) = true := decide_eq_true c10
                clear c10
                replace H := Option.bind_eq_some_iff.mp H
                obtain ⟨⟨t367, t368, t369, t370, t371, t372, t373⟩, A110, H⟩ := H
                replace H : (if x7_2.length < 2932031007402 then (foliotlaw13_ChooseTruth.l0 k2 l0 l1 a2 (x7_2 ++ [(⟨t367, t368, t369, t370, t371, t372, t373⟩ : S26)]) (mx x8_2 t369) (wrap64 (x9_2 + 1))) else (none)) = some r := H
                have A11 := Aside0.mk A110
                clear A110
                obtain ⟨ji12, hji12⟩ : ∃ j_ : Int, (mx x8_2 t369) = j_ := ⟨_, rfl⟩
                replace H : (if x7_2.length < 2932031007402 then (foliotlaw13_ChooseTruth.l0 k2 l0 l1 a2 (x7_2 ++ [(⟨t367, t368, t369, t370, t371, t372, t373⟩ : S26)]) ji12 (wrap64 (x9_2 + 1))) else (none)) = some r := by first | (rw [hji12] at H; exact H) | (simp only [hji12] at H ⊢; exact H)
                (try rw [hji12] at A11)
                have hji12_ : (if x8_2 < t369 then t369 else x8_2) = ji12 := hji12
                by_cases c13 : x7_2.length < 2932031007402
                · rw [if_pos c13] at H
                  have LMc13 := Aside0.mk c13
                  clear c13
                  obtain ⟨y375, hy375⟩ : ∃ y_ : List (S26), y_ = (x7_2 ++ [(⟨t367, t368, t369, t370, t371, t372, t373⟩ : S26)]) := ⟨_, rfl⟩
                  replace H : (foliotlaw13_ChooseTruth.l0 k2 l0 l1 a2 y375 ji12 (wrap64 (x9_2 + 1))) = some r := by first | (rw [hy375]; with_reducible exact H) | (have H2_ := (Option.bind_some _ _).symm.trans H; rw [hy375]; with_reducible exact H2_) | (have H2_ := (Option.bind_some _ _).symm.trans H; with_reducible exact H2_) | with_reducible exact H | (rw [hy375]; exact H) | exact H
                  have Ny375 := Aside0.mk hy375
                  clear hy375
                  have H' := Aside0.mk H
                  clear H
                  have p366 : 0 ≤ (x9_2 : Int) := of_decide_eq_true (by first | (with_reducible assumption) | assumption)
                  have q366 : x9_2 < (l0.length : Int) := of_decide_eq_true (by first | (with_reducible assumption) | assumption)
                  obtain ⟨ad366, e366, hx366_0, hx366_1, hx366_2, hx366_3, hx366_4, hx366_5, hx366_6⟩ := at_T26 HR0.out x9_2 p366 q366
                  cases e366
                  replace hx366_0 := (HB.out.cell (World.block_lt_of_cell? w _ hx366_0)).trans hx366_0
                  replace hx366_1 := (HB.out.cell (World.block_lt_of_cell? w _ hx366_1)).trans hx366_1
                  replace hx366_2 := (HB.out.cell (World.block_lt_of_cell? w _ hx366_2)).trans hx366_2
                  replace hx366_3 := (HB.out.cell (World.block_lt_of_cell? w _ hx366_3)).trans hx366_3
                  replace hx366_4 := (HB.out.cell (World.block_lt_of_cell? w _ hx366_4)).trans hx366_4
                  replace hx366_5 := (HB.out.cell (World.block_lt_of_cell? w _ hx366_5)).trans hx366_5
                  replace hx366_6 := (HB.out.cell (World.block_lt_of_cell? w _ hx366_6)).trans hx366_6
                  replace p366 := eq_true p366
                  replace q366 := eq_true q366
                  go_wp2_with (first | ((with_reducible refine gate_callee (f := 16) rfl ?_); refine goesL_ (some 44) rfl rfl Try.func16 (by kernel_rfl) rfl #[.agg #[.int .i64 ((rd_T26 l0 x9_2).f0), .int .i64 ((rd_T26 l0 x9_2).f1), .int .i64 ((rd_T26 l0 x9_2).f2), .int .i64 ((rd_T26 l0 x9_2).f3), .int .i64 ((rd_T26 l0 x9_2).f4), .bool ((rd_T26 l0 x9_2).f5), .bool ((rd_T26 l0 x9_2).f6)], .int .i64 (wrap64 (a2))] rfl (by (try simp only [List.map_toArray, List.map_cons, List.map_nil]); first | done | rfl | (simp only [List.length_drop, List.length_take]; rfl)) ?_; (with_reducible refine (foliotlaw13_near.calls ((rd_T26 l0 x9_2).f0) ((rd_T26 l0 x9_2).f1) ((rd_T26 l0 x9_2).f2) ((rd_T26 l0 x9_2).f3) ((rd_T26 l0 x9_2).f4) ((rd_T26 l0 x9_2).f5) ((rd_T26 l0 x9_2).f6) (wrap64 (a2)) t367 t368 t369 t370 t371 t372 t373 _ A11.out).mono ?_); rintro e w14 ⟨rfl, hb⟩; refine ⟨_, rfl, ?_⟩; have n0_ := Aside0.mk (Kd.R_below (by (with_reducible repeat (first | apply Kd.R_alloc | apply Kd.R_drewN | apply Kd.R_drew)); exact HO_7.out) hb); have n1_ := Aside0.mk (below_step (by repeat (first | (with_reducible first | exact HB.out | apply below_alloc | apply pw_below_drewN | apply below_drew1) | exact HB.out)) hb); clear HO_7; clear HB; have HO_7 := n0_; have HB := n1_; clear n0_ n1_; (try clear hb); (try clear hb2); (try clear hk); (try clear hi)) | ((with_reducible refine gate_dst (N := 10) rfl ?_); (try (refine gate_guard (by rfl) ?_; dsimp only)); refine box_event ?hg (N := 10) ?hd (cs := #[.int .i64 0, .int .i64 0, .int .i64 0, .int .i64 0, .int .i64 0, .bool false, .bool false]) (t := 26) ?hr ?_; (case hd => rfl); (case hg => rfl); (case hr => first | (go_simp; done) | (go_simp; rfl)); intro gb374 hg w15 hbox hb; have n0_ := Aside0.mk (Kd.R_below (Kd.R_elderB (by (with_reducible repeat (first | apply Kd.R_alloc | apply Kd.R_drewN | apply Kd.R_drew)); exact HO_7.out) gb374 (Nat.le_of_eq hg.symm)) hb); have n1_ := Aside0.mk (below_step (by repeat (first | (with_reducible first | exact HB.out | apply below_alloc | apply pw_below_drewN | apply below_drew1) | exact HB.out)) hb); have n2_ := Aside0.mk (hbox); have n3_ := Aside0.mk ((by rw [hg]; exact (below_size (by repeat (first | (with_reducible first | exact HB.out | apply below_alloc | apply pw_below_drewN | apply below_drew1) | exact HB.out))) : w.heap.size ≤ gb374)); have n4_ := Aside0.mk ((by rw [hg]; exact (below_size (by repeat (first | (with_reducible first | exact HB.out | apply below_alloc | apply pw_below_drewN | apply below_drew1) | exact HB.out))) : w.heap.size ≤ gb374)); clear HO_7; clear HB; have HO_7 := n0_; have HB := n1_; have BK374 := n2_; have GW374 := n3_; have GE374 := n4_; clear n0_ n1_ n2_ n3_ n4_; clear hb hbox hg; have hcz16_0 : w15.cell? ⟨gb374, 0, none⟩ = some (.int .i64 0) := (blk_cell BK374.out 0).trans rfl; have hcz16_1 : w15.cell? ⟨gb374, 1, none⟩ = some (.int .i64 0) := (blk_cell BK374.out 1).trans rfl; have hcz16_2 : w15.cell? ⟨gb374, 2, none⟩ = some (.int .i64 0) := (blk_cell BK374.out 2).trans rfl; have hcz16_3 : w15.cell? ⟨gb374, 3, none⟩ = some (.int .i64 0) := (blk_cell BK374.out 3).trans rfl; have hcz16_4 : w15.cell? ⟨gb374, 4, none⟩ = some (.int .i64 0) := (blk_cell BK374.out 4).trans rfl; have hcz16_5 : w15.cell? ⟨gb374, 5, none⟩ = some (.bool false) := (blk_cell BK374.out 5).trans rfl; have hcz16_6 : w15.cell? ⟨gb374, 6, none⟩ = some (.bool false) := (blk_cell BK374.out 6).trans rfl; have hfz16_0 := blk_frozen BK374.out 0; have hfz16_1 := blk_frozen BK374.out 1; have hfz16_2 := blk_frozen BK374.out 2; have hfz16_3 := blk_frozen BK374.out 3; have hfz16_4 := blk_frozen BK374.out 4; have hfz16_5 := blk_frozen BK374.out 5; have hfz16_6 := blk_frozen BK374.out 6) | ((with_reducible refine gate_builtin (b := .append) (xs := #[.tmp 49, .tmp 51]) rfl ?_); (try (refine gate_guard (by rfl) ?_; dsimp only)); at_builtin; refine Kd.R_append k26 (w0 := w) w.heap.size rfl (.tmp 49) (.tmp 51) 22 26 (.agg #[(.int .i64 0), (.int .i64 0), (.int .i64 0), (.int .i64 0), (.int .i64 0), (.bool false), (.bool false)]) 48 rfl Try.underlying22 info26 rfl (by decide) (by omega) u7 x7_2 (⟨t367, t368, t369, t370, t371, t372, t373⟩ : S26) [.int .i64 t367, .int .i64 t368, .int .i64 t369, .int .i64 t370, .int .i64 t371, .bool t372, .bool t373] (fun k_ => k_ ≠ gb374) (fun _ => False) rfl (by first | (go_simp; done) | (go_simp; rfl)) ?aP (fun _ hk => hk.elim) ?aF ?aO ?aB ?aS ?aL ?_; (case aP => exact k26_mkM _ _ _ (⟨t367, t368, t369, t370, t371, t372, t373⟩ : S26)); (case aB => exact (by repeat (first | (with_reducible first | exact HB.out | apply below_alloc | apply pw_below_drewN | apply below_drew1 | refine below_set ?_ GE374.out) | exact HB.out))); (case aF => exact (fun k_ hk => Kd.freshB (g := gb374) (o := .cells #[.int .i64 t367, .int .i64 t368, .int .i64 t369, .int .i64 t370, .int .i64 t371, .bool t372, .bool t373] 26 (0, 0)) (by (with_reducible repeat (first | refine blk_drewN ?_ _ | refine blk_drew ?_ | refine blk_alloc ?_ _)); refine blk_put (cs := #[.int .i64 t367, .int .i64 t368, .int .i64 t369, .int .i64 t370, .int .i64 t371, .bool t372, .bool false]) ?_ 6 _ rfl; (with_reducible repeat (first | refine blk_drewN ?_ _ | refine blk_drew ?_ | refine blk_alloc ?_ _)); refine blk_put (cs := #[.int .i64 t367, .int .i64 t368, .int .i64 t369, .int .i64 t370, .int .i64 t371, .bool false, .bool false]) ?_ 5 _ rfl; (with_reducible repeat (first | refine blk_drewN ?_ _ | refine blk_drew ?_ | refine blk_alloc ?_ _)); refine blk_put (cs := #[.int .i64 t367, .int .i64 t368, .int .i64 t369, .int .i64 t370, .int .i64 0, .bool false, .bool false]) ?_ 4 _ rfl; (with_reducible repeat (first | refine blk_drewN ?_ _ | refine blk_drew ?_ | refine blk_alloc ?_ _)); refine blk_put (cs := #[.int .i64 t367, .int .i64 t368, .int .i64 t369, .int .i64 0, .int .i64 0, .bool false, .bool false]) ?_ 3 _ rfl; (with_reducible repeat (first | refine blk_drewN ?_ _ | refine blk_drew ?_ | refine blk_alloc ?_ _)); refine blk_put (cs := #[.int .i64 t367, .int .i64 t368, .int .i64 0, .int .i64 0, .int .i64 0, .bool false, .bool false]) ?_ 2 _ rfl; (with_reducible repeat (first | refine blk_drewN ?_ _ | refine blk_drew ?_ | refine blk_alloc ?_ _)); refine blk_put (cs := #[.int .i64 t367, .int .i64 0, .int .i64 0, .int .i64 0, .int .i64 0, .bool false, .bool false]) ?_ 1 _ rfl; (with_reducible repeat (first | refine blk_drewN ?_ _ | refine blk_drew ?_ | refine blk_alloc ?_ _)); refine blk_put (cs := #[.int .i64 0, .int .i64 0, .int .i64 0, .int .i64 0, .int .i64 0, .bool false, .bool false]) ?_ 0 _ rfl; (with_reducible repeat (first | refine blk_drewN ?_ _ | refine blk_drew ?_ | refine blk_alloc ?_ _)); exact BK374.out) k_ hk)); (case aO => exact (by (with_reducible repeat (first | apply Kd.R_alloc | apply Kd.R_drewN | apply Kd.R_drew)); exact Kd.R_mono (Kd.R_far (p := ⟨gb374, 6, none⟩) (Kd.R_far (p := ⟨gb374, 5, none⟩) (Kd.R_far (p := ⟨gb374, 4, none⟩) (Kd.R_far (p := ⟨gb374, 3, none⟩) (Kd.R_far (p := ⟨gb374, 2, none⟩) (Kd.R_far (p := ⟨gb374, 1, none⟩) (Kd.R_far (p := ⟨gb374, 0, none⟩) (Kd.R_mono HO_7.out (fun k_ hk => (⟨hk, hk.2⟩ : _ ∧ k_ ≠ gb374))) (fun _ hk => hk.2) (.int .i64 t367)) (fun _ hk => hk.2) (.int .i64 t368)) (fun _ hk => hk.2) (.int .i64 t369)) (fun _ hk => hk.2) (.int .i64 t370)) (fun _ hk => hk.2) (.int .i64 t371)) (fun _ hk => hk.2) (.bool t372)) (fun _ hk => hk.2) (.bool t373)) (fun _ hk => hk.1.2))); (case aS => exact (below_size (by repeat (first | (with_reducible first | exact HB.out | apply below_alloc | apply pw_below_drewN | apply below_drew1 | refine below_set ?_ GE374.out) | exact HB.out)))); (case aL => have := LMc13.out; omega); intro v376 w17 ho hb hg hat; rw [← Ny375.out] at ho; have n0_ := Aside0.mk (blk_grown (g := gb374) (o := .cells #[.int .i64 t367, .int .i64 t368, .int .i64 t369, .int .i64 t370, .int .i64 t371, .bool t372, .bool t373] 26 (0, 0)) (by (with_reducible repeat (first | refine blk_drewN ?_ _ | refine blk_drew ?_ | refine blk_alloc ?_ _)); refine blk_put (cs := #[.int .i64 t367, .int .i64 t368, .int .i64 t369, .int .i64 t370, .int .i64 t371, .bool t372, .bool false]) ?_ 6 _ rfl; (with_reducible repeat (first | refine blk_drewN ?_ _ | refine blk_drew ?_ | refine blk_alloc ?_ _)); refine blk_put (cs := #[.int .i64 t367, .int .i64 t368, .int .i64 t369, .int .i64 t370, .int .i64 t371, .bool false, .bool false]) ?_ 5 _ rfl; (with_reducible repeat (first | refine blk_drewN ?_ _ | refine blk_drew ?_ | refine blk_alloc ?_ _)); refine blk_put (cs := #[.int .i64 t367, .int .i64 t368, .int .i64 t369, .int .i64 t370, .int .i64 0, .bool false, .bool false]) ?_ 4 _ rfl; (with_reducible repeat (first | refine blk_drewN ?_ _ | refine blk_drew ?_ | refine blk_alloc ?_ _)); refine blk_put (cs := #[.int .i64 t367, .int .i64 t368, .int .i64 t369, .int .i64 0, .int .i64 0, .bool false, .bool false]) ?_ 3 _ rfl; (with_reducible repeat (first | refine blk_drewN ?_ _ | refine blk_drew ?_ | refine blk_alloc ?_ _)); refine blk_put (cs := #[.int .i64 t367, .int .i64 t368, .int .i64 0, .int .i64 0, .int .i64 0, .bool false, .bool false]) ?_ 2 _ rfl; (with_reducible repeat (first | refine blk_drewN ?_ _ | refine blk_drew ?_ | refine blk_alloc ?_ _)); refine blk_put (cs := #[.int .i64 t367, .int .i64 0, .int .i64 0, .int .i64 0, .int .i64 0, .bool false, .bool false]) ?_ 1 _ rfl; (with_reducible repeat (first | refine blk_drewN ?_ _ | refine blk_drew ?_ | refine blk_alloc ?_ _)); refine blk_put (cs := #[.int .i64 0, .int .i64 0, .int .i64 0, .int .i64 0, .int .i64 0, .bool false, .bool false]) ?_ 0 _ rfl; (with_reducible repeat (first | refine blk_drewN ?_ _ | refine blk_drew ?_ | refine blk_alloc ?_ _)); exact BK374.out) hg (Kd.R_away HO_7.out (fun _ hk => hk.2))); have n1_ := Aside0.mk (hb); have n2_ := Aside0.mk (ho); clear BK374; clear HB; clear HO_7; have BK374 := n0_; have HB := n1_; have HO377 := n2_; clear n0_ n1_ n2_; clear ho hb hg hat))
                  go_roundg k2
                  case measure => have := HJ3.out; have := HK2.out; omega
                  case rel => exact ⟨(y375), (ji12), (wrap64 (x9_2 + 1)), (by first | rfl | (simp; done) | (simp only [← hji12] <;> (first | rfl | simp)) | (simp [*]; done)), (by first | rfl | (simp; done) | (simp [*]; done)), H', ⟨by have := HJ3.out; have := HK2.out; omega⟩, ⟨by (with_reducible repeat (first | apply Kd.R_alloc | apply Kd.R_drewN | apply Kd.R_drew)); exact Kd.R_mono HO377.out (fun _ hk => trivial)⟩, ⟨by repeat (first | (with_reducible first | exact HB.out | apply below_alloc | apply pw_below_drewN | apply below_drew1 | refine below_set ?_ GE374.out) | exact HB.out)⟩⟩
                · rw [if_neg c13] at H
                  exact absurd H (by simp)
              · rw [if_neg c10] at H
                exact absurd H (by simp)
            · rw [if_neg c9] at H
              have c9b0 : decide (x9_2 < (l0.length : Int)) = false := decide_eq_false c9
              clear c9
              have H' := Aside0.mk H
              clear H
              go_wp2
              go_loopg [7, 11] k2 (fun kq v7 v11 w' => ∃ (x7_3 : List (S26)) (x11_3 : Int), v11 = .int .i64 x11_3 ∧ Aside0 (foliotlaw13_ChooseTruth.l1 kq l1 a2 x7_3 x8_2 x11_3 = some r) ∧ Aside0 (kq ≤ k2) ∧ Aside0 (Kd.R k26 26 w' w.heap.size (fun _ => True) v7 x7_3) ∧ Aside0 (Below w.heap.size w w'))
              case atStart => exact ⟨(x7_2), (0), (by first | rfl | (simp; done) | (simp [*]; done)), H', ⟨Nat.le_refl _⟩, ⟨by (with_reducible repeat (first | apply Kd.R_alloc | apply Kd.R_drewN | apply Kd.R_drew)); exact HO_7.out⟩, ⟨by repeat (first | (with_reducible first | exact HB.out | apply below_alloc | apply pw_below_drewN | apply below_drew1) | exact HB.out)⟩⟩
              case round =>
                clear H'
                try clear c1
                try clear p2
                try clear p3
                try clear q3
                try clear hx3
                try clear c5
                try clear c5b0
                try clear c5b1
                try clear c6
                try clear p6
                try clear c9
                try clear c9b0
                try clear c10
                try clear c10b0
                try clear c13
                try clear c16
                try clear hcz16_0
                try clear hcz16_1
                try clear hcz16_2
                try clear hcz16_3
                try clear hcz16_4
                try clear hcz16_5
                try clear hcz16_6
                try clear hfz16_0
                try clear hfz16_1
                try clear hfz16_2
                try clear hfz16_3
                try clear hfz16_4
                try clear hfz16_5
                try clear hfz16_6
                try clear hx366_0
                try clear hx366_1
                try clear hx366_2
                try clear hx366_3
                try clear hx366_4
                try clear hx366_5
                try clear hx366_6
                try clear p2
                try clear p366
                try clear q366
                obtain ⟨x7_3, x11_3, rfl, HA, HK3, HO_7, HB⟩ := hrel
                cases gk with
                | zero => exact absurd HA.out (by simp [foliotlaw13_ChooseTruth.l1])
                | succ k3 =>
                  have H := HA.out
                  clear HA
                  simp only [foliotlaw13_ChooseTruth.l1] at H
                  by_cases c18 : x11_3 < (l1.length : Int)
                  · rw [if_pos c18] at H
                    have c18b0 : decide (x11_3 < (l1.length : Int)) = true := decide_eq_true c18
                    clear c18
                    by_cases c19 : 0 ≤ x11_3
                    · rw [if_pos c19] at H
                      have c19b0 : decide (0 ≤ x11_3) = true := decide_eq_true c19
                      clear c19
                      obtain ⟨ji20, hji20⟩ : ∃ j_ : Int, (mx (Int.tmod ((rd_T26 l1 x11_3).f2) 1125899906842624) (wrap64 (-(Int.tmod ((rd_T26 l1 x11_3).f2) 1125899906842624)))) = j_ := ⟨_, rfl⟩
                      replace H : (if x7_3.length < 2932031007402 then (foliotlaw13_ChooseTruth.l1 k3 l1 a2 (x7_3 ++ [(⟨(rd_T26 l1 x11_3).f0, Int.tmod ((rd_T26 l1 x11_3).f1) 1125899906842624, ji20, (rd_T26 l1 x11_3).f3, (rd_T26 l1 x11_3).f4, (rd_T26 l1 x11_3).f5, (rd_T26 l1 x11_3).f6⟩ : S26)]) x8_2 (wrap64 (x11_3 + 1))) else (none)) = some r := by first | (rw [hji20] at H; exact H) | (simp only [hji20] at H ⊢; exact H)
                      have hji20_ : (if (Int.tmod ((rd_T26 l1 x11_3).f2) 1125899906842624) < (wrap64 (-(Int.tmod ((rd_T26 l1 x11_3).f2) 1125899906842624))) then (wrap64 (-(Int.tmod ((rd_T26 l1 x11_3).f2) 1125899906842624))) else (Int.tmod ((rd_T26 l1 x11_3).f2) 1125899906842624)) = ji20 := hji20
                      by_cases c21 : x7_3.length < 2932031007402
                      · rw [if_pos c21] at H
                        have LMc21 := Aside0.mk c21
                        clear c21
                        obtain ⟨y380, hy380⟩ : ∃ y_ : List (S26), y_ = (x7_3 ++ [(⟨(rd_T26 l1 x11_3).f0, Int.tmod ((rd_T26 l1 x11_3).f1) 1125899906842624, ji20, (rd_T26 l1 x11_3).f3, (rd_T26 l1 x11_3).f4, (rd_T26 l1 x11_3).f5, (rd_T26 l1 x11_3).f6⟩ : S26)]) := ⟨_, rfl⟩
                        replace H : (foliotlaw13_ChooseTruth.l1 k3 l1 a2 y380 x8_2 (wrap64 (x11_3 + 1))) = some r := by first | (rw [hy380]; with_reducible exact H) | (have H2_ := (Option.bind_some _ _).symm.trans H; rw [hy380]; with_reducible exact H2_) | (have H2_ := (Option.bind_some _ _).symm.trans H; with_reducible exact H2_) | with_reducible exact H | (rw [hy380]; exact H) | exact H
                        have Ny380 := Aside0.mk hy380
                        clear hy380
                        have H' := Aside0.mk H
                        clear H
                        have p378 : 0 ≤ (x11_3 : Int) := of_decide_eq_true (by first | (with_reducible assumption) | assumption)
                        have q378 : x11_3 < (l1.length : Int) := of_decide_eq_true (by first | (with_reducible assumption) | assumption)
                        obtain ⟨ad378, e378, hx378_0, hx378_1, hx378_2, hx378_3, hx378_4, hx378_5, hx378_6⟩ := at_T26 HR1.out x11_3 p378 q378
                        cases e378
                        replace hx378_0 := (HB.out.cell (World.block_lt_of_cell? w _ hx378_0)).trans hx378_0
                        replace hx378_1 := (HB.out.cell (World.block_lt_of_cell? w _ hx378_1)).trans hx378_1
                        replace hx378_2 := (HB.out.cell (World.block_lt_of_cell? w _ hx378_2)).trans hx378_2
                        replace hx378_3 := (HB.out.cell (World.block_lt_of_cell? w _ hx378_3)).trans hx378_3
                        replace hx378_4 := (HB.out.cell (World.block_lt_of_cell? w _ hx378_4)).trans hx378_4
                        replace hx378_5 := (HB.out.cell (World.block_lt_of_cell? w _ hx378_5)).trans hx378_5
                        replace hx378_6 := (HB.out.cell (World.block_lt_of_cell? w _ hx378_6)).trans hx378_6
                        replace p378 := eq_true p378
                        replace q378 := eq_true q378
                        go_upto_region 15 with (first | ((with_reducible refine gate_dst (N := 12) rfl ?_); (try (refine gate_guard (by rfl) ?_; dsimp only)); refine box_event ?hg (N := 12) ?hd (cs := #[.int .i64 0, .int .i64 0, .int .i64 0, .int .i64 0, .int .i64 0, .bool false, .bool false]) (t := 26) ?hr ?_; (case hd => rfl); (case hg => rfl); (case hr => first | (go_simp; done) | (go_simp; rfl)); intro gb379 hg w22 hbox hb; have n0_ := Aside0.mk (Kd.R_below (Kd.R_elderB (by (with_reducible repeat (first | apply Kd.R_alloc | apply Kd.R_drewN | apply Kd.R_drew)); exact HO_7.out) gb379 (Nat.le_of_eq hg.symm)) hb); have n1_ := Aside0.mk (below_step (by repeat (first | (with_reducible first | exact HB.out | apply below_alloc | apply pw_below_drewN | apply below_drew1) | exact HB.out)) hb); have n2_ := Aside0.mk (hbox); have n3_ := Aside0.mk ((by rw [hg]; exact (below_size (by repeat (first | (with_reducible first | exact HB.out | apply below_alloc | apply pw_below_drewN | apply below_drew1) | exact HB.out))) : w.heap.size ≤ gb379)); have n4_ := Aside0.mk ((by rw [hg]; exact (below_size (by repeat (first | (with_reducible first | exact HB.out | apply below_alloc | apply pw_below_drewN | apply below_drew1) | exact HB.out))) : w.heap.size ≤ gb379)); clear HO_7; clear HB; have HO_7 := n0_; have HB := n1_; have BK379 := n2_; have GW379 := n3_; have GE379 := n4_; clear n0_ n1_ n2_ n3_ n4_; clear hb hbox hg; have hcz23_0 : w22.cell? ⟨gb379, 0, none⟩ = some (.int .i64 0) := (blk_cell BK379.out 0).trans rfl; have hcz23_1 : w22.cell? ⟨gb379, 1, none⟩ = some (.int .i64 0) := (blk_cell BK379.out 1).trans rfl; have hcz23_2 : w22.cell? ⟨gb379, 2, none⟩ = some (.int .i64 0) := (blk_cell BK379.out 2).trans rfl; have hcz23_3 : w22.cell? ⟨gb379, 3, none⟩ = some (.int .i64 0) := (blk_cell BK379.out 3).trans rfl; have hcz23_4 : w22.cell? ⟨gb379, 4, none⟩ = some (.int .i64 0) := (blk_cell BK379.out 4).trans rfl; have hcz23_5 : w22.cell? ⟨gb379, 5, none⟩ = some (.bool false) := (blk_cell BK379.out 5).trans rfl; have hcz23_6 : w22.cell? ⟨gb379, 6, none⟩ = some (.bool false) := (blk_cell BK379.out 6).trans rfl; have hfz23_0 := blk_frozen BK379.out 0; have hfz23_1 := blk_frozen BK379.out 1; have hfz23_2 := blk_frozen BK379.out 2; have hfz23_3 := blk_frozen BK379.out 3; have hfz23_4 := blk_frozen BK379.out 4; have hfz23_5 := blk_frozen BK379.out 5; have hfz23_6 := blk_frozen BK379.out 6))
                        clear hcz23_0 hfz23_0 hcz23_1 hfz23_1 hcz23_2 hfz23_2 hcz23_3 hfz23_3 hcz23_4 hfz23_4 hcz23_5 hfz23_5 hcz23_6 hfz23_6
                        have n0_ : Aside0 ((((((((w22.setCell ⟨gb379, 0, none⟩ (.int .i64 ((rd_T26 l1 x11_3).f0))).setCell ⟨gb379, 1, none⟩ (.int .i64 ((rd_T26 l1 x11_3).f1))).setCell ⟨gb379, 2, none⟩ (.int .i64 ((rd_T26 l1 x11_3).f2))).setCell ⟨gb379, 3, none⟩ (.int .i64 ((rd_T26 l1 x11_3).f3))).setCell ⟨gb379, 4, none⟩ (.int .i64 ((rd_T26 l1 x11_3).f4))).setCell ⟨gb379, 5, none⟩ (.bool ((rd_T26 l1 x11_3).f5))).setCell ⟨gb379, 6, none⟩ (.bool ((rd_T26 l1 x11_3).f6))).heap[gb379]? = some (.cells #[.int .i64 ((rd_T26 l1 x11_3).f0), .int .i64 ((rd_T26 l1 x11_3).f1), .int .i64 ((rd_T26 l1 x11_3).f2), .int .i64 ((rd_T26 l1 x11_3).f3), .int .i64 ((rd_T26 l1 x11_3).f4), .bool ((rd_T26 l1 x11_3).f5), .bool ((rd_T26 l1 x11_3).f6)] 26 (0, 0))) := ⟨by refine blk_put (cs := #[.int .i64 ((rd_T26 l1 x11_3).f0), .int .i64 ((rd_T26 l1 x11_3).f1), .int .i64 ((rd_T26 l1 x11_3).f2), .int .i64 ((rd_T26 l1 x11_3).f3), .int .i64 ((rd_T26 l1 x11_3).f4), .bool ((rd_T26 l1 x11_3).f5), .bool false]) ?_ 6 _ rfl; refine blk_put (cs := #[.int .i64 ((rd_T26 l1 x11_3).f0), .int .i64 ((rd_T26 l1 x11_3).f1), .int .i64 ((rd_T26 l1 x11_3).f2), .int .i64 ((rd_T26 l1 x11_3).f3), .int .i64 ((rd_T26 l1 x11_3).f4), .bool false, .bool false]) ?_ 5 _ rfl; refine blk_put (cs := #[.int .i64 ((rd_T26 l1 x11_3).f0), .int .i64 ((rd_T26 l1 x11_3).f1), .int .i64 ((rd_T26 l1 x11_3).f2), .int .i64 ((rd_T26 l1 x11_3).f3), .int .i64 0, .bool false, .bool false]) ?_ 4 _ rfl; refine blk_put (cs := #[.int .i64 ((rd_T26 l1 x11_3).f0), .int .i64 ((rd_T26 l1 x11_3).f1), .int .i64 ((rd_T26 l1 x11_3).f2), .int .i64 0, .int .i64 0, .bool false, .bool false]) ?_ 3 _ rfl; refine blk_put (cs := #[.int .i64 ((rd_T26 l1 x11_3).f0), .int .i64 ((rd_T26 l1 x11_3).f1), .int .i64 0, .int .i64 0, .int .i64 0, .bool false, .bool false]) ?_ 2 _ rfl; refine blk_put (cs := #[.int .i64 ((rd_T26 l1 x11_3).f0), .int .i64 0, .int .i64 0, .int .i64 0, .int .i64 0, .bool false, .bool false]) ?_ 1 _ rfl; refine blk_put (cs := #[.int .i64 0, .int .i64 0, .int .i64 0, .int .i64 0, .int .i64 0, .bool false, .bool false]) ?_ 0 _ rfl; exact BK379.out⟩
                        have n1_ : Aside0 (Below w.heap.size w (((((((w22.setCell ⟨gb379, 0, none⟩ (.int .i64 ((rd_T26 l1 x11_3).f0))).setCell ⟨gb379, 1, none⟩ (.int .i64 ((rd_T26 l1 x11_3).f1))).setCell ⟨gb379, 2, none⟩ (.int .i64 ((rd_T26 l1 x11_3).f2))).setCell ⟨gb379, 3, none⟩ (.int .i64 ((rd_T26 l1 x11_3).f3))).setCell ⟨gb379, 4, none⟩ (.int .i64 ((rd_T26 l1 x11_3).f4))).setCell ⟨gb379, 5, none⟩ (.bool ((rd_T26 l1 x11_3).f5))).setCell ⟨gb379, 6, none⟩ (.bool ((rd_T26 l1 x11_3).f6)))) := ⟨(below_set (below_set (below_set (below_set (below_set (below_set (below_set HB.out GE379.out) GE379.out) GE379.out) GE379.out) GE379.out) GE379.out) GE379.out)⟩
                        have n2_ : Aside0 (k26.R 26 (((((((w22.setCell ⟨gb379, 0, none⟩ (.int .i64 ((rd_T26 l1 x11_3).f0))).setCell ⟨gb379, 1, none⟩ (.int .i64 ((rd_T26 l1 x11_3).f1))).setCell ⟨gb379, 2, none⟩ (.int .i64 ((rd_T26 l1 x11_3).f2))).setCell ⟨gb379, 3, none⟩ (.int .i64 ((rd_T26 l1 x11_3).f3))).setCell ⟨gb379, 4, none⟩ (.int .i64 ((rd_T26 l1 x11_3).f4))).setCell ⟨gb379, 5, none⟩ (.bool ((rd_T26 l1 x11_3).f5))).setCell ⟨gb379, 6, none⟩ (.bool ((rd_T26 l1 x11_3).f6))) w.heap.size (fun k_ => True ∧ k_ ≠ gb379) u7 x7_3) := ⟨(Kd.R_far (p := ⟨gb379, 6, none⟩) (Kd.R_far (p := ⟨gb379, 5, none⟩) (Kd.R_far (p := ⟨gb379, 4, none⟩) (Kd.R_far (p := ⟨gb379, 3, none⟩) (Kd.R_far (p := ⟨gb379, 2, none⟩) (Kd.R_far (p := ⟨gb379, 1, none⟩) (Kd.R_far (p := ⟨gb379, 0, none⟩) HO_7.out (fun _ hk => hk.2) (.int .i64 ((rd_T26 l1 x11_3).f0))) (fun _ hk => hk.2) (.int .i64 ((rd_T26 l1 x11_3).f1))) (fun _ hk => hk.2) (.int .i64 ((rd_T26 l1 x11_3).f2))) (fun _ hk => hk.2) (.int .i64 ((rd_T26 l1 x11_3).f3))) (fun _ hk => hk.2) (.int .i64 ((rd_T26 l1 x11_3).f4))) (fun _ hk => hk.2) (.bool ((rd_T26 l1 x11_3).f5))) (fun _ hk => hk.2) (.bool ((rd_T26 l1 x11_3).f6)))⟩
                        clear BK379 HB HO_7
                        generalize (((((((w22.setCell ⟨gb379, 0, none⟩ (.int .i64 ((rd_T26 l1 x11_3).f0))).setCell ⟨gb379, 1, none⟩ (.int .i64 ((rd_T26 l1 x11_3).f1))).setCell ⟨gb379, 2, none⟩ (.int .i64 ((rd_T26 l1 x11_3).f2))).setCell ⟨gb379, 3, none⟩ (.int .i64 ((rd_T26 l1 x11_3).f3))).setCell ⟨gb379, 4, none⟩ (.int .i64 ((rd_T26 l1 x11_3).f4))).setCell ⟨gb379, 5, none⟩ (.bool ((rd_T26 l1 x11_3).f5))).setCell ⟨gb379, 6, none⟩ (.bool ((rd_T26 l1 x11_3).f6))) = W15_ at n0_ n1_ n2_ ⊢
                        have BK379 := n0_
                        have HB := n1_
                        have HO_7 := n2_
                        clear n0_ n1_ n2_
                        have zW15_0 : W15_.cell? ⟨gb379, 0, none⟩ = some (.int .i64 ((rd_T26 l1 x11_3).f0)) := (blk_cell BK379.out 0).trans rfl
                        have yW15_0 := blk_frozen BK379.out 0
                        have zW15_1 : W15_.cell? ⟨gb379, 1, none⟩ = some (.int .i64 ((rd_T26 l1 x11_3).f1)) := (blk_cell BK379.out 1).trans rfl
                        have yW15_1 := blk_frozen BK379.out 1
                        have zW15_2 : W15_.cell? ⟨gb379, 2, none⟩ = some (.int .i64 ((rd_T26 l1 x11_3).f2)) := (blk_cell BK379.out 2).trans rfl
                        have yW15_2 := blk_frozen BK379.out 2
                        have zW15_3 : W15_.cell? ⟨gb379, 3, none⟩ = some (.int .i64 ((rd_T26 l1 x11_3).f3)) := (blk_cell BK379.out 3).trans rfl
                        have yW15_3 := blk_frozen BK379.out 3
                        have zW15_4 : W15_.cell? ⟨gb379, 4, none⟩ = some (.int .i64 ((rd_T26 l1 x11_3).f4)) := (blk_cell BK379.out 4).trans rfl
                        have yW15_4 := blk_frozen BK379.out 4
                        have zW15_5 : W15_.cell? ⟨gb379, 5, none⟩ = some (.bool ((rd_T26 l1 x11_3).f5)) := (blk_cell BK379.out 5).trans rfl
                        have yW15_5 := blk_frozen BK379.out 5
                        have zW15_6 : W15_.cell? ⟨gb379, 6, none⟩ = some (.bool ((rd_T26 l1 x11_3).f6)) := (blk_cell BK379.out 6).trans rfl
                        have yW15_6 := blk_frozen BK379.out 6
                        go_upto_region 17 with (fail)
                        clear zW15_0 yW15_0 zW15_1 yW15_1 zW15_2 yW15_2 zW15_3 yW15_3 zW15_4 yW15_4 zW15_5 yW15_5 zW15_6 yW15_6
                        have n0_ : Aside0 (((W15_.setCell ⟨gb379, 1, none⟩ (.int .i64 (Int.tmod ((rd_T26 l1 x11_3).f1) 1125899906842624))).setCell ⟨gb379, 2, none⟩ (.int .i64 ji20)).heap[gb379]? = some (.cells #[.int .i64 ((rd_T26 l1 x11_3).f0), .int .i64 (Int.tmod ((rd_T26 l1 x11_3).f1) 1125899906842624), .int .i64 ji20, .int .i64 ((rd_T26 l1 x11_3).f3), .int .i64 ((rd_T26 l1 x11_3).f4), .bool ((rd_T26 l1 x11_3).f5), .bool ((rd_T26 l1 x11_3).f6)] 26 (0, 0))) := ⟨by refine blk_put (cs := #[.int .i64 ((rd_T26 l1 x11_3).f0), .int .i64 (Int.tmod ((rd_T26 l1 x11_3).f1) 1125899906842624), .int .i64 ((rd_T26 l1 x11_3).f2), .int .i64 ((rd_T26 l1 x11_3).f3), .int .i64 ((rd_T26 l1 x11_3).f4), .bool ((rd_T26 l1 x11_3).f5), .bool ((rd_T26 l1 x11_3).f6)]) ?_ 2 _ rfl; refine blk_put (cs := #[.int .i64 ((rd_T26 l1 x11_3).f0), .int .i64 ((rd_T26 l1 x11_3).f1), .int .i64 ((rd_T26 l1 x11_3).f2), .int .i64 ((rd_T26 l1 x11_3).f3), .int .i64 ((rd_T26 l1 x11_3).f4), .bool ((rd_T26 l1 x11_3).f5), .bool ((rd_T26 l1 x11_3).f6)]) ?_ 1 _ rfl; exact BK379.out⟩
                        have n1_ : Aside0 (Below w.heap.size w ((W15_.setCell ⟨gb379, 1, none⟩ (.int .i64 (Int.tmod ((rd_T26 l1 x11_3).f1) 1125899906842624))).setCell ⟨gb379, 2, none⟩ (.int .i64 ji20))) := ⟨(below_set (below_set HB.out GE379.out) GE379.out)⟩
                        have n2_ : Aside0 (k26.R 26 ((W15_.setCell ⟨gb379, 1, none⟩ (.int .i64 (Int.tmod ((rd_T26 l1 x11_3).f1) 1125899906842624))).setCell ⟨gb379, 2, none⟩ (.int .i64 ji20)) w.heap.size (fun k_ => True ∧ k_ ≠ gb379) u7 x7_3) := ⟨(Kd.R_far (p := ⟨gb379, 2, none⟩) (Kd.R_far (p := ⟨gb379, 1, none⟩) HO_7.out (fun _ hk => hk.2) (.int .i64 (Int.tmod ((rd_T26 l1 x11_3).f1) 1125899906842624))) (fun _ hk => hk.2) (.int .i64 ji20))⟩
                        clear BK379 HB HO_7
                        generalize ((W15_.setCell ⟨gb379, 1, none⟩ (.int .i64 (Int.tmod ((rd_T26 l1 x11_3).f1) 1125899906842624))).setCell ⟨gb379, 2, none⟩ (.int .i64 ji20)) = W17_ at n0_ n1_ n2_ ⊢
                        have BK379 := n0_
                        have HB := n1_
                        have HO_7 := n2_
                        clear n0_ n1_ n2_
                        have zW17_0 : W17_.cell? ⟨gb379, 0, none⟩ = some (.int .i64 ((rd_T26 l1 x11_3).f0)) := (blk_cell BK379.out 0).trans rfl
                        have yW17_0 := blk_frozen BK379.out 0
                        have zW17_1 : W17_.cell? ⟨gb379, 1, none⟩ = some (.int .i64 (Int.tmod ((rd_T26 l1 x11_3).f1) 1125899906842624)) := (blk_cell BK379.out 1).trans rfl
                        have yW17_1 := blk_frozen BK379.out 1
                        have zW17_2 : W17_.cell? ⟨gb379, 2, none⟩ = some (.int .i64 ji20) := (blk_cell BK379.out 2).trans rfl
                        have yW17_2 := blk_frozen BK379.out 2
                        have zW17_3 : W17_.cell? ⟨gb379, 3, none⟩ = some (.int .i64 ((rd_T26 l1 x11_3).f3)) := (blk_cell BK379.out 3).trans rfl
                        have yW17_3 := blk_frozen BK379.out 3
                        have zW17_4 : W17_.cell? ⟨gb379, 4, none⟩ = some (.int .i64 ((rd_T26 l1 x11_3).f4)) := (blk_cell BK379.out 4).trans rfl
                        have yW17_4 := blk_frozen BK379.out 4
                        have zW17_5 : W17_.cell? ⟨gb379, 5, none⟩ = some (.bool ((rd_T26 l1 x11_3).f5)) := (blk_cell BK379.out 5).trans rfl
                        have yW17_5 := blk_frozen BK379.out 5
                        have zW17_6 : W17_.cell? ⟨gb379, 6, none⟩ = some (.bool ((rd_T26 l1 x11_3).f6)) := (blk_cell BK379.out 6).trans rfl
                        have yW17_6 := blk_frozen BK379.out 6
                        go_wp2_with ((with_reducible refine gate_builtin (b := .append) (xs := #[.tmp 76, .tmp 78]) rfl ?_); (try (refine gate_guard (by rfl) ?_; dsimp only)); at_builtin; refine Kd.R_append k26 (w0 := w) w.heap.size rfl (.tmp 76) (.tmp 78) 22 26 (.agg #[(.int .i64 0), (.int .i64 0), (.int .i64 0), (.int .i64 0), (.int .i64 0), (.bool false), (.bool false)]) 48 rfl Try.underlying22 info26 rfl (by decide) (by omega) u7 x7_3 (⟨(rd_T26 l1 x11_3).f0, Int.tmod ((rd_T26 l1 x11_3).f1) 1125899906842624, ji20, (rd_T26 l1 x11_3).f3, (rd_T26 l1 x11_3).f4, (rd_T26 l1 x11_3).f5, (rd_T26 l1 x11_3).f6⟩ : S26) [.int .i64 ((rd_T26 l1 x11_3).f0), .int .i64 (Int.tmod ((rd_T26 l1 x11_3).f1) 1125899906842624), .int .i64 ji20, .int .i64 ((rd_T26 l1 x11_3).f3), .int .i64 ((rd_T26 l1 x11_3).f4), .bool ((rd_T26 l1 x11_3).f5), .bool ((rd_T26 l1 x11_3).f6)] (fun k_ => k_ ≠ gb379) (fun _ => False) rfl (by first | (go_simp; done) | (go_simp; rfl)) ?aP (fun _ hk => hk.elim) ?aF ?aO ?aB ?aS ?aL ?_; (case aP => exact k26_mkM _ _ _ (⟨(rd_T26 l1 x11_3).f0, Int.tmod ((rd_T26 l1 x11_3).f1) 1125899906842624, ji20, (rd_T26 l1 x11_3).f3, (rd_T26 l1 x11_3).f4, (rd_T26 l1 x11_3).f5, (rd_T26 l1 x11_3).f6⟩ : S26)); (case aB => exact HB.out); (case aF => exact (fun k_ hk => Kd.freshB (g := gb379) (o := .cells #[.int .i64 ((rd_T26 l1 x11_3).f0), .int .i64 (Int.tmod ((rd_T26 l1 x11_3).f1) 1125899906842624), .int .i64 ji20, .int .i64 ((rd_T26 l1 x11_3).f3), .int .i64 ((rd_T26 l1 x11_3).f4), .bool ((rd_T26 l1 x11_3).f5), .bool ((rd_T26 l1 x11_3).f6)] 26 (0, 0)) BK379.out k_ hk)); (case aO => exact Kd.R_mono HO_7.out (fun _ hk => hk.2)); (case aS => exact below_size HB.out); (case aL => have := LMc21.out; omega); intro v381 w24 ho hb hg hat; rw [← Ny380.out] at ho; have n0_ := Aside0.mk (blk_grown (g := gb379) (o := .cells #[.int .i64 ((rd_T26 l1 x11_3).f0), .int .i64 (Int.tmod ((rd_T26 l1 x11_3).f1) 1125899906842624), .int .i64 ji20, .int .i64 ((rd_T26 l1 x11_3).f3), .int .i64 ((rd_T26 l1 x11_3).f4), .bool ((rd_T26 l1 x11_3).f5), .bool ((rd_T26 l1 x11_3).f6)] 26 (0, 0)) BK379.out hg (Kd.R_away HO_7.out (fun _ hk => hk.2))); have n1_ := Aside0.mk (hb); have n2_ := Aside0.mk (ho); clear BK379; clear HB; clear HO_7; have BK379 := n0_; have HB := n1_; have HO382 := n2_; clear n0_ n1_ n2_; clear ho hb hg hat)
                        go_roundg k3
                        case measure => have := HJ3.out; have := HK2.out; have := HK3.out; omega
                        case rel => exact ⟨(y380), (wrap64 (x11_3 + 1)), (by first | rfl | (simp; done) | (simp [*]; done)), H', ⟨by have := HJ3.out; have := HK2.out; have := HK3.out; omega⟩, ⟨by (with_reducible repeat (first | apply Kd.R_alloc | apply Kd.R_drewN | apply Kd.R_drew)); exact Kd.R_mono HO382.out (fun _ hk => trivial)⟩, ⟨by repeat (first | (with_reducible first | exact HB.out | apply below_alloc | apply pw_below_drewN | apply below_drew1 | refine below_set ?_ GE379.out) | exact HB.out)⟩⟩
                      · rw [if_neg c21] at H
                        exact absurd H (by simp)
                    · rw [if_neg c19] at H
                      exact absurd H (by simp)
                  · rw [if_neg c18] at H
                    have c18b0 : decide (x11_3 < (l1.length : Int)) = false := decide_eq_false c18
                    clear c18
                    replace H := Option.bind_eq_some_iff.mp H
                    obtain ⟨⟨t383, t384, t385⟩, A250, H⟩ := H
                    replace H : ((choose_Meet.f x7_3).bind fun bt386 => (if (bt386.2.2 != t385) = true then (foliotlaw13_ChooseTruth.j3 k3 a2 x7_3 x8_2 t385 bt386.1 bt386.2.1 bt386.2.2 true) else (foliotlaw13_ChooseTruth.j3 k3 a2 x7_3 x8_2 t385 bt386.1 bt386.2.1 bt386.2.2 (!bt386.2.2)))) = some r := H
                    have A25 := Aside0.mk A250
                    clear A250
                    replace H := Option.bind_eq_some_iff.mp H
                    obtain ⟨⟨t386, t387, t388⟩, A260, H⟩ := H
                    replace H : (if (t388 != t385) = true then (foliotlaw13_ChooseTruth.j3 k3 a2 x7_3 x8_2 t385 t386 t387 t388 true) else (foliotlaw13_ChooseTruth.j3 k3 a2 x7_3 x8_2 t385 t386 t387 t388 (!t388))) = some r := H
                    have A26 := Aside0.mk A260
                    clear A260
                    have HC27 := Aside0.mk H
                    clear H
                    obtain ⟨Ao28, co28, eo28⟩ := Kd.R_slice HO_7.out
                    subst eo28
                    go_upto_region 20 with (first | ((with_reducible refine gate_callee (f := 18) rfl ?_); refine goesL_ (some 82) rfl rfl Try.func18 (by kernel_rfl) rfl #[.slice Ao28 x7_3.length co28] rfl (by (try simp only [List.map_toArray, List.map_cons, List.map_nil]); first | done | rfl | (simp only [List.length_drop, List.length_take]; rfl)) ?_; (with_reducible refine (foliotref13_Meet.calls k3 _ _ x7_3 t383 t384 t385 _ ?side1 ?side2 A25.out).mono ?_); (case side1 => repeat (first | exact (Kd.R_reads' HO_7.out).2.2 | (with_reducible refine Kd.C_alloc ?_ _) | (with_reducible refine Kd.C_drewN ?_ _) | (with_reducible refine Kd.C_drew ?_))); (case side2 => exact (Kd.R_reads' HO_7.out).2.1); rintro e w29 ⟨rfl, hb⟩; refine ⟨_, rfl, ?_⟩; have n0_ := Aside0.mk (Kd.R_below (by (with_reducible repeat (first | apply Kd.R_alloc | apply Kd.R_drewN | apply Kd.R_drew)); exact HO_7.out) hb); have n1_ := Aside0.mk (below_step (by repeat (first | (with_reducible first | exact HB.out | apply below_alloc | apply pw_below_drewN | apply below_drew1) | exact HB.out)) hb); clear HO_7; clear HB; have HO_7 := n0_; have HB := n1_; clear n0_ n1_; (try clear hb); (try clear hb2); (try clear hk); (try clear hi)) | ((with_reducible refine gate_callee (f := 17) rfl ?_); refine goesL_ (some 88) rfl rfl Try.func17 (by kernel_rfl) rfl #[.slice Ao28 x7_3.length co28] rfl (by (try simp only [List.map_toArray, List.map_cons, List.map_nil]); first | done | rfl | (simp only [List.length_drop, List.length_take]; rfl)) ?_; (with_reducible refine (choose_Meet.calls _ _ x7_3 t386 t387 t388 _ ?side1 ?side2 A26.out).mono ?_); (case side1 => repeat (first | exact (Kd.R_reads' HO_7.out).2.2 | (with_reducible refine Kd.C_alloc ?_ _) | (with_reducible refine Kd.C_drewN ?_ _) | (with_reducible refine Kd.C_drew ?_))); (case side2 => exact (Kd.R_reads' HO_7.out).2.1); rintro e w30 ⟨rfl, hb⟩; refine ⟨_, rfl, ?_⟩; have n0_ := Aside0.mk (Kd.R_below (by (with_reducible repeat (first | apply Kd.R_alloc | apply Kd.R_drewN | apply Kd.R_drew)); exact HO_7.out) hb); have n1_ := Aside0.mk (below_step (by repeat (first | (with_reducible first | exact HB.out | apply below_alloc | apply pw_below_drewN | apply below_drew1) | exact HB.out)) hb); clear HO_7; clear HB; have HO_7 := n0_; have HB := n1_; clear n0_ n1_; (try clear hb); (try clear hb2); (try clear hk); (try clear hi)))
                    (try simp only [Act.put, List.setIfInBounds_toArray, List.set_cons_zero, List.set_cons_succ])
                    go_cut [98] (fun v98 wc => ∃ (kq : Nat) (x98_26 : Bool), v98 = .bool x98_26 ∧ Aside0 (foliotlaw13_ChooseTruth.j3 kq a2 x7_3 x8_2 t385 t386 t387 t388 x98_26 = some r) ∧ Aside0 (kq ≤ k3) ∧ Aside0 (Kd.R k26 26 wc w.heap.size (fun _ => True) (.slice Ao28 x7_3.length co28) x7_3) ∧ Aside0 (Below w.heap.size w wc))
                    case first =>
                      have H := HC27.out
                      clear HC27
                      by_cases c31 : (t388 != t385) = true
                      · rw [if_pos c31] at H
                        have c31b0 : (t388 != t385) = true := c31
                        (try (have c31b1 : decide (t388 = t385) = false := by simpa using c31))
                        (try (have c31b2 : (t388 == t385) = false := by simpa using c31))
                        (try (have c31b3 : ¬ (t388 = t385) := by simpa using c31))
                        clear c31
                        (first | rw [c31b0] | (simp only [i64_w, i32_w]; rw [c31b0]) | skip)
                        have H' := Aside0.mk H
                        clear H
                        go_wp2
                        go_meet
                        case rel => exact ⟨_, (true), (by first | rfl | (simp; done) | (simp [*]; done)), H', ⟨by have := HJ3.out; have := HK2.out; have := HK3.out; first | omega | exact Nat.le_refl _⟩, ⟨by (with_reducible repeat (first | apply Kd.R_alloc | apply Kd.R_drewN | apply Kd.R_drew)); exact HO_7.out⟩, ⟨by repeat (first | (with_reducible first | exact HB.out | apply below_alloc | apply pw_below_drewN | apply below_drew1) | exact HB.out)⟩⟩
                      · rw [if_neg c31] at H
                        have c31b0 : (t388 != t385) = false := by simpa using c31
                        (try (have c31b1 : decide (t388 = t385) = true := by simpa using c31))
                        (try (have c31b2 : (t388 == t385) = true := by simpa using c31))
                        clear c31
                        (first | rw [c31b0] | (simp only [i64_w, i32_w]; rw [c31b0]) | skip)
                        have H' := Aside0.mk H
                        clear H
                        go_wp2
                        go_meet
                        case rel => exact ⟨_, (!t388), (by first | rfl | (simp; done) | (simp [*]; done)), H', ⟨by have := HJ3.out; have := HK2.out; have := HK3.out; first | omega | exact Nat.le_refl _⟩, ⟨by (with_reducible repeat (first | apply Kd.R_alloc | apply Kd.R_drewN | apply Kd.R_drew)); exact HO_7.out⟩, ⟨by repeat (first | (with_reducible first | exact HB.out | apply below_alloc | apply pw_below_drewN | apply below_drew1) | exact HB.out)⟩⟩
                    case rest =>
                      clear HC27
                      try clear c1
                      try clear c2
                      try clear p2
                      try clear c3
                      try clear p3
                      try clear q3
                      try clear hx3
                      try clear c5
                      try clear c5b0
                      try clear c5b1
                      try clear c6
                      try clear p6
                      try clear c9
                      try clear c9b0
                      try clear c10
                      try clear c10b0
                      try clear c13
                      try clear c16
                      try clear c17
                      try clear c18
                      try clear c18b0
                      try clear c19
                      try clear c19b0
                      try clear c21
                      try clear c31
                      try clear c31b0
                      try clear c31b1
                      try clear c31b2
                      try clear hcz16_0
                      try clear hcz16_1
                      try clear hcz16_2
                      try clear hcz16_3
                      try clear hcz16_4
                      try clear hcz16_5
                      try clear hcz16_6
                      try clear hcz23_0
                      try clear hcz23_1
                      try clear hcz23_2
                      try clear hcz23_3
                      try clear hcz23_4
                      try clear hcz23_5
                      try clear hcz23_6
                      try clear hfz16_0
                      try clear hfz16_1
                      try clear hfz16_2
                      try clear hfz16_3
                      try clear hfz16_4
                      try clear hfz16_5
                      try clear hfz16_6
                      try clear hfz23_0
                      try clear hfz23_1
                      try clear hfz23_2
                      try clear hfz23_3
                      try clear hfz23_4
                      try clear hfz23_5
                      try clear hfz23_6
                      try clear hx366_0
                      try clear hx366_1
                      try clear hx366_2
                      try clear hx366_3
                      try clear hx366_4
                      try clear hx366_5
                      try clear hx366_6
                      try clear hx378_0
                      try clear hx378_1
                      try clear hx378_2
                      try clear hx378_3
                      try clear hx378_4
                      try clear hx378_5
                      try clear hx378_6
                      try clear p2
                      try clear p3
                      try clear p366
                      try clear p378
                      try clear p6
                      try clear q3
                      try clear q366
                      try clear q378
                      obtain ⟨kq, x98_26, rfl, HA, HJ26, HO_7, HB⟩ := hcut
                      cases kq with
                      | zero => exact absurd HA.out (by simp [foliotlaw13_ChooseTruth.j3])
                      | succ kj26 =>
                        have H := HA.out
                        clear HA
                        simp only [foliotlaw13_ChooseTruth.j3] at H
                        by_cases c32 : x98_26 = true
                        · subst c32
                          have H1 : (some (t388 == t385)) = some r := by rw [if_pos rfl] at H; exact H
                          clear H
                          have H := H1
                          clear H1
                          obtain rfl := Option.some.inj H
                          go_wp2
                          go_ret
                          exact ⟨by first | rfl | (simp [errW_none, errW_some] <;> rfl) | (simp [*, errW_none, errW_some] <;> rfl), by repeat (first | (with_reducible first | exact HB.out | apply below_alloc | apply pw_below_drewN | apply below_drew1) | exact HB.out)⟩
                        · replace c32 := Bool.eq_false_iff.mpr c32
                          subst c32
                          have H1 : ((choose_Survivors.f kj26 x7_3).bind fun t389 => (foliotlaw13_ChooseTruth.l2 kj26 a2 x7_3 x8_2 t386 t387 t389 0)) = some r := by rw [if_neg (show ¬ (false = true) by decide)] at H; exact H
                          clear H
                          have H := H1
                          clear H1
                          replace H := Option.bind_eq_some_iff.mp H
                          obtain ⟨t389, A330, H⟩ := H
                          replace H : (foliotlaw13_ChooseTruth.l2 kj26 a2 x7_3 x8_2 t386 t387 t389 0) = some r := H
                          have A33 := Aside0.mk A330
                          clear A330
                          have H' := Aside0.mk H
                          clear H
                          go_wp2_with (first | ((with_reducible refine gate_callee (f := 21) rfl ?_); refine goesL_ (some 103) rfl rfl Try.func21 (by kernel_rfl) rfl #[.slice Ao28 x7_3.length co28] rfl (by (try simp only [List.map_toArray, List.map_cons, List.map_nil]); first | done | rfl | (simp only [List.length_drop, List.length_take]; rfl)) ?_; (with_reducible refine (choose_Survivors.calls kj26 _ _ x7_3 t389 _ ?side1 ?side2 A33.out).mono ?_); (case side1 => repeat (first | exact (Kd.R_reads' HO_7.out).2.2 | (with_reducible refine Kd.C_alloc ?_ _) | (with_reducible refine Kd.C_drewN ?_ _) | (with_reducible refine Kd.C_drew ?_))); (case side2 => exact (Kd.R_reads' HO_7.out).2.1); rintro e w34 ⟨v390, rfl, ho0, hb⟩; refine ⟨_, rfl, ?_⟩; have n0_ := Aside0.mk (Kd.R_elder' (by (with_reducible repeat (first | apply Kd.R_alloc | apply Kd.R_drewN | apply Kd.R_drew)); exact HO_7.out) (Kd.R_base ho0) hb); have n1_ := Aside0.mk (Kd.R_lower (Kd.R_new' ho0 (Kd.R_lt (by (with_reducible repeat (first | apply Kd.R_alloc | apply Kd.R_drewN | apply Kd.R_drew)); exact HO_7.out))) (below_size (by repeat (first | (with_reducible first | exact HB.out | apply below_alloc | apply pw_below_drewN | apply below_drew1) | exact HB.out)))); have n2_ := Aside0.mk (below_step (by repeat (first | (with_reducible first | exact HB.out | apply below_alloc | apply pw_below_drewN | apply below_drew1) | exact HB.out)) hb); clear HO_7; clear HB; have HO_7 := n0_; have HO391 := n1_; have HB := n2_; clear n0_ n1_ n2_; (try clear hb); (try clear hb2); (try clear hk); (try clear hi); (try clear ho0)))
                          go_loopg [20] kj26 (fun kq v20 w' => ∃ (x20_5 : Int), v20 = .int .i64 x20_5 ∧ Aside0 (foliotlaw13_ChooseTruth.l2 kq a2 x7_3 x8_2 t386 t387 t389 x20_5 = some r) ∧ Aside0 (kq ≤ kj26) ∧ Aside0 (Kd.R k26 26 w' w.heap.size (fun k_ => some k_ ≠ (v390 : Value).ownBlock) (.slice Ao28 x7_3.length co28) x7_3) ∧ Aside0 (Kd.R k26 26 w' w.heap.size (fun k_ => some k_ ≠ ((.slice Ao28 x7_3.length co28) : Value).ownBlock) v390 t389) ∧ Aside0 (Below w.heap.size w w'))
                          case atStart => exact ⟨(0), (by first | rfl | (simp; done) | (simp [*]; done)), H', ⟨Nat.le_refl _⟩, ⟨by (with_reducible repeat (first | apply Kd.R_alloc | apply Kd.R_drewN | apply Kd.R_drew)); exact Kd.R_mono HO_7.out (fun _ hk => hk.2)⟩, ⟨by (with_reducible repeat (first | apply Kd.R_alloc | apply Kd.R_drewN | apply Kd.R_drew)); exact Kd.R_mono HO391.out (fun _ hk => hk.2)⟩, ⟨by repeat (first | (with_reducible first | exact HB.out | apply below_alloc | apply pw_below_drewN | apply below_drew1) | exact HB.out)⟩⟩
                          case round =>
                            clear H'
                            try clear c1
                            try clear c2
                            try clear p2
                            try clear c3
                            try clear p3
                            try clear q3
                            try clear hx3
                            try clear c5
                            try clear c5b0
                            try clear c5b1
                            try clear c6
                            try clear p6
                            try clear c9
                            try clear c9b0
                            try clear c10
                            try clear c10b0
                            try clear c13
                            try clear c16
                            try clear c17
                            try clear c18
                            try clear c18b0
                            try clear c19
                            try clear c19b0
                            try clear c21
                            try clear c31
                            try clear c31b0
                            try clear c31b1
                            try clear c31b2
                            try clear c32
                            try clear hcz16_0
                            try clear hcz16_1
                            try clear hcz16_2
                            try clear hcz16_3
                            try clear hcz16_4
                            try clear hcz16_5
                            try clear hcz16_6
                            try clear hcz23_0
                            try clear hcz23_1
                            try clear hcz23_2
                            try clear hcz23_3
                            try clear hcz23_4
                            try clear hcz23_5
                            try clear hcz23_6
                            try clear hfz16_0
                            try clear hfz16_1
                            try clear hfz16_2
                            try clear hfz16_3
                            try clear hfz16_4
                            try clear hfz16_5
                            try clear hfz16_6
                            try clear hfz23_0
                            try clear hfz23_1
                            try clear hfz23_2
                            try clear hfz23_3
                            try clear hfz23_4
                            try clear hfz23_5
                            try clear hfz23_6
                            try clear hx366_0
                            try clear hx366_1
                            try clear hx366_2
                            try clear hx366_3
                            try clear hx366_4
                            try clear hx366_5
                            try clear hx366_6
                            try clear hx378_0
                            try clear hx378_1
                            try clear hx378_2
                            try clear hx378_3
                            try clear hx378_4
                            try clear hx378_5
                            try clear hx378_6
                            try clear p2
                            try clear p3
                            try clear p366
                            try clear p378
                            try clear p6
                            try clear q3
                            try clear q366
                            try clear q378
                            obtain ⟨x20_5, rfl, HA, HK5, HO_7, HO_19, HB⟩ := hrel
                            cases gk with
                            | zero => exact absurd HA.out (by simp [foliotlaw13_ChooseTruth.l2])
                            | succ k5 =>
                              have H := HA.out
                              clear HA
                              simp only [foliotlaw13_ChooseTruth.l2] at H
                              by_cases c35 : x20_5 < (t389.length : Int)
                              · rw [if_pos c35] at H
                                have c35b0 : decide (x20_5 < (t389.length : Int)) = true := decide_eq_true c35
                                clear c35
                                by_cases c36 : 0 ≤ x20_5
                                · rw [if_pos c36] at H
                                  have c36b0 : decide (0 ≤ x20_5) = true := decide_eq_true c36
                                  clear c36
                                  replace H := Option.bind_eq_some_iff.mp H
                                  obtain ⟨t393, A370, H⟩ := H
                                  replace H : (if t393 = true then (some false) else (foliotlaw13_ChooseTruth.l2 k5 a2 x7_3 x8_2 t386 t387 t389 (wrap64 (x20_5 + 1)))) = some r := H
                                  have A37 := Aside0.mk A370
                                  clear A370
                                  by_cases c38 : t393 = true
                                  · subst c38
                                    have H1 : (some false) = some r := by rw [if_pos rfl] at H; exact H
                                    clear H
                                    have H := H1
                                    clear H1
                                    obtain rfl := Option.some.inj H
                                    obtain ⟨Ao39, co39, eo39⟩ := Kd.R_slice HO_19.out
                                    subst eo39
                                    have p392 : 0 ≤ (x20_5 : Int) := of_decide_eq_true (by first | (with_reducible assumption) | assumption)
                                    have q392 : x20_5 < (t389.length : Int) := of_decide_eq_true (by first | (with_reducible assumption) | assumption)
                                    obtain ⟨ad392, e392, hx392_0, hx392_1, hx392_2, hx392_3, hx392_4, hx392_5, hx392_6⟩ := at_T26 (Kd.R_reads' HO_19.out).2.2 x20_5 p392 q392
                                    cases e392
                                    replace p392 := eq_true p392
                                    replace q392 := eq_true q392
                                    go_wp2_with (first | ((with_reducible refine gate_callee (f := 24) rfl ?_); refine goesL_ (some 120) rfl rfl Try.func24 (by kernel_rfl) rfl #[.int .i64 ((rd_T26 t389 x20_5).f1), .int .i64 (wrap64 (a2)), .int .i64 (wrap64 ((wrap64 (2 * x8_2)) + 262144))] rfl (by (try simp only [List.map_toArray, List.map_cons, List.map_nil]); first | done | rfl | (simp only [List.length_drop, List.length_take]; rfl)) ?_; (with_reducible refine (foliotlaw13_far.calls ((rd_T26 t389 x20_5).f1) (wrap64 (a2)) (wrap64 ((wrap64 (2 * x8_2)) + 262144)) true _ A37.out).mono ?_); rintro e w' ⟨rfl, ⟨nd, rfl⟩⟩; refine ⟨_, rfl, ?_⟩))
                                    go_ret
                                    exact ⟨by first | rfl | (simp [errW_none, errW_some] <;> rfl) | (simp [*, errW_none, errW_some] <;> rfl), by repeat (first | (with_reducible first | exact HB.out | apply below_alloc | apply pw_below_drewN | apply below_drew1) | exact HB.out)⟩
                                  · replace c38 := Bool.eq_false_iff.mpr c38
                                    subst c38
                                    have H1 : (foliotlaw13_ChooseTruth.l2 k5 a2 x7_3 x8_2 t386 t387 t389 (wrap64 (x20_5 + 1))) = some r := by rw [if_neg (show ¬ (false = true) by decide)] at H; exact H
                                    clear H
                                    have H := H1
                                    clear H1
                                    have H' := Aside0.mk H
                                    clear H
                                    obtain ⟨Ao40, co40, eo40⟩ := Kd.R_slice HO_19.out
                                    subst eo40
                                    have p392 : 0 ≤ (x20_5 : Int) := of_decide_eq_true (by first | (with_reducible assumption) | assumption)
                                    have q392 : x20_5 < (t389.length : Int) := of_decide_eq_true (by first | (with_reducible assumption) | assumption)
                                    obtain ⟨ad392, e392, hx392_0, hx392_1, hx392_2, hx392_3, hx392_4, hx392_5, hx392_6⟩ := at_T26 (Kd.R_reads' HO_19.out).2.2 x20_5 p392 q392
                                    cases e392
                                    replace p392 := eq_true p392
                                    replace q392 := eq_true q392
                                    go_wp2_with (first | ((with_reducible refine gate_callee (f := 24) rfl ?_); refine goesL_ (some 120) rfl rfl Try.func24 (by kernel_rfl) rfl #[.int .i64 ((rd_T26 t389 x20_5).f1), .int .i64 (wrap64 (a2)), .int .i64 (wrap64 ((wrap64 (2 * x8_2)) + 262144))] rfl (by (try simp only [List.map_toArray, List.map_cons, List.map_nil]); first | done | rfl | (simp only [List.length_drop, List.length_take]; rfl)) ?_; (with_reducible refine (foliotlaw13_far.calls ((rd_T26 t389 x20_5).f1) (wrap64 (a2)) (wrap64 ((wrap64 (2 * x8_2)) + 262144)) false _ A37.out).mono ?_); rintro e w' ⟨rfl, ⟨nd, rfl⟩⟩; refine ⟨_, rfl, ?_⟩))
                                    go_roundg k5
                                    case measure => have := HJ3.out; have := HK2.out; have := HK3.out; have := HJ26.out; have := HK5.out; omega
                                    case rel => exact ⟨(wrap64 (x20_5 + 1)), (by first | rfl | (simp; done) | (simp [*]; done)), H', ⟨by have := HJ3.out; have := HK2.out; have := HK3.out; have := HJ26.out; have := HK5.out; omega⟩, ⟨by (with_reducible repeat (first | apply Kd.R_alloc | apply Kd.R_drewN | apply Kd.R_drew)); exact HO_7.out⟩, ⟨by (with_reducible repeat (first | apply Kd.R_alloc | apply Kd.R_drewN | apply Kd.R_drew)); exact HO_19.out⟩, ⟨by repeat (first | (with_reducible first | exact HB.out | apply below_alloc | apply pw_below_drewN | apply below_drew1) | exact HB.out)⟩⟩
                                · rw [if_neg c36] at H
                                  exact absurd H (by simp)
                              · rw [if_neg c35] at H
                                have c35b0 : decide (x20_5 < (t389.length : Int)) = false := decide_eq_false c35
                                clear c35
                                replace H := Option.bind_eq_some_iff.mp H
                                obtain ⟨t394, A410, H⟩ := H
                                replace H : (if t394 = true then (some false) else ((foliotlaw13_far.f t387 (wrap64 (a2)) (wrap64 ((wrap64 (2 * x8_2)) + 131072))).bind fun t395 => (if t395 = true then (some false) else (some (decide ((wrap64 (2 * (t389.length : Int))) > (x7_3.length : Int))))))) = some r := H
                                have A41 := Aside0.mk A410
                                clear A410
                                by_cases c42 : t394 = true
                                · subst c42
                                  have H1 : (some false) = some r := by rw [if_pos rfl] at H; exact H
                                  clear H
                                  have H := H1
                                  clear H1
                                  obtain rfl := Option.some.inj H
                                  obtain ⟨Ao43, co43, eo43⟩ := Kd.R_slice HO_19.out
                                  subst eo43
                                  go_wp2_with (first | ((with_reducible refine gate_callee (f := 24) rfl ?_); refine goesL_ (some 127) rfl rfl Try.func24 (by kernel_rfl) rfl #[.int .i64 t386, .int .i64 (wrap64 (a2)), .int .i64 (wrap64 ((wrap64 (2 * x8_2)) + 131072))] rfl (by (try simp only [List.map_toArray, List.map_cons, List.map_nil]); first | done | rfl | (simp only [List.length_drop, List.length_take]; rfl)) ?_; (with_reducible refine (foliotlaw13_far.calls t386 (wrap64 (a2)) (wrap64 ((wrap64 (2 * x8_2)) + 131072)) true _ A41.out).mono ?_); rintro e w' ⟨rfl, ⟨nd, rfl⟩⟩; refine ⟨_, rfl, ?_⟩))
                                  go_ret
                                  exact ⟨by first | rfl | (simp [errW_none, errW_some] <;> rfl) | (simp [*, errW_none, errW_some] <;> rfl), by repeat (first | (with_reducible first | exact HB.out | apply below_alloc | apply pw_below_drewN | apply below_drew1) | exact HB.out)⟩
                                · replace c42 := Bool.eq_false_iff.mpr c42
                                  subst c42
                                  have H1 : ((foliotlaw13_far.f t387 (wrap64 (a2)) (wrap64 ((wrap64 (2 * x8_2)) + 131072))).bind fun t395 => (if t395 = true then (some false) else (some (decide ((wrap64 (2 * (t389.length : Int))) > (x7_3.length : Int)))))) = some r := by rw [if_neg (show ¬ (false = true) by decide)] at H; exact H
                                  clear H
                                  have H := H1
                                  clear H1
                                  replace H := Option.bind_eq_some_iff.mp H
                                  obtain ⟨t395, A440, H⟩ := H
                                  replace H : (if t395 = true then (some false) else (some (decide ((wrap64 (2 * (t389.length : Int))) > (x7_3.length : Int))))) = some r := H
                                  have A44 := Aside0.mk A440
                                  clear A440
                                  by_cases c45 : t395 = true
                                  · subst c45
                                    have H1 : (some false) = some r := by rw [if_pos rfl] at H; exact H
                                    clear H
                                    have H := H1
                                    clear H1
                                    obtain rfl := Option.some.inj H
                                    obtain ⟨Ao46, co46, eo46⟩ := Kd.R_slice HO_19.out
                                    subst eo46
                                    go_wp2_with (first | ((with_reducible refine gate_callee (f := 24) rfl ?_); refine goesL_ (some 127) rfl rfl Try.func24 (by kernel_rfl) rfl #[.int .i64 t386, .int .i64 (wrap64 (a2)), .int .i64 (wrap64 ((wrap64 (2 * x8_2)) + 131072))] rfl (by (try simp only [List.map_toArray, List.map_cons, List.map_nil]); first | done | rfl | (simp only [List.length_drop, List.length_take]; rfl)) ?_; (with_reducible refine (foliotlaw13_far.calls t386 (wrap64 (a2)) (wrap64 ((wrap64 (2 * x8_2)) + 131072)) false _ A41.out).mono ?_); rintro e w' ⟨rfl, ⟨nd, rfl⟩⟩; refine ⟨_, rfl, ?_⟩) | (go_at_call 24; (with_reducible refine (foliotlaw13_far.calls t387 (wrap64 (a2)) (wrap64 ((wrap64 (2 * x8_2)) + 131072)) true _ A44.out).mono ?_); rintro e w' ⟨rfl, ⟨nd, rfl⟩⟩))
                                    go_ret
                                    exact ⟨by first | rfl | (simp [errW_none, errW_some] <;> rfl) | (simp [*, errW_none, errW_some] <;> rfl), by repeat (first | (with_reducible first | exact HB.out | apply below_alloc | apply pw_below_drewN | apply below_drew1) | exact HB.out)⟩
                                  · replace c45 := Bool.eq_false_iff.mpr c45
                                    subst c45
                                    have H1 : (some (decide ((wrap64 (2 * (t389.length : Int))) > (x7_3.length : Int)))) = some r := by rw [if_neg (show ¬ (false = true) by decide)] at H; exact H
                                    clear H
                                    have H := H1
                                    clear H1
                                    obtain rfl := Option.some.inj H
                                    obtain ⟨Ao47, co47, eo47⟩ := Kd.R_slice HO_19.out
                                    subst eo47
                                    go_wp2_with (first | ((with_reducible refine gate_callee (f := 24) rfl ?_); refine goesL_ (some 127) rfl rfl Try.func24 (by kernel_rfl) rfl #[.int .i64 t386, .int .i64 (wrap64 (a2)), .int .i64 (wrap64 ((wrap64 (2 * x8_2)) + 131072))] rfl (by (try simp only [List.map_toArray, List.map_cons, List.map_nil]); first | done | rfl | (simp only [List.length_drop, List.length_take]; rfl)) ?_; (with_reducible refine (foliotlaw13_far.calls t386 (wrap64 (a2)) (wrap64 ((wrap64 (2 * x8_2)) + 131072)) false _ A41.out).mono ?_); rintro e w' ⟨rfl, ⟨nd, rfl⟩⟩; refine ⟨_, rfl, ?_⟩) | (go_at_call 24; (with_reducible refine (foliotlaw13_far.calls t387 (wrap64 (a2)) (wrap64 ((wrap64 (2 * x8_2)) + 131072)) false _ A44.out).mono ?_); rintro e w' ⟨rfl, ⟨nd, rfl⟩⟩))
                                    go_ret
                                    exact ⟨by first | rfl | (simp [errW_none, errW_some] <;> rfl) | (simp [*, errW_none, errW_some] <;> rfl), by repeat (first | (with_reducible first | exact HB.out | apply below_alloc | apply pw_below_drewN | apply below_drew1) | exact HB.out)⟩

end Go.Proofs.Ytlhecfleanppmaa.Pr
