-- PRINTED by print.py (a twelfth state) out of the translation. Not trusted: Lean checks it.
import Derived.Test.YtlhecfleanppmaaPrx0
import Derived.Test.YtlhecfleanppmaaPrx19
import Derived.Test.YtlhecfleanppmaaPrx22
import Derived.Test.YtlhecfleanppmaaPrx23
import Derived.Test.YtlhecfleanppmaaPrx28
import Derived.Test.YtlhecfleanppmaaHand
namespace Go.Proofs.Ytlhecfleanppmaa.Pr
open Go.RowKit Go.Proofs.YtlhecfleanppmaaW.PrintWords Go.Proofs.YtlhecfleanppmaaW.PrintLast Go.Proofs.YtlhecfleanppmaaW.PrintMore
attribute [local go_sem] max2_int min2_int max_two min_two max_three min_three max_four min_four   -- for this text's walks alone
set_option linter.unusedVariables false
set_option linter.unusedSimpArgs false

/-! ### foliotlaw13_ChooseMeets: function 8 -/
mutual
def foliotlaw13_ChooseMeets.j0 : Nat → List (S26) → List (S26) → List (S26) → Bool → Option (Bool)
  | 0, _, _, _, _ => none
  | k + 1, x3, x10, x11, x82 => if x82 = true then (some false) else (foliotlaw13_ChooseMeets.l0 k x3 x10 x11 0)
def foliotlaw13_ChooseMeets.l0 : Nat → List (S26) → List (S26) → List (S26) → Int → Option (Bool)
  | 0, _, _, _, _ => none
  | k + 1, x3, x10, x11, x12 => if x12 < (x3.length : Int) then (if 0 ≤ x12 then (foliotlaw13_ChooseMeets.l0 k (x3.set (x12 : Int).toNat (⟨(-9), 0, 0, 0, 0, false, false⟩ : S26)) x10 x11 (wrap64 (x12 + 1))) else (none)) else ((foliotlaw13_sameCands.f k x10 x11).bind fun t362 => (some t362))
end
def foliotlaw13_ChooseMeets.f (k : Nat) (l0 : List (S26)) : Option (Bool) := if (l0.length : Int) > 256 then (some true) else ((some (([] : List (S26)) : List (S26))).bind fun y325 => (if y325.length + l0.length < 2932031007402 then ((some (y325 ++ l0 : List (S26))).bind fun y328 => (if y328.length < 2932031007402 then ((some (y328 ++ [(⟨(-7), 0, 0, 0, 0, false, false⟩ : S26)] : List (S26))).bind fun y331 => (if 0 ≤ (l0.length : Int) then (if (l0.length : Int) ≤ (y331.length : Int) then ((choose_Meet.f (y331.take ((l0.length : Int) : Int).toNat)).bind fun bt338 => ((foliotref13_Meet.f k l0).bind fun bt341 => ((choose_Survivors.f k (y331.take ((l0.length : Int) : Int).toNat)).bind fun t348 => ((foliotref13_Survivors.f k l0).bind fun t351 => (if bt338.1 = bt341.1 then (if bt338.2.1 = bt341.2.1 then (if (bt338.2.2 != bt341.2.2) = true then (foliotlaw13_ChooseMeets.j0 k y331 t348 t351 true) else ((foliotlaw13_sameCands.f k t348 t351).bind fun t354 => (if t354 = true then ((foliotlaw13_sameCands.f k (y331.take ((l0.length : Int) : Int).toNat) l0).bind fun t359 => (if t359 = true then (if (l0.length : Int) < (y331.length : Int) then (foliotlaw13_ChooseMeets.j0 k y331 t348 t351 (((rd_T26 y331 (l0.length : Int)).f0) != (-7))) else (none)) else (foliotlaw13_ChooseMeets.j0 k y331 t348 t351 true))) else (foliotlaw13_ChooseMeets.j0 k y331 t348 t351 true)))) else (foliotlaw13_ChooseMeets.j0 k y331 t348 t351 true)) else (foliotlaw13_ChooseMeets.j0 k y331 t348 t351 true)))))) else (none)) else (none))) else (none))) else (none)))
theorem foliotlaw13_ChooseMeets.mono_l : ∀ k, (∀ y0 y1 y2 y3, LeO (foliotlaw13_ChooseMeets.j0 k y0 y1 y2 y3) (foliotlaw13_ChooseMeets.j0 (k + 1) y0 y1 y2 y3)) ∧ (∀ y0 y1 y2 y3, LeO (foliotlaw13_ChooseMeets.l0 k y0 y1 y2 y3) (foliotlaw13_ChooseMeets.l0 (k + 1) y0 y1 y2 y3))
  | 0 => ⟨fun _ _ _ _ r h => by simp [foliotlaw13_ChooseMeets.j0] at h, fun _ _ _ _ r h => by simp [foliotlaw13_ChooseMeets.l0] at h⟩
  | k + 1 => by
    obtain ⟨ih0, ih1⟩ := foliotlaw13_ChooseMeets.mono_l k
    refine ⟨?_, ?_⟩
    · intro y0 y1 y2 y3
      unfold foliotlaw13_ChooseMeets.j0
      repeat' first
      | (with_reducible exact ih0 _ _ _ _)
      | (with_reducible exact ih1 _ _ _ _)
      | (with_reducible exact choose_Survivors.mono _ _)
      | (with_reducible exact foliotlaw13_sameCands.mono _ _ _)
      | (with_reducible exact foliotref13_Meet.mono _ _)
      | (with_reducible exact foliotref13_Survivors.mono _ _)
      | (with_reducible exact LeO.refl _)
      | (with_reducible exact LeO.none _)
      | (with_reducible refine LeO.ite ?_ ?_)
      | (with_reducible refine LeO.bind ?_ (fun _ => ?_))
      | exact ih0 _ _ _ _
      | exact ih1 _ _ _ _
      | exact choose_Survivors.mono _ _
      | exact foliotlaw13_sameCands.mono _ _ _
      | exact foliotref13_Meet.mono _ _
      | exact foliotref13_Survivors.mono _ _
      | exact LeO.none _
      | refine LeO.ite ?_ ?_
      | refine LeO.bind ?_ (fun _ => ?_)
    · intro y0 y1 y2 y3
      unfold foliotlaw13_ChooseMeets.l0
      repeat' first
      | (with_reducible exact ih0 _ _ _ _)
      | (with_reducible exact ih1 _ _ _ _)
      | (with_reducible exact choose_Survivors.mono _ _)
      | (with_reducible exact foliotlaw13_sameCands.mono _ _ _)
      | (with_reducible exact foliotref13_Meet.mono _ _)
      | (with_reducible exact foliotref13_Survivors.mono _ _)
      | (with_reducible exact LeO.refl _)
      | (with_reducible exact LeO.none _)
      | (with_reducible refine LeO.ite ?_ ?_)
      | (with_reducible refine LeO.bind ?_ (fun _ => ?_))
      | exact ih0 _ _ _ _
      | exact ih1 _ _ _ _
      | exact choose_Survivors.mono _ _
      | exact foliotlaw13_sameCands.mono _ _ _
      | exact foliotref13_Meet.mono _ _
      | exact foliotref13_Survivors.mono _ _
      | exact LeO.none _
      | refine LeO.ite ?_ ?_
      | refine LeO.bind ?_ (fun _ => ?_)
theorem foliotlaw13_ChooseMeets.mono : ∀ a0 k, LeO (foliotlaw13_ChooseMeets.f k a0) (foliotlaw13_ChooseMeets.f (k + 1) a0) := by
  intro a0 k
  obtain ⟨ih0, ih1⟩ := foliotlaw13_ChooseMeets.mono_l k
  unfold foliotlaw13_ChooseMeets.f
  repeat' first
      | (with_reducible exact ih0 _ _ _ _)
      | (with_reducible exact ih1 _ _ _ _)
      | (with_reducible exact choose_Survivors.mono _ _)
      | (with_reducible exact foliotlaw13_sameCands.mono _ _ _)
      | (with_reducible exact foliotref13_Meet.mono _ _)
      | (with_reducible exact foliotref13_Survivors.mono _ _)
      | (with_reducible exact LeO.refl _)
      | (with_reducible exact LeO.none _)
      | (with_reducible refine LeO.ite ?_ ?_)
      | (with_reducible refine LeO.bind ?_ (fun _ => ?_))
      | exact ih0 _ _ _ _
      | exact ih1 _ _ _ _
      | exact choose_Survivors.mono _ _
      | exact foliotlaw13_sameCands.mono _ _ _
      | exact foliotref13_Meet.mono _ _
      | exact foliotref13_Survivors.mono _ _
      | exact LeO.none _
      | refine LeO.ite ?_ ?_
      | refine LeO.bind ?_ (fun _ => ?_)
set_option maxHeartbeats 8000000 in
set_option maxRecDepth 100000 in
theorem foliotlaw13_ChooseMeets.calls (k : Nat) (A0 : Option Addr) (c0 : Nat) (l0 : List (S26)) (r : Bool) (w : World) (hr0 : Kd.C k26 w A0 l0.length l0) (hc0 : l0.length ≤ c0) (h : foliotlaw13_ChooseMeets.f k l0 = some r) :
    Calls Try.prog 8 #[.slice A0 l0.length c0] w fun e w' => e = .returned (.bool r) ∧ Below w.heap.size w w' := by
  have hu26 := Try.underlying26
  have HR0 := Aside0.mk hr0
  have HC0 := Aside0.mk hc0
  clear hr0 hc0
  have HB := Aside0.mk (Below.refl w.heap.size w)
  have H : (if (l0.length : Int) > 256 then (some true) else ((some (([] : List (S26)) : List (S26))).bind fun y325 => (if y325.length + l0.length < 2932031007402 then ((some (y325 ++ l0 : List (S26))).bind fun y328 => (if y328.length < 2932031007402 then ((some (y328 ++ [(⟨(-7), 0, 0, 0, 0, false, false⟩ : S26)] : List (S26))).bind fun y331 => (if 0 ≤ (l0.length : Int) then (if (l0.length : Int) ≤ (y331.length : Int) then ((choose_Meet.f (y331.take ((l0.length : Int) : Int).toNat)).bind fun bt338 => ((foliotref13_Meet.f k l0).bind fun bt341 => ((choose_Survivors.f k (y331.take ((l0.length : Int) : Int).toNat)).bind fun t348 => ((foliotref13_Survivors.f k l0).bind fun t351 => (if bt338.1 = bt341.1 then (if bt338.2.1 = bt341.2.1 then (if (bt338.2.2 != bt341.2.2) = true then (foliotlaw13_ChooseMeets.j0 k y331 t348 t351 true) else ((foliotlaw13_sameCands.f k t348 t351).bind fun t354 => (if t354 = true then ((foliotlaw13_sameCands.f k (y331.take ((l0.length : Int) : Int).toNat) l0).bind fun t359 => (if t359 = true then (if (l0.length : Int) < (y331.length : Int) then (foliotlaw13_ChooseMeets.j0 k y331 t348 t351 (((rd_T26 y331 (l0.length : Int)).f0) != (-7))) else (none)) else (foliotlaw13_ChooseMeets.j0 k y331 t348 t351 true))) else (foliotlaw13_ChooseMeets.j0 k y331 t348 t351 true)))) else (foliotlaw13_ChooseMeets.j0 k y331 t348 t351 true)) else (foliotlaw13_ChooseMeets.j0 k y331 t348 t351 true)))))) else (none)) else (none))) else (none))) else (none)))) = some r := h
  clear h
  by_cases c2 : (l0.length : Int) > 256
  · rw [if_pos c2] at H
    have c2b0 : decide (256 < (l0.length : Int)) = true := decide_eq_true c2
    have c2b1 : decide (256 < l0.length) = true := decide_eq_true (by omega)
    clear c2
    obtain rfl := Option.some.inj H
    go_enter Try.func8, Try.ntmps8
    go_wp2
    go_ret
    exact ⟨by first | rfl | (simp [errW_none, errW_some] <;> rfl) | (simp [*, errW_none, errW_some] <;> rfl), by repeat (first | (with_reducible first | exact HB.out | apply below_alloc | apply pw_below_drewN | apply below_drew1) | exact HB.out)⟩
  · rw [if_neg c2] at H
    have c2b0 : decide (256 < (l0.length : Int)) = false := decide_eq_false c2
    have c2b1 : decide (256 < l0.length) = false := decide_eq_false (by omega)
    clear c2
    obtain ⟨y325, hy325⟩ : ∃ y_ : List (S26), y_ = (([] : List (S26))) := ⟨_, rfl⟩
    replace H : (if y325.length + l0.length < 2932031007402 then ((some (y325 ++ l0 : List (S26))).bind fun y328 => (if y328.length < 2932031007402 then ((some (y328 ++ [(⟨(-7), 0, 0, 0, 0, false, false⟩ : S26)] : List (S26))).bind fun y331 => (if 0 ≤ (l0.length : Int) then (if (l0.length : Int) ≤ (y331.length : Int) then ((choose_Meet.f (y331.take ((l0.length : Int) : Int).toNat)).bind fun bt338 => ((foliotref13_Meet.f k l0).bind fun bt341 => ((choose_Survivors.f k (y331.take ((l0.length : Int) : Int).toNat)).bind fun t348 => ((foliotref13_Survivors.f k l0).bind fun t351 => (if bt338.1 = bt341.1 then (if bt338.2.1 = bt341.2.1 then (if (bt338.2.2 != bt341.2.2) = true then (foliotlaw13_ChooseMeets.j0 k y331 t348 t351 true) else ((foliotlaw13_sameCands.f k t348 t351).bind fun t354 => (if t354 = true then ((foliotlaw13_sameCands.f k (y331.take ((l0.length : Int) : Int).toNat) l0).bind fun t359 => (if t359 = true then (if (l0.length : Int) < (y331.length : Int) then (foliotlaw13_ChooseMeets.j0 k y331 t348 t351 (((rd_T26 y331 (l0.length : Int)).f0) != (-7))) else (none)) else (foliotlaw13_ChooseMeets.j0 k y331 t348 t351 true))) else (foliotlaw13_ChooseMeets.j0 k y331 t348 t351 true)))) else (foliotlaw13_ChooseMeets.j0 k y331 t348 t351 true)) else (foliotlaw13_ChooseMeets.j0 k y331 t348 t351 true)))))) else (none)) else (none))) else (none))) else (none)) = some r := by first | (rw [hy325]; with_reducible exact H) | (have H2_ := (Option.bind_some _ _).symm.trans H; rw [hy325]; with_reducible exact H2_) | (have H2_ := (Option.bind_some _ _).symm.trans H; with_reducible exact H2_) | with_reducible exact H | (rw [hy325]; exact H) | exact H
    have Ny325 := Aside0.mk hy325
    clear hy325
    by_cases c3 : y325.length + l0.length < 2932031007402
    · rw [if_pos c3] at H
      have LMc3 := Aside0.mk c3
      clear c3
      obtain ⟨y328, hy328⟩ : ∃ y_ : List (S26), y_ = (y325 ++ l0) := ⟨_, rfl⟩
      replace H : (if y328.length < 2932031007402 then ((some (y328 ++ [(⟨(-7), 0, 0, 0, 0, false, false⟩ : S26)] : List (S26))).bind fun y331 => (if 0 ≤ (l0.length : Int) then (if (l0.length : Int) ≤ (y331.length : Int) then ((choose_Meet.f (y331.take ((l0.length : Int) : Int).toNat)).bind fun bt338 => ((foliotref13_Meet.f k l0).bind fun bt341 => ((choose_Survivors.f k (y331.take ((l0.length : Int) : Int).toNat)).bind fun t348 => ((foliotref13_Survivors.f k l0).bind fun t351 => (if bt338.1 = bt341.1 then (if bt338.2.1 = bt341.2.1 then (if (bt338.2.2 != bt341.2.2) = true then (foliotlaw13_ChooseMeets.j0 k y331 t348 t351 true) else ((foliotlaw13_sameCands.f k t348 t351).bind fun t354 => (if t354 = true then ((foliotlaw13_sameCands.f k (y331.take ((l0.length : Int) : Int).toNat) l0).bind fun t359 => (if t359 = true then (if (l0.length : Int) < (y331.length : Int) then (foliotlaw13_ChooseMeets.j0 k y331 t348 t351 (((rd_T26 y331 (l0.length : Int)).f0) != (-7))) else (none)) else (foliotlaw13_ChooseMeets.j0 k y331 t348 t351 true))) else (foliotlaw13_ChooseMeets.j0 k y331 t348 t351 true)))) else (foliotlaw13_ChooseMeets.j0 k y331 t348 t351 true)) else (foliotlaw13_ChooseMeets.j0 k y331 t348 t351 true)))))) else (none)) else (none))) else (none)) = some r := by first | (rw [hy328]; with_reducible exact H) | (have H2_ := (Option.bind_some _ _).symm.trans H; rw [hy328]; with_reducible exact H2_) | (have H2_ := (Option.bind_some _ _).symm.trans H; with_reducible exact H2_) | with_reducible exact H | (rw [hy328]; exact H) | exact H
      have Ny328 := Aside0.mk hy328
      clear hy328
      by_cases c4 : y328.length < 2932031007402
      · rw [if_pos c4] at H
        have LMc4 := Aside0.mk c4
        clear c4
        obtain ⟨y331, hy331⟩ : ∃ y_ : List (S26), y_ = (y328 ++ [(⟨(-7), 0, 0, 0, 0, false, false⟩ : S26)]) := ⟨_, rfl⟩
        replace H : (if 0 ≤ (l0.length : Int) then (if (l0.length : Int) ≤ (y331.length : Int) then ((choose_Meet.f (y331.take ((l0.length : Int) : Int).toNat)).bind fun bt338 => ((foliotref13_Meet.f k l0).bind fun bt341 => ((choose_Survivors.f k (y331.take ((l0.length : Int) : Int).toNat)).bind fun t348 => ((foliotref13_Survivors.f k l0).bind fun t351 => (if bt338.1 = bt341.1 then (if bt338.2.1 = bt341.2.1 then (if (bt338.2.2 != bt341.2.2) = true then (foliotlaw13_ChooseMeets.j0 k y331 t348 t351 true) else ((foliotlaw13_sameCands.f k t348 t351).bind fun t354 => (if t354 = true then ((foliotlaw13_sameCands.f k (y331.take ((l0.length : Int) : Int).toNat) l0).bind fun t359 => (if t359 = true then (if (l0.length : Int) < (y331.length : Int) then (foliotlaw13_ChooseMeets.j0 k y331 t348 t351 (((rd_T26 y331 (l0.length : Int)).f0) != (-7))) else (none)) else (foliotlaw13_ChooseMeets.j0 k y331 t348 t351 true))) else (foliotlaw13_ChooseMeets.j0 k y331 t348 t351 true)))) else (foliotlaw13_ChooseMeets.j0 k y331 t348 t351 true)) else (foliotlaw13_ChooseMeets.j0 k y331 t348 t351 true)))))) else (none)) else (none)) = some r := by first | (rw [hy331]; with_reducible exact H) | (have H2_ := (Option.bind_some _ _).symm.trans H; rw [hy331]; with_reducible exact H2_) | (have H2_ := (Option.bind_some _ _).symm.trans H; with_reducible exact H2_) | with_reducible exact H | (rw [hy331]; exact H) | exact H
        have Ny331 := Aside0.mk hy331
        clear hy331
        by_cases c5 : 0 ≤ (l0.length : Int)
        · rw [if_pos c5] at H
          have c5b0 := eq_true c5
          have c5b1 : decide (0 ≤ (l0.length : Int)) = true := decide_eq_true c5
          clear c5
          by_cases c6 : (l0.length : Int) ≤ (y331.length : Int)
          · rw [if_pos c6] at H
            have c6b0 := eq_true c6
            have c6b1 : decide ((l0.length : Int) ≤ (y331.length : Int)) = true := decide_eq_true c6
            clear c6
            obtain ⟨y334, hy334⟩ : ∃ y_ : List (S26), y_ = (y331.take ((l0.length : Int) : Int).toNat) := ⟨_, rfl⟩
            replace H : ((choose_Meet.f y334).bind fun bt338 => ((foliotref13_Meet.f k l0).bind fun bt341 => ((choose_Survivors.f k (y331.take ((l0.length : Int) : Int).toNat)).bind fun t348 => ((foliotref13_Survivors.f k l0).bind fun t351 => (if bt338.1 = bt341.1 then (if bt338.2.1 = bt341.2.1 then (if (bt338.2.2 != bt341.2.2) = true then (foliotlaw13_ChooseMeets.j0 k y331 t348 t351 true) else ((foliotlaw13_sameCands.f k t348 t351).bind fun t354 => (if t354 = true then ((foliotlaw13_sameCands.f k (y331.take ((l0.length : Int) : Int).toNat) l0).bind fun t359 => (if t359 = true then (if (l0.length : Int) < (y331.length : Int) then (foliotlaw13_ChooseMeets.j0 k y331 t348 t351 (((rd_T26 y331 (l0.length : Int)).f0) != (-7))) else (none)) else (foliotlaw13_ChooseMeets.j0 k y331 t348 t351 true))) else (foliotlaw13_ChooseMeets.j0 k y331 t348 t351 true)))) else (foliotlaw13_ChooseMeets.j0 k y331 t348 t351 true)) else (foliotlaw13_ChooseMeets.j0 k y331 t348 t351 true)))))) = some r := by first | (rw [hy334]; with_reducible exact H) | (have H2_ := (Option.bind_some _ _).symm.trans H; rw [hy334]; with_reducible exact H2_) | (have H2_ := (Option.bind_some _ _).symm.trans H; with_reducible exact H2_) | with_reducible exact H | (rw [hy334]; exact H) | exact H
            have Ny334 := Aside0.mk hy334
            clear hy334
            replace H := Option.bind_eq_some_iff.mp H
            obtain ⟨⟨t338, t339, t340⟩, A70, H⟩ := H
            replace H : ((foliotref13_Meet.f k l0).bind fun bt341 => ((choose_Survivors.f k (y331.take ((l0.length : Int) : Int).toNat)).bind fun t348 => ((foliotref13_Survivors.f k l0).bind fun t351 => (if t338 = bt341.1 then (if t339 = bt341.2.1 then (if (t340 != bt341.2.2) = true then (foliotlaw13_ChooseMeets.j0 k y331 t348 t351 true) else ((foliotlaw13_sameCands.f k t348 t351).bind fun t354 => (if t354 = true then ((foliotlaw13_sameCands.f k (y331.take ((l0.length : Int) : Int).toNat) l0).bind fun t359 => (if t359 = true then (if (l0.length : Int) < (y331.length : Int) then (foliotlaw13_ChooseMeets.j0 k y331 t348 t351 (((rd_T26 y331 (l0.length : Int)).f0) != (-7))) else (none)) else (foliotlaw13_ChooseMeets.j0 k y331 t348 t351 true))) else (foliotlaw13_ChooseMeets.j0 k y331 t348 t351 true)))) else (foliotlaw13_ChooseMeets.j0 k y331 t348 t351 true)) else (foliotlaw13_ChooseMeets.j0 k y331 t348 t351 true))))) = some r := H
            have A7 := Aside0.mk A70
            clear A70
            replace H := Option.bind_eq_some_iff.mp H
            obtain ⟨⟨t341, t342, t343⟩, A80, H⟩ := H
            replace H : ((choose_Survivors.f k (y331.take ((l0.length : Int) : Int).toNat)).bind fun t348 => ((foliotref13_Survivors.f k l0).bind fun t351 => (if t338 = t341 then (if t339 = t342 then (if (t340 != t343) = true then (foliotlaw13_ChooseMeets.j0 k y331 t348 t351 true) else ((foliotlaw13_sameCands.f k t348 t351).bind fun t354 => (if t354 = true then ((foliotlaw13_sameCands.f k (y331.take ((l0.length : Int) : Int).toNat) l0).bind fun t359 => (if t359 = true then (if (l0.length : Int) < (y331.length : Int) then (foliotlaw13_ChooseMeets.j0 k y331 t348 t351 (((rd_T26 y331 (l0.length : Int)).f0) != (-7))) else (none)) else (foliotlaw13_ChooseMeets.j0 k y331 t348 t351 true))) else (foliotlaw13_ChooseMeets.j0 k y331 t348 t351 true)))) else (foliotlaw13_ChooseMeets.j0 k y331 t348 t351 true)) else (foliotlaw13_ChooseMeets.j0 k y331 t348 t351 true)))) = some r := H
            have A8 := Aside0.mk A80
            clear A80
            have c9b0 := eq_true (of_decide_eq_true (by first | (with_reducible assumption) | assumption) : 0 ≤ (l0.length : Int))
            have c10b0 := eq_true (of_decide_eq_true (by first | (with_reducible assumption) | assumption) : (l0.length : Int) ≤ (y331.length : Int))
            have hy344 : y334 = (y331.take ((l0.length : Int) : Int).toNat) := Ny334.out
            replace H : ((choose_Survivors.f k y334).bind fun t348 => ((foliotref13_Survivors.f k l0).bind fun t351 => (if t338 = t341 then (if t339 = t342 then (if (t340 != t343) = true then (foliotlaw13_ChooseMeets.j0 k y331 t348 t351 true) else ((foliotlaw13_sameCands.f k t348 t351).bind fun t354 => (if t354 = true then ((foliotlaw13_sameCands.f k (y331.take ((l0.length : Int) : Int).toNat) l0).bind fun t359 => (if t359 = true then (if (l0.length : Int) < (y331.length : Int) then (foliotlaw13_ChooseMeets.j0 k y331 t348 t351 (((rd_T26 y331 (l0.length : Int)).f0) != (-7))) else (none)) else (foliotlaw13_ChooseMeets.j0 k y331 t348 t351 true))) else (foliotlaw13_ChooseMeets.j0 k y331 t348 t351 true)))) else (foliotlaw13_ChooseMeets.j0 k y331 t348 t351 true)) else (foliotlaw13_ChooseMeets.j0 k y331 t348 t351 true)))) = some r := by first | (rw [hy344]; with_reducible exact H) | (have H2_ := (Option.bind_some _ _).symm.trans H; rw [hy344]; with_reducible exact H2_) | (have H2_ := (Option.bind_some _ _).symm.trans H; with_reducible exact H2_) | with_reducible exact H | (rw [hy344]; exact H) | exact H
            have Ny344 := Aside0.mk hy344
            clear hy344
            replace H := Option.bind_eq_some_iff.mp H
            obtain ⟨t348, A110, H⟩ := H
            replace H : ((foliotref13_Survivors.f k l0).bind fun t351 => (if t338 = t341 then (if t339 = t342 then (if (t340 != t343) = true then (foliotlaw13_ChooseMeets.j0 k y331 t348 t351 true) else ((foliotlaw13_sameCands.f k t348 t351).bind fun t354 => (if t354 = true then ((foliotlaw13_sameCands.f k (y331.take ((l0.length : Int) : Int).toNat) l0).bind fun t359 => (if t359 = true then (if (l0.length : Int) < (y331.length : Int) then (foliotlaw13_ChooseMeets.j0 k y331 t348 t351 (((rd_T26 y331 (l0.length : Int)).f0) != (-7))) else (none)) else (foliotlaw13_ChooseMeets.j0 k y331 t348 t351 true))) else (foliotlaw13_ChooseMeets.j0 k y331 t348 t351 true)))) else (foliotlaw13_ChooseMeets.j0 k y331 t348 t351 true)) else (foliotlaw13_ChooseMeets.j0 k y331 t348 t351 true))) = some r := H
            have A11 := Aside0.mk A110
            clear A110
            replace H := Option.bind_eq_some_iff.mp H
            obtain ⟨t351, A120, H⟩ := H
            replace H : (if t338 = t341 then (if t339 = t342 then (if (t340 != t343) = true then (foliotlaw13_ChooseMeets.j0 k y331 t348 t351 true) else ((foliotlaw13_sameCands.f k t348 t351).bind fun t354 => (if t354 = true then ((foliotlaw13_sameCands.f k (y331.take ((l0.length : Int) : Int).toNat) l0).bind fun t359 => (if t359 = true then (if (l0.length : Int) < (y331.length : Int) then (foliotlaw13_ChooseMeets.j0 k y331 t348 t351 (((rd_T26 y331 (l0.length : Int)).f0) != (-7))) else (none)) else (foliotlaw13_ChooseMeets.j0 k y331 t348 t351 true))) else (foliotlaw13_ChooseMeets.j0 k y331 t348 t351 true)))) else (foliotlaw13_ChooseMeets.j0 k y331 t348 t351 true)) else (foliotlaw13_ChooseMeets.j0 k y331 t348 t351 true)) = some r := H
            have A12 := Aside0.mk A120
            clear A120
            have HC13 := Aside0.mk H
            clear H
            go_enter Try.func8, Try.ntmps8
            go_upto_region 10 with (first | ((with_reducible refine gate_dst (N := 16) rfl ?_); (try (refine gate_guard (by rfl) ?_; dsimp only)); refine Kd.R_lit k26 _ 26 ?hg (N := 16) ?hd (xs := ([] : List (S26))) (inner := []) (ok := fun _ => True) (okp := fun _ => True) ?hr ?hp (fun _ hk => hk) trivial (Below.refl _ _) (Nat.le_refl _) (by simp) ?_; (case hd => rfl); (case hg => rfl); (case hr => first | (go_simp; done) | (go_simp; rfl)); (case hp => exact (Reps.none _ _)); intro v326 w14 ho15 hb hg_ hnew_; clear hg_ hnew_; (first | rw [← Ny325.out] at ho15 | (simp only [Int.reduceToNat] at ho15; rw [← Ny325.out] at ho15)); have n0_ := Aside0.mk (Kd.R_lower ho15 (below_size (by repeat (first | (with_reducible first | exact HB.out | apply below_alloc | apply pw_below_drewN | apply below_drew1) | exact HB.out)))); have n1_ := Aside0.mk (below_step (by repeat (first | (with_reducible first | exact HB.out | apply below_alloc | apply pw_below_drewN | apply below_drew1) | exact HB.out)) hb); clear HB; have HO327 := n0_; have HB := n1_; clear n0_ n1_; clear hb ho15) | ((with_reducible refine gate_builtin (b := .append) (xs := #[.tmp 17, .tmp 18]) rfl ?_); (try (refine gate_guard (by rfl) ?_; dsimp only)); at_builtin; refine Kd.R_append_rows k26 (w0 := w) w.heap.size rfl (.tmp 17) (.tmp 18) 22 26 (.agg #[(.int .i64 0), (.int .i64 0), (.int .i64 0), (.int .i64 0), (.int .i64 0), (.bool false), (.bool false)]) 48 rfl Try.underlying22 info26 rfl (by decide) (by omega) v326 y325 l0 _ _ _ (fun _ => True) (fun _ => False) rfl rfl ?aO ?aR (fun _ _ h => h) (fun _ h => h.elim) ?aF ?aB ?aS ?aL ?_; (case aR => repeat (first | exact (Kd.C_below HR0.out HB.out) | (with_reducible refine Kd.C_alloc ?_ _) | (with_reducible refine Kd.C_drewN ?_ _) | (with_reducible refine Kd.C_drew ?_))); (case aB => exact (by repeat (first | (with_reducible first | exact HB.out | apply below_alloc | apply pw_below_drewN | apply below_drew1) | exact HB.out))); (case aF => exact (fun _ _ => trivial)); (case aO => exact (by (with_reducible repeat (first | apply Kd.R_alloc | apply Kd.R_drewN | apply Kd.R_drew)); exact HO327.out)); (case aS => exact (below_size (by repeat (first | (with_reducible first | exact HB.out | apply below_alloc | apply pw_below_drewN | apply below_drew1) | exact HB.out)))); (case aL => have := LMc3.out; omega); intro v329 w16 ho hb hg hat; rw [← Ny328.out] at ho; have n0_ := Aside0.mk (hb); have n1_ := Aside0.mk (ho); clear HB; clear HO327; have HB := n0_; have HO330 := n1_; clear n0_ n1_; clear ho hb hg hat) | ((with_reducible refine gate_builtin (b := .append) (xs := #[.tmp 20, .tmp 22]) rfl ?_); (try (refine gate_guard (by rfl) ?_; dsimp only)); at_builtin; refine Kd.R_append k26 (w0 := w) w.heap.size rfl (.tmp 20) (.tmp 22) 22 26 (.agg #[(.int .i64 0), (.int .i64 0), (.int .i64 0), (.int .i64 0), (.int .i64 0), (.bool false), (.bool false)]) 48 rfl Try.underlying22 info26 rfl (by decide) (by omega) v329 y328 (⟨(-7), 0, 0, 0, 0, false, false⟩ : S26) [.int .i64 (-7), .int .i64 0, .int .i64 0, .int .i64 0, .int .i64 0, .bool false, .bool false] (fun _ => True) (fun _ => False) rfl rfl ?aP (fun _ hk => hk.elim) ?aF ?aO ?aB ?aS ?aL ?_; (case aP => exact k26_mkM _ _ _ (⟨(-7), 0, 0, 0, 0, false, false⟩ : S26)); (case aB => exact (by repeat (first | (with_reducible first | exact HB.out | apply below_alloc | apply pw_below_drewN | apply below_drew1) | exact HB.out))); (case aF => exact (fun _ _ => trivial)); (case aO => exact (by (with_reducible repeat (first | apply Kd.R_alloc | apply Kd.R_drewN | apply Kd.R_drew)); exact HO330.out)); (case aS => exact (below_size (by repeat (first | (with_reducible first | exact HB.out | apply below_alloc | apply pw_below_drewN | apply below_drew1) | exact HB.out)))); (case aL => have := LMc4.out; omega); intro v332 w17 ho hb hg hat; rw [← Ny331.out] at ho; have n0_ := Aside0.mk (hb); have n1_ := Aside0.mk (ho); clear HB; clear HO330; have HB := n0_; have HO333 := n1_; clear n0_ n1_; clear ho hb hg hat; obtain ⟨Ao19, co19, eo19⟩ := Kd.R_slice HO333.out; subst eo19; have q18 : ((l0.length : Int) : Int) ≤ ((y331.length : Int) : Int) := of_decide_eq_true (by first | (with_reducible assumption) | assumption); obtain ⟨i018, hi018, _, hsz18, _⟩ := info_parts info26; have hroom18 : y331.length ≤ co19 := (Kd.R_reads' HO333.out).2.1; have hC18 : Kd.C k26 _ Ao19 y331.length y331 := (Kd.R_reads' HO333.out).2.2; have hcut18 := cut_to (P := Try.prog) 22 26 .i64 Try.underlying22 hi018 Ao19 y331.length co19 (l0.length : Int) (of_decide_eq_true (by first | (with_reducible assumption) | assumption)) q18 hroom18; have hr18 := Kd.C_take (m := ((l0.length : Int) : Int).toNat) hC18 (by omega); have hy18 : y334.length = ((l0.length : Int) : Int).toNat := (by rw [Ny334.out, List.length_take]; omega); rw [← Ny334.out] at hr18; rw [← hy18] at hcut18; have HR337 := Aside0.mk hr18; have HC337 := Aside0.mk (show y334.length ≤ co19 from by omega); clear hr18 hC18 hroom18 hi018 hsz18; have KY18 := Aside0.mk hy18; clear hy18; have KL18 := Aside0.mk (show ((l0.length : Int) : Int).toNat ≤ y331.length from by omega); replace q18 := eq_true q18) | ((with_reducible refine gate_callee (f := 17) rfl ?_); refine goesL_ (some 29) rfl rfl Try.func17 (by kernel_rfl) rfl #[.slice Ao19 y334.length co19] rfl (by (try simp only [List.map_toArray, List.map_cons, List.map_nil]); first | done | rfl | (simp only [List.length_drop, List.length_take]; rfl)) ?_; (with_reducible refine (choose_Meet.calls _ _ y334 t338 t339 t340 _ ?side1 ?side2 A7.out).mono ?_); (case side1 => repeat (first | exact (by repeat (first | (with_reducible exact HR337.out) | (with_reducible refine Kd.C_alloc ?_ _) | (with_reducible refine Kd.C_drewN ?_ _) | (with_reducible refine Kd.C_drew ?_) | exact HR337.out)) | (with_reducible refine Kd.C_alloc ?_ _) | (with_reducible refine Kd.C_drewN ?_ _) | (with_reducible refine Kd.C_drew ?_))); (case side2 => exact HC337.out); rintro e w20 ⟨rfl, hb⟩; refine ⟨_, rfl, ?_⟩; have n0_ := Aside0.mk (Kd.R_below (by (with_reducible repeat (first | apply Kd.R_alloc | apply Kd.R_drewN | apply Kd.R_drew)); exact HO333.out) hb); have n1_ := Aside0.mk (Kd.C_below (by repeat (first | (with_reducible exact HR337.out) | (with_reducible refine Kd.C_alloc ?_ _) | (with_reducible refine Kd.C_drewN ?_ _) | (with_reducible refine Kd.C_drew ?_) | exact HR337.out)) hb); have n2_ := Aside0.mk (below_step (by repeat (first | (with_reducible first | exact HB.out | apply below_alloc | apply pw_below_drewN | apply below_drew1) | exact HB.out)) hb); clear HO333; clear HR337; clear HB; have HO333 := n0_; have HR337 := n1_; have HB := n2_; clear n0_ n1_ n2_; (try clear hb); (try clear hb2); (try clear hk); (try clear hi)) | ((with_reducible refine gate_callee (f := 18) rfl ?_); refine goesL_ (some 35) rfl rfl Try.func18 (by kernel_rfl) rfl #[.slice A0 l0.length c0] rfl (by (try simp only [List.map_toArray, List.map_cons, List.map_nil]); first | done | rfl | (simp only [List.length_drop, List.length_take]; rfl)) ?_; (with_reducible refine (foliotref13_Meet.calls k _ _ l0 t341 t342 t343 _ ?side1 ?side2 A8.out).mono ?_); (case side1 => repeat (first | exact (Kd.C_below HR0.out HB.out) | (with_reducible refine Kd.C_alloc ?_ _) | (with_reducible refine Kd.C_drewN ?_ _) | (with_reducible refine Kd.C_drew ?_))); (case side2 => exact HC0.out); rintro e w21 ⟨rfl, hb⟩; refine ⟨_, rfl, ?_⟩; have n0_ := Aside0.mk (Kd.R_below (by (with_reducible repeat (first | apply Kd.R_alloc | apply Kd.R_drewN | apply Kd.R_drew)); exact HO333.out) hb); have n1_ := Aside0.mk (Kd.C_below (by repeat (first | (with_reducible exact HR337.out) | (with_reducible refine Kd.C_alloc ?_ _) | (with_reducible refine Kd.C_drewN ?_ _) | (with_reducible refine Kd.C_drew ?_) | exact HR337.out)) hb); have n2_ := Aside0.mk (below_step (by repeat (first | (with_reducible first | exact HB.out | apply below_alloc | apply pw_below_drewN | apply below_drew1) | exact HB.out)) hb); clear HO333; clear HR337; clear HB; have HO333 := n0_; have HR337 := n1_; have HB := n2_; clear n0_ n1_ n2_; (try clear hb); (try clear hb2); (try clear hk); (try clear hi); have q22 : ((l0.length : Int) : Int) ≤ ((y331.length : Int) : Int) := of_decide_eq_true (by first | (with_reducible assumption) | assumption); obtain ⟨i022, hi022, _, hsz22, _⟩ := info_parts info26; have hroom22 : y331.length ≤ co19 := (Kd.R_reads' HO333.out).2.1; have hC22 : Kd.C k26 _ Ao19 y331.length y331 := (Kd.R_reads' HO333.out).2.2; have hcut22 := cut_to (P := Try.prog) 22 26 .i64 Try.underlying22 hi022 Ao19 y331.length co19 (l0.length : Int) (of_decide_eq_true (by first | (with_reducible assumption) | assumption)) q22 hroom22; have hr22 := Kd.C_take (m := ((l0.length : Int) : Int).toNat) hC22 (by omega); have hy22 : y334.length = ((l0.length : Int) : Int).toNat := (by rw [Ny344.out, List.length_take]; omega); rw [← Ny344.out] at hr22; rw [← hy22] at hcut22; have HR347 := Aside0.mk hr22; have HC347 := Aside0.mk (show y334.length ≤ co19 from by omega); clear hr22 hC22 hroom22 hi022 hsz22; have KY22 := Aside0.mk hy22; clear hy22; have KL22 := Aside0.mk (show ((l0.length : Int) : Int).toNat ≤ y331.length from by omega); replace q22 := eq_true q22) | ((with_reducible refine gate_callee (f := 21) rfl ?_); refine goesL_ (some 43) rfl rfl Try.func21 (by kernel_rfl) rfl #[.slice Ao19 y334.length co19] rfl (by (try simp only [List.map_toArray, List.map_cons, List.map_nil]); first | done | rfl | (simp only [List.length_drop, List.length_take]; rfl)) ?_; (with_reducible refine (choose_Survivors.calls k _ _ y334 t348 _ ?side1 ?side2 A11.out).mono ?_); (case side1 => repeat (first | exact (by repeat (first | (with_reducible exact HR347.out) | (with_reducible refine Kd.C_alloc ?_ _) | (with_reducible refine Kd.C_drewN ?_ _) | (with_reducible refine Kd.C_drew ?_) | exact HR347.out)) | (with_reducible refine Kd.C_alloc ?_ _) | (with_reducible refine Kd.C_drewN ?_ _) | (with_reducible refine Kd.C_drew ?_))); (case side2 => exact HC347.out); rintro e w23 ⟨v349, rfl, ho0, hb⟩; refine ⟨_, rfl, ?_⟩; have n0_ := Aside0.mk (Kd.R_elder' (by (with_reducible repeat (first | apply Kd.R_alloc | apply Kd.R_drewN | apply Kd.R_drew)); exact HO333.out) (Kd.R_base ho0) hb); have n1_ := Aside0.mk (Kd.R_lower (Kd.R_new' ho0 (Kd.R_lt (by (with_reducible repeat (first | apply Kd.R_alloc | apply Kd.R_drewN | apply Kd.R_drew)); exact HO333.out))) (below_size (by repeat (first | (with_reducible first | exact HB.out | apply below_alloc | apply pw_below_drewN | apply below_drew1) | exact HB.out)))); have n2_ := Aside0.mk (Kd.C_below (by repeat (first | (with_reducible exact HR337.out) | (with_reducible refine Kd.C_alloc ?_ _) | (with_reducible refine Kd.C_drewN ?_ _) | (with_reducible refine Kd.C_drew ?_) | exact HR337.out)) hb); have n3_ := Aside0.mk (Kd.C_below (by repeat (first | (with_reducible exact HR347.out) | (with_reducible refine Kd.C_alloc ?_ _) | (with_reducible refine Kd.C_drewN ?_ _) | (with_reducible refine Kd.C_drew ?_) | exact HR347.out)) hb); have n4_ := Aside0.mk (below_step (by repeat (first | (with_reducible first | exact HB.out | apply below_alloc | apply pw_below_drewN | apply below_drew1) | exact HB.out)) hb); clear HO333; clear HR337; clear HR347; clear HB; have HO333 := n0_; have HO350 := n1_; have HR337 := n2_; have HR347 := n3_; have HB := n4_; clear n0_ n1_ n2_ n3_ n4_; (try clear hb); (try clear hb2); (try clear hk); (try clear hi); (try clear ho0)) | ((with_reducible refine gate_callee (f := 23) rfl ?_); refine goesL_ (some 45) rfl rfl Try.func23 (by kernel_rfl) rfl #[.slice A0 l0.length c0] rfl (by (try simp only [List.map_toArray, List.map_cons, List.map_nil]); first | done | rfl | (simp only [List.length_drop, List.length_take]; rfl)) ?_; (with_reducible refine (foliotref13_Survivors.calls k _ _ l0 t351 _ ?side1 ?side2 A12.out).mono ?_); (case side1 => repeat (first | exact (Kd.C_below HR0.out HB.out) | (with_reducible refine Kd.C_alloc ?_ _) | (with_reducible refine Kd.C_drewN ?_ _) | (with_reducible refine Kd.C_drew ?_))); (case side2 => exact HC0.out); rintro e w24 ⟨v352, rfl, ho0, hb⟩; refine ⟨_, rfl, ?_⟩; have n0_ := Aside0.mk (Kd.R_elder' (by (with_reducible repeat (first | apply Kd.R_alloc | apply Kd.R_drewN | apply Kd.R_drew)); exact HO333.out) (Kd.R_base ho0) hb); have n1_ := Aside0.mk (Kd.R_elder' (by (with_reducible repeat (first | apply Kd.R_alloc | apply Kd.R_drewN | apply Kd.R_drew)); exact HO350.out) (Kd.R_base ho0) hb); have n2_ := Aside0.mk (Kd.R_lower (Kd.R_new' (Kd.R_new' ho0 (Kd.R_lt (by (with_reducible repeat (first | apply Kd.R_alloc | apply Kd.R_drewN | apply Kd.R_drew)); exact HO333.out))) (Kd.R_lt (by (with_reducible repeat (first | apply Kd.R_alloc | apply Kd.R_drewN | apply Kd.R_drew)); exact HO350.out))) (below_size (by repeat (first | (with_reducible first | exact HB.out | apply below_alloc | apply pw_below_drewN | apply below_drew1) | exact HB.out)))); have n3_ := Aside0.mk (Kd.C_below (by repeat (first | (with_reducible exact HR337.out) | (with_reducible refine Kd.C_alloc ?_ _) | (with_reducible refine Kd.C_drewN ?_ _) | (with_reducible refine Kd.C_drew ?_) | exact HR337.out)) hb); have n4_ := Aside0.mk (Kd.C_below (by repeat (first | (with_reducible exact HR347.out) | (with_reducible refine Kd.C_alloc ?_ _) | (with_reducible refine Kd.C_drewN ?_ _) | (with_reducible refine Kd.C_drew ?_) | exact HR347.out)) hb); have n5_ := Aside0.mk (below_step (by repeat (first | (with_reducible first | exact HB.out | apply below_alloc | apply pw_below_drewN | apply below_drew1) | exact HB.out)) hb); clear HO333; clear HO350; clear HR337; clear HR347; clear HB; have HO333 := n0_; have HO350 := n1_; have HO353 := n2_; have HR337 := n3_; have HR347 := n4_; have HB := n5_; clear n0_ n1_ n2_ n3_ n4_ n5_; (try clear hb); (try clear hb2); (try clear hk); (try clear hi); (try clear ho0)))
            (try simp only [Act.put, List.setIfInBounds_toArray, List.set_cons_zero, List.set_cons_succ])
            go_cut [82] (fun v82 wc => ∃ (kq : Nat) (x82_12 : Bool), v82 = .bool x82_12 ∧ Aside0 (foliotlaw13_ChooseMeets.j0 kq y331 t348 t351 x82_12 = some r) ∧ Aside0 (kq ≤ k) ∧ Aside0 (Kd.R k26 26 wc w.heap.size (fun k_ => some k_ ≠ (v349 : Value).ownBlock ∧ some k_ ≠ (v352 : Value).ownBlock) (.slice Ao19 y331.length co19) y331) ∧ Aside0 (Kd.R k26 26 wc w.heap.size (fun k_ => some k_ ≠ ((.slice Ao19 y331.length co19) : Value).ownBlock ∧ some k_ ≠ (v352 : Value).ownBlock) v349 t348) ∧ Aside0 (Kd.R k26 26 wc w.heap.size (fun k_ => some k_ ≠ ((.slice Ao19 y331.length co19) : Value).ownBlock ∧ some k_ ≠ (v349 : Value).ownBlock) v352 t351) ∧ Aside0 (Kd.C k26 wc Ao19 y334.length y334) ∧ Aside0 (Kd.C k26 wc Ao19 y334.length y334) ∧ Aside0 (Below w.heap.size w wc))
            case first =>
              have H := HC13.out
              clear HC13
              by_cases c25 : t338 = t341
              · rw [if_pos c25] at H
                have c25b0 : (t338 == t341) = true := beq_iff_eq.mpr c25
                have c25b1 : (t338 != t341) = false := bne_eq_false_iff_eq.mpr c25
                clear c25
                (first | rw [c25b0] | (simp only [i64_w, i32_w]; rw [c25b0]) | skip)
                by_cases c26 : t339 = t342
                · rw [if_pos c26] at H
                  have c26b0 : (t339 == t342) = true := beq_iff_eq.mpr c26
                  have c26b1 : (t339 != t342) = false := bne_eq_false_iff_eq.mpr c26
                  clear c26
                  by_cases c27 : (t340 != t343) = true
                  · rw [if_pos c27] at H
                    have c27b0 : (t340 != t343) = true := c27
                    (try (have c27b1 : decide (t340 = t343) = false := by simpa using c27))
                    (try (have c27b2 : (t340 == t343) = false := by simpa using c27))
                    (try (have c27b3 : ¬ (t340 = t343) := by simpa using c27))
                    clear c27
                    have H' := Aside0.mk H
                    clear H
                    go_wp2
                    go_meet
                    case rel => exact ⟨_, (true), (by first | rfl | (simp; done) | (simp [*]; done)), H', ⟨by first | omega | exact Nat.le_refl _⟩, ⟨by (with_reducible repeat (first | apply Kd.R_alloc | apply Kd.R_drewN | apply Kd.R_drew)); exact Kd.R_mono HO333.out (fun _ hk => ⟨hk.1.2, hk.2⟩)⟩, ⟨by (with_reducible repeat (first | apply Kd.R_alloc | apply Kd.R_drewN | apply Kd.R_drew)); exact Kd.R_mono HO350.out (fun _ hk => ⟨hk.1.2, hk.2⟩)⟩, ⟨by (with_reducible repeat (first | apply Kd.R_alloc | apply Kd.R_drewN | apply Kd.R_drew)); exact Kd.R_mono HO353.out (fun _ hk => ⟨hk.1.2, hk.2⟩)⟩, ⟨by repeat (first | (with_reducible exact HR337.out) | (with_reducible refine Kd.C_alloc ?_ _) | (with_reducible refine Kd.C_drewN ?_ _) | (with_reducible refine Kd.C_drew ?_) | exact HR337.out)⟩, ⟨by repeat (first | (with_reducible exact HR347.out) | (with_reducible refine Kd.C_alloc ?_ _) | (with_reducible refine Kd.C_drewN ?_ _) | (with_reducible refine Kd.C_drew ?_) | exact HR347.out)⟩, ⟨by repeat (first | (with_reducible first | exact HB.out | apply below_alloc | apply pw_below_drewN | apply below_drew1) | exact HB.out)⟩⟩
                  · rw [if_neg c27] at H
                    have c27b0 : (t340 != t343) = false := by simpa using c27
                    (try (have c27b1 : decide (t340 = t343) = true := by simpa using c27))
                    (try (have c27b2 : (t340 == t343) = true := by simpa using c27))
                    clear c27
                    replace H := Option.bind_eq_some_iff.mp H
                    obtain ⟨t354, A280, H⟩ := H
                    replace H : (if t354 = true then ((foliotlaw13_sameCands.f k (y331.take ((l0.length : Int) : Int).toNat) l0).bind fun t359 => (if t359 = true then (if (l0.length : Int) < (y331.length : Int) then (foliotlaw13_ChooseMeets.j0 k y331 t348 t351 (((rd_T26 y331 (l0.length : Int)).f0) != (-7))) else (none)) else (foliotlaw13_ChooseMeets.j0 k y331 t348 t351 true))) else (foliotlaw13_ChooseMeets.j0 k y331 t348 t351 true)) = some r := H
                    have A28 := Aside0.mk A280
                    clear A280
                    by_cases c29 : t354 = true
                    · subst c29
                      have H1 : ((foliotlaw13_sameCands.f k (y331.take ((l0.length : Int) : Int).toNat) l0).bind fun t359 => (if t359 = true then (if (l0.length : Int) < (y331.length : Int) then (foliotlaw13_ChooseMeets.j0 k y331 t348 t351 (((rd_T26 y331 (l0.length : Int)).f0) != (-7))) else (none)) else (foliotlaw13_ChooseMeets.j0 k y331 t348 t351 true))) = some r := by rw [if_pos rfl] at H; exact H
                      clear H
                      have H := H1
                      clear H1
                      have c30b0 := eq_true (of_decide_eq_true (by first | (with_reducible assumption) | assumption) : 0 ≤ (l0.length : Int))
                      have c31b0 := eq_true (of_decide_eq_true (by first | (with_reducible assumption) | assumption) : (l0.length : Int) ≤ (y331.length : Int))
                      have hy355 : y334 = (y331.take ((l0.length : Int) : Int).toNat) := Ny334.out
                      replace H : ((foliotlaw13_sameCands.f k y334 l0).bind fun t359 => (if t359 = true then (if (l0.length : Int) < (y331.length : Int) then (foliotlaw13_ChooseMeets.j0 k y331 t348 t351 (((rd_T26 y331 (l0.length : Int)).f0) != (-7))) else (none)) else (foliotlaw13_ChooseMeets.j0 k y331 t348 t351 true))) = some r := by first | (rw [hy355]; with_reducible exact H) | (have H2_ := (Option.bind_some _ _).symm.trans H; rw [hy355]; with_reducible exact H2_) | (have H2_ := (Option.bind_some _ _).symm.trans H; with_reducible exact H2_) | with_reducible exact H | (rw [hy355]; exact H) | exact H
                      have Ny355 := Aside0.mk hy355
                      clear hy355
                      replace H := Option.bind_eq_some_iff.mp H
                      obtain ⟨t359, A320, H⟩ := H
                      replace H : (if t359 = true then (if (l0.length : Int) < (y331.length : Int) then (foliotlaw13_ChooseMeets.j0 k y331 t348 t351 (((rd_T26 y331 (l0.length : Int)).f0) != (-7))) else (none)) else (foliotlaw13_ChooseMeets.j0 k y331 t348 t351 true)) = some r := H
                      have A32 := Aside0.mk A320
                      clear A320
                      by_cases c33 : t359 = true
                      · subst c33
                        have H1 : (if (l0.length : Int) < (y331.length : Int) then (foliotlaw13_ChooseMeets.j0 k y331 t348 t351 (((rd_T26 y331 (l0.length : Int)).f0) != (-7))) else (none)) = some r := by rw [if_pos rfl] at H; exact H
                        clear H
                        have H := H1
                        clear H1
                        by_cases c34 : (l0.length : Int) < (y331.length : Int)
                        · rw [if_pos c34] at H
                          have c34b0 : decide ((l0.length : Int) < (y331.length : Int)) = true := decide_eq_true c34
                          have c34b1 : decide (l0.length < y331.length) = true := decide_eq_true (Int.ofNat_lt.mp c34)
                          clear c34
                          have H' := Aside0.mk H
                          clear H
                          obtain ⟨Ao35, co35, eo35⟩ := Kd.R_slice HO350.out
                          subst eo35
                          obtain ⟨Ao36, co36, eo36⟩ := Kd.R_slice HO353.out
                          subst eo36
                          go_wp2_with (first | (go_at_call 20; (with_reducible refine (foliotlaw13_sameCands.calls k _ _ t348 _ _ t351 true _ ?side1 ?side2 ?side3 ?side4 A28.out).mono ?_); (case side1 => repeat (first | exact (Kd.R_reads' HO350.out).2.2 | (with_reducible refine Kd.C_alloc ?_ _) | (with_reducible refine Kd.C_drewN ?_ _) | (with_reducible refine Kd.C_drew ?_))); (case side2 => exact (Kd.R_reads' HO350.out).2.1); (case side3 => repeat (first | exact (Kd.R_reads' HO353.out).2.2 | (with_reducible refine Kd.C_alloc ?_ _) | (with_reducible refine Kd.C_drewN ?_ _) | (with_reducible refine Kd.C_drew ?_))); (case side4 => exact (Kd.R_reads' HO353.out).2.1); rintro e w' ⟨rfl, ⟨nd, rfl⟩⟩; have q37 : ((l0.length : Int) : Int) ≤ ((y331.length : Int) : Int) := of_decide_eq_true (by first | (with_reducible assumption) | assumption); obtain ⟨i037, hi037, _, hsz37, _⟩ := info_parts info26; have hroom37 : y331.length ≤ co19 := (Kd.R_reads' HO333.out).2.1; have hC37 : Kd.C k26 _ Ao19 y331.length y331 := (Kd.R_reads' HO333.out).2.2; have hcut37 := cut_to (P := Try.prog) 22 26 .i64 Try.underlying22 hi037 Ao19 y331.length co19 (l0.length : Int) (of_decide_eq_true (by first | (with_reducible assumption) | assumption)) q37 hroom37; have hr37 := Kd.C_take (m := ((l0.length : Int) : Int).toNat) hC37 (by omega); have hy37 : y334.length = ((l0.length : Int) : Int).toNat := (by rw [Ny355.out, List.length_take]; omega); rw [← Ny355.out] at hr37; rw [← hy37] at hcut37; have HR358 := Aside0.mk hr37; have HC358 := Aside0.mk (show y334.length ≤ co19 from by omega); clear hr37 hC37 hroom37 hi037 hsz37; have KY37 := Aside0.mk hy37; clear hy37; have KL37 := Aside0.mk (show ((l0.length : Int) : Int).toNat ≤ y331.length from by omega); replace q37 := eq_true q37) | (go_at_call 20; (with_reducible refine (foliotlaw13_sameCands.calls k _ _ y334 _ _ l0 true _ ?side1 ?side2 ?side3 ?side4 A32.out).mono ?_); (case side1 => repeat (first | exact (by repeat (first | (with_reducible exact HR358.out) | (with_reducible refine Kd.C_alloc ?_ _) | (with_reducible refine Kd.C_drewN ?_ _) | (with_reducible refine Kd.C_drew ?_) | exact HR358.out)) | (with_reducible refine Kd.C_alloc ?_ _) | (with_reducible refine Kd.C_drewN ?_ _) | (with_reducible refine Kd.C_drew ?_))); (case side2 => exact HC358.out); (case side3 => repeat (first | exact (Kd.C_below HR0.out (by repeat (first | (with_reducible first | exact HB.out | apply below_alloc | apply pw_below_drewN | apply below_drew1) | exact HB.out))) | (with_reducible refine Kd.C_alloc ?_ _) | (with_reducible refine Kd.C_drewN ?_ _) | (with_reducible refine Kd.C_drew ?_))); (case side4 => exact HC0.out); rintro e w' ⟨rfl, ⟨nd, rfl⟩⟩; have p360 : 0 ≤ ((l0.length : Int) : Int) := of_decide_eq_true (by first | (with_reducible assumption) | assumption); have q360 : (l0.length : Int) < (y331.length : Int) := of_decide_eq_true (by first | (with_reducible assumption) | assumption); obtain ⟨ad360, e360, hx360_0, hx360_1, hx360_2, hx360_3, hx360_4, hx360_5, hx360_6⟩ := at_T26 (Kd.R_reads' HO333.out).2.2 (l0.length : Int) p360 q360; cases e360; (try simp only [Go.IntWalk.toNatUp] at hx360_0); (try simp only [Go.IntWalk.toNatUp] at hx360_1); (try simp only [Go.IntWalk.toNatUp] at hx360_2); (try simp only [Go.IntWalk.toNatUp] at hx360_3); (try simp only [Go.IntWalk.toNatUp] at hx360_4); (try simp only [Go.IntWalk.toNatUp] at hx360_5); (try simp only [Go.IntWalk.toNatUp] at hx360_6); replace p360 := eq_true p360; replace q360 := eq_true q360))
                          go_meet
                          case rel => exact ⟨_, ((((rd_T26 y331 (l0.length : Int)).f0) != (-7))), (by first | rfl | (simp; done) | (simp [*]; done)), H', ⟨by first | omega | exact Nat.le_refl _⟩, ⟨by (with_reducible repeat (first | apply Kd.R_alloc | apply Kd.R_drewN | apply Kd.R_drew)); exact Kd.R_mono HO333.out (fun _ hk => ⟨hk.1.2, hk.2⟩)⟩, ⟨by (with_reducible repeat (first | apply Kd.R_alloc | apply Kd.R_drewN | apply Kd.R_drew)); exact Kd.R_mono HO350.out (fun _ hk => ⟨hk.1.2, hk.2⟩)⟩, ⟨by (with_reducible repeat (first | apply Kd.R_alloc | apply Kd.R_drewN | apply Kd.R_drew)); exact Kd.R_mono HO353.out (fun _ hk => ⟨hk.1.2, hk.2⟩)⟩, ⟨by repeat (first | (with_reducible exact HR337.out) | (with_reducible refine Kd.C_alloc ?_ _) | (with_reducible refine Kd.C_drewN ?_ _) | (with_reducible refine Kd.C_drew ?_) | exact HR337.out)⟩, ⟨by repeat (first | (with_reducible exact HR347.out) | (with_reducible refine Kd.C_alloc ?_ _) | (with_reducible refine Kd.C_drewN ?_ _) | (with_reducible refine Kd.C_drew ?_) | exact HR347.out)⟩, ⟨by repeat (first | (with_reducible first | exact HB.out | apply below_alloc | apply pw_below_drewN | apply below_drew1) | exact HB.out)⟩⟩
                        · rw [if_neg c34] at H
                          exact absurd H (by simp)
                      · replace c33 := Bool.eq_false_iff.mpr c33
                        subst c33
                        have H1 : (foliotlaw13_ChooseMeets.j0 k y331 t348 t351 true) = some r := by rw [if_neg (show ¬ (false = true) by decide)] at H; exact H
                        clear H
                        have H := H1
                        clear H1
                        have H' := Aside0.mk H
                        clear H
                        obtain ⟨Ao38, co38, eo38⟩ := Kd.R_slice HO350.out
                        subst eo38
                        obtain ⟨Ao39, co39, eo39⟩ := Kd.R_slice HO353.out
                        subst eo39
                        go_wp2_with (first | (go_at_call 20; (with_reducible refine (foliotlaw13_sameCands.calls k _ _ t348 _ _ t351 true _ ?side1 ?side2 ?side3 ?side4 A28.out).mono ?_); (case side1 => repeat (first | exact (Kd.R_reads' HO350.out).2.2 | (with_reducible refine Kd.C_alloc ?_ _) | (with_reducible refine Kd.C_drewN ?_ _) | (with_reducible refine Kd.C_drew ?_))); (case side2 => exact (Kd.R_reads' HO350.out).2.1); (case side3 => repeat (first | exact (Kd.R_reads' HO353.out).2.2 | (with_reducible refine Kd.C_alloc ?_ _) | (with_reducible refine Kd.C_drewN ?_ _) | (with_reducible refine Kd.C_drew ?_))); (case side4 => exact (Kd.R_reads' HO353.out).2.1); rintro e w' ⟨rfl, ⟨nd, rfl⟩⟩; have q40 : ((l0.length : Int) : Int) ≤ ((y331.length : Int) : Int) := of_decide_eq_true (by first | (with_reducible assumption) | assumption); obtain ⟨i040, hi040, _, hsz40, _⟩ := info_parts info26; have hroom40 : y331.length ≤ co19 := (Kd.R_reads' HO333.out).2.1; have hC40 : Kd.C k26 _ Ao19 y331.length y331 := (Kd.R_reads' HO333.out).2.2; have hcut40 := cut_to (P := Try.prog) 22 26 .i64 Try.underlying22 hi040 Ao19 y331.length co19 (l0.length : Int) (of_decide_eq_true (by first | (with_reducible assumption) | assumption)) q40 hroom40; have hr40 := Kd.C_take (m := ((l0.length : Int) : Int).toNat) hC40 (by omega); have hy40 : y334.length = ((l0.length : Int) : Int).toNat := (by rw [Ny355.out, List.length_take]; omega); rw [← Ny355.out] at hr40; rw [← hy40] at hcut40; have HR358 := Aside0.mk hr40; have HC358 := Aside0.mk (show y334.length ≤ co19 from by omega); clear hr40 hC40 hroom40 hi040 hsz40; have KY40 := Aside0.mk hy40; clear hy40; have KL40 := Aside0.mk (show ((l0.length : Int) : Int).toNat ≤ y331.length from by omega); replace q40 := eq_true q40) | (go_at_call 20; (with_reducible refine (foliotlaw13_sameCands.calls k _ _ y334 _ _ l0 false _ ?side1 ?side2 ?side3 ?side4 A32.out).mono ?_); (case side1 => repeat (first | exact (by repeat (first | (with_reducible exact HR358.out) | (with_reducible refine Kd.C_alloc ?_ _) | (with_reducible refine Kd.C_drewN ?_ _) | (with_reducible refine Kd.C_drew ?_) | exact HR358.out)) | (with_reducible refine Kd.C_alloc ?_ _) | (with_reducible refine Kd.C_drewN ?_ _) | (with_reducible refine Kd.C_drew ?_))); (case side2 => exact HC358.out); (case side3 => repeat (first | exact (Kd.C_below HR0.out (by repeat (first | (with_reducible first | exact HB.out | apply below_alloc | apply pw_below_drewN | apply below_drew1) | exact HB.out))) | (with_reducible refine Kd.C_alloc ?_ _) | (with_reducible refine Kd.C_drewN ?_ _) | (with_reducible refine Kd.C_drew ?_))); (case side4 => exact HC0.out); rintro e w' ⟨rfl, ⟨nd, rfl⟩⟩))
                        go_meet
                        case rel => exact ⟨_, (true), (by first | rfl | (simp; done) | (simp [*]; done)), H', ⟨by first | omega | exact Nat.le_refl _⟩, ⟨by (with_reducible repeat (first | apply Kd.R_alloc | apply Kd.R_drewN | apply Kd.R_drew)); exact Kd.R_mono HO333.out (fun _ hk => ⟨hk.1.2, hk.2⟩)⟩, ⟨by (with_reducible repeat (first | apply Kd.R_alloc | apply Kd.R_drewN | apply Kd.R_drew)); exact Kd.R_mono HO350.out (fun _ hk => ⟨hk.1.2, hk.2⟩)⟩, ⟨by (with_reducible repeat (first | apply Kd.R_alloc | apply Kd.R_drewN | apply Kd.R_drew)); exact Kd.R_mono HO353.out (fun _ hk => ⟨hk.1.2, hk.2⟩)⟩, ⟨by repeat (first | (with_reducible exact HR337.out) | (with_reducible refine Kd.C_alloc ?_ _) | (with_reducible refine Kd.C_drewN ?_ _) | (with_reducible refine Kd.C_drew ?_) | exact HR337.out)⟩, ⟨by repeat (first | (with_reducible exact HR347.out) | (with_reducible refine Kd.C_alloc ?_ _) | (with_reducible refine Kd.C_drewN ?_ _) | (with_reducible refine Kd.C_drew ?_) | exact HR347.out)⟩, ⟨by repeat (first | (with_reducible first | exact HB.out | apply below_alloc | apply pw_below_drewN | apply below_drew1) | exact HB.out)⟩⟩
                    · replace c29 := Bool.eq_false_iff.mpr c29
                      subst c29
                      have H1 : (foliotlaw13_ChooseMeets.j0 k y331 t348 t351 true) = some r := by rw [if_neg (show ¬ (false = true) by decide)] at H; exact H
                      clear H
                      have H := H1
                      clear H1
                      have H' := Aside0.mk H
                      clear H
                      obtain ⟨Ao41, co41, eo41⟩ := Kd.R_slice HO350.out
                      subst eo41
                      obtain ⟨Ao42, co42, eo42⟩ := Kd.R_slice HO353.out
                      subst eo42
                      go_wp2_with (first | (go_at_call 20; (with_reducible refine (foliotlaw13_sameCands.calls k _ _ t348 _ _ t351 false _ ?side1 ?side2 ?side3 ?side4 A28.out).mono ?_); (case side1 => repeat (first | exact (Kd.R_reads' HO350.out).2.2 | (with_reducible refine Kd.C_alloc ?_ _) | (with_reducible refine Kd.C_drewN ?_ _) | (with_reducible refine Kd.C_drew ?_))); (case side2 => exact (Kd.R_reads' HO350.out).2.1); (case side3 => repeat (first | exact (Kd.R_reads' HO353.out).2.2 | (with_reducible refine Kd.C_alloc ?_ _) | (with_reducible refine Kd.C_drewN ?_ _) | (with_reducible refine Kd.C_drew ?_))); (case side4 => exact (Kd.R_reads' HO353.out).2.1); rintro e w' ⟨rfl, ⟨nd, rfl⟩⟩))
                      go_meet
                      case rel => exact ⟨_, (true), (by first | rfl | (simp; done) | (simp [*]; done)), H', ⟨by first | omega | exact Nat.le_refl _⟩, ⟨by (with_reducible repeat (first | apply Kd.R_alloc | apply Kd.R_drewN | apply Kd.R_drew)); exact Kd.R_mono HO333.out (fun _ hk => ⟨hk.1.2, hk.2⟩)⟩, ⟨by (with_reducible repeat (first | apply Kd.R_alloc | apply Kd.R_drewN | apply Kd.R_drew)); exact Kd.R_mono HO350.out (fun _ hk => ⟨hk.1.2, hk.2⟩)⟩, ⟨by (with_reducible repeat (first | apply Kd.R_alloc | apply Kd.R_drewN | apply Kd.R_drew)); exact Kd.R_mono HO353.out (fun _ hk => ⟨hk.1.2, hk.2⟩)⟩, ⟨by repeat (first | (with_reducible exact HR337.out) | (with_reducible refine Kd.C_alloc ?_ _) | (with_reducible refine Kd.C_drewN ?_ _) | (with_reducible refine Kd.C_drew ?_) | exact HR337.out)⟩, ⟨by repeat (first | (with_reducible exact HR347.out) | (with_reducible refine Kd.C_alloc ?_ _) | (with_reducible refine Kd.C_drewN ?_ _) | (with_reducible refine Kd.C_drew ?_) | exact HR347.out)⟩, ⟨by repeat (first | (with_reducible first | exact HB.out | apply below_alloc | apply pw_below_drewN | apply below_drew1) | exact HB.out)⟩⟩
                · rw [if_neg c26] at H
                  have c26b0 : (t339 == t342) = false := beq_eq_false_iff_ne.mpr c26
                  have c26b1 : (t339 != t342) = true := bne_iff_ne.mpr c26
                  have H' := Aside0.mk H
                  clear H
                  go_wp2
                  go_meet
                  case rel => exact ⟨_, (true), (by first | rfl | (simp; done) | (simp [*]; done)), H', ⟨by first | omega | exact Nat.le_refl _⟩, ⟨by (with_reducible repeat (first | apply Kd.R_alloc | apply Kd.R_drewN | apply Kd.R_drew)); exact Kd.R_mono HO333.out (fun _ hk => ⟨hk.1.2, hk.2⟩)⟩, ⟨by (with_reducible repeat (first | apply Kd.R_alloc | apply Kd.R_drewN | apply Kd.R_drew)); exact Kd.R_mono HO350.out (fun _ hk => ⟨hk.1.2, hk.2⟩)⟩, ⟨by (with_reducible repeat (first | apply Kd.R_alloc | apply Kd.R_drewN | apply Kd.R_drew)); exact Kd.R_mono HO353.out (fun _ hk => ⟨hk.1.2, hk.2⟩)⟩, ⟨by repeat (first | (with_reducible exact HR337.out) | (with_reducible refine Kd.C_alloc ?_ _) | (with_reducible refine Kd.C_drewN ?_ _) | (with_reducible refine Kd.C_drew ?_) | exact HR337.out)⟩, ⟨by repeat (first | (with_reducible exact HR347.out) | (with_reducible refine Kd.C_alloc ?_ _) | (with_reducible refine Kd.C_drewN ?_ _) | (with_reducible refine Kd.C_drew ?_) | exact HR347.out)⟩, ⟨by repeat (first | (with_reducible first | exact HB.out | apply below_alloc | apply pw_below_drewN | apply below_drew1) | exact HB.out)⟩⟩
              · rw [if_neg c25] at H
                have c25b0 : (t338 == t341) = false := beq_eq_false_iff_ne.mpr c25
                have c25b1 : (t338 != t341) = true := bne_iff_ne.mpr c25
                (first | rw [c25b0] | (simp only [i64_w, i32_w]; rw [c25b0]) | skip)
                have H' := Aside0.mk H
                clear H
                go_wp2
                go_meet
                case rel => exact ⟨_, (true), (by first | rfl | (simp; done) | (simp [*]; done)), H', ⟨by first | omega | exact Nat.le_refl _⟩, ⟨by (with_reducible repeat (first | apply Kd.R_alloc | apply Kd.R_drewN | apply Kd.R_drew)); exact Kd.R_mono HO333.out (fun _ hk => ⟨hk.1.2, hk.2⟩)⟩, ⟨by (with_reducible repeat (first | apply Kd.R_alloc | apply Kd.R_drewN | apply Kd.R_drew)); exact Kd.R_mono HO350.out (fun _ hk => ⟨hk.1.2, hk.2⟩)⟩, ⟨by (with_reducible repeat (first | apply Kd.R_alloc | apply Kd.R_drewN | apply Kd.R_drew)); exact Kd.R_mono HO353.out (fun _ hk => ⟨hk.1.2, hk.2⟩)⟩, ⟨by repeat (first | (with_reducible exact HR337.out) | (with_reducible refine Kd.C_alloc ?_ _) | (with_reducible refine Kd.C_drewN ?_ _) | (with_reducible refine Kd.C_drew ?_) | exact HR337.out)⟩, ⟨by repeat (first | (with_reducible exact HR347.out) | (with_reducible refine Kd.C_alloc ?_ _) | (with_reducible refine Kd.C_drewN ?_ _) | (with_reducible refine Kd.C_drew ?_) | exact HR347.out)⟩, ⟨by repeat (first | (with_reducible first | exact HB.out | apply below_alloc | apply pw_below_drewN | apply below_drew1) | exact HB.out)⟩⟩
            case rest =>
              clear HC13
              try clear c1
              try clear q1
              try clear c2
              try clear c2b0
              try clear c2b1
              try clear p2
              try clear q2
              try clear c3
              try clear p3
              try clear q3
              try clear hx3
              try clear c4
              try clear q4
              try clear c5
              try clear c5b0
              try clear c5b1
              try clear c6
              try clear c6b0
              try clear c6b1
              try clear c8
              try clear c9
              try clear c9b0
              try clear c10
              try clear c10b0
              try clear c17
              try clear c18
              try clear q18
              try clear c21
              try clear q22
              try clear c23
              try clear c25
              try clear c25b0
              try clear c25b1
              try clear c26
              try clear c26b0
              try clear c26b1
              try clear c27
              try clear c27b0
              try clear c27b1
              try clear c27b2
              try clear c29
              try clear c30
              try clear c30b0
              try clear c31
              try clear c31b0
              try clear c33
              try clear c34
              try clear c34b0
              try clear c34b1
              try clear p36
              try clear q36
              try clear hx36
              try clear q37
              try clear q40
              try clear hx360_0
              try clear hx360_1
              try clear hx360_2
              try clear hx360_3
              try clear hx360_4
              try clear hx360_5
              try clear hx360_6
              try clear p360
              try clear q18
              try clear q22
              try clear q360
              try clear q37
              try clear q40
              obtain ⟨kq, x82_12, rfl, HA, HJ12, HO_3, HO_10, HO_11, HR337, HR347, HB⟩ := hcut
              cases kq with
              | zero => exact absurd HA.out (by simp [foliotlaw13_ChooseMeets.j0])
              | succ kj12 =>
                have H := HA.out
                clear HA
                simp only [foliotlaw13_ChooseMeets.j0] at H
                by_cases c43 : x82_12 = true
                · subst c43
                  have H1 : (some false) = some r := by rw [if_pos rfl] at H; exact H
                  clear H
                  have H := H1
                  clear H1
                  obtain rfl := Option.some.inj H
                  go_wp2
                  go_ret
                  exact ⟨by first | rfl | (simp [errW_none, errW_some] <;> rfl) | (simp [*, errW_none, errW_some] <;> rfl), by repeat (first | (with_reducible first | exact HB.out | apply below_alloc | apply pw_below_drewN | apply below_drew1) | exact HB.out)⟩
                · replace c43 := Bool.eq_false_iff.mpr c43
                  subst c43
                  have H1 : (foliotlaw13_ChooseMeets.l0 kj12 y331 t348 t351 0) = some r := by rw [if_neg (show ¬ (false = true) by decide)] at H; exact H
                  clear H
                  have H := H1
                  clear H1
                  have H' := Aside0.mk H
                  clear H
                  go_wp2
                  go_loopg [12] kj12 (fun kq v12 w' => ∃ (x3_2 : List (S26)) (x12_2 : Int), v12 = .int .i64 x12_2 ∧ Aside0 (foliotlaw13_ChooseMeets.l0 kq x3_2 t348 t351 x12_2 = some r) ∧ Aside0 (kq ≤ kj12) ∧ Aside0 (Kd.R k26 26 w' w.heap.size (fun k_ => some k_ ≠ (v349 : Value).ownBlock ∧ some k_ ≠ (v352 : Value).ownBlock) (.slice Ao19 y331.length co19) x3_2) ∧ Aside0 (Kd.R k26 26 w' w.heap.size (fun k_ => some k_ ≠ ((.slice Ao19 y331.length co19) : Value).ownBlock ∧ some k_ ≠ (v352 : Value).ownBlock) v349 t348) ∧ Aside0 (Kd.R k26 26 w' w.heap.size (fun k_ => some k_ ≠ ((.slice Ao19 y331.length co19) : Value).ownBlock ∧ some k_ ≠ (v349 : Value).ownBlock) v352 t351) ∧ Aside0 (Below w.heap.size w w'))
                  case atStart => exact ⟨(y331), (0), (by first | rfl | (simp; done) | (simp [*]; done)), H', ⟨Nat.le_refl _⟩, ⟨by (with_reducible repeat (first | apply Kd.R_alloc | apply Kd.R_drewN | apply Kd.R_drew)); exact HO_3.out⟩, ⟨by (with_reducible repeat (first | apply Kd.R_alloc | apply Kd.R_drewN | apply Kd.R_drew)); exact HO_10.out⟩, ⟨by (with_reducible repeat (first | apply Kd.R_alloc | apply Kd.R_drewN | apply Kd.R_drew)); exact HO_11.out⟩, ⟨by repeat (first | (with_reducible first | exact HB.out | apply below_alloc | apply pw_below_drewN | apply below_drew1) | exact HB.out)⟩⟩
                  case round =>
                    clear H'
                    try clear c1
                    try clear q1
                    try clear c2
                    try clear c2b0
                    try clear c2b1
                    try clear p2
                    try clear q2
                    try clear c3
                    try clear p3
                    try clear q3
                    try clear hx3
                    try clear c4
                    try clear q4
                    try clear c5
                    try clear c5b0
                    try clear c5b1
                    try clear c6
                    try clear c6b0
                    try clear c6b1
                    try clear c8
                    try clear c9
                    try clear c9b0
                    try clear c10
                    try clear c10b0
                    try clear c17
                    try clear c18
                    try clear q18
                    try clear c21
                    try clear q22
                    try clear c23
                    try clear c25
                    try clear c25b0
                    try clear c25b1
                    try clear c26
                    try clear c26b0
                    try clear c26b1
                    try clear c27
                    try clear c27b0
                    try clear c27b1
                    try clear c27b2
                    try clear c29
                    try clear c30
                    try clear c30b0
                    try clear c31
                    try clear c31b0
                    try clear c33
                    try clear c34
                    try clear c34b0
                    try clear c34b1
                    try clear p36
                    try clear q36
                    try clear hx36
                    try clear q37
                    try clear q40
                    try clear c43
                    try clear hx360_0
                    try clear hx360_1
                    try clear hx360_2
                    try clear hx360_3
                    try clear hx360_4
                    try clear hx360_5
                    try clear hx360_6
                    try clear p2
                    try clear p3
                    try clear p36
                    try clear p360
                    try clear q1
                    try clear q18
                    try clear q2
                    try clear q22
                    try clear q3
                    try clear q36
                    try clear q360
                    try clear q37
                    try clear q4
                    try clear q40
                    obtain ⟨x3_2, x12_2, rfl, HA, HK2, HO_3, HO_10, HO_11, HB⟩ := hrel
                    have hl3_2 := (Kd.R_reads' HO_3.out).1
                    rw [hl3_2] at HO_3
                    (try simp only [hl3_2])
                    (try simp only [hl3_2] at HO_10)
                    (try simp only [hl3_2] at HO_11)
                    cases gk with
                    | zero => exact absurd HA.out (by simp [foliotlaw13_ChooseMeets.l0])
                    | succ k2 =>
                      have H := HA.out
                      clear HA
                      simp only [foliotlaw13_ChooseMeets.l0] at H
                      by_cases c44 : x12_2 < (x3_2.length : Int)
                      · rw [if_pos c44] at H
                        have c44b0 : decide (x12_2 < (x3_2.length : Int)) = true := decide_eq_true c44
                        clear c44
                        by_cases c45 : 0 ≤ x12_2
                        · rw [if_pos c45] at H
                          have c45b0 : decide (0 ≤ x12_2) = true := decide_eq_true c45
                          clear c45
                          obtain ⟨y361, hy361⟩ : ∃ y_ : List (S26), y_ = (x3_2.set (x12_2 : Int).toNat (⟨(-9), 0, 0, 0, 0, false, false⟩ : S26)) := ⟨_, rfl⟩
                          replace H : (foliotlaw13_ChooseMeets.l0 k2 y361 t348 t351 (wrap64 (x12_2 + 1))) = some r := by first | (rw [hy361]; with_reducible exact H) | (have H2_ := (Option.bind_some _ _).symm.trans H; rw [hy361]; with_reducible exact H2_) | (have H2_ := (Option.bind_some _ _).symm.trans H; with_reducible exact H2_) | with_reducible exact H | (rw [hy361]; exact H) | exact H
                          have Ny361 := Aside0.mk hy361
                          clear hy361
                          have H' := Aside0.mk H
                          clear H
                          have p46 : 0 ≤ (x12_2 : Int) := of_decide_eq_true (by first | (with_reducible assumption) | assumption)
                          have q46 : (x12_2 : Int) < ((x3_2.length : Int) : Int) := of_decide_eq_true (by first | (with_reducible assumption) | assumption)
                          obtain ⟨go46, co46, eo46, gb46, gl46, cl46, HG46⟩ := Kd.R_form HO_3.out (by omega)
                          (first | cases eo46 | (injection eo46 with ea_ en_ ec_; (first | subst ea_ | (injection ea_ with ea_; subst ea_)); subst ec_; clear en_))
                          have GB46 := Aside0.mk gb46
                          have GG46 := Aside0.mk HG46
                          clear gb46 gl46 HG46
                          obtain ⟨ce46, hcl46, hM46, hcc46, hfr46⟩ := Kd.R_elem HO_3.out z26 (x12_2 : Int) p46 q46
                          obtain rfl := k26_openM hM46
                          have hx46_0 : wr.cell? ⟨go46, (x12_2 : Int).toNat * 7, none⟩ = some (.int .i64 ((rd_T26 x3_2 x12_2).f0)) := hcc46 0 _ rfl
                          have hx46_1 : wr.cell? ⟨go46, (x12_2 : Int).toNat * 7 + 1, none⟩ = some (.int .i64 ((rd_T26 x3_2 x12_2).f1)) := hcc46 1 _ rfl
                          have hx46_2 : wr.cell? ⟨go46, (x12_2 : Int).toNat * 7 + 2, none⟩ = some (.int .i64 ((rd_T26 x3_2 x12_2).f2)) := hcc46 2 _ rfl
                          have hx46_3 : wr.cell? ⟨go46, (x12_2 : Int).toNat * 7 + 3, none⟩ = some (.int .i64 ((rd_T26 x3_2 x12_2).f3)) := hcc46 3 _ rfl
                          have hx46_4 : wr.cell? ⟨go46, (x12_2 : Int).toNat * 7 + 4, none⟩ = some (.int .i64 ((rd_T26 x3_2 x12_2).f4)) := hcc46 4 _ rfl
                          have hx46_5 : wr.cell? ⟨go46, (x12_2 : Int).toNat * 7 + 5, none⟩ = some (.bool ((rd_T26 x3_2 x12_2).f5)) := hcc46 5 _ rfl
                          have hx46_6 : wr.cell? ⟨go46, (x12_2 : Int).toNat * 7 + 6, none⟩ = some (.bool ((rd_T26 x3_2 x12_2).f6)) := hcc46 6 _ rfl
                          have hf46_0 : wr.frozen? ⟨go46, (x12_2 : Int).toNat * 7, none⟩ = false := hfr46 0
                          have hf46_1 : wr.frozen? ⟨go46, (x12_2 : Int).toNat * 7 + 1, none⟩ = false := hfr46 1
                          have hf46_2 : wr.frozen? ⟨go46, (x12_2 : Int).toNat * 7 + 2, none⟩ = false := hfr46 2
                          have hf46_3 : wr.frozen? ⟨go46, (x12_2 : Int).toNat * 7 + 3, none⟩ = false := hfr46 3
                          have hf46_4 : wr.frozen? ⟨go46, (x12_2 : Int).toNat * 7 + 4, none⟩ = false := hfr46 4
                          have hf46_5 : wr.frozen? ⟨go46, (x12_2 : Int).toNat * 7 + 5, none⟩ = false := hfr46 5
                          have hf46_6 : wr.frozen? ⟨go46, (x12_2 : Int).toNat * 7 + 6, none⟩ = false := hfr46 6
                          clear hcl46 hcc46 hfr46 hM46
                          replace p46 := eq_true p46
                          replace q46 := eq_true q46
                          have HX47 := Aside0.mk (show Kd.R k26 26 wr w.heap.size (fun k_ => some k_ ≠ (v349 : Value).ownBlock ∧ some k_ ≠ (v352 : Value).ownBlock) (.slice (some ⟨go46, 0, none⟩) x3_2.length co19) x3_2 from (by (with_reducible repeat (first | apply Kd.R_alloc | apply Kd.R_drewN | apply Kd.R_drew)); exact HO_3.out))
                          obtain ⟨ce47, hcl47, hM47, hcc47, hfr47⟩ := Kd.R_elem HX47.out z26 (x12_2 : Int) (of_decide_eq_true (by first | (with_reducible assumption) | assumption)) (by have h_ : (x12_2 : Int) < ((x3_2.length : Int) : Int) := of_decide_eq_true (by first | (with_reducible assumption) | assumption); first | exact h_ | (have e_ := (Kd.R_reads' HO_3.out).1; omega) | simpa using h_)
                          obtain rfl := k26_openM hM47
                          have HP47 := Kd.R_seg HX47.out (x12_2 : Int) (of_decide_eq_true (by first | (with_reducible assumption) | assumption)) (by have h_ : (x12_2 : Int) < ((x3_2.length : Int) : Int) := of_decide_eq_true (by first | (with_reducible assumption) | assumption); first | exact h_ | (have e_ := (Kd.R_reads' HO_3.out).1; omega) | simpa using h_) (seg := [.int .i64 (-9), .int .i64 0, .int .i64 0, .int .i64 0, .int .i64 0, .bool false, .bool false]) (j := 0) hcl47 hcc47 (show 7 ≤ 7 from by decide) (x' := (⟨(-9), 0, 0, 0, 0, false, false⟩ : S26)) (k26_mkM _ _ _ (⟨(-9), 0, 0, 0, 0, false, false⟩ : S26) ) (fun _ hk => hk)
                          have hx47_0 := hcc47 0 _ rfl
                          (try simp only [show (k26).sz = 7 from rfl, Nat.mul_one, Nat.add_zero] at hx47_0)
                          have hf47_0 := hfr47 0
                          (try simp only [show (k26).sz = 7 from rfl, Nat.mul_one, Nat.add_zero] at hf47_0)
                          have hx47_1 := hcc47 1 _ rfl
                          (try simp only [show (k26).sz = 7 from rfl, Nat.mul_one, Nat.add_zero] at hx47_1)
                          have hf47_1 := hfr47 1
                          (try simp only [show (k26).sz = 7 from rfl, Nat.mul_one, Nat.add_zero] at hf47_1)
                          have hx47_2 := hcc47 2 _ rfl
                          (try simp only [show (k26).sz = 7 from rfl, Nat.mul_one, Nat.add_zero] at hx47_2)
                          have hf47_2 := hfr47 2
                          (try simp only [show (k26).sz = 7 from rfl, Nat.mul_one, Nat.add_zero] at hf47_2)
                          have hx47_3 := hcc47 3 _ rfl
                          (try simp only [show (k26).sz = 7 from rfl, Nat.mul_one, Nat.add_zero] at hx47_3)
                          have hf47_3 := hfr47 3
                          (try simp only [show (k26).sz = 7 from rfl, Nat.mul_one, Nat.add_zero] at hf47_3)
                          have hx47_4 := hcc47 4 _ rfl
                          (try simp only [show (k26).sz = 7 from rfl, Nat.mul_one, Nat.add_zero] at hx47_4)
                          have hf47_4 := hfr47 4
                          (try simp only [show (k26).sz = 7 from rfl, Nat.mul_one, Nat.add_zero] at hf47_4)
                          have hx47_5 := hcc47 5 _ rfl
                          (try simp only [show (k26).sz = 7 from rfl, Nat.mul_one, Nat.add_zero] at hx47_5)
                          have hf47_5 := hfr47 5
                          (try simp only [show (k26).sz = 7 from rfl, Nat.mul_one, Nat.add_zero] at hf47_5)
                          have hx47_6 := hcc47 6 _ rfl
                          (try simp only [show (k26).sz = 7 from rfl, Nat.mul_one, Nat.add_zero] at hx47_6)
                          have hf47_6 := hfr47 6
                          (try simp only [show (k26).sz = 7 from rfl, Nat.mul_one, Nat.add_zero] at hf47_6)
                          clear hcl47 hcc47 hfr47 hM47
                          go_wp2_with (first | ((with_reducible refine gate_store (t := 26) (p := 92) rfl ?_); refine store_event (t := 26) (p := 92) (v := ?vo_w48) (w1 := (((((((wr.setCell ⟨go46, (x12_2 : Int).toNat * 7, none⟩ (.int .i64 (-9))).setCell ⟨go46, (x12_2 : Int).toNat * 7 + 1, none⟩ (.int .i64 0)).setCell ⟨go46, (x12_2 : Int).toNat * 7 + 2, none⟩ (.int .i64 0)).setCell ⟨go46, (x12_2 : Int).toNat * 7 + 3, none⟩ (.int .i64 0)).setCell ⟨go46, (x12_2 : Int).toNat * 7 + 4, none⟩ (.int .i64 0)).setCell ⟨go46, (x12_2 : Int).toNat * 7 + 5, none⟩ (.bool false)).setCell ⟨go46, (x12_2 : Int).toNat * 7 + 6, none⟩ (.bool false))) ?hg ?ho ?hn ?hr ?_; (case ho => rfl); (case hg => rfl); (case hn => rfl); (case hr => first | (go_simp; done) | (go_simp; rfl)); intro w48 hw; have hg : wr.grownBy w48 (some go46) := (by rw [hw]; exact HP47.2); have hp_ : Kd.R k26 26 w48 w.heap.size (fun k_ => some k_ ≠ (v349 : Value).ownBlock ∧ some k_ ≠ (v352 : Value).ownBlock) (.slice (some ⟨go46, 0, none⟩) x3_2.length co19) y361 := (by rw [hw, Ny361.out]; exact HP47.1); clear HP47; have n0_ := Aside0.mk (hp_); have n1_ := Aside0.mk (Kd.R_after (v := (.slice (some ⟨go46, 0, none⟩) x3_2.length co19)) (v1 := (.slice (some ⟨go46, 0, none⟩) x3_2.length co19)) (ok := (fun k_ => some k_ ≠ (v352 : Value).ownBlock)) (by (with_reducible repeat (first | apply Kd.R_alloc | apply Kd.R_drewN | apply Kd.R_drew)); exact Kd.R_mono HO_10.out (fun _ hk => ⟨hk.2, hk.1⟩)) hg (.inl rfl)); have n2_ := Aside0.mk (Kd.R_after (v := (.slice (some ⟨go46, 0, none⟩) x3_2.length co19)) (v1 := (.slice (some ⟨go46, 0, none⟩) x3_2.length co19)) (ok := (fun k_ => some k_ ≠ (v349 : Value).ownBlock)) (by (with_reducible repeat (first | apply Kd.R_alloc | apply Kd.R_drewN | apply Kd.R_drew)); exact Kd.R_mono HO_11.out (fun _ hk => ⟨hk.2, hk.1⟩)) hg (.inl rfl)); have n3_ := Aside0.mk ((by rw [hw]; exact below_set (below_set (below_set (below_set (below_set (below_set (below_set (HB.out) GB46.out) GB46.out) GB46.out) GB46.out) GB46.out) GB46.out) GB46.out : Below w.heap.size w w48)); clear HO_3; clear HO_10; clear HO_11; clear HB; have HO_3 := n0_; have HO_10 := n1_; have HO_11 := n2_; have HB := n3_; clear n0_ n1_ n2_ n3_; clear hg hw hp_))
                          (try simp only [← hl3_2])
                          go_roundg k2
                          case measure => have := HJ12.out; have := HK2.out; omega
                          case rel => exact ⟨(y361), (wrap64 (x12_2 + 1)), (by first | rfl | (simp; done) | (simp [*]; done)), H', ⟨by have := HJ12.out; have := HK2.out; omega⟩, ⟨by (try simp only [hl3_2]); (with_reducible repeat (first | apply Kd.R_alloc | apply Kd.R_drewN | apply Kd.R_drew)); exact HO_3.out⟩, ⟨by (try simp only [hl3_2]); (with_reducible repeat (first | apply Kd.R_alloc | apply Kd.R_drewN | apply Kd.R_drew)); exact Kd.R_mono HO_10.out (fun _ hk => ⟨hk.2, hk.1⟩)⟩, ⟨by (try simp only [hl3_2]); (with_reducible repeat (first | apply Kd.R_alloc | apply Kd.R_drewN | apply Kd.R_drew)); exact Kd.R_mono HO_11.out (fun _ hk => ⟨hk.2, hk.1⟩)⟩, ⟨by repeat (first | (with_reducible first | exact HB.out | apply below_alloc | apply pw_below_drewN | apply below_drew1) | exact HB.out)⟩⟩
                        · rw [if_neg c45] at H
                          exact absurd H (by simp)
                      · rw [if_neg c44] at H
                        have c44b0 : decide (x12_2 < (x3_2.length : Int)) = false := decide_eq_false c44
                        clear c44
                        replace H := Option.bind_eq_some_iff.mp H
                        obtain ⟨t362, A490, H⟩ := H
                        replace H : (some t362) = some r := H
                        have A49 := Aside0.mk A490
                        clear A490
                        obtain rfl := Option.some.inj H
                        obtain ⟨Ao50, co50, eo50⟩ := Kd.R_slice HO_10.out
                        subst eo50
                        obtain ⟨Ao51, co51, eo51⟩ := Kd.R_slice HO_11.out
                        subst eo51
                        go_wp2_with (first | ((with_reducible refine gate_callee (f := 20) rfl ?_); refine goesL_ (some 95) rfl rfl Try.func20 (by kernel_rfl) rfl #[.slice Ao50 t348.length co50, .slice Ao51 t351.length co51] rfl (by (try simp only [List.map_toArray, List.map_cons, List.map_nil]); first | done | rfl | (simp only [List.length_drop, List.length_take]; rfl)) ?_; (with_reducible refine (foliotlaw13_sameCands.calls k2 _ _ t348 _ _ t351 t362 _ ?side1 ?side2 ?side3 ?side4 A49.out).mono ?_); (case side1 => repeat (first | exact (Kd.R_reads' HO_10.out).2.2 | (with_reducible refine Kd.C_alloc ?_ _) | (with_reducible refine Kd.C_drewN ?_ _) | (with_reducible refine Kd.C_drew ?_))); (case side2 => exact (Kd.R_reads' HO_10.out).2.1); (case side3 => repeat (first | exact (Kd.R_reads' HO_11.out).2.2 | (with_reducible refine Kd.C_alloc ?_ _) | (with_reducible refine Kd.C_drewN ?_ _) | (with_reducible refine Kd.C_drew ?_))); (case side4 => exact (Kd.R_reads' HO_11.out).2.1); rintro e w' ⟨rfl, ⟨nd, rfl⟩⟩; refine ⟨_, rfl, ?_⟩))
                        go_ret
                        exact ⟨by first | rfl | (simp [errW_none, errW_some] <;> rfl) | (simp [*, errW_none, errW_some] <;> rfl), by repeat (first | (with_reducible first | exact HB.out | apply below_alloc | apply pw_below_drewN | apply below_drew1) | exact HB.out)⟩
          · rw [if_neg c6] at H
            exact absurd H (by simp)
        · rw [if_neg c5] at H
          exact absurd H (by simp)
      · rw [if_neg c4] at H
        exact absurd H (by simp)
    · rw [if_neg c3] at H
      exact absurd H (by simp)

end Go.Proofs.Ytlhecfleanppmaa.Pr
