/- The machine's calls of the laws' own comparisons of ends. -/
import Derived.Test.YtlhecfleanppmaaZHc
import Derived.Test.YtlhecfleanppmaaZK0
import Derived.Test.YtlhecfleanppmaaZPrx12
import Derived.Test.YtlhecfleanppmaaZK1
section
set_option linter.unusedVariables false
namespace Go.Proofs.Ytlhecfleanppmaa.Pr
open Go.RowKit Go.Proofs.YtlhecfleanppmaaW.PrintWords Go.Proofs.YtlhecfleanppmaaW.PrintLast Go.Proofs.YtlhecfleanppmaaW.PrintMore Go.Proofs.YFl

def smallB (n : Int) : Bool := decide (-9007199254740992 < n) && decide (n < 9007199254740992)
theorem smallB_iff (n : Int) : smallB n = true ↔ Small n := by unfold smallB Small; simp
def smallCx (x : Cx) : Bool := smallB x.re && smallB x.im
def small54 (x : S54) : Bool := smallB x.f0 && smallB x.f1
theorem smallCx_rd {xs : List Cx} (h : xs.all smallCx = true) (i : Nat) : Small (rdx xs i).re ∧ Small (rdx xs i).im := by
  unfold rdx
  rw [List.getD_eq_getElem?_getD]
  rcases hi : xs[i]? with _ | x
  · exact ⟨small_0, small_0⟩
  · obtain ⟨hl, rfl⟩ := List.getElem?_eq_some_iff.1 hi
    have := List.all_eq_true.1 h _ (List.getElem_mem hl)
    simp only [smallCx, Bool.and_eq_true, smallB_iff] at this
    exact this
theorem small54_rd {xs : List S54} (h : xs.all small54 = true) (i : Int) : Small (rd_T54 xs i).f0 ∧ Small (rd_T54 xs i).f1 := by
  unfold rd_T54
  rw [List.getD_eq_getElem?_getD]
  rcases hi : xs[i.toNat]? with _ | x
  · exact ⟨small_0, small_0⟩
  · obtain ⟨hl, rfl⟩ := List.getElem?_eq_some_iff.1 hi
    have := List.all_eq_true.1 h _ (List.getElem_mem hl)
    simp only [small54, Bool.and_eq_true, smallB_iff] at this
    exact this
/-- from place i on the two lists tell the same -/
def toldFrom (a : List Cx) (b : List S54) : Nat → Nat → Bool
  | 0, _ => true
  | d + 1, i => decide ((rdx a i).re = (rd_T54 b (i : Int)).f0) && decide ((rdx a i).im = (rd_T54 b (i : Int)).f1) && toldFrom a b d (i + 1)
def told (a : List Cx) (b : List S54) : Bool := decide (a.length = b.length) && toldFrom a b b.length 0
def foliotlaw13_asTold.f (a : List Cx) (b : List S54) : Option Bool := if (a.all smallCx && b.all small54) = true then some (told a b) else none

set_option maxHeartbeats 1000000 in
theorem foliotlaw13_asTold.calls (A0 : Option Addr) (c0 : Nat) (l0 : List Cx) (A1 : Option Addr) (c1 : Nat) (l1 : List S54) (r : Bool) (w : World) (hr0 : Kd.C kcx w A0 l0.length l0) (hc0 : l0.length ≤ c0) (hr1 : Kd.C k54 w A1 l1.length l1) (hc1 : l1.length ≤ c1) (h : foliotlaw13_asTold.f l0 l1 = some r) :
    Calls Try.prog 13 #[.slice A0 l0.length c0, .slice A1 l1.length c1] w fun e w' => e = .returned (.bool r) ∧ Drawn0 w w' := by
  have hn1 := hr1.2.1
  have HR0 := Aside0.mk hr0
  have HR1 := Aside0.mk hr1
  clear hr0 hr1
  unfold foliotlaw13_asTold.f at h
  by_cases hs : (l0.all smallCx && l1.all small54) = true
  · rw [if_pos hs] at h
    rw [Bool.and_eq_true] at hs
    obtain ⟨hs0, hs1⟩ := hs
    have HS0 := Aside0.mk hs0
    have HS1 := Aside0.mk hs1
    clear hs0 hs1
    have hr := Option.some.inj h
    clear h
    unfold told at hr
    by_cases hl : l0.length = l1.length
    · rw [decide_eq_true hl, Bool.true_and] at hr
      have HRR := Aside0.mk hr
      have HL := Aside0.mk hl
      have hb : (l0.length == l1.length) = true := beq_iff_eq.mpr hl
      have hb2 : ((l0.length : Int) != (l1.length : Int)) = false := bne_eq_false_iff_eq.mpr (by omega)
      have hb3 : (l0.length != l1.length) = false := bne_eq_false_iff_eq.mpr (by omega)
      clear hr hl
      go_enter Try.func13, Try.ntmps13
      go_wp2
      go_loopg [5] l1.length (fun kq v5 w' => ∃ (i : Nat), v5 = .int .i64 i ∧ Aside0 (i + kq = l1.length) ∧ Aside0 (toldFrom l0 l1 kq i = r) ∧ Drawn0 w w')
      case atStart => exact ⟨0, rfl, ⟨by omega⟩, HRR, Drawn0.refl _⟩
      case round =>
        clear HRR
        obtain ⟨i, rfl, HI, HT, ⟨m1, rfl⟩⟩ := hrel
        by_cases hlt : i < l1.length
        · have p0 : (0 : Int) ≤ (i : Int) := by omega
          have p1 : (i : Int) < (l1.length : Int) := by omega
          have p2 : (i : Int) < (l0.length : Int) := by have := HL.out; omega
          obtain ⟨ad, ea, hx0⟩ := cell_cx HR0.out i (by omega)
          cases ea
          obtain ⟨ad1, ea1, hy0, hy1⟩ := at_T54 HR1.out (i : Int) p0 p1
          cases ea1
          rw [Int.toNat_natCast] at hy0 hy1
          have sx := smallCx_rd HS0.out i
          have sy := small54_rd HS1.out (i : Int)
          have q1 : (FloatKind.f64.format.order (fl (rdx l0 i).re) (floatOfInt .f64 (rd_T54 l1 (i : Int)).f0) == some .eq) = decide ((rdx l0 i).re = (rd_T54 l1 (i : Int)).f0) := eq_fl _ _ sx.1 sy.1
          have q2 : (FloatKind.f64.format.order (fl (rdx l0 i).im) (floatOfInt .f64 (rd_T54 l1 (i : Int)).f1) == some .eq) = decide ((rdx l0 i).im = (rd_T54 l1 (i : Int)).f1) := eq_fl _ _ sx.2 sy.2
          have ht := HT.out
          rw [show gk = (gk - 1) + 1 from by have := HI.out; omega] at ht
          unfold toldFrom at ht
          clear sx sy HT
          generalize rdx l0 i = x at hx0 q1 q2 ht
          generalize rd_T54 l1 (i : Int) = y at hy0 hy1 q1 q2 ht
          by_cases h1 : x.re = y.f0
          · rw [decide_eq_true h1] at q1 ht
            by_cases h2 : x.im = y.f1
            · rw [decide_eq_true h2] at q2 ht
              have HT := Aside0.mk ht
              clear h1 h2 ht
              go_wp2
              go_quiet (fail)
              go_wp2
              go_roundg (gk - 1)
              case measure => have := HI.out; omega
              case rel => exact ⟨i + 1, by go_num, ⟨by have := HI.out; omega⟩, ⟨by simpa using HT.out⟩, by repeat (first | exact Drawn0.refl _ | apply Drawn0.step)⟩
            · rw [decide_eq_false h2] at q2 ht
              have HT := Aside0.mk ht
              clear h1 h2 ht
              go_wp2
              go_quiet (fail)
              go_wp2
              go_ret
              exact ⟨by rw [← HT.out]; rfl, by repeat (first | exact Drawn0.refl _ | apply Drawn0.step)⟩
          · rw [decide_eq_false h1] at q1 ht
            have HT := Aside0.mk ht
            clear h1 ht q2
            go_wp2
            go_quiet (fail)
            go_wp2
            go_ret
            exact ⟨by rw [← HT.out]; rfl, by repeat (first | exact Drawn0.refl _ | apply Drawn0.step)⟩
        · have HT2 := HT.out
          rw [show gk = 0 from by have := HI.out; omega] at HT2
          have HT3 := Aside0.mk HT2
          clear HT2 HT
          go_wp2
          repeat (go_quiet (fail); try go_wp2)
          go_ret
          exact ⟨by rw [← HT3.out]; rfl, Drawn0.refl _ |>.step _⟩
    · rw [decide_eq_false hl, Bool.false_and] at hr
      subst hr
      have hb : (l0.length == l1.length) = false := beq_eq_false_iff_ne.mpr hl
      have hb2 : ((l0.length : Int) != (l1.length : Int)) = true := bne_iff_ne.mpr (by omega)
      have hb3 : (l0.length != l1.length) = true := bne_iff_ne.mpr hl
      go_enter Try.func13, Try.ntmps13
      go_wp2
      go_ret
      exact ⟨rfl, Drawn0.refl _⟩
  · rw [if_neg hs] at h
    cases h
def sameFrom (a b : List Cx) : Nat → Nat → Bool
  | 0, _ => true
  | d + 1, i => decide ((rdx a i).re = (rdx b i).re) && decide ((rdx a i).im = (rdx b i).im) && sameFrom a b d (i + 1)
def same (a b : List Cx) : Bool := decide (a.length = b.length) && sameFrom a b a.length 0
def foliotlaw13_sameEnds.f (a b : List Cx) : Option Bool := if (a.all smallCx && b.all smallCx) = true then some (same a b) else none

set_option maxHeartbeats 1000000 in
theorem foliotlaw13_sameEnds.calls (A0 : Option Addr) (c0 : Nat) (l0 : List Cx) (A1 : Option Addr) (c1 : Nat) (l1 : List Cx) (r : Bool) (w : World) (hr0 : Kd.C kcx w A0 l0.length l0) (hc0 : l0.length ≤ c0) (hr1 : Kd.C kcx w A1 l1.length l1) (hc1 : l1.length ≤ c1) (h : foliotlaw13_sameEnds.f l0 l1 = some r) :
    Calls Try.prog 22 #[.slice A0 l0.length c0, .slice A1 l1.length c1] w fun e w' => e = .returned (.bool r) ∧ Drawn0 w w' := by
  have hn1 := hr0.2.1
  have HR0 := Aside0.mk hr0
  have HR1 := Aside0.mk hr1
  clear hr0 hr1
  unfold foliotlaw13_sameEnds.f at h
  by_cases hs : (l0.all smallCx && l1.all smallCx) = true
  · rw [if_pos hs] at h
    rw [Bool.and_eq_true] at hs
    obtain ⟨hs0, hs1⟩ := hs
    have HS0 := Aside0.mk hs0
    have HS1 := Aside0.mk hs1
    clear hs0 hs1
    have hr := Option.some.inj h
    clear h
    unfold same at hr
    by_cases hl : l0.length = l1.length
    · rw [decide_eq_true hl, Bool.true_and] at hr
      have HRR := Aside0.mk hr
      have HL := Aside0.mk hl
      have hb : (l0.length == l1.length) = true := beq_iff_eq.mpr hl
      have hb2 : ((l0.length : Int) != (l1.length : Int)) = false := bne_eq_false_iff_eq.mpr (by omega)
      have hb3 : (l0.length != l1.length) = false := bne_eq_false_iff_eq.mpr (by omega)
      clear hr hl
      go_enter Try.func22, Try.ntmps22
      go_wp2
      go_loopg [5] l0.length (fun kq v5 w' => ∃ (i : Nat), v5 = .int .i64 i ∧ Aside0 (i + kq = l0.length) ∧ Aside0 (sameFrom l0 l1 kq i = r) ∧ Drawn0 w w')
      case atStart => exact ⟨0, rfl, ⟨by omega⟩, HRR, Drawn0.refl _⟩
      case round =>
        clear HRR
        obtain ⟨i, rfl, HI, HT, ⟨m1, rfl⟩⟩ := hrel
        by_cases hlt : i < l0.length
        · have p0 : (0 : Int) ≤ (i : Int) := by omega
          have p1 : (i : Int) < (l1.length : Int) := by have := HL.out; omega
          have p2 : (i : Int) < (l0.length : Int) := by have := HL.out; omega
          obtain ⟨ad, ea, hx0⟩ := cell_cx HR0.out i (by omega)
          cases ea
          obtain ⟨ad1, ea1, hy0⟩ := cell_cx HR1.out i (by omega)
          cases ea1
          have sx := smallCx_rd HS0.out i
          have sy := smallCx_rd HS1.out i
          have q1 := eq_fl _ _ sx.1 sy.1
          have q2 := eq_fl _ _ sx.2 sy.2
          have ht := HT.out
          rw [show gk = (gk - 1) + 1 from by have := HI.out; omega] at ht
          unfold sameFrom at ht
          clear sx sy HT
          generalize rdx l0 i = x at hx0 q1 q2 ht
          generalize rdx l1 i = y at hy0 q1 q2 ht
          by_cases h1 : x.re = y.re
          · rw [decide_eq_true h1] at q1 ht
            by_cases h2 : x.im = y.im
            · rw [decide_eq_true h2] at q2 ht
              have HT := Aside0.mk ht
              clear h1 h2 ht
              go_wp2
              go_quiet (fail)
              go_wp2
              go_roundg (gk - 1)
              case measure => have := HI.out; omega
              case rel => exact ⟨i + 1, by go_num, ⟨by have := HI.out; omega⟩, ⟨by simpa using HT.out⟩, by repeat (first | exact Drawn0.refl _ | apply Drawn0.step)⟩
            · rw [decide_eq_false h2] at q2 ht
              have HT := Aside0.mk ht
              clear h1 h2 ht
              go_wp2
              go_quiet (fail)
              go_wp2
              go_ret
              exact ⟨by rw [← HT.out]; rfl, by repeat (first | exact Drawn0.refl _ | apply Drawn0.step)⟩
          · rw [decide_eq_false h1] at q1 ht
            have HT := Aside0.mk ht
            clear h1 ht q2
            go_wp2
            go_quiet (fail)
            go_wp2
            go_ret
            exact ⟨by rw [← HT.out]; rfl, by repeat (first | exact Drawn0.refl _ | apply Drawn0.step)⟩
        · have HT2 := HT.out
          rw [show gk = 0 from by have := HI.out; omega] at HT2
          have HT3 := Aside0.mk HT2
          clear HT2 HT
          go_wp2
          repeat (go_quiet (fail); try go_wp2)
          go_ret
          exact ⟨by rw [← HT3.out]; rfl, Drawn0.refl _ |>.step _⟩
    · rw [decide_eq_false hl, Bool.false_and] at hr
      subst hr
      have hb : (l0.length == l1.length) = false := beq_eq_false_iff_ne.mpr hl
      have hb2 : ((l0.length : Int) != (l1.length : Int)) = true := bne_iff_ne.mpr (by omega)
      have hb3 : (l0.length != l1.length) = true := bne_iff_ne.mpr hl
      go_enter Try.func22, Try.ntmps22
      go_wp2
      go_ret
      exact ⟨rfl, Drawn0.refl _⟩
  · rw [if_neg hs] at h
    cases h
end Go.Proofs.Ytlhecfleanppmaa.Pr
end
section
namespace Go.Proofs.Ytlhecfleanppmaa.Pr
open Go.RowKit Go.Proofs.YtlhecfleanppmaaW.PrintWords Go.Proofs.YtlhecfleanppmaaW.PrintLast Go.Proofs.YtlhecfleanppmaaW.PrintMore
attribute [local go_sem] max2_int min2_int max_two min_two max_three min_three max_four min_four   -- for this text's walks alone
set_option linter.unusedVariables false
set_option linter.unusedSimpArgs false

/-! ### foliotref13_Survivors: function 23 -/
mutual
def foliotref13_Survivors.l0 : Nat → Int → Int → Bool → List (S26) → List (S26) → Int → Option ((List (S26)))
  | 0, _, _, _, _, _, _ => none
  | k + 1, x3, x4, x5, x6, x7, x8 => if x8 < (x7.length : Int) then (foliotref13_Survivors.j1 k x3 x4 x5 x6 x7 x8 x5) else (foliotref13_Survivors.j1 k x3 x4 x5 x6 x7 x8 false)
def foliotref13_Survivors.j1 : Nat → Int → Int → Bool → List (S26) → List (S26) → Int → Bool → Option ((List (S26)))
  | 0, _, _, _, _, _, _, _ => none
  | k + 1, x3, x4, x5, x6, x7, x8, x25 => if x25 = true then (if 0 ≤ x8 then (if x8 < (x7.length : Int) then ((foliotref13_down.f ((rd_T26 x7 x8).f1)).bind fun t320 => (if (wrap64 (t320 * 65536)) ≥ x3 then (if (wrap64 (t320 * 65536)) ≤ x4 then (if x6.length < 2932031007402 then (foliotref13_Survivors.l0 k x3 x4 x5 (x6 ++ [(⟨(rd_T26 x7 x8).f0, (rd_T26 x7 x8).f1, (rd_T26 x7 x8).f2, (rd_T26 x7 x8).f3, (rd_T26 x7 x8).f4, (rd_T26 x7 x8).f5, (rd_T26 x7 x8).f6⟩ : S26)]) x7 (wrap64 (x8 + 1))) else (none)) else (foliotref13_Survivors.l0 k x3 x4 x5 x6 x7 (wrap64 (x8 + 1)))) else (foliotref13_Survivors.l0 k x3 x4 x5 x6 x7 (wrap64 (x8 + 1))))) else (none)) else (none)) else (some x6)
end
def foliotref13_Survivors.f (k : Nat) (l0 : List (S26)) : Option ((List (S26))) := (foliotref13_Meet.f k l0).bind fun bt310 => ((foliotref13_those.f k l0).bind fun t316 => (foliotref13_Survivors.l0 k bt310.1 bt310.2.1 bt310.2.2 (([] : List (S26))) t316 0))
theorem foliotref13_Survivors.mono_l : ∀ k, (∀ y0 y1 y2 y3 y4 y5, LeO (foliotref13_Survivors.l0 k y0 y1 y2 y3 y4 y5) (foliotref13_Survivors.l0 (k + 1) y0 y1 y2 y3 y4 y5)) ∧ (∀ y0 y1 y2 y3 y4 y5 y6, LeO (foliotref13_Survivors.j1 k y0 y1 y2 y3 y4 y5 y6) (foliotref13_Survivors.j1 (k + 1) y0 y1 y2 y3 y4 y5 y6))
  | 0 => ⟨fun _ _ _ _ _ _ r h => by simp [foliotref13_Survivors.l0] at h, fun _ _ _ _ _ _ _ r h => by simp [foliotref13_Survivors.j1] at h⟩
  | k + 1 => by
    obtain ⟨ih0, ih1⟩ := foliotref13_Survivors.mono_l k
    refine ⟨?_, ?_⟩
    · intro y0 y1 y2 y3 y4 y5
      unfold foliotref13_Survivors.l0
      repeat' first
      | (with_reducible exact ih0 _ _ _ _ _ _)
      | (with_reducible exact ih1 _ _ _ _ _ _ _)
      | (with_reducible exact foliotref13_Meet.mono _ _)
      | (with_reducible exact foliotref13_those.mono _ _)
      | (with_reducible exact LeO.refl _)
      | (with_reducible exact LeO.none _)
      | (with_reducible refine LeO.ite ?_ ?_)
      | (with_reducible refine LeO.bind ?_ (fun _ => ?_))
      | exact ih0 _ _ _ _ _ _
      | exact ih1 _ _ _ _ _ _ _
      | exact foliotref13_Meet.mono _ _
      | exact foliotref13_those.mono _ _
      | exact LeO.none _
      | refine LeO.ite ?_ ?_
      | refine LeO.bind ?_ (fun _ => ?_)
    · intro y0 y1 y2 y3 y4 y5 y6
      unfold foliotref13_Survivors.j1
      repeat' first
      | (with_reducible exact ih0 _ _ _ _ _ _)
      | (with_reducible exact ih1 _ _ _ _ _ _ _)
      | (with_reducible exact foliotref13_Meet.mono _ _)
      | (with_reducible exact foliotref13_those.mono _ _)
      | (with_reducible exact LeO.refl _)
      | (with_reducible exact LeO.none _)
      | (with_reducible refine LeO.ite ?_ ?_)
      | (with_reducible refine LeO.bind ?_ (fun _ => ?_))
      | exact ih0 _ _ _ _ _ _
      | exact ih1 _ _ _ _ _ _ _
      | exact foliotref13_Meet.mono _ _
      | exact foliotref13_those.mono _ _
      | exact LeO.none _
      | refine LeO.ite ?_ ?_
      | refine LeO.bind ?_ (fun _ => ?_)
theorem foliotref13_Survivors.mono : ∀ a0 k, LeO (foliotref13_Survivors.f k a0) (foliotref13_Survivors.f (k + 1) a0) := by
  intro a0 k
  obtain ⟨ih0, ih1⟩ := foliotref13_Survivors.mono_l k
  unfold foliotref13_Survivors.f
  repeat' first
      | (with_reducible exact ih0 _ _ _ _ _ _)
      | (with_reducible exact ih1 _ _ _ _ _ _ _)
      | (with_reducible exact foliotref13_Meet.mono _ _)
      | (with_reducible exact foliotref13_those.mono _ _)
      | (with_reducible exact LeO.refl _)
      | (with_reducible exact LeO.none _)
      | (with_reducible refine LeO.ite ?_ ?_)
      | (with_reducible refine LeO.bind ?_ (fun _ => ?_))
      | exact ih0 _ _ _ _ _ _
      | exact ih1 _ _ _ _ _ _ _
      | exact foliotref13_Meet.mono _ _
      | exact foliotref13_those.mono _ _
      | exact LeO.none _
      | refine LeO.ite ?_ ?_
      | refine LeO.bind ?_ (fun _ => ?_)
set_option maxHeartbeats 8000000 in
set_option maxRecDepth 100000 in
theorem foliotref13_Survivors.calls (k : Nat) (A0 : Option Addr) (c0 : Nat) (l0 : List (S26)) (r : List (S26)) (w : World) (hr0 : Kd.C k26 w A0 l0.length l0) (hc0 : l0.length ≤ c0) (h : foliotref13_Survivors.f k l0 = some r) :
    Calls Try.prog 23 #[.slice A0 l0.length c0] w fun e w' => ∃ v0_ : Value, e = .returned (v0_) ∧ Kd.R k26 26 w' w.heap.size (fun _ => True) v0_ r ∧ Below w.heap.size w w' := by
  have hu26 := Try.underlying26
  have HR0 := Aside0.mk hr0
  have HC0 := Aside0.mk hc0
  clear hr0 hc0
  have HB := Aside0.mk (Below.refl w.heap.size w)
  have H : ((foliotref13_Meet.f k l0).bind fun bt310 => ((foliotref13_those.f k l0).bind fun t316 => (foliotref13_Survivors.l0 k bt310.1 bt310.2.1 bt310.2.2 (([] : List (S26))) t316 0))) = some r := h
  clear h
  replace H := Option.bind_eq_some_iff.mp H
  obtain ⟨⟨t310, t311, t312⟩, A20, H⟩ := H
  replace H : ((foliotref13_those.f k l0).bind fun t316 => (foliotref13_Survivors.l0 k t310 t311 t312 (([] : List (S26))) t316 0)) = some r := H
  have A2 := Aside0.mk A20
  clear A20
  obtain ⟨y313, hy313⟩ : ∃ y_ : List (S26), y_ = (([] : List (S26))) := ⟨_, rfl⟩
  replace H : ((foliotref13_those.f k l0).bind fun t316 => (foliotref13_Survivors.l0 k t310 t311 t312 y313 t316 0)) = some r := by first | (rw [hy313]; with_reducible exact H) | (have H2_ := (Option.bind_some _ _).symm.trans H; rw [hy313]; with_reducible exact H2_) | (have H2_ := (Option.bind_some _ _).symm.trans H; with_reducible exact H2_) | with_reducible exact H | (rw [hy313]; exact H) | exact H
  have Ny313 := Aside0.mk hy313
  clear hy313
  replace H := Option.bind_eq_some_iff.mp H
  obtain ⟨t316, A30, H⟩ := H
  replace H : (foliotref13_Survivors.l0 k t310 t311 t312 y313 t316 0) = some r := H
  have A3 := Aside0.mk A30
  clear A30
  have H' := Aside0.mk H
  clear H
  go_enter Try.func23, Try.ntmps23
  go_wp2_with (first | ((with_reducible refine gate_callee (f := 18) rfl ?_); refine goesL_ (some 12) rfl rfl Try.func18 (by kernel_rfl) rfl #[.slice A0 l0.length c0] rfl (by (try simp only [List.map_toArray, List.map_cons, List.map_nil]); first | done | rfl | (simp only [List.length_drop, List.length_take]; rfl)) ?_; (with_reducible refine (foliotref13_Meet.calls k _ _ l0 t310 t311 t312 _ ?side1 ?side2 A2.out).mono ?_); (case side1 => repeat (first | exact HR0.out | (with_reducible refine Kd.C_alloc ?_ _) | (with_reducible refine Kd.C_drewN ?_ _) | (with_reducible refine Kd.C_drew ?_))); (case side2 => exact HC0.out); rintro e w4 ⟨rfl, hb⟩; refine ⟨_, rfl, ?_⟩; have n0_ := Aside0.mk (below_step (by repeat (first | (with_reducible first | exact HB.out | apply below_alloc | apply pw_below_drewN | apply below_drew1) | exact HB.out)) hb); clear HB; have HB := n0_; clear n0_; (try clear hb); (try clear hb2); (try clear hk); (try clear hi)) | ((with_reducible refine gate_dst (N := 16) rfl ?_); refine Kd.R_lit k26 _ 26 ?hg (N := 16) ?hd (xs := ([] : List (S26))) (inner := []) (ok := fun _ => True) (okp := fun _ => True) ?hr ?hp (fun _ hk => hk) trivial (Below.refl _ _) (Nat.le_refl _) (by simp) ?_; (case hd => rfl); (case hg => rfl); (case hr => first | (go_simp; done) | (go_simp; rfl)); (case hp => exact (Reps.none _ _)); intro v314 w5 ho6 hb hg_ hnew_; clear hg_ hnew_; (first | rw [← Ny313.out] at ho6 | (simp only [Int.reduceToNat] at ho6; rw [← Ny313.out] at ho6)); have n0_ := Aside0.mk (Kd.R_lower ho6 (below_size (by repeat (first | (with_reducible first | exact HB.out | apply below_alloc | apply pw_below_drewN | apply below_drew1) | exact HB.out)))); have n1_ := Aside0.mk (below_step (by repeat (first | (with_reducible first | exact HB.out | apply below_alloc | apply pw_below_drewN | apply below_drew1) | exact HB.out)) hb); clear HB; have HO315 := n0_; have HB := n1_; clear n0_ n1_; clear hb ho6) | ((with_reducible refine gate_callee (f := 30) rfl ?_); refine goesL_ (some 18) rfl rfl Try.func30 (by kernel_rfl) rfl #[.slice A0 l0.length c0] rfl (by (try simp only [List.map_toArray, List.map_cons, List.map_nil]); first | done | rfl | (simp only [List.length_drop, List.length_take]; rfl)) ?_; (with_reducible refine (foliotref13_those.calls k _ _ l0 t316 _ ?side1 ?side2 A3.out).mono ?_); (case side1 => repeat (first | exact (Kd.C_below HR0.out HB.out) | (with_reducible refine Kd.C_alloc ?_ _) | (with_reducible refine Kd.C_drewN ?_ _) | (with_reducible refine Kd.C_drew ?_))); (case side2 => exact HC0.out); rintro e w7 ⟨v317, rfl, ho0, hb⟩; refine ⟨_, rfl, ?_⟩; have n0_ := Aside0.mk (Kd.R_elder' (by (with_reducible repeat (first | apply Kd.R_alloc | apply Kd.R_drewN | apply Kd.R_drew)); exact HO315.out) (Kd.R_base ho0) hb); have n1_ := Aside0.mk (Kd.R_lower (Kd.R_new' ho0 (Kd.R_lt (by (with_reducible repeat (first | apply Kd.R_alloc | apply Kd.R_drewN | apply Kd.R_drew)); exact HO315.out))) (below_size (by repeat (first | (with_reducible first | exact HB.out | apply below_alloc | apply pw_below_drewN | apply below_drew1) | exact HB.out)))); have n2_ := Aside0.mk (below_step (by repeat (first | (with_reducible first | exact HB.out | apply below_alloc | apply pw_below_drewN | apply below_drew1) | exact HB.out)) hb); clear HO315; clear HB; have HO315 := n0_; have HO318 := n1_; have HB := n2_; clear n0_ n1_ n2_; (try clear hb); (try clear hb2); (try clear hk); (try clear hi); (try clear ho0)))
  go_loopg [6, 8] k (fun kq v6 v8 w' => ∃ (x6_1 : List (S26)) (x8_1 : Int), v8 = .int .i64 x8_1 ∧ Aside0 (foliotref13_Survivors.l0 kq t310 t311 t312 x6_1 t316 x8_1 = some r) ∧ Aside0 (kq ≤ k) ∧ Aside0 (Kd.R k26 26 w' w.heap.size (fun k_ => some k_ ≠ (v317 : Value).ownBlock) v6 x6_1) ∧ Aside0 (Kd.R k26 26 w' w.heap.size (fun k_ => some k_ ≠ (v6 : Value).ownBlock) v317 t316) ∧ Aside0 (Below w.heap.size w w'))
  case atStart => exact ⟨(y313), (0), (by first | rfl | (simp; done) | (simp [*]; done)), H', ⟨Nat.le_refl _⟩, ⟨by (with_reducible repeat (first | apply Kd.R_alloc | apply Kd.R_drewN | apply Kd.R_drew)); exact Kd.R_mono HO315.out (fun _ hk => hk.2)⟩, ⟨by (with_reducible repeat (first | apply Kd.R_alloc | apply Kd.R_drewN | apply Kd.R_drew)); exact Kd.R_mono HO318.out (fun _ hk => hk.2)⟩, ⟨by repeat (first | (with_reducible first | exact HB.out | apply below_alloc | apply pw_below_drewN | apply below_drew1) | exact HB.out)⟩⟩
  case round =>
    clear H'
    try clear c1
    try clear c2
    try clear p2
    try clear c3
    obtain ⟨x6_1, x8_1, rfl, HA, HK1, HO_6, HO_7, HB⟩ := hrel
    cases gk with
    | zero => exact absurd HA.out (by simp [foliotref13_Survivors.l0])
    | succ k1 =>
      have H := HA.out
      clear HA
      simp only [foliotref13_Survivors.l0] at H
      have HC8 := Aside0.mk H
      clear H
      go_upto_region 5 with (fail)
      go_cut [25] (fun v25 wc => ∃ (kq : Nat) (x25_7 : Bool), v25 = .bool x25_7 ∧ Aside0 (foliotref13_Survivors.j1 kq t310 t311 t312 x6_1 t316 x8_1 x25_7 = some r) ∧ Aside0 (kq ≤ k1) ∧ Aside0 (Kd.R k26 26 wc w.heap.size (fun k_ => some k_ ≠ (v317 : Value).ownBlock) u6 x6_1) ∧ Aside0 (Kd.R k26 26 wc w.heap.size (fun k_ => some k_ ≠ (u6 : Value).ownBlock) v317 t316) ∧ Aside0 (Below w.heap.size w wc))
      case first =>
        have H := HC8.out
        clear HC8
        by_cases c9 : x8_1 < (t316.length : Int)
        · rw [if_pos c9] at H
          have c9b0 : decide (x8_1 < (t316.length : Int)) = true := decide_eq_true c9
          clear c9
          (first | rw [c9b0] | (simp only [i64_w, i32_w]; rw [c9b0]) | skip)
          have H' := Aside0.mk H
          clear H
          obtain ⟨Ao10, co10, eo10⟩ := Kd.R_slice HO_7.out
          subst eo10
          go_wp2
          go_meet
          case rel => exact ⟨_, (t312), (by first | rfl | (simp; done) | (simp [*]; done)), H', ⟨by have := HK1.out; first | omega | exact Nat.le_refl _⟩, ⟨by (with_reducible repeat (first | apply Kd.R_alloc | apply Kd.R_drewN | apply Kd.R_drew)); exact HO_6.out⟩, ⟨by (with_reducible repeat (first | apply Kd.R_alloc | apply Kd.R_drewN | apply Kd.R_drew)); exact HO_7.out⟩, ⟨by repeat (first | (with_reducible first | exact HB.out | apply below_alloc | apply pw_below_drewN | apply below_drew1) | exact HB.out)⟩⟩
        · rw [if_neg c9] at H
          have c9b0 : decide (x8_1 < (t316.length : Int)) = false := decide_eq_false c9
          clear c9
          (first | rw [c9b0] | (simp only [i64_w, i32_w]; rw [c9b0]) | skip)
          have H' := Aside0.mk H
          clear H
          obtain ⟨Ao11, co11, eo11⟩ := Kd.R_slice HO_7.out
          subst eo11
          go_wp2
          go_meet
          case rel => exact ⟨_, (false), (by first | rfl | (simp; done) | (simp [*]; done)), H', ⟨by have := HK1.out; first | omega | exact Nat.le_refl _⟩, ⟨by (with_reducible repeat (first | apply Kd.R_alloc | apply Kd.R_drewN | apply Kd.R_drew)); exact HO_6.out⟩, ⟨by (with_reducible repeat (first | apply Kd.R_alloc | apply Kd.R_drewN | apply Kd.R_drew)); exact HO_7.out⟩, ⟨by repeat (first | (with_reducible first | exact HB.out | apply below_alloc | apply pw_below_drewN | apply below_drew1) | exact HB.out)⟩⟩
      case rest =>
        clear HC8
        try clear c1
        try clear c2
        try clear p2
        try clear c3
        try clear c9
        try clear c9b0
        try clear p2
        obtain ⟨kq, x25_7, rfl, HA, HJ7, HO_6, HO_7, HB⟩ := hcut
        cases kq with
        | zero => exact absurd HA.out (by simp [foliotref13_Survivors.j1])
        | succ kj7 =>
          have H := HA.out
          clear HA
          simp only [foliotref13_Survivors.j1] at H
          by_cases c12 : x25_7 = true
          · subst c12
            have H1 : (if 0 ≤ x8_1 then (if x8_1 < (t316.length : Int) then ((foliotref13_down.f ((rd_T26 t316 x8_1).f1)).bind fun t320 => (if (wrap64 (t320 * 65536)) ≥ t310 then (if (wrap64 (t320 * 65536)) ≤ t311 then (if x6_1.length < 2932031007402 then (foliotref13_Survivors.l0 kj7 t310 t311 t312 (x6_1 ++ [(⟨(rd_T26 t316 x8_1).f0, (rd_T26 t316 x8_1).f1, (rd_T26 t316 x8_1).f2, (rd_T26 t316 x8_1).f3, (rd_T26 t316 x8_1).f4, (rd_T26 t316 x8_1).f5, (rd_T26 t316 x8_1).f6⟩ : S26)]) t316 (wrap64 (x8_1 + 1))) else (none)) else (foliotref13_Survivors.l0 kj7 t310 t311 t312 x6_1 t316 (wrap64 (x8_1 + 1)))) else (foliotref13_Survivors.l0 kj7 t310 t311 t312 x6_1 t316 (wrap64 (x8_1 + 1))))) else (none)) else (none)) = some r := by rw [if_pos rfl] at H; exact H
            clear H
            have H := H1
            clear H1
            by_cases c13 : 0 ≤ x8_1
            · rw [if_pos c13] at H
              have c13b0 : decide (0 ≤ x8_1) = true := decide_eq_true c13
              clear c13
              by_cases c14 : x8_1 < (t316.length : Int)
              · rw [if_pos c14] at H
                have c14b0 : decide (x8_1 < (t316.length : Int)) = true := decide_eq_true c14
                clear c14
                replace H := Option.bind_eq_some_iff.mp H
                obtain ⟨t320, A150, H⟩ := H
                replace H : (if (wrap64 (t320 * 65536)) ≥ t310 then (if (wrap64 (t320 * 65536)) ≤ t311 then (if x6_1.length < 2932031007402 then (foliotref13_Survivors.l0 kj7 t310 t311 t312 (x6_1 ++ [(⟨(rd_T26 t316 x8_1).f0, (rd_T26 t316 x8_1).f1, (rd_T26 t316 x8_1).f2, (rd_T26 t316 x8_1).f3, (rd_T26 t316 x8_1).f4, (rd_T26 t316 x8_1).f5, (rd_T26 t316 x8_1).f6⟩ : S26)]) t316 (wrap64 (x8_1 + 1))) else (none)) else (foliotref13_Survivors.l0 kj7 t310 t311 t312 x6_1 t316 (wrap64 (x8_1 + 1)))) else (foliotref13_Survivors.l0 kj7 t310 t311 t312 x6_1 t316 (wrap64 (x8_1 + 1)))) = some r := H
                have A15 := Aside0.mk A150
                clear A150
                by_cases c16 : (wrap64 (t320 * 65536)) ≥ t310
                · rw [if_pos c16] at H
                  have c16b0 : decide (t310 ≤ (wrap64 (t320 * 65536))) = true := decide_eq_true c16
                  clear c16
                  by_cases c17 : (wrap64 (t320 * 65536)) ≤ t311
                  · rw [if_pos c17] at H
                    have c17b0 : decide ((wrap64 (t320 * 65536)) ≤ t311) = true := decide_eq_true c17
                    clear c17
                    by_cases c18 : x6_1.length < 2932031007402
                    · rw [if_pos c18] at H
                      have LMc18 := Aside0.mk c18
                      clear c18
                      obtain ⟨y322, hy322⟩ : ∃ y_ : List (S26), y_ = (x6_1 ++ [(⟨(rd_T26 t316 x8_1).f0, (rd_T26 t316 x8_1).f1, (rd_T26 t316 x8_1).f2, (rd_T26 t316 x8_1).f3, (rd_T26 t316 x8_1).f4, (rd_T26 t316 x8_1).f5, (rd_T26 t316 x8_1).f6⟩ : S26)]) := ⟨_, rfl⟩
                      replace H : (foliotref13_Survivors.l0 kj7 t310 t311 t312 y322 t316 (wrap64 (x8_1 + 1))) = some r := by first | (rw [hy322]; with_reducible exact H) | (have H2_ := (Option.bind_some _ _).symm.trans H; rw [hy322]; with_reducible exact H2_) | (have H2_ := (Option.bind_some _ _).symm.trans H; with_reducible exact H2_) | with_reducible exact H | (rw [hy322]; exact H) | exact H
                      have Ny322 := Aside0.mk hy322
                      clear hy322
                      have H' := Aside0.mk H
                      clear H
                      obtain ⟨Ao19, co19, eo19⟩ := Kd.R_slice HO_7.out
                      subst eo19
                      have p319 : 0 ≤ (x8_1 : Int) := of_decide_eq_true (by first | (with_reducible assumption) | assumption)
                      have q319 : x8_1 < (t316.length : Int) := of_decide_eq_true (by first | (with_reducible assumption) | assumption)
                      obtain ⟨ad319, e319, hx319_0, hx319_1, hx319_2, hx319_3, hx319_4, hx319_5, hx319_6⟩ := at_T26 (Kd.R_reads' HO_7.out).2.2 x8_1 p319 q319
                      cases e319
                      replace p319 := eq_true p319
                      replace q319 := eq_true q319
                      go_wp2_with (first | ((with_reducible refine gate_callee (f := 31) rfl ?_); refine goesL_ (some 33) rfl rfl Try.func31 (by kernel_rfl) rfl #[.int .i64 ((rd_T26 t316 x8_1).f1)] rfl (by (try simp only [List.map_toArray, List.map_cons, List.map_nil]); first | done | rfl | (simp only [List.length_drop, List.length_take]; rfl)) ?_; (with_reducible refine (foliotref13_down.calls ((rd_T26 t316 x8_1).f1) t320 _ A15.out).mono ?_); rintro e w' ⟨rfl, ⟨nd, rfl⟩⟩; refine ⟨_, rfl, ?_⟩; have p321 : 0 ≤ (x8_1 : Int) := of_decide_eq_true (by first | (with_reducible assumption) | assumption); have q321 : x8_1 < (t316.length : Int) := of_decide_eq_true (by first | (with_reducible assumption) | assumption); obtain ⟨ad321, e321, hx321_0, hx321_1, hx321_2, hx321_3, hx321_4, hx321_5, hx321_6⟩ := at_T26 (Kd.R_reads' HO_7.out).2.2 x8_1 p321 q321; obtain rfl : ad319 = ad321 := (by injection e321); replace p321 := eq_true p321; replace q321 := eq_true q321) | ((with_reducible refine gate_builtin (b := .append) (xs := #[.tmp 43, .tmp 48]) rfl ?_); at_builtin; refine Kd.R_append k26 (w0 := w) w.heap.size rfl (.tmp 43) (.tmp 48) 22 26 (.agg #[(.int .i64 0), (.int .i64 0), (.int .i64 0), (.int .i64 0), (.int .i64 0), (.bool false), (.bool false)]) 48 rfl Try.underlying22 info26 rfl (by decide) (by omega) u6 x6_1 (⟨(rd_T26 t316 x8_1).f0, (rd_T26 t316 x8_1).f1, (rd_T26 t316 x8_1).f2, (rd_T26 t316 x8_1).f3, (rd_T26 t316 x8_1).f4, (rd_T26 t316 x8_1).f5, (rd_T26 t316 x8_1).f6⟩ : S26) [.int .i64 ((rd_T26 t316 x8_1).f0), .int .i64 ((rd_T26 t316 x8_1).f1), .int .i64 ((rd_T26 t316 x8_1).f2), .int .i64 ((rd_T26 t316 x8_1).f3), .int .i64 ((rd_T26 t316 x8_1).f4), .bool ((rd_T26 t316 x8_1).f5), .bool ((rd_T26 t316 x8_1).f6)] (fun k_ => some k_ ≠ (.slice (some ad319) t316.length co19 : Value).ownBlock) (fun _ => False) rfl rfl ?aP (fun _ hk => hk.elim) ?aF ?aO ?aB ?aS ?aL ?_; (case aP => exact k26_mkM _ _ _ (⟨(rd_T26 t316 x8_1).f0, (rd_T26 t316 x8_1).f1, (rd_T26 t316 x8_1).f2, (rd_T26 t316 x8_1).f3, (rd_T26 t316 x8_1).f4, (rd_T26 t316 x8_1).f5, (rd_T26 t316 x8_1).f6⟩ : S26)); (case aB => exact (by repeat (first | (with_reducible first | exact HB.out | apply below_alloc | apply pw_below_drewN | apply below_drew1) | exact HB.out))); (case aF => exact (fun k_ hk => Kd.fresh' (Kd.R_lt (by (with_reducible repeat (first | apply Kd.R_alloc | apply Kd.R_drewN | apply Kd.R_drew)); exact HO_7.out)) k_ hk)); (case aO => exact (by (with_reducible repeat (first | apply Kd.R_alloc | apply Kd.R_drewN | apply Kd.R_drew)); exact HO_6.out)); (case aS => exact (below_size (by repeat (first | (with_reducible first | exact HB.out | apply below_alloc | apply pw_below_drewN | apply below_drew1) | exact HB.out)))); (case aL => have := LMc18.out; omega); intro v323 w20 ho hb hg hat; rw [← Ny322.out] at ho; have n0_ := Aside0.mk (Kd.R_after (ok := (fun _ => True)) (by (with_reducible repeat (first | apply Kd.R_alloc | apply Kd.R_drewN | apply Kd.R_drew)); exact Kd.R_mono HO_7.out (fun _ hk => ⟨trivial, hk⟩)) hg hat); have n1_ := Aside0.mk (hb); have n2_ := Aside0.mk (ho); clear HO_7; clear HB; clear HO_6; have HO_7 := n0_; have HB := n1_; have HO324 := n2_; clear n0_ n1_ n2_; clear ho hb hg hat))
                      go_roundg kj7
                      case measure => have := HK1.out; have := HJ7.out; omega
                      case rel => exact ⟨(y322), (wrap64 (x8_1 + 1)), (by first | rfl | (simp; done) | (simp [*]; done)), H', ⟨by have := HK1.out; have := HJ7.out; omega⟩, ⟨by (with_reducible repeat (first | apply Kd.R_alloc | apply Kd.R_drewN | apply Kd.R_drew)); exact HO324.out⟩, ⟨by (with_reducible repeat (first | apply Kd.R_alloc | apply Kd.R_drewN | apply Kd.R_drew)); exact Kd.R_mono HO_7.out (fun _ hk => hk.2)⟩, ⟨by repeat (first | (with_reducible first | exact HB.out | apply below_alloc | apply pw_below_drewN | apply below_drew1) | exact HB.out)⟩⟩
                    · rw [if_neg c18] at H
                      exact absurd H (by simp)
                  · rw [if_neg c17] at H
                    have c17b0 : decide ((wrap64 (t320 * 65536)) ≤ t311) = false := decide_eq_false c17
                    clear c17
                    have H' := Aside0.mk H
                    clear H
                    obtain ⟨Ao21, co21, eo21⟩ := Kd.R_slice HO_7.out
                    subst eo21
                    have p319 : 0 ≤ (x8_1 : Int) := of_decide_eq_true (by first | (with_reducible assumption) | assumption)
                    have q319 : x8_1 < (t316.length : Int) := of_decide_eq_true (by first | (with_reducible assumption) | assumption)
                    obtain ⟨ad319, e319, hx319_0, hx319_1, hx319_2, hx319_3, hx319_4, hx319_5, hx319_6⟩ := at_T26 (Kd.R_reads' HO_7.out).2.2 x8_1 p319 q319
                    cases e319
                    replace p319 := eq_true p319
                    replace q319 := eq_true q319
                    go_wp2_with (first | ((with_reducible refine gate_callee (f := 31) rfl ?_); refine goesL_ (some 33) rfl rfl Try.func31 (by kernel_rfl) rfl #[.int .i64 ((rd_T26 t316 x8_1).f1)] rfl (by (try simp only [List.map_toArray, List.map_cons, List.map_nil]); first | done | rfl | (simp only [List.length_drop, List.length_take]; rfl)) ?_; (with_reducible refine (foliotref13_down.calls ((rd_T26 t316 x8_1).f1) t320 _ A15.out).mono ?_); rintro e w' ⟨rfl, ⟨nd, rfl⟩⟩; refine ⟨_, rfl, ?_⟩))
                    go_roundg kj7
                    case measure => have := HK1.out; have := HJ7.out; omega
                    case rel => exact ⟨(x6_1), (wrap64 (x8_1 + 1)), (by first | rfl | (simp; done) | (simp [*]; done)), H', ⟨by have := HK1.out; have := HJ7.out; omega⟩, ⟨by (with_reducible repeat (first | apply Kd.R_alloc | apply Kd.R_drewN | apply Kd.R_drew)); exact HO_6.out⟩, ⟨by (with_reducible repeat (first | apply Kd.R_alloc | apply Kd.R_drewN | apply Kd.R_drew)); exact HO_7.out⟩, ⟨by repeat (first | (with_reducible first | exact HB.out | apply below_alloc | apply pw_below_drewN | apply below_drew1) | exact HB.out)⟩⟩
                · rw [if_neg c16] at H
                  have c16b0 : decide (t310 ≤ (wrap64 (t320 * 65536))) = false := decide_eq_false c16
                  clear c16
                  have H' := Aside0.mk H
                  clear H
                  obtain ⟨Ao22, co22, eo22⟩ := Kd.R_slice HO_7.out
                  subst eo22
                  have p319 : 0 ≤ (x8_1 : Int) := of_decide_eq_true (by first | (with_reducible assumption) | assumption)
                  have q319 : x8_1 < (t316.length : Int) := of_decide_eq_true (by first | (with_reducible assumption) | assumption)
                  obtain ⟨ad319, e319, hx319_0, hx319_1, hx319_2, hx319_3, hx319_4, hx319_5, hx319_6⟩ := at_T26 (Kd.R_reads' HO_7.out).2.2 x8_1 p319 q319
                  cases e319
                  replace p319 := eq_true p319
                  replace q319 := eq_true q319
                  go_wp2_with (first | ((with_reducible refine gate_callee (f := 31) rfl ?_); refine goesL_ (some 33) rfl rfl Try.func31 (by kernel_rfl) rfl #[.int .i64 ((rd_T26 t316 x8_1).f1)] rfl (by (try simp only [List.map_toArray, List.map_cons, List.map_nil]); first | done | rfl | (simp only [List.length_drop, List.length_take]; rfl)) ?_; (with_reducible refine (foliotref13_down.calls ((rd_T26 t316 x8_1).f1) t320 _ A15.out).mono ?_); rintro e w' ⟨rfl, ⟨nd, rfl⟩⟩; refine ⟨_, rfl, ?_⟩))
                  go_roundg kj7
                  case measure => have := HK1.out; have := HJ7.out; omega
                  case rel => exact ⟨(x6_1), (wrap64 (x8_1 + 1)), (by first | rfl | (simp; done) | (simp [*]; done)), H', ⟨by have := HK1.out; have := HJ7.out; omega⟩, ⟨by (with_reducible repeat (first | apply Kd.R_alloc | apply Kd.R_drewN | apply Kd.R_drew)); exact HO_6.out⟩, ⟨by (with_reducible repeat (first | apply Kd.R_alloc | apply Kd.R_drewN | apply Kd.R_drew)); exact HO_7.out⟩, ⟨by repeat (first | (with_reducible first | exact HB.out | apply below_alloc | apply pw_below_drewN | apply below_drew1) | exact HB.out)⟩⟩
              · rw [if_neg c14] at H
                exact absurd H (by simp)
            · rw [if_neg c13] at H
              exact absurd H (by simp)
          · replace c12 := Bool.eq_false_iff.mpr c12
            subst c12
            have H1 : (some x6_1) = some r := by rw [if_neg (show ¬ (false = true) by decide)] at H; exact H
            clear H
            have H := H1
            clear H1
            obtain rfl := Option.some.inj H
            go_wp2
            go_ret
            exact ⟨_, by first | rfl | (simp [errW_none, errW_some] <;> rfl) | (simp [*, errW_none, errW_some] <;> rfl), by (with_reducible repeat (first | apply Kd.R_alloc | apply Kd.R_drewN | apply Kd.R_drew)); exact Kd.R_mono HO_6.out (fun _ hk => trivial), by repeat (first | (with_reducible first | exact HB.out | apply below_alloc | apply pw_below_drewN | apply below_drew1) | exact HB.out)⟩

end Go.Proofs.Ytlhecfleanppmaa.Pr
end
