/- The machine's calls of the laws' own comparisons of ends. -/
import Derived.Test.YtlhecfleanppmaaHc
set_option linter.unusedVariables false
namespace Go.Proofs.Ytlhecfleanppmaa.Pr
open Go.RowKit Go.Proofs.YtlhecfleanppmaaW.PrintWords Go.Proofs.YtlhecfleanppmaaW.PrintLast Go.Proofs.YtlhecfleanppmaaW.PrintMore Go.Proofs.YFl

def smallB (n : Int) : Bool := decide (-9007199254740992 < n) && decide (n < 9007199254740992)
theorem smallB_iff (n : Int) : smallB n = true ↔ Small n := by unfold smallB Small; simp
def smallCx (x : Cx) : Bool := smallB x.re && smallB x.im
def small54 (x : S54) : Bool := smallB x.f0 && smallB x.f1
theorem smallCx_rd {xs : List Cx} (h : xs.all smallCx = true) (i : Nat) : Small (rdx xs i).re ∧ Small (rdx xs i).im := by
  unfold rdx
  rw [List.getD_eq_getElem?_getD]
  rcases hi : xs[i]? with _ | x
  · exact ⟨small_0, small_0⟩
  · obtain ⟨hl, rfl⟩ := List.getElem?_eq_some_iff.1 hi
    have := List.all_eq_true.1 h _ (List.getElem_mem hl)
    simp only [smallCx, Bool.and_eq_true, smallB_iff] at this
    exact this
theorem small54_rd {xs : List S54} (h : xs.all small54 = true) (i : Int) : Small (rd_T54 xs i).f0 ∧ Small (rd_T54 xs i).f1 := by
  unfold rd_T54
  rw [List.getD_eq_getElem?_getD]
  rcases hi : xs[i.toNat]? with _ | x
  · exact ⟨small_0, small_0⟩
  · obtain ⟨hl, rfl⟩ := List.getElem?_eq_some_iff.1 hi
    have := List.all_eq_true.1 h _ (List.getElem_mem hl)
    simp only [small54, Bool.and_eq_true, smallB_iff] at this
    exact this
/-- from place i on the two lists tell the same -/
def toldFrom (a : List Cx) (b : List S54) : Nat → Nat → Bool
  | 0, _ => true
  | d + 1, i => decide ((rdx a i).re = (rd_T54 b (i : Int)).f0) && decide ((rdx a i).im = (rd_T54 b (i : Int)).f1) && toldFrom a b d (i + 1)
def told (a : List Cx) (b : List S54) : Bool := decide (a.length = b.length) && toldFrom a b b.length 0
def foliotlaw13_asTold.f (a : List Cx) (b : List S54) : Option Bool := if (a.all smallCx && b.all small54) = true then some (told a b) else none

set_option maxHeartbeats 1000000 in
theorem foliotlaw13_asTold.calls (A0 : Option Addr) (c0 : Nat) (l0 : List Cx) (A1 : Option Addr) (c1 : Nat) (l1 : List S54) (r : Bool) (w : World) (hr0 : Kd.C kcx w A0 l0.length l0) (hc0 : l0.length ≤ c0) (hr1 : Kd.C k54 w A1 l1.length l1) (hc1 : l1.length ≤ c1) (h : foliotlaw13_asTold.f l0 l1 = some r) :
    Calls Try.prog 13 #[.slice A0 l0.length c0, .slice A1 l1.length c1] w fun e w' => e = .returned (.bool r) ∧ Drawn0 w w' := by
  have hn1 := hr1.2.1
  have HR0 := Aside0.mk hr0
  have HR1 := Aside0.mk hr1
  clear hr0 hr1
  unfold foliotlaw13_asTold.f at h
  by_cases hs : (l0.all smallCx && l1.all small54) = true
  · rw [if_pos hs] at h
    rw [Bool.and_eq_true] at hs
    obtain ⟨hs0, hs1⟩ := hs
    have HS0 := Aside0.mk hs0
    have HS1 := Aside0.mk hs1
    clear hs0 hs1
    have hr := Option.some.inj h
    clear h
    unfold told at hr
    by_cases hl : l0.length = l1.length
    · rw [decide_eq_true hl, Bool.true_and] at hr
      have HRR := Aside0.mk hr
      have HL := Aside0.mk hl
      have hb : (l0.length == l1.length) = true := beq_iff_eq.mpr hl
      have hb2 : ((l0.length : Int) != (l1.length : Int)) = false := bne_eq_false_iff_eq.mpr (by omega)
      have hb3 : (l0.length != l1.length) = false := bne_eq_false_iff_eq.mpr (by omega)
      clear hr hl
      go_enter Try.func13, Try.ntmps13
      go_wp2
      go_loopg [5] l1.length (fun kq v5 w' => ∃ (i : Nat), v5 = .int .i64 i ∧ Aside0 (i + kq = l1.length) ∧ Aside0 (toldFrom l0 l1 kq i = r) ∧ Drawn0 w w')
      case atStart => exact ⟨0, rfl, ⟨by omega⟩, HRR, Drawn0.refl _⟩
      case round =>
        clear HRR
        obtain ⟨i, rfl, HI, HT, ⟨m1, rfl⟩⟩ := hrel
        by_cases hlt : i < l1.length
        · have p0 : (0 : Int) ≤ (i : Int) := by omega
          have p1 : (i : Int) < (l1.length : Int) := by omega
          have p2 : (i : Int) < (l0.length : Int) := by have := HL.out; omega
          obtain ⟨ad, ea, hx0⟩ := cell_cx HR0.out i (by omega)
          cases ea
          obtain ⟨ad1, ea1, hy0, hy1⟩ := at_T54 HR1.out (i : Int) p0 p1
          cases ea1
          rw [Int.toNat_natCast] at hy0 hy1
          have sx := smallCx_rd HS0.out i
          have sy := small54_rd HS1.out (i : Int)
          have q1 : (FloatKind.f64.format.order (fl (rdx l0 i).re) (floatOfInt .f64 (rd_T54 l1 (i : Int)).f0) == some .eq) = decide ((rdx l0 i).re = (rd_T54 l1 (i : Int)).f0) := eq_fl _ _ sx.1 sy.1
          have q2 : (FloatKind.f64.format.order (fl (rdx l0 i).im) (floatOfInt .f64 (rd_T54 l1 (i : Int)).f1) == some .eq) = decide ((rdx l0 i).im = (rd_T54 l1 (i : Int)).f1) := eq_fl _ _ sx.2 sy.2
          have ht := HT.out
          rw [show gk = (gk - 1) + 1 from by have := HI.out; omega] at ht
          unfold toldFrom at ht
          clear sx sy HT
          generalize rdx l0 i = x at hx0 q1 q2 ht
          generalize rd_T54 l1 (i : Int) = y at hy0 hy1 q1 q2 ht
          by_cases h1 : x.re = y.f0
          · rw [decide_eq_true h1] at q1 ht
            by_cases h2 : x.im = y.f1
            · rw [decide_eq_true h2] at q2 ht
              have HT := Aside0.mk ht
              clear h1 h2 ht
              go_wp2
              go_quiet (fail)
              go_wp2
              go_roundg (gk - 1)
              case measure => have := HI.out; omega
              case rel => exact ⟨i + 1, by go_num, ⟨by have := HI.out; omega⟩, ⟨by simpa using HT.out⟩, by repeat (first | exact Drawn0.refl _ | apply Drawn0.step)⟩
            · rw [decide_eq_false h2] at q2 ht
              have HT := Aside0.mk ht
              clear h1 h2 ht
              go_wp2
              go_quiet (fail)
              go_wp2
              go_ret
              exact ⟨by rw [← HT.out]; rfl, by repeat (first | exact Drawn0.refl _ | apply Drawn0.step)⟩
          · rw [decide_eq_false h1] at q1 ht
            have HT := Aside0.mk ht
            clear h1 ht q2
            go_wp2
            go_quiet (fail)
            go_wp2
            go_ret
            exact ⟨by rw [← HT.out]; rfl, by repeat (first | exact Drawn0.refl _ | apply Drawn0.step)⟩
        · have HT2 := HT.out
          rw [show gk = 0 from by have := HI.out; omega] at HT2
          have HT3 := Aside0.mk HT2
          clear HT2 HT
          go_wp2
          repeat (go_quiet (fail); try go_wp2)
          go_ret
          exact ⟨by rw [← HT3.out]; rfl, Drawn0.refl _ |>.step _⟩
    · rw [decide_eq_false hl, Bool.false_and] at hr
      subst hr
      have hb : (l0.length == l1.length) = false := beq_eq_false_iff_ne.mpr hl
      have hb2 : ((l0.length : Int) != (l1.length : Int)) = true := bne_iff_ne.mpr (by omega)
      have hb3 : (l0.length != l1.length) = true := bne_iff_ne.mpr hl
      go_enter Try.func13, Try.ntmps13
      go_wp2
      go_ret
      exact ⟨rfl, Drawn0.refl _⟩
  · rw [if_neg hs] at h
    cases h
def sameFrom (a b : List Cx) : Nat → Nat → Bool
  | 0, _ => true
  | d + 1, i => decide ((rdx a i).re = (rdx b i).re) && decide ((rdx a i).im = (rdx b i).im) && sameFrom a b d (i + 1)
def same (a b : List Cx) : Bool := decide (a.length = b.length) && sameFrom a b a.length 0
def foliotlaw13_sameEnds.f (a b : List Cx) : Option Bool := if (a.all smallCx && b.all smallCx) = true then some (same a b) else none

set_option maxHeartbeats 1000000 in
theorem foliotlaw13_sameEnds.calls (A0 : Option Addr) (c0 : Nat) (l0 : List Cx) (A1 : Option Addr) (c1 : Nat) (l1 : List Cx) (r : Bool) (w : World) (hr0 : Kd.C kcx w A0 l0.length l0) (hc0 : l0.length ≤ c0) (hr1 : Kd.C kcx w A1 l1.length l1) (hc1 : l1.length ≤ c1) (h : foliotlaw13_sameEnds.f l0 l1 = some r) :
    Calls Try.prog 22 #[.slice A0 l0.length c0, .slice A1 l1.length c1] w fun e w' => e = .returned (.bool r) ∧ Drawn0 w w' := by
  have hn1 := hr0.2.1
  have HR0 := Aside0.mk hr0
  have HR1 := Aside0.mk hr1
  clear hr0 hr1
  unfold foliotlaw13_sameEnds.f at h
  by_cases hs : (l0.all smallCx && l1.all smallCx) = true
  · rw [if_pos hs] at h
    rw [Bool.and_eq_true] at hs
    obtain ⟨hs0, hs1⟩ := hs
    have HS0 := Aside0.mk hs0
    have HS1 := Aside0.mk hs1
    clear hs0 hs1
    have hr := Option.some.inj h
    clear h
    unfold same at hr
    by_cases hl : l0.length = l1.length
    · rw [decide_eq_true hl, Bool.true_and] at hr
      have HRR := Aside0.mk hr
      have HL := Aside0.mk hl
      have hb : (l0.length == l1.length) = true := beq_iff_eq.mpr hl
      have hb2 : ((l0.length : Int) != (l1.length : Int)) = false := bne_eq_false_iff_eq.mpr (by omega)
      have hb3 : (l0.length != l1.length) = false := bne_eq_false_iff_eq.mpr (by omega)
      clear hr hl
      go_enter Try.func22, Try.ntmps22
      go_wp2
      go_loopg [5] l0.length (fun kq v5 w' => ∃ (i : Nat), v5 = .int .i64 i ∧ Aside0 (i + kq = l0.length) ∧ Aside0 (sameFrom l0 l1 kq i = r) ∧ Drawn0 w w')
      case atStart => exact ⟨0, rfl, ⟨by omega⟩, HRR, Drawn0.refl _⟩
      case round =>
        clear HRR
        obtain ⟨i, rfl, HI, HT, ⟨m1, rfl⟩⟩ := hrel
        by_cases hlt : i < l0.length
        · have p0 : (0 : Int) ≤ (i : Int) := by omega
          have p1 : (i : Int) < (l1.length : Int) := by have := HL.out; omega
          have p2 : (i : Int) < (l0.length : Int) := by have := HL.out; omega
          obtain ⟨ad, ea, hx0⟩ := cell_cx HR0.out i (by omega)
          cases ea
          obtain ⟨ad1, ea1, hy0⟩ := cell_cx HR1.out i (by omega)
          cases ea1
          have sx := smallCx_rd HS0.out i
          have sy := smallCx_rd HS1.out i
          have q1 := eq_fl _ _ sx.1 sy.1
          have q2 := eq_fl _ _ sx.2 sy.2
          have ht := HT.out
          rw [show gk = (gk - 1) + 1 from by have := HI.out; omega] at ht
          unfold sameFrom at ht
          clear sx sy HT
          generalize rdx l0 i = x at hx0 q1 q2 ht
          generalize rdx l1 i = y at hy0 q1 q2 ht
          by_cases h1 : x.re = y.re
          · rw [decide_eq_true h1] at q1 ht
            by_cases h2 : x.im = y.im
            · rw [decide_eq_true h2] at q2 ht
              have HT := Aside0.mk ht
              clear h1 h2 ht
              go_wp2
              go_quiet (fail)
              go_wp2
              go_roundg (gk - 1)
              case measure => have := HI.out; omega
              case rel => exact ⟨i + 1, by go_num, ⟨by have := HI.out; omega⟩, ⟨by simpa using HT.out⟩, by repeat (first | exact Drawn0.refl _ | apply Drawn0.step)⟩
            · rw [decide_eq_false h2] at q2 ht
              have HT := Aside0.mk ht
              clear h1 h2 ht
              go_wp2
              go_quiet (fail)
              go_wp2
              go_ret
              exact ⟨by rw [← HT.out]; rfl, by repeat (first | exact Drawn0.refl _ | apply Drawn0.step)⟩
          · rw [decide_eq_false h1] at q1 ht
            have HT := Aside0.mk ht
            clear h1 ht q2
            go_wp2
            go_quiet (fail)
            go_wp2
            go_ret
            exact ⟨by rw [← HT.out]; rfl, by repeat (first | exact Drawn0.refl _ | apply Drawn0.step)⟩
        · have HT2 := HT.out
          rw [show gk = 0 from by have := HI.out; omega] at HT2
          have HT3 := Aside0.mk HT2
          clear HT2 HT
          go_wp2
          repeat (go_quiet (fail); try go_wp2)
          go_ret
          exact ⟨by rw [← HT3.out]; rfl, Drawn0.refl _ |>.step _⟩
    · rw [decide_eq_false hl, Bool.false_and] at hr
      subst hr
      have hb : (l0.length == l1.length) = false := beq_eq_false_iff_ne.mpr hl
      have hb2 : ((l0.length : Int) != (l1.length : Int)) = true := bne_iff_ne.mpr (by omega)
      have hb3 : (l0.length != l1.length) = true := bne_iff_ne.mpr hl
      go_enter Try.func22, Try.ntmps22
      go_wp2
      go_ret
      exact ⟨rfl, Drawn0.refl _⟩
  · rw [if_neg hs] at h
    cases h
end Go.Proofs.Ytlhecfleanppmaa.Pr
