/- Printed walks, packed. -/
import Derived.Test.YtbondhnhiinlbaaNK0
import Derived.Test.YtbondhnhiinlbaaNPrx21
import Derived.Test.YtbondhnhiinlbaaNHb
namespace Go.Proofs.Ytbondhnhiinlbaa.Pr
open Go.RowKit Go.Proofs.YtbondhnhiinlbaaW.PrintWords Go.Proofs.YtbondhnhiinlbaaW.PrintLast Go.Proofs.YtbondhnhiinlbaaW.PrintMore
attribute [local go_sem] max2_int min2_int max_two min_two max_three min_three max_four min_four   -- for this text's walks alone
set_option linter.unusedVariables false
set_option linter.unusedSimpArgs false

/-! ### foliotlaw02_StampNext: function 5 -/
mutual
def foliotlaw02_StampNext.j0 : Nat → Int → Int → Int → Int → Int → Int → Int → Int → Int → Int → Option (Bool)
  | 0, _, _, _, _, _, _, _, _, _, _ => none
  | k + 1, x4, x267000, x267001, x267002, x267003, x267004, x267005, x267006, x268000, x268001 => (stamp_OfDate.f x268000 x268001).bind fun bt268 => (if x4 = 0 then (foliotlaw02_StampNext.j1 k (bt268.2.2.2.2.2.2.2 != 0) x267000 x267001 x267002 x267003 x267004 x267005 x267006 bt268.1 bt268.2.1 bt268.2.2.1 bt268.2.2.2.1 bt268.2.2.2.2.1 bt268.2.2.2.2.2.1 bt268.2.2.2.2.2.2.1) else (foliotlaw02_StampNext.j1 k true x267000 x267001 x267002 x267003 x267004 x267005 x267006 bt268.1 bt268.2.1 bt268.2.2.1 bt268.2.2.2.1 bt268.2.2.2.2.1 bt268.2.2.2.2.2.1 bt268.2.2.2.2.2.2.1))
def foliotlaw02_StampNext.j1 : Nat → Bool → Int → Int → Int → Int → Int → Int → Int → Int → Int → Int → Int → Int → Int → Int → Option (Bool)
  | 0, _, _, _, _, _, _, _, _, _, _, _, _, _, _, _ => none
  | k + 1, x41, x267000, x267001, x267002, x267003, x267004, x267005, x267006, x277000, x277001, x277002, x277003, x277004, x277005, x277006 => if x41 = true then (some true) else (if x267006 = x277006 then (if x277005 = 0 then (if x277004 = 0 then (if x277003 = 0 then (if x267005 = 59 then (if x267004 = 59 then (foliotlaw02_StampNext.j2 k (x267003 != 23) x267000 x267001 x267002 x267003 x267004 x267005 x267006 x277000 x277001 x277002 x277003 x277004 x277005 x277006) else (foliotlaw02_StampNext.j2 k true x267000 x267001 x267002 x267003 x267004 x267005 x267006 x277000 x277001 x277002 x277003 x277004 x277005 x277006)) else (foliotlaw02_StampNext.j2 k true x267000 x267001 x267002 x267003 x267004 x267005 x267006 x277000 x277001 x277002 x277003 x277004 x277005 x277006)) else (if x267005 = 59 then (if x267004 = 59 then (if (wrap64 (x267003 + 1)) = x277003 then (if x267002 = x277002 then (if x267001 = x277001 then (some (x267000 == x277000)) else (some false)) else (some false)) else (some false)) else (some false)) else (some false))) else (if x267005 = 59 then (if (wrap64 (x267004 + 1)) = x277004 then (if x267003 = x277003 then (if x267002 = x277002 then (if x267001 = x277001 then (some (x267000 == x277000)) else (some false)) else (some false)) else (some false)) else (some false)) else (some false))) else (if (wrap64 (x267005 + 1)) = x277005 then (if x267004 = x277004 then (if x267003 = x277003 then (if x267002 = x277002 then (if x267001 = x277001 then (some (x267000 == x277000)) else (some false)) else (some false)) else (some false)) else (some false)) else (some false))) else (some false))
def foliotlaw02_StampNext.j2 : Nat → Bool → Int → Int → Int → Int → Int → Int → Int → Int → Int → Int → Int → Int → Int → Int → Option (Bool)
  | 0, _, _, _, _, _, _, _, _, _, _, _, _, _, _, _ => none
  | k + 1, x188, x267000, x267001, x267002, x267003, x267004, x267005, x267006, x277000, x277001, x277002, x277003, x277004, x277005, x277006 => if x188 = true then (some false) else (if x277002 = 1 then (if x267001 = 4 then (foliotlaw02_StampNext.j3 k 31 x267001 (x267001 == 4) x267000 x267001 x267002 x267003 x267004 x267005 x267006 x277000 x277001 x277002 x277003 x277004 x277005 x277006) else (if x267001 = 6 then (foliotlaw02_StampNext.j3 k 31 x267001 (x267001 == 6) x267000 x267001 x267002 x267003 x267004 x267005 x267006 x277000 x277001 x277002 x277003 x277004 x277005 x277006) else (if x267001 = 9 then (foliotlaw02_StampNext.j3 k 31 x267001 (x267001 == 9) x267000 x267001 x267002 x267003 x267004 x267005 x267006 x277000 x277001 x277002 x277003 x277004 x277005 x277006) else (foliotlaw02_StampNext.j3 k 31 x267001 (x267001 == 11) x267000 x267001 x267002 x267003 x267004 x267005 x267006 x277000 x277001 x277002 x277003 x277004 x277005 x277006)))) else (if (wrap64 (x267002 + 1)) = x277002 then (if x267001 = x277001 then (some (x267000 == x277000)) else (some false)) else (some false)))
def foliotlaw02_StampNext.j4 : Nat → Int → Int → Int → Int → Int → Int → Int → Int → Int → Int → Int → Int → Int → Int → Int → Option (Bool)
  | 0, _, _, _, _, _, _, _, _, _, _, _, _, _, _, _ => none
  | k + 1, x8, x267000, x267001, x267002, x267003, x267004, x267005, x267006, x277000, x277001, x277002, x277003, x277004, x277005, x277006 => if x267002 = x8 then (if x277001 = 1 then (if x267001 = 12 then (some ((wrap64 (x267000 + 1)) == x277000)) else (some false)) else (if (wrap64 (x267001 + 1)) = x277001 then (some (x267000 == x277000)) else (some false))) else (some false)
def foliotlaw02_StampNext.j3 : Nat → Int → Int → Bool → Int → Int → Int → Int → Int → Int → Int → Int → Int → Int → Int → Int → Int → Int → Option (Bool)
  | 0, _, _, _, _, _, _, _, _, _, _, _, _, _, _, _, _, _ => none
  | k + 1, x8, x213, x214, x267000, x267001, x267002, x267003, x267004, x267005, x267006, x277000, x277001, x277002, x277003, x277004, x277005, x277006 => if x214 = true then (foliotlaw02_StampNext.j4 k 30 x267000 x267001 x267002 x267003 x267004 x267005 x267006 x277000 x277001 x277002 x277003 x277004 x277005 x277006) else (if x213 = 2 then (if (Int.tmod x267000 4) = 0 then (if (Int.tmod x267000 100) = 0 then (if (Int.tmod x267000 400) = 0 then (foliotlaw02_StampNext.j4 k 29 x267000 x267001 x267002 x267003 x267004 x267005 x267006 x277000 x277001 x277002 x277003 x277004 x277005 x277006) else (foliotlaw02_StampNext.j4 k 28 x267000 x267001 x267002 x267003 x267004 x267005 x267006 x277000 x277001 x277002 x277003 x277004 x277005 x277006)) else (foliotlaw02_StampNext.j4 k 29 x267000 x267001 x267002 x267003 x267004 x267005 x267006 x277000 x277001 x277002 x277003 x277004 x277005 x277006)) else (foliotlaw02_StampNext.j4 k 28 x267000 x267001 x267002 x267003 x267004 x267005 x267006 x277000 x277001 x277002 x277003 x277004 x277005 x277006)) else (foliotlaw02_StampNext.j4 k x8 x267000 x267001 x267002 x267003 x267004 x267005 x267006 x277000 x277001 x277002 x277003 x277004 x277005 x277006))
end
def foliotlaw02_StampNext.f (k : Nat) (a0_0 : Int) (a0_1 : Int) : Option (Bool) := (foliotlaw02_shown.f k).bind fun t257 => (if t257 = true then ((stamp_OfDate.f a0_0 a0_1).bind fun bt258 => (if (IntKind.u64.wrap (a0_1 + 4294967296)) < a0_1 then (foliotlaw02_StampNext.j0 k bt258.2.2.2.2.2.2.2 bt258.1 bt258.2.1 bt258.2.2.1 bt258.2.2.2.1 bt258.2.2.2.2.1 bt258.2.2.2.2.2.1 bt258.2.2.2.2.2.2.1 (wrap64 (a0_0 + 1)) (IntKind.u64.wrap (a0_1 + 4294967296))) else (foliotlaw02_StampNext.j0 k bt258.2.2.2.2.2.2.2 bt258.1 bt258.2.1 bt258.2.2.1 bt258.2.2.2.1 bt258.2.2.2.2.1 bt258.2.2.2.2.2.1 bt258.2.2.2.2.2.2.1 a0_0 (IntKind.u64.wrap (a0_1 + 4294967296))))) else (some false))
theorem foliotlaw02_StampNext.mono_l : ∀ k, (∀ y0 y1 y2 y3 y4 y5 y6 y7 y8 y9, LeO (foliotlaw02_StampNext.j0 k y0 y1 y2 y3 y4 y5 y6 y7 y8 y9) (foliotlaw02_StampNext.j0 (k + 1) y0 y1 y2 y3 y4 y5 y6 y7 y8 y9)) ∧ (∀ y0 y1 y2 y3 y4 y5 y6 y7 y8 y9 y10 y11 y12 y13 y14, LeO (foliotlaw02_StampNext.j1 k y0 y1 y2 y3 y4 y5 y6 y7 y8 y9 y10 y11 y12 y13 y14) (foliotlaw02_StampNext.j1 (k + 1) y0 y1 y2 y3 y4 y5 y6 y7 y8 y9 y10 y11 y12 y13 y14)) ∧ (∀ y0 y1 y2 y3 y4 y5 y6 y7 y8 y9 y10 y11 y12 y13 y14, LeO (foliotlaw02_StampNext.j2 k y0 y1 y2 y3 y4 y5 y6 y7 y8 y9 y10 y11 y12 y13 y14) (foliotlaw02_StampNext.j2 (k + 1) y0 y1 y2 y3 y4 y5 y6 y7 y8 y9 y10 y11 y12 y13 y14)) ∧ (∀ y0 y1 y2 y3 y4 y5 y6 y7 y8 y9 y10 y11 y12 y13 y14, LeO (foliotlaw02_StampNext.j4 k y0 y1 y2 y3 y4 y5 y6 y7 y8 y9 y10 y11 y12 y13 y14) (foliotlaw02_StampNext.j4 (k + 1) y0 y1 y2 y3 y4 y5 y6 y7 y8 y9 y10 y11 y12 y13 y14)) ∧ (∀ y0 y1 y2 y3 y4 y5 y6 y7 y8 y9 y10 y11 y12 y13 y14 y15 y16, LeO (foliotlaw02_StampNext.j3 k y0 y1 y2 y3 y4 y5 y6 y7 y8 y9 y10 y11 y12 y13 y14 y15 y16) (foliotlaw02_StampNext.j3 (k + 1) y0 y1 y2 y3 y4 y5 y6 y7 y8 y9 y10 y11 y12 y13 y14 y15 y16))
  | 0 => ⟨fun _ _ _ _ _ _ _ _ _ _ r h => by simp [foliotlaw02_StampNext.j0] at h, fun _ _ _ _ _ _ _ _ _ _ _ _ _ _ _ r h => by simp [foliotlaw02_StampNext.j1] at h, fun _ _ _ _ _ _ _ _ _ _ _ _ _ _ _ r h => by simp [foliotlaw02_StampNext.j2] at h, fun _ _ _ _ _ _ _ _ _ _ _ _ _ _ _ r h => by simp [foliotlaw02_StampNext.j4] at h, fun _ _ _ _ _ _ _ _ _ _ _ _ _ _ _ _ _ r h => by simp [foliotlaw02_StampNext.j3] at h⟩
  | k + 1 => by
    obtain ⟨ih0, ih1, ih2, ih3, ih4⟩ := foliotlaw02_StampNext.mono_l k
    refine ⟨?_, ?_, ?_, ?_, ?_⟩
    · intro y0 y1 y2 y3 y4 y5 y6 y7 y8 y9
      unfold foliotlaw02_StampNext.j0
      repeat' first
      | (with_reducible exact ih0 _ _ _ _ _ _ _ _ _ _)
      | (with_reducible exact ih1 _ _ _ _ _ _ _ _ _ _ _ _ _ _ _)
      | (with_reducible exact ih2 _ _ _ _ _ _ _ _ _ _ _ _ _ _ _)
      | (with_reducible exact ih3 _ _ _ _ _ _ _ _ _ _ _ _ _ _ _)
      | (with_reducible exact ih4 _ _ _ _ _ _ _ _ _ _ _ _ _ _ _ _ _)
      | (with_reducible exact foliotlaw02_shown.mono _)
      | (with_reducible exact LeO.refl _)
      | (with_reducible exact LeO.none _)
      | (with_reducible refine LeO.ite ?_ ?_)
      | (with_reducible refine LeO.bind ?_ (fun _ => ?_))
      | exact ih0 _ _ _ _ _ _ _ _ _ _
      | exact ih1 _ _ _ _ _ _ _ _ _ _ _ _ _ _ _
      | exact ih2 _ _ _ _ _ _ _ _ _ _ _ _ _ _ _
      | exact ih3 _ _ _ _ _ _ _ _ _ _ _ _ _ _ _
      | exact ih4 _ _ _ _ _ _ _ _ _ _ _ _ _ _ _ _ _
      | exact foliotlaw02_shown.mono _
      | exact LeO.none _
      | refine LeO.ite ?_ ?_
      | refine LeO.bind ?_ (fun _ => ?_)
    · intro y0 y1 y2 y3 y4 y5 y6 y7 y8 y9 y10 y11 y12 y13 y14
      unfold foliotlaw02_StampNext.j1
      repeat' first
      | (with_reducible exact ih0 _ _ _ _ _ _ _ _ _ _)
      | (with_reducible exact ih1 _ _ _ _ _ _ _ _ _ _ _ _ _ _ _)
      | (with_reducible exact ih2 _ _ _ _ _ _ _ _ _ _ _ _ _ _ _)
      | (with_reducible exact ih3 _ _ _ _ _ _ _ _ _ _ _ _ _ _ _)
      | (with_reducible exact ih4 _ _ _ _ _ _ _ _ _ _ _ _ _ _ _ _ _)
      | (with_reducible exact foliotlaw02_shown.mono _)
      | (with_reducible exact LeO.refl _)
      | (with_reducible exact LeO.none _)
      | (with_reducible refine LeO.ite ?_ ?_)
      | (with_reducible refine LeO.bind ?_ (fun _ => ?_))
      | exact ih0 _ _ _ _ _ _ _ _ _ _
      | exact ih1 _ _ _ _ _ _ _ _ _ _ _ _ _ _ _
      | exact ih2 _ _ _ _ _ _ _ _ _ _ _ _ _ _ _
      | exact ih3 _ _ _ _ _ _ _ _ _ _ _ _ _ _ _
      | exact ih4 _ _ _ _ _ _ _ _ _ _ _ _ _ _ _ _ _
      | exact foliotlaw02_shown.mono _
      | exact LeO.none _
      | refine LeO.ite ?_ ?_
      | refine LeO.bind ?_ (fun _ => ?_)
    · intro y0 y1 y2 y3 y4 y5 y6 y7 y8 y9 y10 y11 y12 y13 y14
      unfold foliotlaw02_StampNext.j2
      repeat' first
      | (with_reducible exact ih0 _ _ _ _ _ _ _ _ _ _)
      | (with_reducible exact ih1 _ _ _ _ _ _ _ _ _ _ _ _ _ _ _)
      | (with_reducible exact ih2 _ _ _ _ _ _ _ _ _ _ _ _ _ _ _)
      | (with_reducible exact ih3 _ _ _ _ _ _ _ _ _ _ _ _ _ _ _)
      | (with_reducible exact ih4 _ _ _ _ _ _ _ _ _ _ _ _ _ _ _ _ _)
      | (with_reducible exact foliotlaw02_shown.mono _)
      | (with_reducible exact LeO.refl _)
      | (with_reducible exact LeO.none _)
      | (with_reducible refine LeO.ite ?_ ?_)
      | (with_reducible refine LeO.bind ?_ (fun _ => ?_))
      | exact ih0 _ _ _ _ _ _ _ _ _ _
      | exact ih1 _ _ _ _ _ _ _ _ _ _ _ _ _ _ _
      | exact ih2 _ _ _ _ _ _ _ _ _ _ _ _ _ _ _
      | exact ih3 _ _ _ _ _ _ _ _ _ _ _ _ _ _ _
      | exact ih4 _ _ _ _ _ _ _ _ _ _ _ _ _ _ _ _ _
      | exact foliotlaw02_shown.mono _
      | exact LeO.none _
      | refine LeO.ite ?_ ?_
      | refine LeO.bind ?_ (fun _ => ?_)
    · intro y0 y1 y2 y3 y4 y5 y6 y7 y8 y9 y10 y11 y12 y13 y14
      unfold foliotlaw02_StampNext.j4
      repeat' first
      | (with_reducible exact ih0 _ _ _ _ _ _ _ _ _ _)
      | (with_reducible exact ih1 _ _ _ _ _ _ _ _ _ _ _ _ _ _ _)
      | (with_reducible exact ih2 _ _ _ _ _ _ _ _ _ _ _ _ _ _ _)
      | (with_reducible exact ih3 _ _ _ _ _ _ _ _ _ _ _ _ _ _ _)
      | (with_reducible exact ih4 _ _ _ _ _ _ _ _ _ _ _ _ _ _ _ _ _)
      | (with_reducible exact foliotlaw02_shown.mono _)
      | (with_reducible exact LeO.refl _)
      | (with_reducible exact LeO.none _)
      | (with_reducible refine LeO.ite ?_ ?_)
      | (with_reducible refine LeO.bind ?_ (fun _ => ?_))
      | exact ih0 _ _ _ _ _ _ _ _ _ _
      | exact ih1 _ _ _ _ _ _ _ _ _ _ _ _ _ _ _
      | exact ih2 _ _ _ _ _ _ _ _ _ _ _ _ _ _ _
      | exact ih3 _ _ _ _ _ _ _ _ _ _ _ _ _ _ _
      | exact ih4 _ _ _ _ _ _ _ _ _ _ _ _ _ _ _ _ _
      | exact foliotlaw02_shown.mono _
      | exact LeO.none _
      | refine LeO.ite ?_ ?_
      | refine LeO.bind ?_ (fun _ => ?_)
    · intro y0 y1 y2 y3 y4 y5 y6 y7 y8 y9 y10 y11 y12 y13 y14 y15 y16
      unfold foliotlaw02_StampNext.j3
      repeat' first
      | (with_reducible exact ih0 _ _ _ _ _ _ _ _ _ _)
      | (with_reducible exact ih1 _ _ _ _ _ _ _ _ _ _ _ _ _ _ _)
      | (with_reducible exact ih2 _ _ _ _ _ _ _ _ _ _ _ _ _ _ _)
      | (with_reducible exact ih3 _ _ _ _ _ _ _ _ _ _ _ _ _ _ _)
      | (with_reducible exact ih4 _ _ _ _ _ _ _ _ _ _ _ _ _ _ _ _ _)
      | (with_reducible exact foliotlaw02_shown.mono _)
      | (with_reducible exact LeO.refl _)
      | (with_reducible exact LeO.none _)
      | (with_reducible refine LeO.ite ?_ ?_)
      | (with_reducible refine LeO.bind ?_ (fun _ => ?_))
      | exact ih0 _ _ _ _ _ _ _ _ _ _
      | exact ih1 _ _ _ _ _ _ _ _ _ _ _ _ _ _ _
      | exact ih2 _ _ _ _ _ _ _ _ _ _ _ _ _ _ _
      | exact ih3 _ _ _ _ _ _ _ _ _ _ _ _ _ _ _
      | exact ih4 _ _ _ _ _ _ _ _ _ _ _ _ _ _ _ _ _
      | exact foliotlaw02_shown.mono _
      | exact LeO.none _
      | refine LeO.ite ?_ ?_
      | refine LeO.bind ?_ (fun _ => ?_)
theorem foliotlaw02_StampNext.mono : ∀ a0 a1 k, LeO (foliotlaw02_StampNext.f k a0 a1) (foliotlaw02_StampNext.f (k + 1) a0 a1) := by
  intro a0 a1 k
  obtain ⟨ih0, ih1, ih2, ih3, ih4⟩ := foliotlaw02_StampNext.mono_l k
  unfold foliotlaw02_StampNext.f
  repeat' first
      | (with_reducible exact ih0 _ _ _ _ _ _ _ _ _ _)
      | (with_reducible exact ih1 _ _ _ _ _ _ _ _ _ _ _ _ _ _ _)
      | (with_reducible exact ih2 _ _ _ _ _ _ _ _ _ _ _ _ _ _ _)
      | (with_reducible exact ih3 _ _ _ _ _ _ _ _ _ _ _ _ _ _ _)
      | (with_reducible exact ih4 _ _ _ _ _ _ _ _ _ _ _ _ _ _ _ _ _)
      | (with_reducible exact foliotlaw02_shown.mono _)
      | (with_reducible exact LeO.refl _)
      | (with_reducible exact LeO.none _)
      | (with_reducible refine LeO.ite ?_ ?_)
      | (with_reducible refine LeO.bind ?_ (fun _ => ?_))
      | exact ih0 _ _ _ _ _ _ _ _ _ _
      | exact ih1 _ _ _ _ _ _ _ _ _ _ _ _ _ _ _
      | exact ih2 _ _ _ _ _ _ _ _ _ _ _ _ _ _ _
      | exact ih3 _ _ _ _ _ _ _ _ _ _ _ _ _ _ _
      | exact ih4 _ _ _ _ _ _ _ _ _ _ _ _ _ _ _ _ _
      | exact foliotlaw02_shown.mono _
      | exact LeO.none _
      | refine LeO.ite ?_ ?_
      | refine LeO.bind ?_ (fun _ => ?_)
set_option maxHeartbeats 8000000 in
set_option maxRecDepth 100000 in
theorem foliotlaw02_StampNext.calls (k : Nat) (a0_0 : Int) (a0_1 : Int) (r : Bool) (w : World) (h : foliotlaw02_StampNext.f k a0_0 a0_1 = some r) :
    Calls Try.prog 5 #[.agg #[.int .i64 a0_0, .int .u64 a0_1]] w fun e w' => e = .returned (.bool r) ∧ Below w.heap.size w w' := by
  have hu25 := Try.underlying25
  have hu28 := Try.underlying28
  have HB := Aside0.mk (Below.refl w.heap.size w)
  have H : ((foliotlaw02_shown.f k).bind fun t257 => (if t257 = true then ((stamp_OfDate.f a0_0 a0_1).bind fun bt258 => (if (IntKind.u64.wrap (a0_1 + 4294967296)) < a0_1 then (foliotlaw02_StampNext.j0 k bt258.2.2.2.2.2.2.2 bt258.1 bt258.2.1 bt258.2.2.1 bt258.2.2.2.1 bt258.2.2.2.2.1 bt258.2.2.2.2.2.1 bt258.2.2.2.2.2.2.1 (wrap64 (a0_0 + 1)) (IntKind.u64.wrap (a0_1 + 4294967296))) else (foliotlaw02_StampNext.j0 k bt258.2.2.2.2.2.2.2 bt258.1 bt258.2.1 bt258.2.2.1 bt258.2.2.2.1 bt258.2.2.2.2.1 bt258.2.2.2.2.2.1 bt258.2.2.2.2.2.2.1 a0_0 (IntKind.u64.wrap (a0_1 + 4294967296))))) else (some false))) = some r := h
  clear h
  replace H := Option.bind_eq_some_iff.mp H
  obtain ⟨t257, A20, H⟩ := H
  replace H : (if t257 = true then ((stamp_OfDate.f a0_0 a0_1).bind fun bt258 => (if (IntKind.u64.wrap (a0_1 + 4294967296)) < a0_1 then (foliotlaw02_StampNext.j0 k bt258.2.2.2.2.2.2.2 bt258.1 bt258.2.1 bt258.2.2.1 bt258.2.2.2.1 bt258.2.2.2.2.1 bt258.2.2.2.2.2.1 bt258.2.2.2.2.2.2.1 (wrap64 (a0_0 + 1)) (IntKind.u64.wrap (a0_1 + 4294967296))) else (foliotlaw02_StampNext.j0 k bt258.2.2.2.2.2.2.2 bt258.1 bt258.2.1 bt258.2.2.1 bt258.2.2.2.1 bt258.2.2.2.2.1 bt258.2.2.2.2.2.1 bt258.2.2.2.2.2.2.1 a0_0 (IntKind.u64.wrap (a0_1 + 4294967296))))) else (some false)) = some r := H
  have A2 := Aside0.mk A20
  clear A20
  by_cases c3 : t257 = true
  · subst c3
    have H1 : ((stamp_OfDate.f a0_0 a0_1).bind fun bt258 => (if (IntKind.u64.wrap (a0_1 + 4294967296)) < a0_1 then (foliotlaw02_StampNext.j0 k bt258.2.2.2.2.2.2.2 bt258.1 bt258.2.1 bt258.2.2.1 bt258.2.2.2.1 bt258.2.2.2.2.1 bt258.2.2.2.2.2.1 bt258.2.2.2.2.2.2.1 (wrap64 (a0_0 + 1)) (IntKind.u64.wrap (a0_1 + 4294967296))) else (foliotlaw02_StampNext.j0 k bt258.2.2.2.2.2.2.2 bt258.1 bt258.2.1 bt258.2.2.1 bt258.2.2.2.1 bt258.2.2.2.2.1 bt258.2.2.2.2.2.1 bt258.2.2.2.2.2.2.1 a0_0 (IntKind.u64.wrap (a0_1 + 4294967296))))) = some r := by rw [if_pos rfl] at H; exact H
    clear H
    have H := H1
    clear H1
    replace H := Option.bind_eq_some_iff.mp H
    obtain ⟨⟨t258, t259, t260, t261, t262, t263, t264, t265⟩, A40, H⟩ := H
    replace H : (if (IntKind.u64.wrap (a0_1 + 4294967296)) < a0_1 then (foliotlaw02_StampNext.j0 k t265 t258 t259 t260 t261 t262 t263 t264 (wrap64 (a0_0 + 1)) (IntKind.u64.wrap (a0_1 + 4294967296))) else (foliotlaw02_StampNext.j0 k t265 t258 t259 t260 t261 t262 t263 t264 a0_0 (IntKind.u64.wrap (a0_1 + 4294967296)))) = some r := H
    have A4 := Aside0.mk A40
    clear A40
    have HC5 := Aside0.mk H
    clear H
    go_enter Try.func5, Try.ntmps5
    go_upto_if 26 with (first | ((with_reducible refine gate_dst (N := 1) rfl ?_); refine box_event ?hg (N := 1) ?hd (cs := #[.int .i64 a0_0, .int .u64 a0_1]) (t := 25) ?hr ?_; (case hd => rfl); (case hg => rfl); (case hr => first | (go_simp; done) | (go_simp; rfl)); intro gb256 hg w6 hbox hb; have n0_ := Aside0.mk (below_step (by repeat (first | (with_reducible first | exact HB.out | apply below_alloc | apply pw_below_drewN | apply below_drew1) | exact HB.out)) hb); have n1_ := Aside0.mk (hbox); have n2_ := Aside0.mk ((by rw [hg]; exact (below_size (by repeat (first | (with_reducible first | exact HB.out | apply below_alloc | apply pw_below_drewN | apply below_drew1) | exact HB.out))) : w.heap.size ≤ gb256)); have n3_ := Aside0.mk ((by rw [hg]; exact (below_size (by repeat (first | (with_reducible first | exact HB.out | apply below_alloc | apply pw_below_drewN | apply below_drew1) | exact HB.out))) : w.heap.size ≤ gb256)); clear HB; have HB := n0_; have BK256 := n1_; have GW256 := n2_; have GE256 := n3_; clear n0_ n1_ n2_ n3_; clear hb hbox hg) | ((with_reducible refine gate_callee (f := 13) rfl ?_); refine goesL_ (some 9) rfl rfl Try.func13 (by kernel_rfl) rfl #[] rfl (by (try simp only [List.map_toArray, List.map_cons, List.map_nil]); first | done | rfl | (simp only [List.length_drop, List.length_take]; rfl)) ?_; (with_reducible refine (foliotlaw02_shown.calls k  true _ A2.out).mono ?_); rintro e w7 ⟨rfl, hb⟩; refine ⟨_, rfl, ?_⟩; have n0_ := Aside0.mk (blk_below (g := gb256) (o := .cells #[.int .i64 a0_0, .int .u64 a0_1] 25 (0, 0)) (by (with_reducible repeat (first | refine blk_drewN ?_ _ | refine blk_drew ?_ | refine blk_alloc ?_ _)); exact BK256.out) hb); have n1_ := Aside0.mk (below_step (by repeat (first | (with_reducible first | exact HB.out | apply below_alloc | apply pw_below_drewN | apply below_drew1 | refine below_set ?_ GE256.out) | exact HB.out)) hb); clear BK256; clear HB; have BK256 := n0_; have HB := n1_; clear n0_ n1_; (try clear hb); (try clear hb2); (try clear hk); (try clear hi); have hcz8_0 : w7.cell? ⟨gb256, 0, none⟩ = some (.int .i64 a0_0) := (blk_cell BK256.out 0).trans rfl; have hcz8_1 : w7.cell? ⟨gb256, 1, none⟩ = some (.int .u64 a0_1) := (blk_cell BK256.out 1).trans rfl; have hfz8_0 := blk_frozen BK256.out 0; have hfz8_1 := blk_frozen BK256.out 1) | ((with_reducible refine gate_callee (f := 14) rfl ?_); refine goesL_ (some 13) rfl rfl Try.func14 (by kernel_rfl) rfl #[.agg #[.int .i64 a0_0, .int .u64 a0_1]] rfl (by (try simp only [List.map_toArray, List.map_cons, List.map_nil]); first | done | rfl | (simp only [List.length_drop, List.length_take]; rfl)) ?_; (with_reducible refine (stamp_OfDate.calls a0_0 a0_1 t258 t259 t260 t261 t262 t263 t264 t265 _ A4.out).mono ?_); rintro e w9 ⟨rfl, hb⟩; refine ⟨_, rfl, ?_⟩; have n0_ := Aside0.mk (blk_below (g := gb256) (o := .cells #[.int .i64 a0_0, .int .u64 a0_1] 25 (0, 0)) (by (with_reducible repeat (first | refine blk_drewN ?_ _ | refine blk_drew ?_ | refine blk_alloc ?_ _)); exact BK256.out) hb); have n1_ := Aside0.mk (below_step (by repeat (first | (with_reducible first | exact HB.out | apply below_alloc | apply pw_below_drewN | apply below_drew1 | refine below_set ?_ GE256.out) | exact HB.out)) hb); clear BK256; clear HB; have BK256 := n0_; have HB := n1_; clear n0_ n1_; (try clear hb); (try clear hb2); (try clear hk); (try clear hi)) | ((with_reducible refine gate_dst (N := 3) rfl ?_); refine box_event ?hg (N := 3) ?hd (cs := #[.int .i64 0, .int .i64 0, .int .i64 0, .int .i64 0, .int .i64 0, .int .i64 0, .int .u32 0]) (t := 28) ?hr ?_; (case hd => rfl); (case hg => rfl); (case hr => first | (go_simp; done) | (go_simp; rfl)); intro gb266 hg w10 hbox hb; have n0_ := Aside0.mk (blk_below (g := gb256) (o := .cells #[.int .i64 a0_0, .int .u64 a0_1] 25 (0, 0)) (by (with_reducible repeat (first | refine blk_drewN ?_ _ | refine blk_drew ?_ | refine blk_alloc ?_ _)); exact BK256.out) hb); have n1_ := Aside0.mk (below_step (by repeat (first | (with_reducible first | exact HB.out | apply below_alloc | apply pw_below_drewN | apply below_drew1 | refine below_set ?_ GE256.out) | exact HB.out)) hb); have n2_ := Aside0.mk (hbox); have n3_ := Aside0.mk ((by rw [hg]; exact (below_size (by repeat (first | (with_reducible first | exact HB.out | apply below_alloc | apply pw_below_drewN | apply below_drew1 | refine below_set ?_ GE256.out) | exact HB.out))) : w.heap.size ≤ gb266)); have n4_ := Aside0.mk ((by rw [hg]; exact (below_size (by repeat (first | (with_reducible first | exact HB.out | apply below_alloc | apply pw_below_drewN | apply below_drew1 | refine below_set ?_ GE256.out) | exact HB.out))) : w.heap.size ≤ gb266)); have n5_ := Aside0.mk ((by rw [hg]; exact Nat.ne_of_lt (blk_lt (g := gb256) (o := .cells #[.int .i64 a0_0, .int .u64 a0_1] 25 (0, 0)) (by (with_reducible repeat (first | refine blk_drewN ?_ _ | refine blk_drew ?_ | refine blk_alloc ?_ _)); exact BK256.out)) : gb256 ≠ gb266)); have n6_ := Aside0.mk ((by rw [hg]; exact Nat.ne_of_gt (blk_lt (g := gb256) (o := .cells #[.int .i64 a0_0, .int .u64 a0_1] 25 (0, 0)) (by (with_reducible repeat (first | refine blk_drewN ?_ _ | refine blk_drew ?_ | refine blk_alloc ?_ _)); exact BK256.out)) : gb266 ≠ gb256)); clear BK256; clear HB; have BK256 := n0_; have HB := n1_; have BK266 := n2_; have GW266 := n3_; have GE266 := n4_; have NB256_266 := n5_; have NB266_256 := n6_; clear n0_ n1_ n2_ n3_ n4_ n5_ n6_; clear hb hbox hg; have hnb11 := NB266_256.out; have hnc11 := NB256_266.out; have hcz12_0 : w10.cell? ⟨gb266, 0, none⟩ = some (.int .i64 0) := (blk_cell BK266.out 0).trans rfl; have hcz12_1 : w10.cell? ⟨gb266, 1, none⟩ = some (.int .i64 0) := (blk_cell BK266.out 1).trans rfl; have hcz12_2 : w10.cell? ⟨gb266, 2, none⟩ = some (.int .i64 0) := (blk_cell BK266.out 2).trans rfl; have hcz12_3 : w10.cell? ⟨gb266, 3, none⟩ = some (.int .i64 0) := (blk_cell BK266.out 3).trans rfl; have hcz12_4 : w10.cell? ⟨gb266, 4, none⟩ = some (.int .i64 0) := (blk_cell BK266.out 4).trans rfl; have hcz12_5 : w10.cell? ⟨gb266, 5, none⟩ = some (.int .i64 0) := (blk_cell BK266.out 5).trans rfl; have hcz12_6 : w10.cell? ⟨gb266, 6, none⟩ = some (.int .u32 0) := (blk_cell BK266.out 6).trans rfl; have hfz12_0 := blk_frozen BK266.out 0; have hfz12_1 := blk_frozen BK266.out 1; have hfz12_2 := blk_frozen BK266.out 2; have hfz12_3 := blk_frozen BK266.out 3; have hfz12_4 := blk_frozen BK266.out 4; have hfz12_5 := blk_frozen BK266.out 5; have hfz12_6 := blk_frozen BK266.out 6; have hcz13_0 : w10.cell? ⟨gb256, 0, none⟩ = some (.int .i64 a0_0) := (blk_cell BK256.out 0).trans rfl; have hcz13_1 : w10.cell? ⟨gb256, 1, none⟩ = some (.int .u64 a0_1) := (blk_cell BK256.out 1).trans rfl; have hfz13_0 := blk_frozen BK256.out 0; have hfz13_1 := blk_frozen BK256.out 1) | ((with_reducible refine gate_dst (N := 5) rfl ?_); refine box_event ?hg (N := 5) ?hd (cs := #[.int .i64 0, .int .u64 0]) (t := 25) ?hr ?_; (case hd => rfl); (case hg => rfl); (case hr => first | (go_simp; done) | (go_simp; rfl)); intro gb267 hg w14 hbox hb; have n0_ := Aside0.mk (blk_below (g := gb256) (o := .cells #[.int .i64 a0_0, .int .u64 a0_1] 25 (0, 0)) (by (with_reducible repeat (first | refine blk_drewN ?_ _ | refine blk_drew ?_ | refine blk_alloc ?_ _)); refine blk_far ?_ NB256_266.out _; (with_reducible repeat (first | refine blk_drewN ?_ _ | refine blk_drew ?_ | refine blk_alloc ?_ _)); refine blk_far ?_ NB256_266.out _; (with_reducible repeat (first | refine blk_drewN ?_ _ | refine blk_drew ?_ | refine blk_alloc ?_ _)); refine blk_far ?_ NB256_266.out _; (with_reducible repeat (first | refine blk_drewN ?_ _ | refine blk_drew ?_ | refine blk_alloc ?_ _)); refine blk_far ?_ NB256_266.out _; (with_reducible repeat (first | refine blk_drewN ?_ _ | refine blk_drew ?_ | refine blk_alloc ?_ _)); refine blk_far ?_ NB256_266.out _; (with_reducible repeat (first | refine blk_drewN ?_ _ | refine blk_drew ?_ | refine blk_alloc ?_ _)); refine blk_far ?_ NB256_266.out _; (with_reducible repeat (first | refine blk_drewN ?_ _ | refine blk_drew ?_ | refine blk_alloc ?_ _)); refine blk_far ?_ NB256_266.out _; (with_reducible repeat (first | refine blk_drewN ?_ _ | refine blk_drew ?_ | refine blk_alloc ?_ _)); exact BK256.out) hb); have n1_ := Aside0.mk (blk_below (g := gb266) (o := .cells #[.int .i64 t258, .int .i64 t259, .int .i64 t260, .int .i64 t261, .int .i64 t262, .int .i64 t263, .int .u32 t264] 28 (0, 0)) (by (with_reducible repeat (first | refine blk_drewN ?_ _ | refine blk_drew ?_ | refine blk_alloc ?_ _)); refine blk_put (cs := #[.int .i64 t258, .int .i64 t259, .int .i64 t260, .int .i64 t261, .int .i64 t262, .int .i64 t263, .int .u32 0]) ?_ 6 _ rfl; (with_reducible repeat (first | refine blk_drewN ?_ _ | refine blk_drew ?_ | refine blk_alloc ?_ _)); refine blk_put (cs := #[.int .i64 t258, .int .i64 t259, .int .i64 t260, .int .i64 t261, .int .i64 t262, .int .i64 0, .int .u32 0]) ?_ 5 _ rfl; (with_reducible repeat (first | refine blk_drewN ?_ _ | refine blk_drew ?_ | refine blk_alloc ?_ _)); refine blk_put (cs := #[.int .i64 t258, .int .i64 t259, .int .i64 t260, .int .i64 t261, .int .i64 0, .int .i64 0, .int .u32 0]) ?_ 4 _ rfl; (with_reducible repeat (first | refine blk_drewN ?_ _ | refine blk_drew ?_ | refine blk_alloc ?_ _)); refine blk_put (cs := #[.int .i64 t258, .int .i64 t259, .int .i64 t260, .int .i64 0, .int .i64 0, .int .i64 0, .int .u32 0]) ?_ 3 _ rfl; (with_reducible repeat (first | refine blk_drewN ?_ _ | refine blk_drew ?_ | refine blk_alloc ?_ _)); refine blk_put (cs := #[.int .i64 t258, .int .i64 t259, .int .i64 0, .int .i64 0, .int .i64 0, .int .i64 0, .int .u32 0]) ?_ 2 _ rfl; (with_reducible repeat (first | refine blk_drewN ?_ _ | refine blk_drew ?_ | refine blk_alloc ?_ _)); refine blk_put (cs := #[.int .i64 t258, .int .i64 0, .int .i64 0, .int .i64 0, .int .i64 0, .int .i64 0, .int .u32 0]) ?_ 1 _ rfl; (with_reducible repeat (first | refine blk_drewN ?_ _ | refine blk_drew ?_ | refine blk_alloc ?_ _)); refine blk_put (cs := #[.int .i64 0, .int .i64 0, .int .i64 0, .int .i64 0, .int .i64 0, .int .i64 0, .int .u32 0]) ?_ 0 _ rfl; (with_reducible repeat (first | refine blk_drewN ?_ _ | refine blk_drew ?_ | refine blk_alloc ?_ _)); exact BK266.out) hb); have n2_ := Aside0.mk (below_step (by repeat (first | (with_reducible first | exact HB.out | apply below_alloc | apply pw_below_drewN | apply below_drew1 | refine below_set ?_ GE256.out | refine below_set ?_ GE266.out) | exact HB.out)) hb); have n3_ := Aside0.mk (hbox); have n4_ := Aside0.mk ((by rw [hg]; exact (below_size (by repeat (first | (with_reducible first | exact HB.out | apply below_alloc | apply pw_below_drewN | apply below_drew1 | refine below_set ?_ GE256.out | refine below_set ?_ GE266.out) | exact HB.out))) : w.heap.size ≤ gb267)); have n5_ := Aside0.mk ((by rw [hg]; exact (below_size (by repeat (first | (with_reducible first | exact HB.out | apply below_alloc | apply pw_below_drewN | apply below_drew1 | refine below_set ?_ GE256.out | refine below_set ?_ GE266.out) | exact HB.out))) : w.heap.size ≤ gb267)); have n6_ := Aside0.mk ((by rw [hg]; exact Nat.ne_of_lt (blk_lt (g := gb256) (o := .cells #[.int .i64 a0_0, .int .u64 a0_1] 25 (0, 0)) (by (with_reducible repeat (first | refine blk_drewN ?_ _ | refine blk_drew ?_ | refine blk_alloc ?_ _)); refine blk_far ?_ NB256_266.out _; (with_reducible repeat (first | refine blk_drewN ?_ _ | refine blk_drew ?_ | refine blk_alloc ?_ _)); refine blk_far ?_ NB256_266.out _; (with_reducible repeat (first | refine blk_drewN ?_ _ | refine blk_drew ?_ | refine blk_alloc ?_ _)); refine blk_far ?_ NB256_266.out _; (with_reducible repeat (first | refine blk_drewN ?_ _ | refine blk_drew ?_ | refine blk_alloc ?_ _)); refine blk_far ?_ NB256_266.out _; (with_reducible repeat (first | refine blk_drewN ?_ _ | refine blk_drew ?_ | refine blk_alloc ?_ _)); refine blk_far ?_ NB256_266.out _; (with_reducible repeat (first | refine blk_drewN ?_ _ | refine blk_drew ?_ | refine blk_alloc ?_ _)); refine blk_far ?_ NB256_266.out _; (with_reducible repeat (first | refine blk_drewN ?_ _ | refine blk_drew ?_ | refine blk_alloc ?_ _)); refine blk_far ?_ NB256_266.out _; (with_reducible repeat (first | refine blk_drewN ?_ _ | refine blk_drew ?_ | refine blk_alloc ?_ _)); exact BK256.out)) : gb256 ≠ gb267)); have n7_ := Aside0.mk ((by rw [hg]; exact Nat.ne_of_gt (blk_lt (g := gb256) (o := .cells #[.int .i64 a0_0, .int .u64 a0_1] 25 (0, 0)) (by (with_reducible repeat (first | refine blk_drewN ?_ _ | refine blk_drew ?_ | refine blk_alloc ?_ _)); refine blk_far ?_ NB256_266.out _; (with_reducible repeat (first | refine blk_drewN ?_ _ | refine blk_drew ?_ | refine blk_alloc ?_ _)); refine blk_far ?_ NB256_266.out _; (with_reducible repeat (first | refine blk_drewN ?_ _ | refine blk_drew ?_ | refine blk_alloc ?_ _)); refine blk_far ?_ NB256_266.out _; (with_reducible repeat (first | refine blk_drewN ?_ _ | refine blk_drew ?_ | refine blk_alloc ?_ _)); refine blk_far ?_ NB256_266.out _; (with_reducible repeat (first | refine blk_drewN ?_ _ | refine blk_drew ?_ | refine blk_alloc ?_ _)); refine blk_far ?_ NB256_266.out _; (with_reducible repeat (first | refine blk_drewN ?_ _ | refine blk_drew ?_ | refine blk_alloc ?_ _)); refine blk_far ?_ NB256_266.out _; (with_reducible repeat (first | refine blk_drewN ?_ _ | refine blk_drew ?_ | refine blk_alloc ?_ _)); refine blk_far ?_ NB256_266.out _; (with_reducible repeat (first | refine blk_drewN ?_ _ | refine blk_drew ?_ | refine blk_alloc ?_ _)); exact BK256.out)) : gb267 ≠ gb256)); have n8_ := Aside0.mk ((by rw [hg]; exact Nat.ne_of_lt (blk_lt (g := gb266) (o := .cells #[.int .i64 t258, .int .i64 t259, .int .i64 t260, .int .i64 t261, .int .i64 t262, .int .i64 t263, .int .u32 t264] 28 (0, 0)) (by (with_reducible repeat (first | refine blk_drewN ?_ _ | refine blk_drew ?_ | refine blk_alloc ?_ _)); refine blk_put (cs := #[.int .i64 t258, .int .i64 t259, .int .i64 t260, .int .i64 t261, .int .i64 t262, .int .i64 t263, .int .u32 0]) ?_ 6 _ rfl; (with_reducible repeat (first | refine blk_drewN ?_ _ | refine blk_drew ?_ | refine blk_alloc ?_ _)); refine blk_put (cs := #[.int .i64 t258, .int .i64 t259, .int .i64 t260, .int .i64 t261, .int .i64 t262, .int .i64 0, .int .u32 0]) ?_ 5 _ rfl; (with_reducible repeat (first | refine blk_drewN ?_ _ | refine blk_drew ?_ | refine blk_alloc ?_ _)); refine blk_put (cs := #[.int .i64 t258, .int .i64 t259, .int .i64 t260, .int .i64 t261, .int .i64 0, .int .i64 0, .int .u32 0]) ?_ 4 _ rfl; (with_reducible repeat (first | refine blk_drewN ?_ _ | refine blk_drew ?_ | refine blk_alloc ?_ _)); refine blk_put (cs := #[.int .i64 t258, .int .i64 t259, .int .i64 t260, .int .i64 0, .int .i64 0, .int .i64 0, .int .u32 0]) ?_ 3 _ rfl; (with_reducible repeat (first | refine blk_drewN ?_ _ | refine blk_drew ?_ | refine blk_alloc ?_ _)); refine blk_put (cs := #[.int .i64 t258, .int .i64 t259, .int .i64 0, .int .i64 0, .int .i64 0, .int .i64 0, .int .u32 0]) ?_ 2 _ rfl; (with_reducible repeat (first | refine blk_drewN ?_ _ | refine blk_drew ?_ | refine blk_alloc ?_ _)); refine blk_put (cs := #[.int .i64 t258, .int .i64 0, .int .i64 0, .int .i64 0, .int .i64 0, .int .i64 0, .int .u32 0]) ?_ 1 _ rfl; (with_reducible repeat (first | refine blk_drewN ?_ _ | refine blk_drew ?_ | refine blk_alloc ?_ _)); refine blk_put (cs := #[.int .i64 0, .int .i64 0, .int .i64 0, .int .i64 0, .int .i64 0, .int .i64 0, .int .u32 0]) ?_ 0 _ rfl; (with_reducible repeat (first | refine blk_drewN ?_ _ | refine blk_drew ?_ | refine blk_alloc ?_ _)); exact BK266.out)) : gb266 ≠ gb267)); have n9_ := Aside0.mk ((by rw [hg]; exact Nat.ne_of_gt (blk_lt (g := gb266) (o := .cells #[.int .i64 t258, .int .i64 t259, .int .i64 t260, .int .i64 t261, .int .i64 t262, .int .i64 t263, .int .u32 t264] 28 (0, 0)) (by (with_reducible repeat (first | refine blk_drewN ?_ _ | refine blk_drew ?_ | refine blk_alloc ?_ _)); refine blk_put (cs := #[.int .i64 t258, .int .i64 t259, .int .i64 t260, .int .i64 t261, .int .i64 t262, .int .i64 t263, .int .u32 0]) ?_ 6 _ rfl; (with_reducible repeat (first | refine blk_drewN ?_ _ | refine blk_drew ?_ | refine blk_alloc ?_ _)); refine blk_put (cs := #[.int .i64 t258, .int .i64 t259, .int .i64 t260, .int .i64 t261, .int .i64 t262, .int .i64 0, .int .u32 0]) ?_ 5 _ rfl; (with_reducible repeat (first | refine blk_drewN ?_ _ | refine blk_drew ?_ | refine blk_alloc ?_ _)); refine blk_put (cs := #[.int .i64 t258, .int .i64 t259, .int .i64 t260, .int .i64 t261, .int .i64 0, .int .i64 0, .int .u32 0]) ?_ 4 _ rfl; (with_reducible repeat (first | refine blk_drewN ?_ _ | refine blk_drew ?_ | refine blk_alloc ?_ _)); refine blk_put (cs := #[.int .i64 t258, .int .i64 t259, .int .i64 t260, .int .i64 0, .int .i64 0, .int .i64 0, .int .u32 0]) ?_ 3 _ rfl; (with_reducible repeat (first | refine blk_drewN ?_ _ | refine blk_drew ?_ | refine blk_alloc ?_ _)); refine blk_put (cs := #[.int .i64 t258, .int .i64 t259, .int .i64 0, .int .i64 0, .int .i64 0, .int .i64 0, .int .u32 0]) ?_ 2 _ rfl; (with_reducible repeat (first | refine blk_drewN ?_ _ | refine blk_drew ?_ | refine blk_alloc ?_ _)); refine blk_put (cs := #[.int .i64 t258, .int .i64 0, .int .i64 0, .int .i64 0, .int .i64 0, .int .i64 0, .int .u32 0]) ?_ 1 _ rfl; (with_reducible repeat (first | refine blk_drewN ?_ _ | refine blk_drew ?_ | refine blk_alloc ?_ _)); refine blk_put (cs := #[.int .i64 0, .int .i64 0, .int .i64 0, .int .i64 0, .int .i64 0, .int .i64 0, .int .u32 0]) ?_ 0 _ rfl; (with_reducible repeat (first | refine blk_drewN ?_ _ | refine blk_drew ?_ | refine blk_alloc ?_ _)); exact BK266.out)) : gb267 ≠ gb266)); clear BK256; clear BK266; clear HB; have BK256 := n0_; have BK266 := n1_; have HB := n2_; have BK267 := n3_; have GW267 := n4_; have GE267 := n5_; have NB256_267 := n6_; have NB267_256 := n7_; have NB266_267 := n8_; have NB267_266 := n9_; clear n0_ n1_ n2_ n3_ n4_ n5_ n6_ n7_ n8_ n9_; clear hb hbox hg; have hnb15 := NB267_256.out; have hnc15 := NB256_267.out; have hnb16 := NB267_266.out; have hnc16 := NB266_267.out; have hcz17_0 : w14.cell? ⟨gb267, 0, none⟩ = some (.int .i64 0) := (blk_cell BK267.out 0).trans rfl; have hcz17_1 : w14.cell? ⟨gb267, 1, none⟩ = some (.int .u64 0) := (blk_cell BK267.out 1).trans rfl; have hfz17_0 := blk_frozen BK267.out 0; have hfz17_1 := blk_frozen BK267.out 1; have hcz18_0 : w14.cell? ⟨gb256, 0, none⟩ = some (.int .i64 a0_0) := (blk_cell BK256.out 0).trans rfl; have hcz18_1 : w14.cell? ⟨gb256, 1, none⟩ = some (.int .u64 a0_1) := (blk_cell BK256.out 1).trans rfl; have hfz18_0 := blk_frozen BK256.out 0; have hfz18_1 := blk_frozen BK256.out 1))
    (try simp only [Act.put, List.setIfInBounds_toArray, List.set_cons_zero, List.set_cons_succ])
    go_cut [] (fun wc => ∃ (kq : Nat) (x268000_4 : Int), Aside0 (foliotlaw02_StampNext.j0 kq t265 t258 t259 t260 t261 t262 t263 t264 x268000_4 (IntKind.u64.wrap (a0_1 + 4294967296)) = some r) ∧ Aside0 (kq ≤ k) ∧ Aside0 (wc.heap[gb256]? = some (.cells #[.int .i64 a0_0, .int .u64 a0_1] 25 (0, 0))) ∧ Aside0 (wc.heap[gb266]? = some (.cells #[.int .i64 t258, .int .i64 t259, .int .i64 t260, .int .i64 t261, .int .i64 t262, .int .i64 t263, .int .u32 t264] 28 (0, 0))) ∧ Aside0 (wc.heap[gb267]? = some (.cells #[.int .i64 x268000_4, .int .u64 (IntKind.u64.wrap (a0_1 + 4294967296))] 25 (0, 0))) ∧ Aside0 (Below w.heap.size w wc))
    case first =>
      have H := HC5.out
      clear HC5
      by_cases c19 : (IntKind.u64.wrap (a0_1 + 4294967296)) < a0_1
      · as_aux_lemma =>
        rw [if_pos c19] at H
        have c19b0 : decide ((IntKind.u64.wrap (a0_1 + 4294967296)) < a0_1) = true := decide_eq_true c19
        clear c19
        (first | rw [c19b0] | (simp only [i64_w, i32_w]; rw [c19b0]) | skip)
        have H' := Aside0.mk H
        clear H
        have hnb20 := NB267_256.out
        have hnc20 := NB256_267.out
        have hnb21 := NB267_266.out
        have hnc21 := NB266_267.out
        have hcz22_0 : w14.cell? ⟨gb267, 0, none⟩ = some (.int .i64 0) := (blk_cell BK267.out 0).trans rfl
        have hcz22_1 : w14.cell? ⟨gb267, 1, none⟩ = some (.int .u64 0) := (blk_cell BK267.out 1).trans rfl
        have hfz22_0 := blk_frozen BK267.out 0
        have hfz22_1 := blk_frozen BK267.out 1
        go_wp2
        go_meet
        case rel => exact ⟨_, (wrap64 (a0_0 + 1)), H', ⟨by first | omega | exact Nat.le_refl _⟩, ⟨by (with_reducible repeat (first | refine blk_drewN ?_ _ | refine blk_drew ?_ | refine blk_alloc ?_ _)); refine blk_far ?_ NB256_267.out _; (with_reducible repeat (first | refine blk_drewN ?_ _ | refine blk_drew ?_ | refine blk_alloc ?_ _)); refine blk_far ?_ NB256_267.out _; (with_reducible repeat (first | refine blk_drewN ?_ _ | refine blk_drew ?_ | refine blk_alloc ?_ _)); refine blk_far ?_ NB256_267.out _; (with_reducible repeat (first | refine blk_drewN ?_ _ | refine blk_drew ?_ | refine blk_alloc ?_ _)); exact BK256.out⟩, ⟨by (with_reducible repeat (first | refine blk_drewN ?_ _ | refine blk_drew ?_ | refine blk_alloc ?_ _)); refine blk_far ?_ NB266_267.out _; (with_reducible repeat (first | refine blk_drewN ?_ _ | refine blk_drew ?_ | refine blk_alloc ?_ _)); refine blk_far ?_ NB266_267.out _; (with_reducible repeat (first | refine blk_drewN ?_ _ | refine blk_drew ?_ | refine blk_alloc ?_ _)); refine blk_far ?_ NB266_267.out _; (with_reducible repeat (first | refine blk_drewN ?_ _ | refine blk_drew ?_ | refine blk_alloc ?_ _)); exact BK266.out⟩, ⟨by (with_reducible repeat (first | refine blk_drewN ?_ _ | refine blk_drew ?_ | refine blk_alloc ?_ _)); refine blk_put (cs := #[.int .i64 a0_0, .int .u64 (IntKind.u64.wrap (a0_1 + 4294967296))]) ?_ 0 _ rfl; (with_reducible repeat (first | refine blk_drewN ?_ _ | refine blk_drew ?_ | refine blk_alloc ?_ _)); refine blk_put (cs := #[.int .i64 a0_0, .int .u64 0]) ?_ 1 _ rfl; (with_reducible repeat (first | refine blk_drewN ?_ _ | refine blk_drew ?_ | refine blk_alloc ?_ _)); refine blk_put (cs := #[.int .i64 0, .int .u64 0]) ?_ 0 _ rfl; (with_reducible repeat (first | refine blk_drewN ?_ _ | refine blk_drew ?_ | refine blk_alloc ?_ _)); exact BK267.out⟩, ⟨by repeat (first | (with_reducible first | exact HB.out | apply below_alloc | apply pw_below_drewN | apply below_drew1 | refine below_set ?_ GE256.out | refine below_set ?_ GE266.out | refine below_set ?_ GE267.out) | exact HB.out)⟩⟩
      · as_aux_lemma =>
        rw [if_neg c19] at H
        have c19b0 : decide ((IntKind.u64.wrap (a0_1 + 4294967296)) < a0_1) = false := decide_eq_false c19
        clear c19
        (first | rw [c19b0] | (simp only [i64_w, i32_w]; rw [c19b0]) | skip)
        have H' := Aside0.mk H
        clear H
        go_wp2
        go_meet
        case rel => exact ⟨_, (a0_0), H', ⟨by first | omega | exact Nat.le_refl _⟩, ⟨by (with_reducible repeat (first | refine blk_drewN ?_ _ | refine blk_drew ?_ | refine blk_alloc ?_ _)); refine blk_far ?_ NB256_267.out _; (with_reducible repeat (first | refine blk_drewN ?_ _ | refine blk_drew ?_ | refine blk_alloc ?_ _)); refine blk_far ?_ NB256_267.out _; (with_reducible repeat (first | refine blk_drewN ?_ _ | refine blk_drew ?_ | refine blk_alloc ?_ _)); exact BK256.out⟩, ⟨by (with_reducible repeat (first | refine blk_drewN ?_ _ | refine blk_drew ?_ | refine blk_alloc ?_ _)); refine blk_far ?_ NB266_267.out _; (with_reducible repeat (first | refine blk_drewN ?_ _ | refine blk_drew ?_ | refine blk_alloc ?_ _)); refine blk_far ?_ NB266_267.out _; (with_reducible repeat (first | refine blk_drewN ?_ _ | refine blk_drew ?_ | refine blk_alloc ?_ _)); exact BK266.out⟩, ⟨by (with_reducible repeat (first | refine blk_drewN ?_ _ | refine blk_drew ?_ | refine blk_alloc ?_ _)); refine blk_put (cs := #[.int .i64 a0_0, .int .u64 0]) ?_ 1 _ rfl; (with_reducible repeat (first | refine blk_drewN ?_ _ | refine blk_drew ?_ | refine blk_alloc ?_ _)); refine blk_put (cs := #[.int .i64 0, .int .u64 0]) ?_ 0 _ rfl; (with_reducible repeat (first | refine blk_drewN ?_ _ | refine blk_drew ?_ | refine blk_alloc ?_ _)); exact BK267.out⟩, ⟨by repeat (first | (with_reducible first | exact HB.out | apply below_alloc | apply pw_below_drewN | apply below_drew1 | refine below_set ?_ GE256.out | refine below_set ?_ GE266.out | refine below_set ?_ GE267.out) | exact HB.out)⟩⟩
    case rest =>
      clear HC5
      try clear c1
      try clear c2
      try clear p2
      try clear c3
      try clear c5
      try clear p6
      try clear c11
      try clear c13
      try clear c14
      try clear c15
      try clear c16
      try clear c19
      try clear c19b0
      try clear c20
      try clear c21
      try clear hcz12_0
      try clear hcz12_1
      try clear hcz12_2
      try clear hcz12_3
      try clear hcz12_4
      try clear hcz12_5
      try clear hcz12_6
      try clear hcz13_0
      try clear hcz13_1
      try clear hcz17_0
      try clear hcz17_1
      try clear hcz18_0
      try clear hcz18_1
      try clear hcz22_0
      try clear hcz22_1
      try clear hcz8_0
      try clear hcz8_1
      try clear hfz12_0
      try clear hfz12_1
      try clear hfz12_2
      try clear hfz12_3
      try clear hfz12_4
      try clear hfz12_5
      try clear hfz12_6
      try clear hfz13_0
      try clear hfz13_1
      try clear hfz17_0
      try clear hfz17_1
      try clear hfz18_0
      try clear hfz18_1
      try clear hfz22_0
      try clear hfz22_1
      try clear hfz8_0
      try clear hfz8_1
      obtain ⟨kq, x268000_4, HA, HJ4, BK256, BK266, BK267, HB⟩ := hcut
      cases kq with
      | zero => exact absurd HA.out (by simp [foliotlaw02_StampNext.j0])
      | succ kj4 =>
        have H := HA.out
        clear HA
        simp only [foliotlaw02_StampNext.j0] at H
        replace H := Option.bind_eq_some_iff.mp H
        obtain ⟨⟨t268, t269, t270, t271, t272, t273, t274, t275⟩, A230, H⟩ := H
        replace H : (if t265 = 0 then (foliotlaw02_StampNext.j1 kj4 (t275 != 0) t258 t259 t260 t261 t262 t263 t264 t268 t269 t270 t271 t272 t273 t274) else (foliotlaw02_StampNext.j1 kj4 true t258 t259 t260 t261 t262 t263 t264 t268 t269 t270 t271 t272 t273 t274)) = some r := H
        have A23 := Aside0.mk A230
        clear A230
        have HC24 := Aside0.mk H
        clear H
        have hnb25 := NB267_256.out
        have hnc25 := NB256_267.out
        have hnb26 := NB267_266.out
        have hnc26 := NB266_267.out
        have hcz27_0 : wc.cell? ⟨gb267, 0, none⟩ = some (.int .i64 x268000_4) := (blk_cell BK267.out 0).trans rfl
        have hcz27_1 : wc.cell? ⟨gb267, 1, none⟩ = some (.int .u64 (IntKind.u64.wrap (a0_1 + 4294967296))) := (blk_cell BK267.out 1).trans rfl
        have hfz27_0 := blk_frozen BK267.out 0
        have hfz27_1 := blk_frozen BK267.out 1
        go_upto_region 8 with (first | ((with_reducible refine gate_callee (f := 14) rfl ?_); refine goesL_ (some 33) rfl rfl Try.func14 (by kernel_rfl) rfl #[.agg #[.int .i64 x268000_4, .int .u64 (IntKind.u64.wrap (a0_1 + 4294967296))]] rfl (by (try simp only [List.map_toArray, List.map_cons, List.map_nil]); first | done | rfl | (simp only [List.length_drop, List.length_take]; rfl)) ?_; (with_reducible refine (stamp_OfDate.calls x268000_4 (IntKind.u64.wrap (a0_1 + 4294967296)) t268 t269 t270 t271 t272 t273 t274 t275 _ A23.out).mono ?_); rintro e w28 ⟨rfl, hb⟩; refine ⟨_, rfl, ?_⟩; have n0_ := Aside0.mk (blk_below (g := gb256) (o := .cells #[.int .i64 a0_0, .int .u64 a0_1] 25 (0, 0)) (by (with_reducible repeat (first | refine blk_drewN ?_ _ | refine blk_drew ?_ | refine blk_alloc ?_ _)); exact BK256.out) hb); have n1_ := Aside0.mk (blk_below (g := gb266) (o := .cells #[.int .i64 t258, .int .i64 t259, .int .i64 t260, .int .i64 t261, .int .i64 t262, .int .i64 t263, .int .u32 t264] 28 (0, 0)) (by (with_reducible repeat (first | refine blk_drewN ?_ _ | refine blk_drew ?_ | refine blk_alloc ?_ _)); exact BK266.out) hb); have n2_ := Aside0.mk (blk_below (g := gb267) (o := .cells #[.int .i64 x268000_4, .int .u64 (IntKind.u64.wrap (a0_1 + 4294967296))] 25 (0, 0)) (by (with_reducible repeat (first | refine blk_drewN ?_ _ | refine blk_drew ?_ | refine blk_alloc ?_ _)); exact BK267.out) hb); have n3_ := Aside0.mk (below_step (by repeat (first | (with_reducible first | exact HB.out | apply below_alloc | apply pw_below_drewN | apply below_drew1 | refine below_set ?_ GE256.out | refine below_set ?_ GE266.out | refine below_set ?_ GE267.out) | exact HB.out)) hb); clear BK256; clear BK266; clear BK267; clear HB; have BK256 := n0_; have BK266 := n1_; have BK267 := n2_; have HB := n3_; clear n0_ n1_ n2_ n3_; (try clear hb); (try clear hb2); (try clear hk); (try clear hi)) | ((with_reducible refine gate_dst (N := 6) rfl ?_); refine box_event ?hg (N := 6) ?hd (cs := #[.int .i64 0, .int .i64 0, .int .i64 0, .int .i64 0, .int .i64 0, .int .i64 0, .int .u32 0]) (t := 28) ?hr ?_; (case hd => rfl); (case hg => rfl); (case hr => first | (go_simp; done) | (go_simp; rfl)); intro gb276 hg w29 hbox hb; have n0_ := Aside0.mk (blk_below (g := gb256) (o := .cells #[.int .i64 a0_0, .int .u64 a0_1] 25 (0, 0)) (by (with_reducible repeat (first | refine blk_drewN ?_ _ | refine blk_drew ?_ | refine blk_alloc ?_ _)); exact BK256.out) hb); have n1_ := Aside0.mk (blk_below (g := gb266) (o := .cells #[.int .i64 t258, .int .i64 t259, .int .i64 t260, .int .i64 t261, .int .i64 t262, .int .i64 t263, .int .u32 t264] 28 (0, 0)) (by (with_reducible repeat (first | refine blk_drewN ?_ _ | refine blk_drew ?_ | refine blk_alloc ?_ _)); exact BK266.out) hb); have n2_ := Aside0.mk (blk_below (g := gb267) (o := .cells #[.int .i64 x268000_4, .int .u64 (IntKind.u64.wrap (a0_1 + 4294967296))] 25 (0, 0)) (by (with_reducible repeat (first | refine blk_drewN ?_ _ | refine blk_drew ?_ | refine blk_alloc ?_ _)); exact BK267.out) hb); have n3_ := Aside0.mk (below_step (by repeat (first | (with_reducible first | exact HB.out | apply below_alloc | apply pw_below_drewN | apply below_drew1 | refine below_set ?_ GE256.out | refine below_set ?_ GE266.out | refine below_set ?_ GE267.out) | exact HB.out)) hb); have n4_ := Aside0.mk (hbox); have n5_ := Aside0.mk ((by rw [hg]; exact (below_size (by repeat (first | (with_reducible first | exact HB.out | apply below_alloc | apply pw_below_drewN | apply below_drew1 | refine below_set ?_ GE256.out | refine below_set ?_ GE266.out | refine below_set ?_ GE267.out) | exact HB.out))) : w.heap.size ≤ gb276)); have n6_ := Aside0.mk ((by rw [hg]; exact (below_size (by repeat (first | (with_reducible first | exact HB.out | apply below_alloc | apply pw_below_drewN | apply below_drew1 | refine below_set ?_ GE256.out | refine below_set ?_ GE266.out | refine below_set ?_ GE267.out) | exact HB.out))) : w.heap.size ≤ gb276)); have n7_ := Aside0.mk ((by rw [hg]; exact Nat.ne_of_lt (blk_lt (g := gb256) (o := .cells #[.int .i64 a0_0, .int .u64 a0_1] 25 (0, 0)) (by (with_reducible repeat (first | refine blk_drewN ?_ _ | refine blk_drew ?_ | refine blk_alloc ?_ _)); exact BK256.out)) : gb256 ≠ gb276)); have n8_ := Aside0.mk ((by rw [hg]; exact Nat.ne_of_gt (blk_lt (g := gb256) (o := .cells #[.int .i64 a0_0, .int .u64 a0_1] 25 (0, 0)) (by (with_reducible repeat (first | refine blk_drewN ?_ _ | refine blk_drew ?_ | refine blk_alloc ?_ _)); exact BK256.out)) : gb276 ≠ gb256)); have n9_ := Aside0.mk ((by rw [hg]; exact Nat.ne_of_lt (blk_lt (g := gb266) (o := .cells #[.int .i64 t258, .int .i64 t259, .int .i64 t260, .int .i64 t261, .int .i64 t262, .int .i64 t263, .int .u32 t264] 28 (0, 0)) (by (with_reducible repeat (first | refine blk_drewN ?_ _ | refine blk_drew ?_ | refine blk_alloc ?_ _)); exact BK266.out)) : gb266 ≠ gb276)); have n10_ := Aside0.mk ((by rw [hg]; exact Nat.ne_of_gt (blk_lt (g := gb266) (o := .cells #[.int .i64 t258, .int .i64 t259, .int .i64 t260, .int .i64 t261, .int .i64 t262, .int .i64 t263, .int .u32 t264] 28 (0, 0)) (by (with_reducible repeat (first | refine blk_drewN ?_ _ | refine blk_drew ?_ | refine blk_alloc ?_ _)); exact BK266.out)) : gb276 ≠ gb266)); have n11_ := Aside0.mk ((by rw [hg]; exact Nat.ne_of_lt (blk_lt (g := gb267) (o := .cells #[.int .i64 x268000_4, .int .u64 (IntKind.u64.wrap (a0_1 + 4294967296))] 25 (0, 0)) (by (with_reducible repeat (first | refine blk_drewN ?_ _ | refine blk_drew ?_ | refine blk_alloc ?_ _)); exact BK267.out)) : gb267 ≠ gb276)); have n12_ := Aside0.mk ((by rw [hg]; exact Nat.ne_of_gt (blk_lt (g := gb267) (o := .cells #[.int .i64 x268000_4, .int .u64 (IntKind.u64.wrap (a0_1 + 4294967296))] 25 (0, 0)) (by (with_reducible repeat (first | refine blk_drewN ?_ _ | refine blk_drew ?_ | refine blk_alloc ?_ _)); exact BK267.out)) : gb276 ≠ gb267)); clear BK256; clear BK266; clear BK267; clear HB; have BK256 := n0_; have BK266 := n1_; have BK267 := n2_; have HB := n3_; have BK276 := n4_; have GW276 := n5_; have GE276 := n6_; have NB256_276 := n7_; have NB276_256 := n8_; have NB266_276 := n9_; have NB276_266 := n10_; have NB267_276 := n11_; have NB276_267 := n12_; clear n0_ n1_ n2_ n3_ n4_ n5_ n6_ n7_ n8_ n9_ n10_ n11_ n12_; clear hb hbox hg; have hnb30 := NB276_256.out; have hnc30 := NB256_276.out; have hnb31 := NB276_266.out; have hnc31 := NB266_276.out; have hnb32 := NB276_267.out; have hnc32 := NB267_276.out; have hcz33_0 : w29.cell? ⟨gb276, 0, none⟩ = some (.int .i64 0) := (blk_cell BK276.out 0).trans rfl; have hcz33_1 : w29.cell? ⟨gb276, 1, none⟩ = some (.int .i64 0) := (blk_cell BK276.out 1).trans rfl; have hcz33_2 : w29.cell? ⟨gb276, 2, none⟩ = some (.int .i64 0) := (blk_cell BK276.out 2).trans rfl; have hcz33_3 : w29.cell? ⟨gb276, 3, none⟩ = some (.int .i64 0) := (blk_cell BK276.out 3).trans rfl; have hcz33_4 : w29.cell? ⟨gb276, 4, none⟩ = some (.int .i64 0) := (blk_cell BK276.out 4).trans rfl; have hcz33_5 : w29.cell? ⟨gb276, 5, none⟩ = some (.int .i64 0) := (blk_cell BK276.out 5).trans rfl; have hcz33_6 : w29.cell? ⟨gb276, 6, none⟩ = some (.int .u32 0) := (blk_cell BK276.out 6).trans rfl; have hfz33_0 := blk_frozen BK276.out 0; have hfz33_1 := blk_frozen BK276.out 1; have hfz33_2 := blk_frozen BK276.out 2; have hfz33_3 := blk_frozen BK276.out 3; have hfz33_4 := blk_frozen BK276.out 4; have hfz33_5 := blk_frozen BK276.out 5; have hfz33_6 := blk_frozen BK276.out 6))
        (try simp only [Act.put, List.setIfInBounds_toArray, List.set_cons_zero, List.set_cons_succ])
        go_cut [41] (fun v41 wc => ∃ (kq : Nat) (x41_23 : Bool), v41 = .bool x41_23 ∧ Aside0 (foliotlaw02_StampNext.j1 kq x41_23 t258 t259 t260 t261 t262 t263 t264 t268 t269 t270 t271 t272 t273 t274 = some r) ∧ Aside0 (kq ≤ kj4) ∧ Aside0 (wc.heap[gb256]? = some (.cells #[.int .i64 a0_0, .int .u64 a0_1] 25 (0, 0))) ∧ Aside0 (wc.heap[gb266]? = some (.cells #[.int .i64 t258, .int .i64 t259, .int .i64 t260, .int .i64 t261, .int .i64 t262, .int .i64 t263, .int .u32 t264] 28 (0, 0))) ∧ Aside0 (wc.heap[gb267]? = some (.cells #[.int .i64 x268000_4, .int .u64 (IntKind.u64.wrap (a0_1 + 4294967296))] 25 (0, 0))) ∧ Aside0 (wc.heap[gb276]? = some (.cells #[.int .i64 t268, .int .i64 t269, .int .i64 t270, .int .i64 t271, .int .i64 t272, .int .i64 t273, .int .u32 t274] 28 (0, 0))) ∧ Aside0 (Below w.heap.size w wc))
        case first =>
          have H := HC24.out
          clear HC24
          by_cases c34 : t265 = 0
          · as_aux_lemma =>
            rw [if_pos c34] at H
            have c34b0 : (t265 == 0) = true := beq_iff_eq.mpr c34
            have c34b1 : (t265 != 0) = false := bne_eq_false_iff_eq.mpr c34
            clear c34
            (first | rw [c34b0] | (simp only [i64_w, i32_w]; rw [c34b0]) | skip)
            have H' := Aside0.mk H
            clear H
            go_wp2
            go_meet
            case rel => exact ⟨_, ((t275 != 0)), (by first | rfl | (simp; done) | (simp [*]; done)), H', ⟨by have := HJ4.out; first | omega | exact Nat.le_refl _⟩, ⟨by (with_reducible repeat (first | refine blk_drewN ?_ _ | refine blk_drew ?_ | refine blk_alloc ?_ _)); refine blk_far ?_ NB256_276.out _; (with_reducible repeat (first | refine blk_drewN ?_ _ | refine blk_drew ?_ | refine blk_alloc ?_ _)); refine blk_far ?_ NB256_276.out _; (with_reducible repeat (first | refine blk_drewN ?_ _ | refine blk_drew ?_ | refine blk_alloc ?_ _)); refine blk_far ?_ NB256_276.out _; (with_reducible repeat (first | refine blk_drewN ?_ _ | refine blk_drew ?_ | refine blk_alloc ?_ _)); refine blk_far ?_ NB256_276.out _; (with_reducible repeat (first | refine blk_drewN ?_ _ | refine blk_drew ?_ | refine blk_alloc ?_ _)); refine blk_far ?_ NB256_276.out _; (with_reducible repeat (first | refine blk_drewN ?_ _ | refine blk_drew ?_ | refine blk_alloc ?_ _)); refine blk_far ?_ NB256_276.out _; (with_reducible repeat (first | refine blk_drewN ?_ _ | refine blk_drew ?_ | refine blk_alloc ?_ _)); refine blk_far ?_ NB256_276.out _; (with_reducible repeat (first | refine blk_drewN ?_ _ | refine blk_drew ?_ | refine blk_alloc ?_ _)); exact BK256.out⟩, ⟨by (with_reducible repeat (first | refine blk_drewN ?_ _ | refine blk_drew ?_ | refine blk_alloc ?_ _)); refine blk_far ?_ NB266_276.out _; (with_reducible repeat (first | refine blk_drewN ?_ _ | refine blk_drew ?_ | refine blk_alloc ?_ _)); refine blk_far ?_ NB266_276.out _; (with_reducible repeat (first | refine blk_drewN ?_ _ | refine blk_drew ?_ | refine blk_alloc ?_ _)); refine blk_far ?_ NB266_276.out _; (with_reducible repeat (first | refine blk_drewN ?_ _ | refine blk_drew ?_ | refine blk_alloc ?_ _)); refine blk_far ?_ NB266_276.out _; (with_reducible repeat (first | refine blk_drewN ?_ _ | refine blk_drew ?_ | refine blk_alloc ?_ _)); refine blk_far ?_ NB266_276.out _; (with_reducible repeat (first | refine blk_drewN ?_ _ | refine blk_drew ?_ | refine blk_alloc ?_ _)); refine blk_far ?_ NB266_276.out _; (with_reducible repeat (first | refine blk_drewN ?_ _ | refine blk_drew ?_ | refine blk_alloc ?_ _)); refine blk_far ?_ NB266_276.out _; (with_reducible repeat (first | refine blk_drewN ?_ _ | refine blk_drew ?_ | refine blk_alloc ?_ _)); exact BK266.out⟩, ⟨by (with_reducible repeat (first | refine blk_drewN ?_ _ | refine blk_drew ?_ | refine blk_alloc ?_ _)); refine blk_far ?_ NB267_276.out _; (with_reducible repeat (first | refine blk_drewN ?_ _ | refine blk_drew ?_ | refine blk_alloc ?_ _)); refine blk_far ?_ NB267_276.out _; (with_reducible repeat (first | refine blk_drewN ?_ _ | refine blk_drew ?_ | refine blk_alloc ?_ _)); refine blk_far ?_ NB267_276.out _; (with_reducible repeat (first | refine blk_drewN ?_ _ | refine blk_drew ?_ | refine blk_alloc ?_ _)); refine blk_far ?_ NB267_276.out _; (with_reducible repeat (first | refine blk_drewN ?_ _ | refine blk_drew ?_ | refine blk_alloc ?_ _)); refine blk_far ?_ NB267_276.out _; (with_reducible repeat (first | refine blk_drewN ?_ _ | refine blk_drew ?_ | refine blk_alloc ?_ _)); refine blk_far ?_ NB267_276.out _; (with_reducible repeat (first | refine blk_drewN ?_ _ | refine blk_drew ?_ | refine blk_alloc ?_ _)); refine blk_far ?_ NB267_276.out _; (with_reducible repeat (first | refine blk_drewN ?_ _ | refine blk_drew ?_ | refine blk_alloc ?_ _)); exact BK267.out⟩, ⟨by (with_reducible repeat (first | refine blk_drewN ?_ _ | refine blk_drew ?_ | refine blk_alloc ?_ _)); refine blk_put (cs := #[.int .i64 t268, .int .i64 t269, .int .i64 t270, .int .i64 t271, .int .i64 t272, .int .i64 t273, .int .u32 0]) ?_ 6 _ rfl; (with_reducible repeat (first | refine blk_drewN ?_ _ | refine blk_drew ?_ | refine blk_alloc ?_ _)); refine blk_put (cs := #[.int .i64 t268, .int .i64 t269, .int .i64 t270, .int .i64 t271, .int .i64 t272, .int .i64 0, .int .u32 0]) ?_ 5 _ rfl; (with_reducible repeat (first | refine blk_drewN ?_ _ | refine blk_drew ?_ | refine blk_alloc ?_ _)); refine blk_put (cs := #[.int .i64 t268, .int .i64 t269, .int .i64 t270, .int .i64 t271, .int .i64 0, .int .i64 0, .int .u32 0]) ?_ 4 _ rfl; (with_reducible repeat (first | refine blk_drewN ?_ _ | refine blk_drew ?_ | refine blk_alloc ?_ _)); refine blk_put (cs := #[.int .i64 t268, .int .i64 t269, .int .i64 t270, .int .i64 0, .int .i64 0, .int .i64 0, .int .u32 0]) ?_ 3 _ rfl; (with_reducible repeat (first | refine blk_drewN ?_ _ | refine blk_drew ?_ | refine blk_alloc ?_ _)); refine blk_put (cs := #[.int .i64 t268, .int .i64 t269, .int .i64 0, .int .i64 0, .int .i64 0, .int .i64 0, .int .u32 0]) ?_ 2 _ rfl; (with_reducible repeat (first | refine blk_drewN ?_ _ | refine blk_drew ?_ | refine blk_alloc ?_ _)); refine blk_put (cs := #[.int .i64 t268, .int .i64 0, .int .i64 0, .int .i64 0, .int .i64 0, .int .i64 0, .int .u32 0]) ?_ 1 _ rfl; (with_reducible repeat (first | refine blk_drewN ?_ _ | refine blk_drew ?_ | refine blk_alloc ?_ _)); refine blk_put (cs := #[.int .i64 0, .int .i64 0, .int .i64 0, .int .i64 0, .int .i64 0, .int .i64 0, .int .u32 0]) ?_ 0 _ rfl; (with_reducible repeat (first | refine blk_drewN ?_ _ | refine blk_drew ?_ | refine blk_alloc ?_ _)); exact BK276.out⟩, ⟨by repeat (first | (with_reducible first | exact HB.out | apply below_alloc | apply pw_below_drewN | apply below_drew1 | refine below_set ?_ GE256.out | refine below_set ?_ GE266.out | refine below_set ?_ GE267.out | refine below_set ?_ GE276.out) | exact HB.out)⟩⟩
          · as_aux_lemma =>
            rw [if_neg c34] at H
            have c34b0 : (t265 == 0) = false := beq_eq_false_iff_ne.mpr c34
            have c34b1 : (t265 != 0) = true := bne_iff_ne.mpr c34
            (first | rw [c34b0] | (simp only [i64_w, i32_w]; rw [c34b0]) | skip)
            have H' := Aside0.mk H
            clear H
            go_wp2
            go_meet
            case rel => exact ⟨_, (true), (by first | rfl | (simp; done) | (simp [*]; done)), H', ⟨by have := HJ4.out; first | omega | exact Nat.le_refl _⟩, ⟨by (with_reducible repeat (first | refine blk_drewN ?_ _ | refine blk_drew ?_ | refine blk_alloc ?_ _)); refine blk_far ?_ NB256_276.out _; (with_reducible repeat (first | refine blk_drewN ?_ _ | refine blk_drew ?_ | refine blk_alloc ?_ _)); refine blk_far ?_ NB256_276.out _; (with_reducible repeat (first | refine blk_drewN ?_ _ | refine blk_drew ?_ | refine blk_alloc ?_ _)); refine blk_far ?_ NB256_276.out _; (with_reducible repeat (first | refine blk_drewN ?_ _ | refine blk_drew ?_ | refine blk_alloc ?_ _)); refine blk_far ?_ NB256_276.out _; (with_reducible repeat (first | refine blk_drewN ?_ _ | refine blk_drew ?_ | refine blk_alloc ?_ _)); refine blk_far ?_ NB256_276.out _; (with_reducible repeat (first | refine blk_drewN ?_ _ | refine blk_drew ?_ | refine blk_alloc ?_ _)); refine blk_far ?_ NB256_276.out _; (with_reducible repeat (first | refine blk_drewN ?_ _ | refine blk_drew ?_ | refine blk_alloc ?_ _)); refine blk_far ?_ NB256_276.out _; (with_reducible repeat (first | refine blk_drewN ?_ _ | refine blk_drew ?_ | refine blk_alloc ?_ _)); exact BK256.out⟩, ⟨by (with_reducible repeat (first | refine blk_drewN ?_ _ | refine blk_drew ?_ | refine blk_alloc ?_ _)); refine blk_far ?_ NB266_276.out _; (with_reducible repeat (first | refine blk_drewN ?_ _ | refine blk_drew ?_ | refine blk_alloc ?_ _)); refine blk_far ?_ NB266_276.out _; (with_reducible repeat (first | refine blk_drewN ?_ _ | refine blk_drew ?_ | refine blk_alloc ?_ _)); refine blk_far ?_ NB266_276.out _; (with_reducible repeat (first | refine blk_drewN ?_ _ | refine blk_drew ?_ | refine blk_alloc ?_ _)); refine blk_far ?_ NB266_276.out _; (with_reducible repeat (first | refine blk_drewN ?_ _ | refine blk_drew ?_ | refine blk_alloc ?_ _)); refine blk_far ?_ NB266_276.out _; (with_reducible repeat (first | refine blk_drewN ?_ _ | refine blk_drew ?_ | refine blk_alloc ?_ _)); refine blk_far ?_ NB266_276.out _; (with_reducible repeat (first | refine blk_drewN ?_ _ | refine blk_drew ?_ | refine blk_alloc ?_ _)); refine blk_far ?_ NB266_276.out _; (with_reducible repeat (first | refine blk_drewN ?_ _ | refine blk_drew ?_ | refine blk_alloc ?_ _)); exact BK266.out⟩, ⟨by (with_reducible repeat (first | refine blk_drewN ?_ _ | refine blk_drew ?_ | refine blk_alloc ?_ _)); refine blk_far ?_ NB267_276.out _; (with_reducible repeat (first | refine blk_drewN ?_ _ | refine blk_drew ?_ | refine blk_alloc ?_ _)); refine blk_far ?_ NB267_276.out _; (with_reducible repeat (first | refine blk_drewN ?_ _ | refine blk_drew ?_ | refine blk_alloc ?_ _)); refine blk_far ?_ NB267_276.out _; (with_reducible repeat (first | refine blk_drewN ?_ _ | refine blk_drew ?_ | refine blk_alloc ?_ _)); refine blk_far ?_ NB267_276.out _; (with_reducible repeat (first | refine blk_drewN ?_ _ | refine blk_drew ?_ | refine blk_alloc ?_ _)); refine blk_far ?_ NB267_276.out _; (with_reducible repeat (first | refine blk_drewN ?_ _ | refine blk_drew ?_ | refine blk_alloc ?_ _)); refine blk_far ?_ NB267_276.out _; (with_reducible repeat (first | refine blk_drewN ?_ _ | refine blk_drew ?_ | refine blk_alloc ?_ _)); refine blk_far ?_ NB267_276.out _; (with_reducible repeat (first | refine blk_drewN ?_ _ | refine blk_drew ?_ | refine blk_alloc ?_ _)); exact BK267.out⟩, ⟨by (with_reducible repeat (first | refine blk_drewN ?_ _ | refine blk_drew ?_ | refine blk_alloc ?_ _)); refine blk_put (cs := #[.int .i64 t268, .int .i64 t269, .int .i64 t270, .int .i64 t271, .int .i64 t272, .int .i64 t273, .int .u32 0]) ?_ 6 _ rfl; (with_reducible repeat (first | refine blk_drewN ?_ _ | refine blk_drew ?_ | refine blk_alloc ?_ _)); refine blk_put (cs := #[.int .i64 t268, .int .i64 t269, .int .i64 t270, .int .i64 t271, .int .i64 t272, .int .i64 0, .int .u32 0]) ?_ 5 _ rfl; (with_reducible repeat (first | refine blk_drewN ?_ _ | refine blk_drew ?_ | refine blk_alloc ?_ _)); refine blk_put (cs := #[.int .i64 t268, .int .i64 t269, .int .i64 t270, .int .i64 t271, .int .i64 0, .int .i64 0, .int .u32 0]) ?_ 4 _ rfl; (with_reducible repeat (first | refine blk_drewN ?_ _ | refine blk_drew ?_ | refine blk_alloc ?_ _)); refine blk_put (cs := #[.int .i64 t268, .int .i64 t269, .int .i64 t270, .int .i64 0, .int .i64 0, .int .i64 0, .int .u32 0]) ?_ 3 _ rfl; (with_reducible repeat (first | refine blk_drewN ?_ _ | refine blk_drew ?_ | refine blk_alloc ?_ _)); refine blk_put (cs := #[.int .i64 t268, .int .i64 t269, .int .i64 0, .int .i64 0, .int .i64 0, .int .i64 0, .int .u32 0]) ?_ 2 _ rfl; (with_reducible repeat (first | refine blk_drewN ?_ _ | refine blk_drew ?_ | refine blk_alloc ?_ _)); refine blk_put (cs := #[.int .i64 t268, .int .i64 0, .int .i64 0, .int .i64 0, .int .i64 0, .int .i64 0, .int .u32 0]) ?_ 1 _ rfl; (with_reducible repeat (first | refine blk_drewN ?_ _ | refine blk_drew ?_ | refine blk_alloc ?_ _)); refine blk_put (cs := #[.int .i64 0, .int .i64 0, .int .i64 0, .int .i64 0, .int .i64 0, .int .i64 0, .int .u32 0]) ?_ 0 _ rfl; (with_reducible repeat (first | refine blk_drewN ?_ _ | refine blk_drew ?_ | refine blk_alloc ?_ _)); exact BK276.out⟩, ⟨by repeat (first | (with_reducible first | exact HB.out | apply below_alloc | apply pw_below_drewN | apply below_drew1 | refine below_set ?_ GE256.out | refine below_set ?_ GE266.out | refine below_set ?_ GE267.out | refine below_set ?_ GE276.out) | exact HB.out)⟩⟩
        case rest =>
          clear HC24
          try clear c1
          try clear c2
          try clear p2
          try clear c3
          try clear c5
          try clear p6
          try clear c11
          try clear c13
          try clear c14
          try clear c15
          try clear c16
          try clear c19
          try clear c19b0
          try clear c20
          try clear c21
          try clear c25
          try clear c26
          try clear c30
          try clear c31
          try clear c32
          try clear c34
          try clear c34b0
          try clear c34b1
          try clear hcz12_0
          try clear hcz12_1
          try clear hcz12_2
          try clear hcz12_3
          try clear hcz12_4
          try clear hcz12_5
          try clear hcz12_6
          try clear hcz13_0
          try clear hcz13_1
          try clear hcz17_0
          try clear hcz17_1
          try clear hcz18_0
          try clear hcz18_1
          try clear hcz22_0
          try clear hcz22_1
          try clear hcz27_0
          try clear hcz27_1
          try clear hcz33_0
          try clear hcz33_1
          try clear hcz33_2
          try clear hcz33_3
          try clear hcz33_4
          try clear hcz33_5
          try clear hcz33_6
          try clear hcz8_0
          try clear hcz8_1
          try clear hfz12_0
          try clear hfz12_1
          try clear hfz12_2
          try clear hfz12_3
          try clear hfz12_4
          try clear hfz12_5
          try clear hfz12_6
          try clear hfz13_0
          try clear hfz13_1
          try clear hfz17_0
          try clear hfz17_1
          try clear hfz18_0
          try clear hfz18_1
          try clear hfz22_0
          try clear hfz22_1
          try clear hfz27_0
          try clear hfz27_1
          try clear hfz33_0
          try clear hfz33_1
          try clear hfz33_2
          try clear hfz33_3
          try clear hfz33_4
          try clear hfz33_5
          try clear hfz33_6
          try clear hfz8_0
          try clear hfz8_1
          try clear p2
          try clear p6
          obtain ⟨kq, x41_23, rfl, HA, HJ23, BK256, BK266, BK267, BK276, HB⟩ := hcut
          cases kq with
          | zero => exact absurd HA.out (by simp [foliotlaw02_StampNext.j1])
          | succ kj23 =>
            have H := HA.out
            clear HA
            simp only [foliotlaw02_StampNext.j1] at H
            by_cases c35 : x41_23 = true
            · subst c35
              have H1 : (some true) = some r := by rw [if_pos rfl] at H; exact H
              clear H
              have H := H1
              clear H1
              obtain rfl := Option.some.inj H
              go_wp2
              go_ret
              exact ⟨by first | rfl | (simp [errW_none, errW_some] <;> rfl) | (simp [*, errW_none, errW_some] <;> rfl), by repeat (first | (with_reducible first | exact HB.out | apply below_alloc | apply pw_below_drewN | apply below_drew1 | refine below_set ?_ GE256.out | refine below_set ?_ GE266.out | refine below_set ?_ GE267.out | refine below_set ?_ GE276.out) | exact HB.out)⟩
            · replace c35 := Bool.eq_false_iff.mpr c35
              subst c35
              have H1 : (if t264 = t274 then (if t273 = 0 then (if t272 = 0 then (if t271 = 0 then (if t263 = 59 then (if t262 = 59 then (foliotlaw02_StampNext.j2 kj23 (t261 != 23) t258 t259 t260 t261 t262 t263 t264 t268 t269 t270 t271 t272 t273 t274) else (foliotlaw02_StampNext.j2 kj23 true t258 t259 t260 t261 t262 t263 t264 t268 t269 t270 t271 t272 t273 t274)) else (foliotlaw02_StampNext.j2 kj23 true t258 t259 t260 t261 t262 t263 t264 t268 t269 t270 t271 t272 t273 t274)) else (if t263 = 59 then (if t262 = 59 then (if (wrap64 (t261 + 1)) = t271 then (if t260 = t270 then (if t259 = t269 then (some (t258 == t268)) else (some false)) else (some false)) else (some false)) else (some false)) else (some false))) else (if t263 = 59 then (if (wrap64 (t262 + 1)) = t272 then (if t261 = t271 then (if t260 = t270 then (if t259 = t269 then (some (t258 == t268)) else (some false)) else (some false)) else (some false)) else (some false)) else (some false))) else (if (wrap64 (t263 + 1)) = t273 then (if t262 = t272 then (if t261 = t271 then (if t260 = t270 then (if t259 = t269 then (some (t258 == t268)) else (some false)) else (some false)) else (some false)) else (some false)) else (some false))) else (some false)) = some r := by rw [if_neg (show ¬ (false = true) by decide)] at H; exact H
              clear H
              have H := H1
              clear H1
              by_cases c36 : t264 = t274
              · rw [if_pos c36] at H
                have c36b0 : (t264 == t274) = true := beq_iff_eq.mpr c36
                have c36b1 : (t264 != t274) = false := bne_eq_false_iff_eq.mpr c36
                clear c36
                by_cases c37 : t273 = 0
                · rw [if_pos c37] at H
                  have c37b0 : (t273 == 0) = true := beq_iff_eq.mpr c37
                  have c37b1 : (t273 != 0) = false := bne_eq_false_iff_eq.mpr c37
                  clear c37
                  by_cases c38 : t272 = 0
                  · rw [if_pos c38] at H
                    have c38b0 : (t272 == 0) = true := beq_iff_eq.mpr c38
                    have c38b1 : (t272 != 0) = false := bne_eq_false_iff_eq.mpr c38
                    clear c38
                    by_cases c39 : t271 = 0
                    · rw [if_pos c39] at H
                      have c39b0 : (t271 == 0) = true := beq_iff_eq.mpr c39
                      have c39b1 : (t271 != 0) = false := bne_eq_false_iff_eq.mpr c39
                      clear c39
                      have HC40 := Aside0.mk H
                      clear H
                      have hnb41 := NB266_256.out
                      have hnc41 := NB256_266.out
                      have hnb42 := NB266_267.out
                      have hnc42 := NB267_266.out
                      have hnb43 := NB266_276.out
                      have hnc43 := NB276_266.out
                      have hcz44_0 : wc.cell? ⟨gb266, 0, none⟩ = some (.int .i64 t258) := (blk_cell BK266.out 0).trans rfl
                      have hcz44_1 : wc.cell? ⟨gb266, 1, none⟩ = some (.int .i64 t259) := (blk_cell BK266.out 1).trans rfl
                      have hcz44_2 : wc.cell? ⟨gb266, 2, none⟩ = some (.int .i64 t260) := (blk_cell BK266.out 2).trans rfl
                      have hcz44_3 : wc.cell? ⟨gb266, 3, none⟩ = some (.int .i64 t261) := (blk_cell BK266.out 3).trans rfl
                      have hcz44_4 : wc.cell? ⟨gb266, 4, none⟩ = some (.int .i64 t262) := (blk_cell BK266.out 4).trans rfl
                      have hcz44_5 : wc.cell? ⟨gb266, 5, none⟩ = some (.int .i64 t263) := (blk_cell BK266.out 5).trans rfl
                      have hcz44_6 : wc.cell? ⟨gb266, 6, none⟩ = some (.int .u32 t264) := (blk_cell BK266.out 6).trans rfl
                      have hfz44_0 := blk_frozen BK266.out 0
                      have hfz44_1 := blk_frozen BK266.out 1
                      have hfz44_2 := blk_frozen BK266.out 2
                      have hfz44_3 := blk_frozen BK266.out 3
                      have hfz44_4 := blk_frozen BK266.out 4
                      have hfz44_5 := blk_frozen BK266.out 5
                      have hfz44_6 := blk_frozen BK266.out 6
                      have hnb45 := NB276_256.out
                      have hnc45 := NB256_276.out
                      have hnb46 := NB276_267.out
                      have hnc46 := NB267_276.out
                      have hcz47_0 : wc.cell? ⟨gb276, 0, none⟩ = some (.int .i64 t268) := (blk_cell BK276.out 0).trans rfl
                      have hcz47_1 : wc.cell? ⟨gb276, 1, none⟩ = some (.int .i64 t269) := (blk_cell BK276.out 1).trans rfl
                      have hcz47_2 : wc.cell? ⟨gb276, 2, none⟩ = some (.int .i64 t270) := (blk_cell BK276.out 2).trans rfl
                      have hcz47_3 : wc.cell? ⟨gb276, 3, none⟩ = some (.int .i64 t271) := (blk_cell BK276.out 3).trans rfl
                      have hcz47_4 : wc.cell? ⟨gb276, 4, none⟩ = some (.int .i64 t272) := (blk_cell BK276.out 4).trans rfl
                      have hcz47_5 : wc.cell? ⟨gb276, 5, none⟩ = some (.int .i64 t273) := (blk_cell BK276.out 5).trans rfl
                      have hcz47_6 : wc.cell? ⟨gb276, 6, none⟩ = some (.int .u32 t274) := (blk_cell BK276.out 6).trans rfl
                      have hfz47_0 := blk_frozen BK276.out 0
                      have hfz47_1 := blk_frozen BK276.out 1
                      have hfz47_2 := blk_frozen BK276.out 2
                      have hfz47_3 := blk_frozen BK276.out 3
                      have hfz47_4 := blk_frozen BK276.out 4
                      have hfz47_5 := blk_frozen BK276.out 5
                      have hfz47_6 := blk_frozen BK276.out 6
                      go_upto_region 18 with (fail)
                      go_cut [188] (fun v188 wc => ∃ (kq : Nat) (x188_39 : Bool), v188 = .bool x188_39 ∧ Aside0 (foliotlaw02_StampNext.j2 kq x188_39 t258 t259 t260 t261 t262 t263 t264 t268 t269 t270 t271 t272 t273 t274 = some r) ∧ Aside0 (kq ≤ kj23) ∧ Aside0 (wc.heap[gb256]? = some (.cells #[.int .i64 a0_0, .int .u64 a0_1] 25 (0, 0))) ∧ Aside0 (wc.heap[gb266]? = some (.cells #[.int .i64 t258, .int .i64 t259, .int .i64 t260, .int .i64 t261, .int .i64 t262, .int .i64 t263, .int .u32 t264] 28 (0, 0))) ∧ Aside0 (wc.heap[gb267]? = some (.cells #[.int .i64 x268000_4, .int .u64 (IntKind.u64.wrap (a0_1 + 4294967296))] 25 (0, 0))) ∧ Aside0 (wc.heap[gb276]? = some (.cells #[.int .i64 t268, .int .i64 t269, .int .i64 t270, .int .i64 t271, .int .i64 t272, .int .i64 t273, .int .u32 t274] 28 (0, 0))) ∧ Aside0 (Below w.heap.size w wc))
                      case first =>
                        have H := HC40.out
                        clear HC40
                        by_cases c48 : t263 = 59
                        · as_aux_lemma =>
                          rw [if_pos c48] at H
                          have c48b0 : (t263 == 59) = true := beq_iff_eq.mpr c48
                          have c48b1 : (t263 != 59) = false := bne_eq_false_iff_eq.mpr c48
                          clear c48
                          (first | rw [c48b0] | (simp only [i64_w, i32_w]; rw [c48b0]) | skip)
                          by_cases c49 : t262 = 59
                          · rw [if_pos c49] at H
                            have c49b0 : (t262 == 59) = true := beq_iff_eq.mpr c49
                            have c49b1 : (t262 != 59) = false := bne_eq_false_iff_eq.mpr c49
                            clear c49
                            have H' := Aside0.mk H
                            clear H
                            have hnb50 := NB266_256.out
                            have hnc50 := NB256_266.out
                            have hnb51 := NB266_267.out
                            have hnc51 := NB267_266.out
                            have hnb52 := NB266_276.out
                            have hnc52 := NB276_266.out
                            have hcz53_0 : wc.cell? ⟨gb266, 0, none⟩ = some (.int .i64 t258) := (blk_cell BK266.out 0).trans rfl
                            have hcz53_1 : wc.cell? ⟨gb266, 1, none⟩ = some (.int .i64 t259) := (blk_cell BK266.out 1).trans rfl
                            have hcz53_2 : wc.cell? ⟨gb266, 2, none⟩ = some (.int .i64 t260) := (blk_cell BK266.out 2).trans rfl
                            have hcz53_3 : wc.cell? ⟨gb266, 3, none⟩ = some (.int .i64 t261) := (blk_cell BK266.out 3).trans rfl
                            have hcz53_4 : wc.cell? ⟨gb266, 4, none⟩ = some (.int .i64 t262) := (blk_cell BK266.out 4).trans rfl
                            have hcz53_5 : wc.cell? ⟨gb266, 5, none⟩ = some (.int .i64 t263) := (blk_cell BK266.out 5).trans rfl
                            have hcz53_6 : wc.cell? ⟨gb266, 6, none⟩ = some (.int .u32 t264) := (blk_cell BK266.out 6).trans rfl
                            have hfz53_0 := blk_frozen BK266.out 0
                            have hfz53_1 := blk_frozen BK266.out 1
                            have hfz53_2 := blk_frozen BK266.out 2
                            have hfz53_3 := blk_frozen BK266.out 3
                            have hfz53_4 := blk_frozen BK266.out 4
                            have hfz53_5 := blk_frozen BK266.out 5
                            have hfz53_6 := blk_frozen BK266.out 6
                            go_wp2
                            go_meet
                            case rel => exact ⟨_, ((t261 != 23)), (by first | rfl | (simp; done) | (simp [*]; done)), H', ⟨by have := HJ4.out; have := HJ23.out; first | omega | exact Nat.le_refl _⟩, ⟨by (with_reducible repeat (first | refine blk_drewN ?_ _ | refine blk_drew ?_ | refine blk_alloc ?_ _)); exact BK256.out⟩, ⟨by (with_reducible repeat (first | refine blk_drewN ?_ _ | refine blk_drew ?_ | refine blk_alloc ?_ _)); exact BK266.out⟩, ⟨by (with_reducible repeat (first | refine blk_drewN ?_ _ | refine blk_drew ?_ | refine blk_alloc ?_ _)); exact BK267.out⟩, ⟨by (with_reducible repeat (first | refine blk_drewN ?_ _ | refine blk_drew ?_ | refine blk_alloc ?_ _)); exact BK276.out⟩, ⟨by repeat (first | (with_reducible first | exact HB.out | apply below_alloc | apply pw_below_drewN | apply below_drew1 | refine below_set ?_ GE256.out | refine below_set ?_ GE266.out | refine below_set ?_ GE267.out | refine below_set ?_ GE276.out) | exact HB.out)⟩⟩
                          · rw [if_neg c49] at H
                            have c49b0 : (t262 == 59) = false := beq_eq_false_iff_ne.mpr c49
                            have c49b1 : (t262 != 59) = true := bne_iff_ne.mpr c49
                            have H' := Aside0.mk H
                            clear H
                            have hnb54 := NB266_256.out
                            have hnc54 := NB256_266.out
                            have hnb55 := NB266_267.out
                            have hnc55 := NB267_266.out
                            have hnb56 := NB266_276.out
                            have hnc56 := NB276_266.out
                            have hcz57_0 : wc.cell? ⟨gb266, 0, none⟩ = some (.int .i64 t258) := (blk_cell BK266.out 0).trans rfl
                            have hcz57_1 : wc.cell? ⟨gb266, 1, none⟩ = some (.int .i64 t259) := (blk_cell BK266.out 1).trans rfl
                            have hcz57_2 : wc.cell? ⟨gb266, 2, none⟩ = some (.int .i64 t260) := (blk_cell BK266.out 2).trans rfl
                            have hcz57_3 : wc.cell? ⟨gb266, 3, none⟩ = some (.int .i64 t261) := (blk_cell BK266.out 3).trans rfl
                            have hcz57_4 : wc.cell? ⟨gb266, 4, none⟩ = some (.int .i64 t262) := (blk_cell BK266.out 4).trans rfl
                            have hcz57_5 : wc.cell? ⟨gb266, 5, none⟩ = some (.int .i64 t263) := (blk_cell BK266.out 5).trans rfl
                            have hcz57_6 : wc.cell? ⟨gb266, 6, none⟩ = some (.int .u32 t264) := (blk_cell BK266.out 6).trans rfl
                            have hfz57_0 := blk_frozen BK266.out 0
                            have hfz57_1 := blk_frozen BK266.out 1
                            have hfz57_2 := blk_frozen BK266.out 2
                            have hfz57_3 := blk_frozen BK266.out 3
                            have hfz57_4 := blk_frozen BK266.out 4
                            have hfz57_5 := blk_frozen BK266.out 5
                            have hfz57_6 := blk_frozen BK266.out 6
                            go_wp2
                            go_meet
                            case rel => exact ⟨_, (true), (by first | rfl | (simp; done) | (simp [*]; done)), H', ⟨by have := HJ4.out; have := HJ23.out; first | omega | exact Nat.le_refl _⟩, ⟨by (with_reducible repeat (first | refine blk_drewN ?_ _ | refine blk_drew ?_ | refine blk_alloc ?_ _)); exact BK256.out⟩, ⟨by (with_reducible repeat (first | refine blk_drewN ?_ _ | refine blk_drew ?_ | refine blk_alloc ?_ _)); exact BK266.out⟩, ⟨by (with_reducible repeat (first | refine blk_drewN ?_ _ | refine blk_drew ?_ | refine blk_alloc ?_ _)); exact BK267.out⟩, ⟨by (with_reducible repeat (first | refine blk_drewN ?_ _ | refine blk_drew ?_ | refine blk_alloc ?_ _)); exact BK276.out⟩, ⟨by repeat (first | (with_reducible first | exact HB.out | apply below_alloc | apply pw_below_drewN | apply below_drew1 | refine below_set ?_ GE256.out | refine below_set ?_ GE266.out | refine below_set ?_ GE267.out | refine below_set ?_ GE276.out) | exact HB.out)⟩⟩
                        · as_aux_lemma =>
                          rw [if_neg c48] at H
                          have c48b0 : (t263 == 59) = false := beq_eq_false_iff_ne.mpr c48
                          have c48b1 : (t263 != 59) = true := bne_iff_ne.mpr c48
                          (first | rw [c48b0] | (simp only [i64_w, i32_w]; rw [c48b0]) | skip)
                          have H' := Aside0.mk H
                          clear H
                          have hnb58 := NB266_256.out
                          have hnc58 := NB256_266.out
                          have hnb59 := NB266_267.out
                          have hnc59 := NB267_266.out
                          have hnb60 := NB266_276.out
                          have hnc60 := NB276_266.out
                          have hcz61_0 : wc.cell? ⟨gb266, 0, none⟩ = some (.int .i64 t258) := (blk_cell BK266.out 0).trans rfl
                          have hcz61_1 : wc.cell? ⟨gb266, 1, none⟩ = some (.int .i64 t259) := (blk_cell BK266.out 1).trans rfl
                          have hcz61_2 : wc.cell? ⟨gb266, 2, none⟩ = some (.int .i64 t260) := (blk_cell BK266.out 2).trans rfl
                          have hcz61_3 : wc.cell? ⟨gb266, 3, none⟩ = some (.int .i64 t261) := (blk_cell BK266.out 3).trans rfl
                          have hcz61_4 : wc.cell? ⟨gb266, 4, none⟩ = some (.int .i64 t262) := (blk_cell BK266.out 4).trans rfl
                          have hcz61_5 : wc.cell? ⟨gb266, 5, none⟩ = some (.int .i64 t263) := (blk_cell BK266.out 5).trans rfl
                          have hcz61_6 : wc.cell? ⟨gb266, 6, none⟩ = some (.int .u32 t264) := (blk_cell BK266.out 6).trans rfl
                          have hfz61_0 := blk_frozen BK266.out 0
                          have hfz61_1 := blk_frozen BK266.out 1
                          have hfz61_2 := blk_frozen BK266.out 2
                          have hfz61_3 := blk_frozen BK266.out 3
                          have hfz61_4 := blk_frozen BK266.out 4
                          have hfz61_5 := blk_frozen BK266.out 5
                          have hfz61_6 := blk_frozen BK266.out 6
                          go_wp2
                          go_meet
                          case rel => exact ⟨_, (true), (by first | rfl | (simp; done) | (simp [*]; done)), H', ⟨by have := HJ4.out; have := HJ23.out; first | omega | exact Nat.le_refl _⟩, ⟨by (with_reducible repeat (first | refine blk_drewN ?_ _ | refine blk_drew ?_ | refine blk_alloc ?_ _)); exact BK256.out⟩, ⟨by (with_reducible repeat (first | refine blk_drewN ?_ _ | refine blk_drew ?_ | refine blk_alloc ?_ _)); exact BK266.out⟩, ⟨by (with_reducible repeat (first | refine blk_drewN ?_ _ | refine blk_drew ?_ | refine blk_alloc ?_ _)); exact BK267.out⟩, ⟨by (with_reducible repeat (first | refine blk_drewN ?_ _ | refine blk_drew ?_ | refine blk_alloc ?_ _)); exact BK276.out⟩, ⟨by repeat (first | (with_reducible first | exact HB.out | apply below_alloc | apply pw_below_drewN | apply below_drew1 | refine below_set ?_ GE256.out | refine below_set ?_ GE266.out | refine below_set ?_ GE267.out | refine below_set ?_ GE276.out) | exact HB.out)⟩⟩
                      case rest =>
                        clear HC40
                        try clear c1
                        try clear c2
                        try clear p2
                        try clear c3
                        try clear c4
                        try clear c5
                        try clear c6
                        try clear p6
                        try clear c11
                        try clear c13
                        try clear c14
                        try clear c15
                        try clear c16
                        try clear c19
                        try clear c19b0
                        try clear c20
                        try clear c21
                        try clear c25
                        try clear c26
                        try clear c30
                        try clear c31
                        try clear c32
                        try clear c34
                        try clear c34b0
                        try clear c34b1
                        try clear c35
                        try clear c36
                        try clear c36b0
                        try clear c36b1
                        try clear c37
                        try clear c37b0
                        try clear c37b1
                        try clear c38
                        try clear c38b0
                        try clear c38b1
                        try clear c39
                        try clear c39b0
                        try clear c39b1
                        try clear c41
                        try clear c42
                        try clear c43
                        try clear c45
                        try clear c46
                        try clear c48
                        try clear c48b0
                        try clear c48b1
                        try clear c49
                        try clear c49b0
                        try clear c49b1
                        try clear c50
                        try clear c51
                        try clear c52
                        try clear c54
                        try clear c55
                        try clear c56
                        try clear c58
                        try clear c59
                        try clear c60
                        try clear hcz12_0
                        try clear hcz12_1
                        try clear hcz12_2
                        try clear hcz12_3
                        try clear hcz12_4
                        try clear hcz12_5
                        try clear hcz12_6
                        try clear hcz13_0
                        try clear hcz13_1
                        try clear hcz17_0
                        try clear hcz17_1
                        try clear hcz18_0
                        try clear hcz18_1
                        try clear hcz22_0
                        try clear hcz22_1
                        try clear hcz27_0
                        try clear hcz27_1
                        try clear hcz33_0
                        try clear hcz33_1
                        try clear hcz33_2
                        try clear hcz33_3
                        try clear hcz33_4
                        try clear hcz33_5
                        try clear hcz33_6
                        try clear hcz44_0
                        try clear hcz44_1
                        try clear hcz44_2
                        try clear hcz44_3
                        try clear hcz44_4
                        try clear hcz44_5
                        try clear hcz44_6
                        try clear hcz47_0
                        try clear hcz47_1
                        try clear hcz47_2
                        try clear hcz47_3
                        try clear hcz47_4
                        try clear hcz47_5
                        try clear hcz47_6
                        try clear hcz53_0
                        try clear hcz53_1
                        try clear hcz53_2
                        try clear hcz53_3
                        try clear hcz53_4
                        try clear hcz53_5
                        try clear hcz53_6
                        try clear hcz57_0
                        try clear hcz57_1
                        try clear hcz57_2
                        try clear hcz57_3
                        try clear hcz57_4
                        try clear hcz57_5
                        try clear hcz57_6
                        try clear hcz61_0
                        try clear hcz61_1
                        try clear hcz61_2
                        try clear hcz61_3
                        try clear hcz61_4
                        try clear hcz61_5
                        try clear hcz61_6
                        try clear hcz8_0
                        try clear hcz8_1
                        try clear hfz12_0
                        try clear hfz12_1
                        try clear hfz12_2
                        try clear hfz12_3
                        try clear hfz12_4
                        try clear hfz12_5
                        try clear hfz12_6
                        try clear hfz13_0
                        try clear hfz13_1
                        try clear hfz17_0
                        try clear hfz17_1
                        try clear hfz18_0
                        try clear hfz18_1
                        try clear hfz22_0
                        try clear hfz22_1
                        try clear hfz27_0
                        try clear hfz27_1
                        try clear hfz33_0
                        try clear hfz33_1
                        try clear hfz33_2
                        try clear hfz33_3
                        try clear hfz33_4
                        try clear hfz33_5
                        try clear hfz33_6
                        try clear hfz44_0
                        try clear hfz44_1
                        try clear hfz44_2
                        try clear hfz44_3
                        try clear hfz44_4
                        try clear hfz44_5
                        try clear hfz44_6
                        try clear hfz47_0
                        try clear hfz47_1
                        try clear hfz47_2
                        try clear hfz47_3
                        try clear hfz47_4
                        try clear hfz47_5
                        try clear hfz47_6
                        try clear hfz53_0
                        try clear hfz53_1
                        try clear hfz53_2
                        try clear hfz53_3
                        try clear hfz53_4
                        try clear hfz53_5
                        try clear hfz53_6
                        try clear hfz57_0
                        try clear hfz57_1
                        try clear hfz57_2
                        try clear hfz57_3
                        try clear hfz57_4
                        try clear hfz57_5
                        try clear hfz57_6
                        try clear hfz61_0
                        try clear hfz61_1
                        try clear hfz61_2
                        try clear hfz61_3
                        try clear hfz61_4
                        try clear hfz61_5
                        try clear hfz61_6
                        try clear hfz8_0
                        try clear hfz8_1
                        try clear p2
                        try clear p6
                        obtain ⟨kq, x188_39, rfl, HA, HJ39, BK256, BK266, BK267, BK276, HB⟩ := hcut
                        cases kq with
                        | zero => exact absurd HA.out (by simp [foliotlaw02_StampNext.j2])
                        | succ kj39 =>
                          have H := HA.out
                          clear HA
                          simp only [foliotlaw02_StampNext.j2] at H
                          by_cases c62 : x188_39 = true
                          · subst c62
                            have H1 : (some false) = some r := by rw [if_pos rfl] at H; exact H
                            clear H
                            have H := H1
                            clear H1
                            obtain rfl := Option.some.inj H
                            go_wp2
                            go_ret
                            exact ⟨by first | rfl | (simp [errW_none, errW_some] <;> rfl) | (simp [*, errW_none, errW_some] <;> rfl), by repeat (first | (with_reducible first | exact HB.out | apply below_alloc | apply pw_below_drewN | apply below_drew1 | refine below_set ?_ GE256.out | refine below_set ?_ GE266.out | refine below_set ?_ GE267.out | refine below_set ?_ GE276.out) | exact HB.out)⟩
                          · replace c62 := Bool.eq_false_iff.mpr c62
                            subst c62
                            have H1 : (if t270 = 1 then (if t259 = 4 then (foliotlaw02_StampNext.j3 kj39 31 t259 (t259 == 4) t258 t259 t260 t261 t262 t263 t264 t268 t269 t270 t271 t272 t273 t274) else (if t259 = 6 then (foliotlaw02_StampNext.j3 kj39 31 t259 (t259 == 6) t258 t259 t260 t261 t262 t263 t264 t268 t269 t270 t271 t272 t273 t274) else (if t259 = 9 then (foliotlaw02_StampNext.j3 kj39 31 t259 (t259 == 9) t258 t259 t260 t261 t262 t263 t264 t268 t269 t270 t271 t272 t273 t274) else (foliotlaw02_StampNext.j3 kj39 31 t259 (t259 == 11) t258 t259 t260 t261 t262 t263 t264 t268 t269 t270 t271 t272 t273 t274)))) else (if (wrap64 (t260 + 1)) = t270 then (if t259 = t269 then (some (t258 == t268)) else (some false)) else (some false))) = some r := by rw [if_neg (show ¬ (false = true) by decide)] at H; exact H
                            clear H
                            have H := H1
                            clear H1
                            by_cases c63 : t270 = 1
                            · rw [if_pos c63] at H
                              have c63b0 : (t270 == 1) = true := beq_iff_eq.mpr c63
                              have c63b1 : (t270 != 1) = false := bne_eq_false_iff_eq.mpr c63
                              clear c63
                              have HC64 := Aside0.mk H
                              clear H
                              have hnb65 := NB276_256.out
                              have hnc65 := NB256_276.out
                              have hnb66 := NB276_266.out
                              have hnc66 := NB266_276.out
                              have hnb67 := NB276_267.out
                              have hnc67 := NB267_276.out
                              have hcz68_0 : wc.cell? ⟨gb276, 0, none⟩ = some (.int .i64 t268) := (blk_cell BK276.out 0).trans rfl
                              have hcz68_1 : wc.cell? ⟨gb276, 1, none⟩ = some (.int .i64 t269) := (blk_cell BK276.out 1).trans rfl
                              have hcz68_2 : wc.cell? ⟨gb276, 2, none⟩ = some (.int .i64 t270) := (blk_cell BK276.out 2).trans rfl
                              have hcz68_3 : wc.cell? ⟨gb276, 3, none⟩ = some (.int .i64 t271) := (blk_cell BK276.out 3).trans rfl
                              have hcz68_4 : wc.cell? ⟨gb276, 4, none⟩ = some (.int .i64 t272) := (blk_cell BK276.out 4).trans rfl
                              have hcz68_5 : wc.cell? ⟨gb276, 5, none⟩ = some (.int .i64 t273) := (blk_cell BK276.out 5).trans rfl
                              have hcz68_6 : wc.cell? ⟨gb276, 6, none⟩ = some (.int .u32 t274) := (blk_cell BK276.out 6).trans rfl
                              have hfz68_0 := blk_frozen BK276.out 0
                              have hfz68_1 := blk_frozen BK276.out 1
                              have hfz68_2 := blk_frozen BK276.out 2
                              have hfz68_3 := blk_frozen BK276.out 3
                              have hfz68_4 := blk_frozen BK276.out 4
                              have hfz68_5 := blk_frozen BK276.out 5
                              have hfz68_6 := blk_frozen BK276.out 6
                              have hnb69 := NB266_256.out
                              have hnc69 := NB256_266.out
                              have hnb70 := NB266_267.out
                              have hnc70 := NB267_266.out
                              have hcz71_0 : wc.cell? ⟨gb266, 0, none⟩ = some (.int .i64 t258) := (blk_cell BK266.out 0).trans rfl
                              have hcz71_1 : wc.cell? ⟨gb266, 1, none⟩ = some (.int .i64 t259) := (blk_cell BK266.out 1).trans rfl
                              have hcz71_2 : wc.cell? ⟨gb266, 2, none⟩ = some (.int .i64 t260) := (blk_cell BK266.out 2).trans rfl
                              have hcz71_3 : wc.cell? ⟨gb266, 3, none⟩ = some (.int .i64 t261) := (blk_cell BK266.out 3).trans rfl
                              have hcz71_4 : wc.cell? ⟨gb266, 4, none⟩ = some (.int .i64 t262) := (blk_cell BK266.out 4).trans rfl
                              have hcz71_5 : wc.cell? ⟨gb266, 5, none⟩ = some (.int .i64 t263) := (blk_cell BK266.out 5).trans rfl
                              have hcz71_6 : wc.cell? ⟨gb266, 6, none⟩ = some (.int .u32 t264) := (blk_cell BK266.out 6).trans rfl
                              have hfz71_0 := blk_frozen BK266.out 0
                              have hfz71_1 := blk_frozen BK266.out 1
                              have hfz71_2 := blk_frozen BK266.out 2
                              have hfz71_3 := blk_frozen BK266.out 3
                              have hfz71_4 := blk_frozen BK266.out 4
                              have hfz71_5 := blk_frozen BK266.out 5
                              have hfz71_6 := blk_frozen BK266.out 6
                              go_upto_block 1 with (fail)
                              go_cut [8] (fun v8 wc => ∃ (kq : Nat) (x8_63 : Int), v8 = .int .i64 x8_63 ∧ Aside0 (foliotlaw02_StampNext.j4 kq x8_63 t258 t259 t260 t261 t262 t263 t264 t268 t269 t270 t271 t272 t273 t274 = some r) ∧ Aside0 (kq ≤ kj39) ∧ Aside0 (wc.heap[gb256]? = some (.cells #[.int .i64 a0_0, .int .u64 a0_1] 25 (0, 0))) ∧ Aside0 (wc.heap[gb266]? = some (.cells #[.int .i64 t258, .int .i64 t259, .int .i64 t260, .int .i64 t261, .int .i64 t262, .int .i64 t263, .int .u32 t264] 28 (0, 0))) ∧ Aside0 (wc.heap[gb267]? = some (.cells #[.int .i64 x268000_4, .int .u64 (IntKind.u64.wrap (a0_1 + 4294967296))] 25 (0, 0))) ∧ Aside0 (wc.heap[gb276]? = some (.cells #[.int .i64 t268, .int .i64 t269, .int .i64 t270, .int .i64 t271, .int .i64 t272, .int .i64 t273, .int .u32 t274] 28 (0, 0))) ∧ Aside0 (Below w.heap.size w wc))
                              case first =>
                                have H := HC64.out
                                clear HC64
                                have HC72 := Aside0.mk H
                                clear H
                                go_upto_if 214 with (fail)
                                go_cut [214] (fun v214 wc => ∃ (kq : Nat) (x214_71 : Bool), v214 = .bool x214_71 ∧ Aside0 (foliotlaw02_StampNext.j3 kq 31 t259 x214_71 t258 t259 t260 t261 t262 t263 t264 t268 t269 t270 t271 t272 t273 t274 = some r) ∧ Aside0 (kq ≤ kj39) ∧ Aside0 (wc.heap[gb256]? = some (.cells #[.int .i64 a0_0, .int .u64 a0_1] 25 (0, 0))) ∧ Aside0 (wc.heap[gb266]? = some (.cells #[.int .i64 t258, .int .i64 t259, .int .i64 t260, .int .i64 t261, .int .i64 t262, .int .i64 t263, .int .u32 t264] 28 (0, 0))) ∧ Aside0 (wc.heap[gb267]? = some (.cells #[.int .i64 x268000_4, .int .u64 (IntKind.u64.wrap (a0_1 + 4294967296))] 25 (0, 0))) ∧ Aside0 (wc.heap[gb276]? = some (.cells #[.int .i64 t268, .int .i64 t269, .int .i64 t270, .int .i64 t271, .int .i64 t272, .int .i64 t273, .int .u32 t274] 28 (0, 0))) ∧ Aside0 (Below w.heap.size w wc))
                                case first =>
                                  have H := HC72.out
                                  clear HC72
                                  by_cases c73 : t259 = 4
                                  · as_aux_lemma =>
                                    rw [if_pos c73] at H
                                    have c73b0 : (t259 == 4) = true := beq_iff_eq.mpr c73
                                    have c73b1 : (t259 != 4) = false := bne_eq_false_iff_eq.mpr c73
                                    clear c73
                                    (first | rw [c73b0] | (simp only [i64_w, i32_w]; rw [c73b0]) | skip)
                                    have H' := Aside0.mk H
                                    clear H
                                    go_wp2
                                    go_meet
                                    case rel => exact ⟨_, ((t259 == 4)), (by first | rfl | (simp; done) | (simp [*]; done)), H', ⟨by have := HJ4.out; have := HJ23.out; have := HJ39.out; first | omega | exact Nat.le_refl _⟩, ⟨by (with_reducible repeat (first | refine blk_drewN ?_ _ | refine blk_drew ?_ | refine blk_alloc ?_ _)); exact BK256.out⟩, ⟨by (with_reducible repeat (first | refine blk_drewN ?_ _ | refine blk_drew ?_ | refine blk_alloc ?_ _)); exact BK266.out⟩, ⟨by (with_reducible repeat (first | refine blk_drewN ?_ _ | refine blk_drew ?_ | refine blk_alloc ?_ _)); exact BK267.out⟩, ⟨by (with_reducible repeat (first | refine blk_drewN ?_ _ | refine blk_drew ?_ | refine blk_alloc ?_ _)); exact BK276.out⟩, ⟨by repeat (first | (with_reducible first | exact HB.out | apply below_alloc | apply pw_below_drewN | apply below_drew1 | refine below_set ?_ GE256.out | refine below_set ?_ GE266.out | refine below_set ?_ GE267.out | refine below_set ?_ GE276.out) | exact HB.out)⟩⟩
                                  · as_aux_lemma =>
                                    rw [if_neg c73] at H
                                    have c73b0 : (t259 == 4) = false := beq_eq_false_iff_ne.mpr c73
                                    have c73b1 : (t259 != 4) = true := bne_iff_ne.mpr c73
                                    (first | rw [c73b0] | (simp only [i64_w, i32_w]; rw [c73b0]) | skip)
                                    by_cases c74 : t259 = 6
                                    · rw [if_pos c74] at H
                                      have c74b0 : (t259 == 6) = true := beq_iff_eq.mpr c74
                                      have c74b1 : (t259 != 6) = false := bne_eq_false_iff_eq.mpr c74
                                      clear c74
                                      have H' := Aside0.mk H
                                      clear H
                                      go_wp2
                                      go_meet
                                      case rel => exact ⟨_, ((t259 == 6)), (by first | rfl | (simp; done) | (simp [*]; done)), H', ⟨by have := HJ4.out; have := HJ23.out; have := HJ39.out; first | omega | exact Nat.le_refl _⟩, ⟨by (with_reducible repeat (first | refine blk_drewN ?_ _ | refine blk_drew ?_ | refine blk_alloc ?_ _)); exact BK256.out⟩, ⟨by (with_reducible repeat (first | refine blk_drewN ?_ _ | refine blk_drew ?_ | refine blk_alloc ?_ _)); exact BK266.out⟩, ⟨by (with_reducible repeat (first | refine blk_drewN ?_ _ | refine blk_drew ?_ | refine blk_alloc ?_ _)); exact BK267.out⟩, ⟨by (with_reducible repeat (first | refine blk_drewN ?_ _ | refine blk_drew ?_ | refine blk_alloc ?_ _)); exact BK276.out⟩, ⟨by repeat (first | (with_reducible first | exact HB.out | apply below_alloc | apply pw_below_drewN | apply below_drew1 | refine below_set ?_ GE256.out | refine below_set ?_ GE266.out | refine below_set ?_ GE267.out | refine below_set ?_ GE276.out) | exact HB.out)⟩⟩
                                    · rw [if_neg c74] at H
                                      have c74b0 : (t259 == 6) = false := beq_eq_false_iff_ne.mpr c74
                                      have c74b1 : (t259 != 6) = true := bne_iff_ne.mpr c74
                                      by_cases c75 : t259 = 9
                                      · rw [if_pos c75] at H
                                        have c75b0 : (t259 == 9) = true := beq_iff_eq.mpr c75
                                        have c75b1 : (t259 != 9) = false := bne_eq_false_iff_eq.mpr c75
                                        clear c75
                                        have H' := Aside0.mk H
                                        clear H
                                        go_wp2
                                        go_meet
                                        case rel => exact ⟨_, ((t259 == 9)), (by first | rfl | (simp; done) | (simp [*]; done)), H', ⟨by have := HJ4.out; have := HJ23.out; have := HJ39.out; first | omega | exact Nat.le_refl _⟩, ⟨by (with_reducible repeat (first | refine blk_drewN ?_ _ | refine blk_drew ?_ | refine blk_alloc ?_ _)); exact BK256.out⟩, ⟨by (with_reducible repeat (first | refine blk_drewN ?_ _ | refine blk_drew ?_ | refine blk_alloc ?_ _)); exact BK266.out⟩, ⟨by (with_reducible repeat (first | refine blk_drewN ?_ _ | refine blk_drew ?_ | refine blk_alloc ?_ _)); exact BK267.out⟩, ⟨by (with_reducible repeat (first | refine blk_drewN ?_ _ | refine blk_drew ?_ | refine blk_alloc ?_ _)); exact BK276.out⟩, ⟨by repeat (first | (with_reducible first | exact HB.out | apply below_alloc | apply pw_below_drewN | apply below_drew1 | refine below_set ?_ GE256.out | refine below_set ?_ GE266.out | refine below_set ?_ GE267.out | refine below_set ?_ GE276.out) | exact HB.out)⟩⟩
                                      · rw [if_neg c75] at H
                                        have c75b0 : (t259 == 9) = false := beq_eq_false_iff_ne.mpr c75
                                        have c75b1 : (t259 != 9) = true := bne_iff_ne.mpr c75
                                        have H' := Aside0.mk H
                                        clear H
                                        go_wp2
                                        go_meet
                                        case rel => exact ⟨_, ((t259 == 11)), (by first | rfl | (simp; done) | (simp [*]; done)), H', ⟨by have := HJ4.out; have := HJ23.out; have := HJ39.out; first | omega | exact Nat.le_refl _⟩, ⟨by (with_reducible repeat (first | refine blk_drewN ?_ _ | refine blk_drew ?_ | refine blk_alloc ?_ _)); exact BK256.out⟩, ⟨by (with_reducible repeat (first | refine blk_drewN ?_ _ | refine blk_drew ?_ | refine blk_alloc ?_ _)); exact BK266.out⟩, ⟨by (with_reducible repeat (first | refine blk_drewN ?_ _ | refine blk_drew ?_ | refine blk_alloc ?_ _)); exact BK267.out⟩, ⟨by (with_reducible repeat (first | refine blk_drewN ?_ _ | refine blk_drew ?_ | refine blk_alloc ?_ _)); exact BK276.out⟩, ⟨by repeat (first | (with_reducible first | exact HB.out | apply below_alloc | apply pw_below_drewN | apply below_drew1 | refine below_set ?_ GE256.out | refine below_set ?_ GE266.out | refine below_set ?_ GE267.out | refine below_set ?_ GE276.out) | exact HB.out)⟩⟩
                                case rest =>
                                  clear HC72
                                  try clear c1
                                  try clear c2
                                  try clear p2
                                  try clear c3
                                  try clear c4
                                  try clear c5
                                  try clear c6
                                  try clear p6
                                  try clear c7
                                  try clear c11
                                  try clear c13
                                  try clear c14
                                  try clear c15
                                  try clear c16
                                  try clear c19
                                  try clear c19b0
                                  try clear c20
                                  try clear c21
                                  try clear c25
                                  try clear c26
                                  try clear c30
                                  try clear c31
                                  try clear c32
                                  try clear c34
                                  try clear c34b0
                                  try clear c34b1
                                  try clear c35
                                  try clear c36
                                  try clear c36b0
                                  try clear c36b1
                                  try clear c37
                                  try clear c37b0
                                  try clear c37b1
                                  try clear c38
                                  try clear c38b0
                                  try clear c38b1
                                  try clear c39
                                  try clear c39b0
                                  try clear c39b1
                                  try clear c41
                                  try clear c42
                                  try clear c43
                                  try clear c45
                                  try clear c46
                                  try clear c48
                                  try clear c48b0
                                  try clear c48b1
                                  try clear c49
                                  try clear c49b0
                                  try clear c49b1
                                  try clear c50
                                  try clear c51
                                  try clear c52
                                  try clear c54
                                  try clear c55
                                  try clear c56
                                  try clear c58
                                  try clear c59
                                  try clear c60
                                  try clear c62
                                  try clear c63
                                  try clear c63b0
                                  try clear c63b1
                                  try clear p64
                                  try clear c65
                                  try clear c66
                                  try clear c67
                                  try clear c69
                                  try clear c70
                                  try clear c73
                                  try clear c73b0
                                  try clear c73b1
                                  try clear c74
                                  try clear c74b0
                                  try clear c74b1
                                  try clear c75
                                  try clear c75b0
                                  try clear c75b1
                                  try clear hcz12_0
                                  try clear hcz12_1
                                  try clear hcz12_2
                                  try clear hcz12_3
                                  try clear hcz12_4
                                  try clear hcz12_5
                                  try clear hcz12_6
                                  try clear hcz13_0
                                  try clear hcz13_1
                                  try clear hcz17_0
                                  try clear hcz17_1
                                  try clear hcz18_0
                                  try clear hcz18_1
                                  try clear hcz22_0
                                  try clear hcz22_1
                                  try clear hcz27_0
                                  try clear hcz27_1
                                  try clear hcz33_0
                                  try clear hcz33_1
                                  try clear hcz33_2
                                  try clear hcz33_3
                                  try clear hcz33_4
                                  try clear hcz33_5
                                  try clear hcz33_6
                                  try clear hcz44_0
                                  try clear hcz44_1
                                  try clear hcz44_2
                                  try clear hcz44_3
                                  try clear hcz44_4
                                  try clear hcz44_5
                                  try clear hcz44_6
                                  try clear hcz47_0
                                  try clear hcz47_1
                                  try clear hcz47_2
                                  try clear hcz47_3
                                  try clear hcz47_4
                                  try clear hcz47_5
                                  try clear hcz47_6
                                  try clear hcz53_0
                                  try clear hcz53_1
                                  try clear hcz53_2
                                  try clear hcz53_3
                                  try clear hcz53_4
                                  try clear hcz53_5
                                  try clear hcz53_6
                                  try clear hcz57_0
                                  try clear hcz57_1
                                  try clear hcz57_2
                                  try clear hcz57_3
                                  try clear hcz57_4
                                  try clear hcz57_5
                                  try clear hcz57_6
                                  try clear hcz61_0
                                  try clear hcz61_1
                                  try clear hcz61_2
                                  try clear hcz61_3
                                  try clear hcz61_4
                                  try clear hcz61_5
                                  try clear hcz61_6
                                  try clear hcz68_0
                                  try clear hcz68_1
                                  try clear hcz68_2
                                  try clear hcz68_3
                                  try clear hcz68_4
                                  try clear hcz68_5
                                  try clear hcz68_6
                                  try clear hcz71_0
                                  try clear hcz71_1
                                  try clear hcz71_2
                                  try clear hcz71_3
                                  try clear hcz71_4
                                  try clear hcz71_5
                                  try clear hcz71_6
                                  try clear hcz8_0
                                  try clear hcz8_1
                                  try clear hfz12_0
                                  try clear hfz12_1
                                  try clear hfz12_2
                                  try clear hfz12_3
                                  try clear hfz12_4
                                  try clear hfz12_5
                                  try clear hfz12_6
                                  try clear hfz13_0
                                  try clear hfz13_1
                                  try clear hfz17_0
                                  try clear hfz17_1
                                  try clear hfz18_0
                                  try clear hfz18_1
                                  try clear hfz22_0
                                  try clear hfz22_1
                                  try clear hfz27_0
                                  try clear hfz27_1
                                  try clear hfz33_0
                                  try clear hfz33_1
                                  try clear hfz33_2
                                  try clear hfz33_3
                                  try clear hfz33_4
                                  try clear hfz33_5
                                  try clear hfz33_6
                                  try clear hfz44_0
                                  try clear hfz44_1
                                  try clear hfz44_2
                                  try clear hfz44_3
                                  try clear hfz44_4
                                  try clear hfz44_5
                                  try clear hfz44_6
                                  try clear hfz47_0
                                  try clear hfz47_1
                                  try clear hfz47_2
                                  try clear hfz47_3
                                  try clear hfz47_4
                                  try clear hfz47_5
                                  try clear hfz47_6
                                  try clear hfz53_0
                                  try clear hfz53_1
                                  try clear hfz53_2
                                  try clear hfz53_3
                                  try clear hfz53_4
                                  try clear hfz53_5
                                  try clear hfz53_6
                                  try clear hfz57_0
                                  try clear hfz57_1
                                  try clear hfz57_2
                                  try clear hfz57_3
                                  try clear hfz57_4
                                  try clear hfz57_5
                                  try clear hfz57_6
                                  try clear hfz61_0
                                  try clear hfz61_1
                                  try clear hfz61_2
                                  try clear hfz61_3
                                  try clear hfz61_4
                                  try clear hfz61_5
                                  try clear hfz61_6
                                  try clear hfz68_0
                                  try clear hfz68_1
                                  try clear hfz68_2
                                  try clear hfz68_3
                                  try clear hfz68_4
                                  try clear hfz68_5
                                  try clear hfz68_6
                                  try clear hfz71_0
                                  try clear hfz71_1
                                  try clear hfz71_2
                                  try clear hfz71_3
                                  try clear hfz71_4
                                  try clear hfz71_5
                                  try clear hfz71_6
                                  try clear hfz8_0
                                  try clear hfz8_1
                                  try clear p2
                                  try clear p6
                                  obtain ⟨kq, x214_71, rfl, HA, HJ71, BK256, BK266, BK267, BK276, HB⟩ := hcut
                                  cases kq with
                                  | zero => exact absurd HA.out (by simp [foliotlaw02_StampNext.j3])
                                  | succ kj71 =>
                                    have H := HA.out
                                    clear HA
                                    simp only [foliotlaw02_StampNext.j3] at H
                                    by_cases c76 : x214_71 = true
                                    · as_aux_lemma =>
                                      subst c76
                                      have H1 : (foliotlaw02_StampNext.j4 kj71 30 t258 t259 t260 t261 t262 t263 t264 t268 t269 t270 t271 t272 t273 t274) = some r := by rw [if_pos rfl] at H; exact H
                                      clear H
                                      have H := H1
                                      clear H1
                                      have H' := Aside0.mk H
                                      clear H
                                      go_wp2
                                      go_meet
                                      case rel => exact ⟨_, (30), (by first | rfl | (simp; done) | (simp [*]; done)), H', ⟨by have := HJ4.out; have := HJ23.out; have := HJ39.out; have := HJ71.out; first | omega | exact Nat.le_refl _⟩, ⟨by (with_reducible repeat (first | refine blk_drewN ?_ _ | refine blk_drew ?_ | refine blk_alloc ?_ _)); exact BK256.out⟩, ⟨by (with_reducible repeat (first | refine blk_drewN ?_ _ | refine blk_drew ?_ | refine blk_alloc ?_ _)); exact BK266.out⟩, ⟨by (with_reducible repeat (first | refine blk_drewN ?_ _ | refine blk_drew ?_ | refine blk_alloc ?_ _)); exact BK267.out⟩, ⟨by (with_reducible repeat (first | refine blk_drewN ?_ _ | refine blk_drew ?_ | refine blk_alloc ?_ _)); exact BK276.out⟩, ⟨by repeat (first | (with_reducible first | exact HB.out | apply below_alloc | apply pw_below_drewN | apply below_drew1 | refine below_set ?_ GE256.out | refine below_set ?_ GE266.out | refine below_set ?_ GE267.out | refine below_set ?_ GE276.out) | exact HB.out)⟩⟩
                                    · as_aux_lemma =>
                                      replace c76 := Bool.eq_false_iff.mpr c76
                                      subst c76
                                      have H1 : (if t259 = 2 then (if (Int.tmod t258 4) = 0 then (if (Int.tmod t258 100) = 0 then (if (Int.tmod t258 400) = 0 then (foliotlaw02_StampNext.j4 kj71 29 t258 t259 t260 t261 t262 t263 t264 t268 t269 t270 t271 t272 t273 t274) else (foliotlaw02_StampNext.j4 kj71 28 t258 t259 t260 t261 t262 t263 t264 t268 t269 t270 t271 t272 t273 t274)) else (foliotlaw02_StampNext.j4 kj71 29 t258 t259 t260 t261 t262 t263 t264 t268 t269 t270 t271 t272 t273 t274)) else (foliotlaw02_StampNext.j4 kj71 28 t258 t259 t260 t261 t262 t263 t264 t268 t269 t270 t271 t272 t273 t274)) else (foliotlaw02_StampNext.j4 kj71 31 t258 t259 t260 t261 t262 t263 t264 t268 t269 t270 t271 t272 t273 t274)) = some r := by rw [if_neg (show ¬ (false = true) by decide)] at H; exact H
                                      clear H
                                      have H := H1
                                      clear H1
                                      by_cases c77 : t259 = 2
                                      · rw [if_pos c77] at H
                                        have c77b0 : (t259 == 2) = true := beq_iff_eq.mpr c77
                                        have c77b1 : (t259 != 2) = false := bne_eq_false_iff_eq.mpr c77
                                        clear c77
                                        by_cases c78 : (Int.tmod t258 4) = 0
                                        · rw [if_pos c78] at H
                                          have c78b0 : ((Int.tmod t258 4) == 0) = true := beq_iff_eq.mpr c78
                                          have c78b1 : ((Int.tmod t258 4) != 0) = false := bne_eq_false_iff_eq.mpr c78
                                          clear c78
                                          by_cases c79 : (Int.tmod t258 100) = 0
                                          · rw [if_pos c79] at H
                                            have c79b0 : ((Int.tmod t258 100) == 0) = true := beq_iff_eq.mpr c79
                                            have c79b1 : ((Int.tmod t258 100) != 0) = false := bne_eq_false_iff_eq.mpr c79
                                            clear c79
                                            by_cases c80 : (Int.tmod t258 400) = 0
                                            · rw [if_pos c80] at H
                                              have c80b0 : ((Int.tmod t258 400) == 0) = true := beq_iff_eq.mpr c80
                                              have c80b1 : ((Int.tmod t258 400) != 0) = false := bne_eq_false_iff_eq.mpr c80
                                              clear c80
                                              have H' := Aside0.mk H
                                              clear H
                                              have hnb81 := NB266_256.out
                                              have hnc81 := NB256_266.out
                                              have hnb82 := NB266_267.out
                                              have hnc82 := NB267_266.out
                                              have hnb83 := NB266_276.out
                                              have hnc83 := NB276_266.out
                                              have hcz84_0 : wc.cell? ⟨gb266, 0, none⟩ = some (.int .i64 t258) := (blk_cell BK266.out 0).trans rfl
                                              have hcz84_1 : wc.cell? ⟨gb266, 1, none⟩ = some (.int .i64 t259) := (blk_cell BK266.out 1).trans rfl
                                              have hcz84_2 : wc.cell? ⟨gb266, 2, none⟩ = some (.int .i64 t260) := (blk_cell BK266.out 2).trans rfl
                                              have hcz84_3 : wc.cell? ⟨gb266, 3, none⟩ = some (.int .i64 t261) := (blk_cell BK266.out 3).trans rfl
                                              have hcz84_4 : wc.cell? ⟨gb266, 4, none⟩ = some (.int .i64 t262) := (blk_cell BK266.out 4).trans rfl
                                              have hcz84_5 : wc.cell? ⟨gb266, 5, none⟩ = some (.int .i64 t263) := (blk_cell BK266.out 5).trans rfl
                                              have hcz84_6 : wc.cell? ⟨gb266, 6, none⟩ = some (.int .u32 t264) := (blk_cell BK266.out 6).trans rfl
                                              have hfz84_0 := blk_frozen BK266.out 0
                                              have hfz84_1 := blk_frozen BK266.out 1
                                              have hfz84_2 := blk_frozen BK266.out 2
                                              have hfz84_3 := blk_frozen BK266.out 3
                                              have hfz84_4 := blk_frozen BK266.out 4
                                              have hfz84_5 := blk_frozen BK266.out 5
                                              have hfz84_6 := blk_frozen BK266.out 6
                                              go_wp2
                                              go_meet
                                              case rel => exact ⟨_, (29), (by first | rfl | (simp; done) | (simp [*]; done)), H', ⟨by have := HJ4.out; have := HJ23.out; have := HJ39.out; have := HJ71.out; first | omega | exact Nat.le_refl _⟩, ⟨by (with_reducible repeat (first | refine blk_drewN ?_ _ | refine blk_drew ?_ | refine blk_alloc ?_ _)); exact BK256.out⟩, ⟨by (with_reducible repeat (first | refine blk_drewN ?_ _ | refine blk_drew ?_ | refine blk_alloc ?_ _)); exact BK266.out⟩, ⟨by (with_reducible repeat (first | refine blk_drewN ?_ _ | refine blk_drew ?_ | refine blk_alloc ?_ _)); exact BK267.out⟩, ⟨by (with_reducible repeat (first | refine blk_drewN ?_ _ | refine blk_drew ?_ | refine blk_alloc ?_ _)); exact BK276.out⟩, ⟨by repeat (first | (with_reducible first | exact HB.out | apply below_alloc | apply pw_below_drewN | apply below_drew1 | refine below_set ?_ GE256.out | refine below_set ?_ GE266.out | refine below_set ?_ GE267.out | refine below_set ?_ GE276.out) | exact HB.out)⟩⟩
                                            · rw [if_neg c80] at H
                                              have c80b0 : ((Int.tmod t258 400) == 0) = false := beq_eq_false_iff_ne.mpr c80
                                              have c80b1 : ((Int.tmod t258 400) != 0) = true := bne_iff_ne.mpr c80
                                              have H' := Aside0.mk H
                                              clear H
                                              have hnb85 := NB266_256.out
                                              have hnc85 := NB256_266.out
                                              have hnb86 := NB266_267.out
                                              have hnc86 := NB267_266.out
                                              have hnb87 := NB266_276.out
                                              have hnc87 := NB276_266.out
                                              have hcz88_0 : wc.cell? ⟨gb266, 0, none⟩ = some (.int .i64 t258) := (blk_cell BK266.out 0).trans rfl
                                              have hcz88_1 : wc.cell? ⟨gb266, 1, none⟩ = some (.int .i64 t259) := (blk_cell BK266.out 1).trans rfl
                                              have hcz88_2 : wc.cell? ⟨gb266, 2, none⟩ = some (.int .i64 t260) := (blk_cell BK266.out 2).trans rfl
                                              have hcz88_3 : wc.cell? ⟨gb266, 3, none⟩ = some (.int .i64 t261) := (blk_cell BK266.out 3).trans rfl
                                              have hcz88_4 : wc.cell? ⟨gb266, 4, none⟩ = some (.int .i64 t262) := (blk_cell BK266.out 4).trans rfl
                                              have hcz88_5 : wc.cell? ⟨gb266, 5, none⟩ = some (.int .i64 t263) := (blk_cell BK266.out 5).trans rfl
                                              have hcz88_6 : wc.cell? ⟨gb266, 6, none⟩ = some (.int .u32 t264) := (blk_cell BK266.out 6).trans rfl
                                              have hfz88_0 := blk_frozen BK266.out 0
                                              have hfz88_1 := blk_frozen BK266.out 1
                                              have hfz88_2 := blk_frozen BK266.out 2
                                              have hfz88_3 := blk_frozen BK266.out 3
                                              have hfz88_4 := blk_frozen BK266.out 4
                                              have hfz88_5 := blk_frozen BK266.out 5
                                              have hfz88_6 := blk_frozen BK266.out 6
                                              go_wp2
                                              go_meet
                                              case rel => exact ⟨_, (28), (by first | rfl | (simp; done) | (simp [*]; done)), H', ⟨by have := HJ4.out; have := HJ23.out; have := HJ39.out; have := HJ71.out; first | omega | exact Nat.le_refl _⟩, ⟨by (with_reducible repeat (first | refine blk_drewN ?_ _ | refine blk_drew ?_ | refine blk_alloc ?_ _)); exact BK256.out⟩, ⟨by (with_reducible repeat (first | refine blk_drewN ?_ _ | refine blk_drew ?_ | refine blk_alloc ?_ _)); exact BK266.out⟩, ⟨by (with_reducible repeat (first | refine blk_drewN ?_ _ | refine blk_drew ?_ | refine blk_alloc ?_ _)); exact BK267.out⟩, ⟨by (with_reducible repeat (first | refine blk_drewN ?_ _ | refine blk_drew ?_ | refine blk_alloc ?_ _)); exact BK276.out⟩, ⟨by repeat (first | (with_reducible first | exact HB.out | apply below_alloc | apply pw_below_drewN | apply below_drew1 | refine below_set ?_ GE256.out | refine below_set ?_ GE266.out | refine below_set ?_ GE267.out | refine below_set ?_ GE276.out) | exact HB.out)⟩⟩
                                          · rw [if_neg c79] at H
                                            have c79b0 : ((Int.tmod t258 100) == 0) = false := beq_eq_false_iff_ne.mpr c79
                                            have c79b1 : ((Int.tmod t258 100) != 0) = true := bne_iff_ne.mpr c79
                                            have H' := Aside0.mk H
                                            clear H
                                            have hnb89 := NB266_256.out
                                            have hnc89 := NB256_266.out
                                            have hnb90 := NB266_267.out
                                            have hnc90 := NB267_266.out
                                            have hnb91 := NB266_276.out
                                            have hnc91 := NB276_266.out
                                            have hcz92_0 : wc.cell? ⟨gb266, 0, none⟩ = some (.int .i64 t258) := (blk_cell BK266.out 0).trans rfl
                                            have hcz92_1 : wc.cell? ⟨gb266, 1, none⟩ = some (.int .i64 t259) := (blk_cell BK266.out 1).trans rfl
                                            have hcz92_2 : wc.cell? ⟨gb266, 2, none⟩ = some (.int .i64 t260) := (blk_cell BK266.out 2).trans rfl
                                            have hcz92_3 : wc.cell? ⟨gb266, 3, none⟩ = some (.int .i64 t261) := (blk_cell BK266.out 3).trans rfl
                                            have hcz92_4 : wc.cell? ⟨gb266, 4, none⟩ = some (.int .i64 t262) := (blk_cell BK266.out 4).trans rfl
                                            have hcz92_5 : wc.cell? ⟨gb266, 5, none⟩ = some (.int .i64 t263) := (blk_cell BK266.out 5).trans rfl
                                            have hcz92_6 : wc.cell? ⟨gb266, 6, none⟩ = some (.int .u32 t264) := (blk_cell BK266.out 6).trans rfl
                                            have hfz92_0 := blk_frozen BK266.out 0
                                            have hfz92_1 := blk_frozen BK266.out 1
                                            have hfz92_2 := blk_frozen BK266.out 2
                                            have hfz92_3 := blk_frozen BK266.out 3
                                            have hfz92_4 := blk_frozen BK266.out 4
                                            have hfz92_5 := blk_frozen BK266.out 5
                                            have hfz92_6 := blk_frozen BK266.out 6
                                            go_wp2
                                            go_meet
                                            case rel => exact ⟨_, (29), (by first | rfl | (simp; done) | (simp [*]; done)), H', ⟨by have := HJ4.out; have := HJ23.out; have := HJ39.out; have := HJ71.out; first | omega | exact Nat.le_refl _⟩, ⟨by (with_reducible repeat (first | refine blk_drewN ?_ _ | refine blk_drew ?_ | refine blk_alloc ?_ _)); exact BK256.out⟩, ⟨by (with_reducible repeat (first | refine blk_drewN ?_ _ | refine blk_drew ?_ | refine blk_alloc ?_ _)); exact BK266.out⟩, ⟨by (with_reducible repeat (first | refine blk_drewN ?_ _ | refine blk_drew ?_ | refine blk_alloc ?_ _)); exact BK267.out⟩, ⟨by (with_reducible repeat (first | refine blk_drewN ?_ _ | refine blk_drew ?_ | refine blk_alloc ?_ _)); exact BK276.out⟩, ⟨by repeat (first | (with_reducible first | exact HB.out | apply below_alloc | apply pw_below_drewN | apply below_drew1 | refine below_set ?_ GE256.out | refine below_set ?_ GE266.out | refine below_set ?_ GE267.out | refine below_set ?_ GE276.out) | exact HB.out)⟩⟩
                                        · rw [if_neg c78] at H
                                          have c78b0 : ((Int.tmod t258 4) == 0) = false := beq_eq_false_iff_ne.mpr c78
                                          have c78b1 : ((Int.tmod t258 4) != 0) = true := bne_iff_ne.mpr c78
                                          have H' := Aside0.mk H
                                          clear H
                                          have hnb93 := NB266_256.out
                                          have hnc93 := NB256_266.out
                                          have hnb94 := NB266_267.out
                                          have hnc94 := NB267_266.out
                                          have hnb95 := NB266_276.out
                                          have hnc95 := NB276_266.out
                                          have hcz96_0 : wc.cell? ⟨gb266, 0, none⟩ = some (.int .i64 t258) := (blk_cell BK266.out 0).trans rfl
                                          have hcz96_1 : wc.cell? ⟨gb266, 1, none⟩ = some (.int .i64 t259) := (blk_cell BK266.out 1).trans rfl
                                          have hcz96_2 : wc.cell? ⟨gb266, 2, none⟩ = some (.int .i64 t260) := (blk_cell BK266.out 2).trans rfl
                                          have hcz96_3 : wc.cell? ⟨gb266, 3, none⟩ = some (.int .i64 t261) := (blk_cell BK266.out 3).trans rfl
                                          have hcz96_4 : wc.cell? ⟨gb266, 4, none⟩ = some (.int .i64 t262) := (blk_cell BK266.out 4).trans rfl
                                          have hcz96_5 : wc.cell? ⟨gb266, 5, none⟩ = some (.int .i64 t263) := (blk_cell BK266.out 5).trans rfl
                                          have hcz96_6 : wc.cell? ⟨gb266, 6, none⟩ = some (.int .u32 t264) := (blk_cell BK266.out 6).trans rfl
                                          have hfz96_0 := blk_frozen BK266.out 0
                                          have hfz96_1 := blk_frozen BK266.out 1
                                          have hfz96_2 := blk_frozen BK266.out 2
                                          have hfz96_3 := blk_frozen BK266.out 3
                                          have hfz96_4 := blk_frozen BK266.out 4
                                          have hfz96_5 := blk_frozen BK266.out 5
                                          have hfz96_6 := blk_frozen BK266.out 6
                                          go_wp2
                                          go_meet
                                          case rel => exact ⟨_, (28), (by first | rfl | (simp; done) | (simp [*]; done)), H', ⟨by have := HJ4.out; have := HJ23.out; have := HJ39.out; have := HJ71.out; first | omega | exact Nat.le_refl _⟩, ⟨by (with_reducible repeat (first | refine blk_drewN ?_ _ | refine blk_drew ?_ | refine blk_alloc ?_ _)); exact BK256.out⟩, ⟨by (with_reducible repeat (first | refine blk_drewN ?_ _ | refine blk_drew ?_ | refine blk_alloc ?_ _)); exact BK266.out⟩, ⟨by (with_reducible repeat (first | refine blk_drewN ?_ _ | refine blk_drew ?_ | refine blk_alloc ?_ _)); exact BK267.out⟩, ⟨by (with_reducible repeat (first | refine blk_drewN ?_ _ | refine blk_drew ?_ | refine blk_alloc ?_ _)); exact BK276.out⟩, ⟨by repeat (first | (with_reducible first | exact HB.out | apply below_alloc | apply pw_below_drewN | apply below_drew1 | refine below_set ?_ GE256.out | refine below_set ?_ GE266.out | refine below_set ?_ GE267.out | refine below_set ?_ GE276.out) | exact HB.out)⟩⟩
                                      · rw [if_neg c77] at H
                                        have c77b0 : (t259 == 2) = false := beq_eq_false_iff_ne.mpr c77
                                        have c77b1 : (t259 != 2) = true := bne_iff_ne.mpr c77
                                        have H' := Aside0.mk H
                                        clear H
                                        go_wp2
                                        go_meet
                                        case rel => exact ⟨_, (31), (by first | rfl | (simp; done) | (simp [*]; done)), H', ⟨by have := HJ4.out; have := HJ23.out; have := HJ39.out; have := HJ71.out; first | omega | exact Nat.le_refl _⟩, ⟨by (with_reducible repeat (first | refine blk_drewN ?_ _ | refine blk_drew ?_ | refine blk_alloc ?_ _)); exact BK256.out⟩, ⟨by (with_reducible repeat (first | refine blk_drewN ?_ _ | refine blk_drew ?_ | refine blk_alloc ?_ _)); exact BK266.out⟩, ⟨by (with_reducible repeat (first | refine blk_drewN ?_ _ | refine blk_drew ?_ | refine blk_alloc ?_ _)); exact BK267.out⟩, ⟨by (with_reducible repeat (first | refine blk_drewN ?_ _ | refine blk_drew ?_ | refine blk_alloc ?_ _)); exact BK276.out⟩, ⟨by repeat (first | (with_reducible first | exact HB.out | apply below_alloc | apply pw_below_drewN | apply below_drew1 | refine below_set ?_ GE256.out | refine below_set ?_ GE266.out | refine below_set ?_ GE267.out | refine below_set ?_ GE276.out) | exact HB.out)⟩⟩
                              case rest =>
                                clear HC64
                                try clear c1
                                try clear c2
                                try clear p2
                                try clear c3
                                try clear c4
                                try clear c5
                                try clear c6
                                try clear p6
                                try clear c7
                                try clear c8
                                try clear c9
                                try clear c11
                                try clear c13
                                try clear c14
                                try clear c15
                                try clear c16
                                try clear c19
                                try clear c19b0
                                try clear c20
                                try clear c21
                                try clear c25
                                try clear c26
                                try clear c30
                                try clear c31
                                try clear c32
                                try clear c34
                                try clear c34b0
                                try clear c34b1
                                try clear c35
                                try clear c36
                                try clear c36b0
                                try clear c36b1
                                try clear c37
                                try clear c37b0
                                try clear c37b1
                                try clear c38
                                try clear c38b0
                                try clear c38b1
                                try clear c39
                                try clear c39b0
                                try clear c39b1
                                try clear c41
                                try clear c42
                                try clear c43
                                try clear c45
                                try clear c46
                                try clear c48
                                try clear c48b0
                                try clear c48b1
                                try clear c49
                                try clear c49b0
                                try clear c49b1
                                try clear c50
                                try clear c51
                                try clear c52
                                try clear c54
                                try clear c55
                                try clear c56
                                try clear c58
                                try clear c59
                                try clear c60
                                try clear c62
                                try clear c63
                                try clear c63b0
                                try clear c63b1
                                try clear p64
                                try clear c65
                                try clear c66
                                try clear c67
                                try clear c69
                                try clear c70
                                try clear c73
                                try clear c73b0
                                try clear c73b1
                                try clear c74
                                try clear c74b0
                                try clear c74b1
                                try clear c75
                                try clear c75b0
                                try clear c75b1
                                try clear c76
                                try clear c77
                                try clear c77b0
                                try clear c77b1
                                try clear c78
                                try clear c78b0
                                try clear c78b1
                                try clear c79
                                try clear c79b0
                                try clear c79b1
                                try clear c80
                                try clear c80b0
                                try clear c80b1
                                try clear c81
                                try clear c82
                                try clear c83
                                try clear c85
                                try clear c86
                                try clear c87
                                try clear c89
                                try clear c90
                                try clear c91
                                try clear c93
                                try clear c94
                                try clear c95
                                try clear hcz12_0
                                try clear hcz12_1
                                try clear hcz12_2
                                try clear hcz12_3
                                try clear hcz12_4
                                try clear hcz12_5
                                try clear hcz12_6
                                try clear hcz13_0
                                try clear hcz13_1
                                try clear hcz17_0
                                try clear hcz17_1
                                try clear hcz18_0
                                try clear hcz18_1
                                try clear hcz22_0
                                try clear hcz22_1
                                try clear hcz27_0
                                try clear hcz27_1
                                try clear hcz33_0
                                try clear hcz33_1
                                try clear hcz33_2
                                try clear hcz33_3
                                try clear hcz33_4
                                try clear hcz33_5
                                try clear hcz33_6
                                try clear hcz44_0
                                try clear hcz44_1
                                try clear hcz44_2
                                try clear hcz44_3
                                try clear hcz44_4
                                try clear hcz44_5
                                try clear hcz44_6
                                try clear hcz47_0
                                try clear hcz47_1
                                try clear hcz47_2
                                try clear hcz47_3
                                try clear hcz47_4
                                try clear hcz47_5
                                try clear hcz47_6
                                try clear hcz53_0
                                try clear hcz53_1
                                try clear hcz53_2
                                try clear hcz53_3
                                try clear hcz53_4
                                try clear hcz53_5
                                try clear hcz53_6
                                try clear hcz57_0
                                try clear hcz57_1
                                try clear hcz57_2
                                try clear hcz57_3
                                try clear hcz57_4
                                try clear hcz57_5
                                try clear hcz57_6
                                try clear hcz61_0
                                try clear hcz61_1
                                try clear hcz61_2
                                try clear hcz61_3
                                try clear hcz61_4
                                try clear hcz61_5
                                try clear hcz61_6
                                try clear hcz68_0
                                try clear hcz68_1
                                try clear hcz68_2
                                try clear hcz68_3
                                try clear hcz68_4
                                try clear hcz68_5
                                try clear hcz68_6
                                try clear hcz71_0
                                try clear hcz71_1
                                try clear hcz71_2
                                try clear hcz71_3
                                try clear hcz71_4
                                try clear hcz71_5
                                try clear hcz71_6
                                try clear hcz84_0
                                try clear hcz84_1
                                try clear hcz84_2
                                try clear hcz84_3
                                try clear hcz84_4
                                try clear hcz84_5
                                try clear hcz84_6
                                try clear hcz88_0
                                try clear hcz88_1
                                try clear hcz88_2
                                try clear hcz88_3
                                try clear hcz88_4
                                try clear hcz88_5
                                try clear hcz88_6
                                try clear hcz8_0
                                try clear hcz8_1
                                try clear hcz92_0
                                try clear hcz92_1
                                try clear hcz92_2
                                try clear hcz92_3
                                try clear hcz92_4
                                try clear hcz92_5
                                try clear hcz92_6
                                try clear hcz96_0
                                try clear hcz96_1
                                try clear hcz96_2
                                try clear hcz96_3
                                try clear hcz96_4
                                try clear hcz96_5
                                try clear hcz96_6
                                try clear hfz12_0
                                try clear hfz12_1
                                try clear hfz12_2
                                try clear hfz12_3
                                try clear hfz12_4
                                try clear hfz12_5
                                try clear hfz12_6
                                try clear hfz13_0
                                try clear hfz13_1
                                try clear hfz17_0
                                try clear hfz17_1
                                try clear hfz18_0
                                try clear hfz18_1
                                try clear hfz22_0
                                try clear hfz22_1
                                try clear hfz27_0
                                try clear hfz27_1
                                try clear hfz33_0
                                try clear hfz33_1
                                try clear hfz33_2
                                try clear hfz33_3
                                try clear hfz33_4
                                try clear hfz33_5
                                try clear hfz33_6
                                try clear hfz44_0
                                try clear hfz44_1
                                try clear hfz44_2
                                try clear hfz44_3
                                try clear hfz44_4
                                try clear hfz44_5
                                try clear hfz44_6
                                try clear hfz47_0
                                try clear hfz47_1
                                try clear hfz47_2
                                try clear hfz47_3
                                try clear hfz47_4
                                try clear hfz47_5
                                try clear hfz47_6
                                try clear hfz53_0
                                try clear hfz53_1
                                try clear hfz53_2
                                try clear hfz53_3
                                try clear hfz53_4
                                try clear hfz53_5
                                try clear hfz53_6
                                try clear hfz57_0
                                try clear hfz57_1
                                try clear hfz57_2
                                try clear hfz57_3
                                try clear hfz57_4
                                try clear hfz57_5
                                try clear hfz57_6
                                try clear hfz61_0
                                try clear hfz61_1
                                try clear hfz61_2
                                try clear hfz61_3
                                try clear hfz61_4
                                try clear hfz61_5
                                try clear hfz61_6
                                try clear hfz68_0
                                try clear hfz68_1
                                try clear hfz68_2
                                try clear hfz68_3
                                try clear hfz68_4
                                try clear hfz68_5
                                try clear hfz68_6
                                try clear hfz71_0
                                try clear hfz71_1
                                try clear hfz71_2
                                try clear hfz71_3
                                try clear hfz71_4
                                try clear hfz71_5
                                try clear hfz71_6
                                try clear hfz84_0
                                try clear hfz84_1
                                try clear hfz84_2
                                try clear hfz84_3
                                try clear hfz84_4
                                try clear hfz84_5
                                try clear hfz84_6
                                try clear hfz88_0
                                try clear hfz88_1
                                try clear hfz88_2
                                try clear hfz88_3
                                try clear hfz88_4
                                try clear hfz88_5
                                try clear hfz88_6
                                try clear hfz8_0
                                try clear hfz8_1
                                try clear hfz92_0
                                try clear hfz92_1
                                try clear hfz92_2
                                try clear hfz92_3
                                try clear hfz92_4
                                try clear hfz92_5
                                try clear hfz92_6
                                try clear hfz96_0
                                try clear hfz96_1
                                try clear hfz96_2
                                try clear hfz96_3
                                try clear hfz96_4
                                try clear hfz96_5
                                try clear hfz96_6
                                try clear p2
                                try clear p6
                                try clear p64
                                obtain ⟨kq, x8_63, rfl, HA, HJ63, BK256, BK266, BK267, BK276, HB⟩ := hcut
                                cases kq with
                                | zero => exact absurd HA.out (by simp [foliotlaw02_StampNext.j4])
                                | succ kj63 =>
                                  have H := HA.out
                                  clear HA
                                  simp only [foliotlaw02_StampNext.j4] at H
                                  by_cases c97 : t260 = x8_63
                                  · as_aux_lemma =>
                                    rw [if_pos c97] at H
                                    have c97b0 : (t260 == x8_63) = true := beq_iff_eq.mpr c97
                                    have c97b1 : (t260 != x8_63) = false := bne_eq_false_iff_eq.mpr c97
                                    clear c97
                                    by_cases c98 : t269 = 1
                                    · rw [if_pos c98] at H
                                      have c98b0 : (t269 == 1) = true := beq_iff_eq.mpr c98
                                      have c98b1 : (t269 != 1) = false := bne_eq_false_iff_eq.mpr c98
                                      clear c98
                                      by_cases c99 : t259 = 12
                                      · rw [if_pos c99] at H
                                        have c99b0 : (t259 == 12) = true := beq_iff_eq.mpr c99
                                        have c99b1 : (t259 != 12) = false := bne_eq_false_iff_eq.mpr c99
                                        clear c99
                                        obtain rfl := Option.some.inj H
                                        have hnb100 := NB266_256.out
                                        have hnc100 := NB256_266.out
                                        have hnb101 := NB266_267.out
                                        have hnc101 := NB267_266.out
                                        have hnb102 := NB266_276.out
                                        have hnc102 := NB276_266.out
                                        have hcz103_0 : wc.cell? ⟨gb266, 0, none⟩ = some (.int .i64 t258) := (blk_cell BK266.out 0).trans rfl
                                        have hcz103_1 : wc.cell? ⟨gb266, 1, none⟩ = some (.int .i64 t259) := (blk_cell BK266.out 1).trans rfl
                                        have hcz103_2 : wc.cell? ⟨gb266, 2, none⟩ = some (.int .i64 t260) := (blk_cell BK266.out 2).trans rfl
                                        have hcz103_3 : wc.cell? ⟨gb266, 3, none⟩ = some (.int .i64 t261) := (blk_cell BK266.out 3).trans rfl
                                        have hcz103_4 : wc.cell? ⟨gb266, 4, none⟩ = some (.int .i64 t262) := (blk_cell BK266.out 4).trans rfl
                                        have hcz103_5 : wc.cell? ⟨gb266, 5, none⟩ = some (.int .i64 t263) := (blk_cell BK266.out 5).trans rfl
                                        have hcz103_6 : wc.cell? ⟨gb266, 6, none⟩ = some (.int .u32 t264) := (blk_cell BK266.out 6).trans rfl
                                        have hfz103_0 := blk_frozen BK266.out 0
                                        have hfz103_1 := blk_frozen BK266.out 1
                                        have hfz103_2 := blk_frozen BK266.out 2
                                        have hfz103_3 := blk_frozen BK266.out 3
                                        have hfz103_4 := blk_frozen BK266.out 4
                                        have hfz103_5 := blk_frozen BK266.out 5
                                        have hfz103_6 := blk_frozen BK266.out 6
                                        have hnb104 := NB276_256.out
                                        have hnc104 := NB256_276.out
                                        have hnb105 := NB276_267.out
                                        have hnc105 := NB267_276.out
                                        have hcz106_0 : wc.cell? ⟨gb276, 0, none⟩ = some (.int .i64 t268) := (blk_cell BK276.out 0).trans rfl
                                        have hcz106_1 : wc.cell? ⟨gb276, 1, none⟩ = some (.int .i64 t269) := (blk_cell BK276.out 1).trans rfl
                                        have hcz106_2 : wc.cell? ⟨gb276, 2, none⟩ = some (.int .i64 t270) := (blk_cell BK276.out 2).trans rfl
                                        have hcz106_3 : wc.cell? ⟨gb276, 3, none⟩ = some (.int .i64 t271) := (blk_cell BK276.out 3).trans rfl
                                        have hcz106_4 : wc.cell? ⟨gb276, 4, none⟩ = some (.int .i64 t272) := (blk_cell BK276.out 4).trans rfl
                                        have hcz106_5 : wc.cell? ⟨gb276, 5, none⟩ = some (.int .i64 t273) := (blk_cell BK276.out 5).trans rfl
                                        have hcz106_6 : wc.cell? ⟨gb276, 6, none⟩ = some (.int .u32 t274) := (blk_cell BK276.out 6).trans rfl
                                        have hfz106_0 := blk_frozen BK276.out 0
                                        have hfz106_1 := blk_frozen BK276.out 1
                                        have hfz106_2 := blk_frozen BK276.out 2
                                        have hfz106_3 := blk_frozen BK276.out 3
                                        have hfz106_4 := blk_frozen BK276.out 4
                                        have hfz106_5 := blk_frozen BK276.out 5
                                        have hfz106_6 := blk_frozen BK276.out 6
                                        go_wp2
                                        go_ret
                                        exact ⟨by first | rfl | (simp [errW_none, errW_some] <;> rfl) | (simp [*, errW_none, errW_some] <;> rfl), by repeat (first | (with_reducible first | exact HB.out | apply below_alloc | apply pw_below_drewN | apply below_drew1 | refine below_set ?_ GE256.out | refine below_set ?_ GE266.out | refine below_set ?_ GE267.out | refine below_set ?_ GE276.out) | exact HB.out)⟩
                                      · rw [if_neg c99] at H
                                        have c99b0 : (t259 == 12) = false := beq_eq_false_iff_ne.mpr c99
                                        have c99b1 : (t259 != 12) = true := bne_iff_ne.mpr c99
                                        obtain rfl := Option.some.inj H
                                        have hnb107 := NB266_256.out
                                        have hnc107 := NB256_266.out
                                        have hnb108 := NB266_267.out
                                        have hnc108 := NB267_266.out
                                        have hnb109 := NB266_276.out
                                        have hnc109 := NB276_266.out
                                        have hcz110_0 : wc.cell? ⟨gb266, 0, none⟩ = some (.int .i64 t258) := (blk_cell BK266.out 0).trans rfl
                                        have hcz110_1 : wc.cell? ⟨gb266, 1, none⟩ = some (.int .i64 t259) := (blk_cell BK266.out 1).trans rfl
                                        have hcz110_2 : wc.cell? ⟨gb266, 2, none⟩ = some (.int .i64 t260) := (blk_cell BK266.out 2).trans rfl
                                        have hcz110_3 : wc.cell? ⟨gb266, 3, none⟩ = some (.int .i64 t261) := (blk_cell BK266.out 3).trans rfl
                                        have hcz110_4 : wc.cell? ⟨gb266, 4, none⟩ = some (.int .i64 t262) := (blk_cell BK266.out 4).trans rfl
                                        have hcz110_5 : wc.cell? ⟨gb266, 5, none⟩ = some (.int .i64 t263) := (blk_cell BK266.out 5).trans rfl
                                        have hcz110_6 : wc.cell? ⟨gb266, 6, none⟩ = some (.int .u32 t264) := (blk_cell BK266.out 6).trans rfl
                                        have hfz110_0 := blk_frozen BK266.out 0
                                        have hfz110_1 := blk_frozen BK266.out 1
                                        have hfz110_2 := blk_frozen BK266.out 2
                                        have hfz110_3 := blk_frozen BK266.out 3
                                        have hfz110_4 := blk_frozen BK266.out 4
                                        have hfz110_5 := blk_frozen BK266.out 5
                                        have hfz110_6 := blk_frozen BK266.out 6
                                        have hnb111 := NB276_256.out
                                        have hnc111 := NB256_276.out
                                        have hnb112 := NB276_267.out
                                        have hnc112 := NB267_276.out
                                        have hcz113_0 : wc.cell? ⟨gb276, 0, none⟩ = some (.int .i64 t268) := (blk_cell BK276.out 0).trans rfl
                                        have hcz113_1 : wc.cell? ⟨gb276, 1, none⟩ = some (.int .i64 t269) := (blk_cell BK276.out 1).trans rfl
                                        have hcz113_2 : wc.cell? ⟨gb276, 2, none⟩ = some (.int .i64 t270) := (blk_cell BK276.out 2).trans rfl
                                        have hcz113_3 : wc.cell? ⟨gb276, 3, none⟩ = some (.int .i64 t271) := (blk_cell BK276.out 3).trans rfl
                                        have hcz113_4 : wc.cell? ⟨gb276, 4, none⟩ = some (.int .i64 t272) := (blk_cell BK276.out 4).trans rfl
                                        have hcz113_5 : wc.cell? ⟨gb276, 5, none⟩ = some (.int .i64 t273) := (blk_cell BK276.out 5).trans rfl
                                        have hcz113_6 : wc.cell? ⟨gb276, 6, none⟩ = some (.int .u32 t274) := (blk_cell BK276.out 6).trans rfl
                                        have hfz113_0 := blk_frozen BK276.out 0
                                        have hfz113_1 := blk_frozen BK276.out 1
                                        have hfz113_2 := blk_frozen BK276.out 2
                                        have hfz113_3 := blk_frozen BK276.out 3
                                        have hfz113_4 := blk_frozen BK276.out 4
                                        have hfz113_5 := blk_frozen BK276.out 5
                                        have hfz113_6 := blk_frozen BK276.out 6
                                        go_wp2
                                        go_ret
                                        exact ⟨by first | rfl | (simp [errW_none, errW_some] <;> rfl) | (simp [*, errW_none, errW_some] <;> rfl), by repeat (first | (with_reducible first | exact HB.out | apply below_alloc | apply pw_below_drewN | apply below_drew1 | refine below_set ?_ GE256.out | refine below_set ?_ GE266.out | refine below_set ?_ GE267.out | refine below_set ?_ GE276.out) | exact HB.out)⟩
                                    · rw [if_neg c98] at H
                                      have c98b0 : (t269 == 1) = false := beq_eq_false_iff_ne.mpr c98
                                      have c98b1 : (t269 != 1) = true := bne_iff_ne.mpr c98
                                      by_cases c114 : (wrap64 (t259 + 1)) = t269
                                      · rw [if_pos c114] at H
                                        have c114b0 : ((wrap64 (t259 + 1)) == t269) = true := beq_iff_eq.mpr c114
                                        have c114b1 : ((wrap64 (t259 + 1)) != t269) = false := bne_eq_false_iff_eq.mpr c114
                                        clear c114
                                        obtain rfl := Option.some.inj H
                                        have hnb115 := NB266_256.out
                                        have hnc115 := NB256_266.out
                                        have hnb116 := NB266_267.out
                                        have hnc116 := NB267_266.out
                                        have hnb117 := NB266_276.out
                                        have hnc117 := NB276_266.out
                                        have hcz118_0 : wc.cell? ⟨gb266, 0, none⟩ = some (.int .i64 t258) := (blk_cell BK266.out 0).trans rfl
                                        have hcz118_1 : wc.cell? ⟨gb266, 1, none⟩ = some (.int .i64 t259) := (blk_cell BK266.out 1).trans rfl
                                        have hcz118_2 : wc.cell? ⟨gb266, 2, none⟩ = some (.int .i64 t260) := (blk_cell BK266.out 2).trans rfl
                                        have hcz118_3 : wc.cell? ⟨gb266, 3, none⟩ = some (.int .i64 t261) := (blk_cell BK266.out 3).trans rfl
                                        have hcz118_4 : wc.cell? ⟨gb266, 4, none⟩ = some (.int .i64 t262) := (blk_cell BK266.out 4).trans rfl
                                        have hcz118_5 : wc.cell? ⟨gb266, 5, none⟩ = some (.int .i64 t263) := (blk_cell BK266.out 5).trans rfl
                                        have hcz118_6 : wc.cell? ⟨gb266, 6, none⟩ = some (.int .u32 t264) := (blk_cell BK266.out 6).trans rfl
                                        have hfz118_0 := blk_frozen BK266.out 0
                                        have hfz118_1 := blk_frozen BK266.out 1
                                        have hfz118_2 := blk_frozen BK266.out 2
                                        have hfz118_3 := blk_frozen BK266.out 3
                                        have hfz118_4 := blk_frozen BK266.out 4
                                        have hfz118_5 := blk_frozen BK266.out 5
                                        have hfz118_6 := blk_frozen BK266.out 6
                                        have hnb119 := NB276_256.out
                                        have hnc119 := NB256_276.out
                                        have hnb120 := NB276_267.out
                                        have hnc120 := NB267_276.out
                                        have hcz121_0 : wc.cell? ⟨gb276, 0, none⟩ = some (.int .i64 t268) := (blk_cell BK276.out 0).trans rfl
                                        have hcz121_1 : wc.cell? ⟨gb276, 1, none⟩ = some (.int .i64 t269) := (blk_cell BK276.out 1).trans rfl
                                        have hcz121_2 : wc.cell? ⟨gb276, 2, none⟩ = some (.int .i64 t270) := (blk_cell BK276.out 2).trans rfl
                                        have hcz121_3 : wc.cell? ⟨gb276, 3, none⟩ = some (.int .i64 t271) := (blk_cell BK276.out 3).trans rfl
                                        have hcz121_4 : wc.cell? ⟨gb276, 4, none⟩ = some (.int .i64 t272) := (blk_cell BK276.out 4).trans rfl
                                        have hcz121_5 : wc.cell? ⟨gb276, 5, none⟩ = some (.int .i64 t273) := (blk_cell BK276.out 5).trans rfl
                                        have hcz121_6 : wc.cell? ⟨gb276, 6, none⟩ = some (.int .u32 t274) := (blk_cell BK276.out 6).trans rfl
                                        have hfz121_0 := blk_frozen BK276.out 0
                                        have hfz121_1 := blk_frozen BK276.out 1
                                        have hfz121_2 := blk_frozen BK276.out 2
                                        have hfz121_3 := blk_frozen BK276.out 3
                                        have hfz121_4 := blk_frozen BK276.out 4
                                        have hfz121_5 := blk_frozen BK276.out 5
                                        have hfz121_6 := blk_frozen BK276.out 6
                                        go_wp2
                                        go_ret
                                        exact ⟨by first | rfl | (simp [errW_none, errW_some] <;> rfl) | (simp [*, errW_none, errW_some] <;> rfl), by repeat (first | (with_reducible first | exact HB.out | apply below_alloc | apply pw_below_drewN | apply below_drew1 | refine below_set ?_ GE256.out | refine below_set ?_ GE266.out | refine below_set ?_ GE267.out | refine below_set ?_ GE276.out) | exact HB.out)⟩
                                      · rw [if_neg c114] at H
                                        have c114b0 : ((wrap64 (t259 + 1)) == t269) = false := beq_eq_false_iff_ne.mpr c114
                                        have c114b1 : ((wrap64 (t259 + 1)) != t269) = true := bne_iff_ne.mpr c114
                                        obtain rfl := Option.some.inj H
                                        have hnb122 := NB266_256.out
                                        have hnc122 := NB256_266.out
                                        have hnb123 := NB266_267.out
                                        have hnc123 := NB267_266.out
                                        have hnb124 := NB266_276.out
                                        have hnc124 := NB276_266.out
                                        have hcz125_0 : wc.cell? ⟨gb266, 0, none⟩ = some (.int .i64 t258) := (blk_cell BK266.out 0).trans rfl
                                        have hcz125_1 : wc.cell? ⟨gb266, 1, none⟩ = some (.int .i64 t259) := (blk_cell BK266.out 1).trans rfl
                                        have hcz125_2 : wc.cell? ⟨gb266, 2, none⟩ = some (.int .i64 t260) := (blk_cell BK266.out 2).trans rfl
                                        have hcz125_3 : wc.cell? ⟨gb266, 3, none⟩ = some (.int .i64 t261) := (blk_cell BK266.out 3).trans rfl
                                        have hcz125_4 : wc.cell? ⟨gb266, 4, none⟩ = some (.int .i64 t262) := (blk_cell BK266.out 4).trans rfl
                                        have hcz125_5 : wc.cell? ⟨gb266, 5, none⟩ = some (.int .i64 t263) := (blk_cell BK266.out 5).trans rfl
                                        have hcz125_6 : wc.cell? ⟨gb266, 6, none⟩ = some (.int .u32 t264) := (blk_cell BK266.out 6).trans rfl
                                        have hfz125_0 := blk_frozen BK266.out 0
                                        have hfz125_1 := blk_frozen BK266.out 1
                                        have hfz125_2 := blk_frozen BK266.out 2
                                        have hfz125_3 := blk_frozen BK266.out 3
                                        have hfz125_4 := blk_frozen BK266.out 4
                                        have hfz125_5 := blk_frozen BK266.out 5
                                        have hfz125_6 := blk_frozen BK266.out 6
                                        have hnb126 := NB276_256.out
                                        have hnc126 := NB256_276.out
                                        have hnb127 := NB276_267.out
                                        have hnc127 := NB267_276.out
                                        have hcz128_0 : wc.cell? ⟨gb276, 0, none⟩ = some (.int .i64 t268) := (blk_cell BK276.out 0).trans rfl
                                        have hcz128_1 : wc.cell? ⟨gb276, 1, none⟩ = some (.int .i64 t269) := (blk_cell BK276.out 1).trans rfl
                                        have hcz128_2 : wc.cell? ⟨gb276, 2, none⟩ = some (.int .i64 t270) := (blk_cell BK276.out 2).trans rfl
                                        have hcz128_3 : wc.cell? ⟨gb276, 3, none⟩ = some (.int .i64 t271) := (blk_cell BK276.out 3).trans rfl
                                        have hcz128_4 : wc.cell? ⟨gb276, 4, none⟩ = some (.int .i64 t272) := (blk_cell BK276.out 4).trans rfl
                                        have hcz128_5 : wc.cell? ⟨gb276, 5, none⟩ = some (.int .i64 t273) := (blk_cell BK276.out 5).trans rfl
                                        have hcz128_6 : wc.cell? ⟨gb276, 6, none⟩ = some (.int .u32 t274) := (blk_cell BK276.out 6).trans rfl
                                        have hfz128_0 := blk_frozen BK276.out 0
                                        have hfz128_1 := blk_frozen BK276.out 1
                                        have hfz128_2 := blk_frozen BK276.out 2
                                        have hfz128_3 := blk_frozen BK276.out 3
                                        have hfz128_4 := blk_frozen BK276.out 4
                                        have hfz128_5 := blk_frozen BK276.out 5
                                        have hfz128_6 := blk_frozen BK276.out 6
                                        go_wp2
                                        go_ret
                                        exact ⟨by first | rfl | (simp [errW_none, errW_some] <;> rfl) | (simp [*, errW_none, errW_some] <;> rfl), by repeat (first | (with_reducible first | exact HB.out | apply below_alloc | apply pw_below_drewN | apply below_drew1 | refine below_set ?_ GE256.out | refine below_set ?_ GE266.out | refine below_set ?_ GE267.out | refine below_set ?_ GE276.out) | exact HB.out)⟩
                                  · as_aux_lemma =>
                                    rw [if_neg c97] at H
                                    have c97b0 : (t260 == x8_63) = false := beq_eq_false_iff_ne.mpr c97
                                    have c97b1 : (t260 != x8_63) = true := bne_iff_ne.mpr c97
                                    obtain rfl := Option.some.inj H
                                    have hnb129 := NB266_256.out
                                    have hnc129 := NB256_266.out
                                    have hnb130 := NB266_267.out
                                    have hnc130 := NB267_266.out
                                    have hnb131 := NB266_276.out
                                    have hnc131 := NB276_266.out
                                    have hcz132_0 : wc.cell? ⟨gb266, 0, none⟩ = some (.int .i64 t258) := (blk_cell BK266.out 0).trans rfl
                                    have hcz132_1 : wc.cell? ⟨gb266, 1, none⟩ = some (.int .i64 t259) := (blk_cell BK266.out 1).trans rfl
                                    have hcz132_2 : wc.cell? ⟨gb266, 2, none⟩ = some (.int .i64 t260) := (blk_cell BK266.out 2).trans rfl
                                    have hcz132_3 : wc.cell? ⟨gb266, 3, none⟩ = some (.int .i64 t261) := (blk_cell BK266.out 3).trans rfl
                                    have hcz132_4 : wc.cell? ⟨gb266, 4, none⟩ = some (.int .i64 t262) := (blk_cell BK266.out 4).trans rfl
                                    have hcz132_5 : wc.cell? ⟨gb266, 5, none⟩ = some (.int .i64 t263) := (blk_cell BK266.out 5).trans rfl
                                    have hcz132_6 : wc.cell? ⟨gb266, 6, none⟩ = some (.int .u32 t264) := (blk_cell BK266.out 6).trans rfl
                                    have hfz132_0 := blk_frozen BK266.out 0
                                    have hfz132_1 := blk_frozen BK266.out 1
                                    have hfz132_2 := blk_frozen BK266.out 2
                                    have hfz132_3 := blk_frozen BK266.out 3
                                    have hfz132_4 := blk_frozen BK266.out 4
                                    have hfz132_5 := blk_frozen BK266.out 5
                                    have hfz132_6 := blk_frozen BK266.out 6
                                    go_wp2
                                    go_ret
                                    exact ⟨by first | rfl | (simp [errW_none, errW_some] <;> rfl) | (simp [*, errW_none, errW_some] <;> rfl), by repeat (first | (with_reducible first | exact HB.out | apply below_alloc | apply pw_below_drewN | apply below_drew1 | refine below_set ?_ GE256.out | refine below_set ?_ GE266.out | refine below_set ?_ GE267.out | refine below_set ?_ GE276.out) | exact HB.out)⟩
                            · as_aux_lemma =>
                              rw [if_neg c63] at H
                              have c63b0 : (t270 == 1) = false := beq_eq_false_iff_ne.mpr c63
                              have c63b1 : (t270 != 1) = true := bne_iff_ne.mpr c63
                              by_cases c133 : (wrap64 (t260 + 1)) = t270
                              · rw [if_pos c133] at H
                                have c133b0 : ((wrap64 (t260 + 1)) == t270) = true := beq_iff_eq.mpr c133
                                have c133b1 : ((wrap64 (t260 + 1)) != t270) = false := bne_eq_false_iff_eq.mpr c133
                                clear c133
                                by_cases c134 : t259 = t269
                                · rw [if_pos c134] at H
                                  have c134b0 : (t259 == t269) = true := beq_iff_eq.mpr c134
                                  have c134b1 : (t259 != t269) = false := bne_eq_false_iff_eq.mpr c134
                                  clear c134
                                  obtain rfl := Option.some.inj H
                                  have hnb135 := NB276_256.out
                                  have hnc135 := NB256_276.out
                                  have hnb136 := NB276_266.out
                                  have hnc136 := NB266_276.out
                                  have hnb137 := NB276_267.out
                                  have hnc137 := NB267_276.out
                                  have hcz138_0 : wc.cell? ⟨gb276, 0, none⟩ = some (.int .i64 t268) := (blk_cell BK276.out 0).trans rfl
                                  have hcz138_1 : wc.cell? ⟨gb276, 1, none⟩ = some (.int .i64 t269) := (blk_cell BK276.out 1).trans rfl
                                  have hcz138_2 : wc.cell? ⟨gb276, 2, none⟩ = some (.int .i64 t270) := (blk_cell BK276.out 2).trans rfl
                                  have hcz138_3 : wc.cell? ⟨gb276, 3, none⟩ = some (.int .i64 t271) := (blk_cell BK276.out 3).trans rfl
                                  have hcz138_4 : wc.cell? ⟨gb276, 4, none⟩ = some (.int .i64 t272) := (blk_cell BK276.out 4).trans rfl
                                  have hcz138_5 : wc.cell? ⟨gb276, 5, none⟩ = some (.int .i64 t273) := (blk_cell BK276.out 5).trans rfl
                                  have hcz138_6 : wc.cell? ⟨gb276, 6, none⟩ = some (.int .u32 t274) := (blk_cell BK276.out 6).trans rfl
                                  have hfz138_0 := blk_frozen BK276.out 0
                                  have hfz138_1 := blk_frozen BK276.out 1
                                  have hfz138_2 := blk_frozen BK276.out 2
                                  have hfz138_3 := blk_frozen BK276.out 3
                                  have hfz138_4 := blk_frozen BK276.out 4
                                  have hfz138_5 := blk_frozen BK276.out 5
                                  have hfz138_6 := blk_frozen BK276.out 6
                                  have hnb139 := NB266_256.out
                                  have hnc139 := NB256_266.out
                                  have hnb140 := NB266_267.out
                                  have hnc140 := NB267_266.out
                                  have hcz141_0 : wc.cell? ⟨gb266, 0, none⟩ = some (.int .i64 t258) := (blk_cell BK266.out 0).trans rfl
                                  have hcz141_1 : wc.cell? ⟨gb266, 1, none⟩ = some (.int .i64 t259) := (blk_cell BK266.out 1).trans rfl
                                  have hcz141_2 : wc.cell? ⟨gb266, 2, none⟩ = some (.int .i64 t260) := (blk_cell BK266.out 2).trans rfl
                                  have hcz141_3 : wc.cell? ⟨gb266, 3, none⟩ = some (.int .i64 t261) := (blk_cell BK266.out 3).trans rfl
                                  have hcz141_4 : wc.cell? ⟨gb266, 4, none⟩ = some (.int .i64 t262) := (blk_cell BK266.out 4).trans rfl
                                  have hcz141_5 : wc.cell? ⟨gb266, 5, none⟩ = some (.int .i64 t263) := (blk_cell BK266.out 5).trans rfl
                                  have hcz141_6 : wc.cell? ⟨gb266, 6, none⟩ = some (.int .u32 t264) := (blk_cell BK266.out 6).trans rfl
                                  have hfz141_0 := blk_frozen BK266.out 0
                                  have hfz141_1 := blk_frozen BK266.out 1
                                  have hfz141_2 := blk_frozen BK266.out 2
                                  have hfz141_3 := blk_frozen BK266.out 3
                                  have hfz141_4 := blk_frozen BK266.out 4
                                  have hfz141_5 := blk_frozen BK266.out 5
                                  have hfz141_6 := blk_frozen BK266.out 6
                                  go_wp2
                                  go_ret
                                  exact ⟨by first | rfl | (simp [errW_none, errW_some] <;> rfl) | (simp [*, errW_none, errW_some] <;> rfl), by repeat (first | (with_reducible first | exact HB.out | apply below_alloc | apply pw_below_drewN | apply below_drew1 | refine below_set ?_ GE256.out | refine below_set ?_ GE266.out | refine below_set ?_ GE267.out | refine below_set ?_ GE276.out) | exact HB.out)⟩
                                · rw [if_neg c134] at H
                                  have c134b0 : (t259 == t269) = false := beq_eq_false_iff_ne.mpr c134
                                  have c134b1 : (t259 != t269) = true := bne_iff_ne.mpr c134
                                  obtain rfl := Option.some.inj H
                                  have hnb142 := NB276_256.out
                                  have hnc142 := NB256_276.out
                                  have hnb143 := NB276_266.out
                                  have hnc143 := NB266_276.out
                                  have hnb144 := NB276_267.out
                                  have hnc144 := NB267_276.out
                                  have hcz145_0 : wc.cell? ⟨gb276, 0, none⟩ = some (.int .i64 t268) := (blk_cell BK276.out 0).trans rfl
                                  have hcz145_1 : wc.cell? ⟨gb276, 1, none⟩ = some (.int .i64 t269) := (blk_cell BK276.out 1).trans rfl
                                  have hcz145_2 : wc.cell? ⟨gb276, 2, none⟩ = some (.int .i64 t270) := (blk_cell BK276.out 2).trans rfl
                                  have hcz145_3 : wc.cell? ⟨gb276, 3, none⟩ = some (.int .i64 t271) := (blk_cell BK276.out 3).trans rfl
                                  have hcz145_4 : wc.cell? ⟨gb276, 4, none⟩ = some (.int .i64 t272) := (blk_cell BK276.out 4).trans rfl
                                  have hcz145_5 : wc.cell? ⟨gb276, 5, none⟩ = some (.int .i64 t273) := (blk_cell BK276.out 5).trans rfl
                                  have hcz145_6 : wc.cell? ⟨gb276, 6, none⟩ = some (.int .u32 t274) := (blk_cell BK276.out 6).trans rfl
                                  have hfz145_0 := blk_frozen BK276.out 0
                                  have hfz145_1 := blk_frozen BK276.out 1
                                  have hfz145_2 := blk_frozen BK276.out 2
                                  have hfz145_3 := blk_frozen BK276.out 3
                                  have hfz145_4 := blk_frozen BK276.out 4
                                  have hfz145_5 := blk_frozen BK276.out 5
                                  have hfz145_6 := blk_frozen BK276.out 6
                                  have hnb146 := NB266_256.out
                                  have hnc146 := NB256_266.out
                                  have hnb147 := NB266_267.out
                                  have hnc147 := NB267_266.out
                                  have hcz148_0 : wc.cell? ⟨gb266, 0, none⟩ = some (.int .i64 t258) := (blk_cell BK266.out 0).trans rfl
                                  have hcz148_1 : wc.cell? ⟨gb266, 1, none⟩ = some (.int .i64 t259) := (blk_cell BK266.out 1).trans rfl
                                  have hcz148_2 : wc.cell? ⟨gb266, 2, none⟩ = some (.int .i64 t260) := (blk_cell BK266.out 2).trans rfl
                                  have hcz148_3 : wc.cell? ⟨gb266, 3, none⟩ = some (.int .i64 t261) := (blk_cell BK266.out 3).trans rfl
                                  have hcz148_4 : wc.cell? ⟨gb266, 4, none⟩ = some (.int .i64 t262) := (blk_cell BK266.out 4).trans rfl
                                  have hcz148_5 : wc.cell? ⟨gb266, 5, none⟩ = some (.int .i64 t263) := (blk_cell BK266.out 5).trans rfl
                                  have hcz148_6 : wc.cell? ⟨gb266, 6, none⟩ = some (.int .u32 t264) := (blk_cell BK266.out 6).trans rfl
                                  have hfz148_0 := blk_frozen BK266.out 0
                                  have hfz148_1 := blk_frozen BK266.out 1
                                  have hfz148_2 := blk_frozen BK266.out 2
                                  have hfz148_3 := blk_frozen BK266.out 3
                                  have hfz148_4 := blk_frozen BK266.out 4
                                  have hfz148_5 := blk_frozen BK266.out 5
                                  have hfz148_6 := blk_frozen BK266.out 6
                                  go_wp2
                                  go_ret
                                  exact ⟨by first | rfl | (simp [errW_none, errW_some] <;> rfl) | (simp [*, errW_none, errW_some] <;> rfl), by repeat (first | (with_reducible first | exact HB.out | apply below_alloc | apply pw_below_drewN | apply below_drew1 | refine below_set ?_ GE256.out | refine below_set ?_ GE266.out | refine below_set ?_ GE267.out | refine below_set ?_ GE276.out) | exact HB.out)⟩
                              · rw [if_neg c133] at H
                                have c133b0 : ((wrap64 (t260 + 1)) == t270) = false := beq_eq_false_iff_ne.mpr c133
                                have c133b1 : ((wrap64 (t260 + 1)) != t270) = true := bne_iff_ne.mpr c133
                                obtain rfl := Option.some.inj H
                                have hnb149 := NB276_256.out
                                have hnc149 := NB256_276.out
                                have hnb150 := NB276_266.out
                                have hnc150 := NB266_276.out
                                have hnb151 := NB276_267.out
                                have hnc151 := NB267_276.out
                                have hcz152_0 : wc.cell? ⟨gb276, 0, none⟩ = some (.int .i64 t268) := (blk_cell BK276.out 0).trans rfl
                                have hcz152_1 : wc.cell? ⟨gb276, 1, none⟩ = some (.int .i64 t269) := (blk_cell BK276.out 1).trans rfl
                                have hcz152_2 : wc.cell? ⟨gb276, 2, none⟩ = some (.int .i64 t270) := (blk_cell BK276.out 2).trans rfl
                                have hcz152_3 : wc.cell? ⟨gb276, 3, none⟩ = some (.int .i64 t271) := (blk_cell BK276.out 3).trans rfl
                                have hcz152_4 : wc.cell? ⟨gb276, 4, none⟩ = some (.int .i64 t272) := (blk_cell BK276.out 4).trans rfl
                                have hcz152_5 : wc.cell? ⟨gb276, 5, none⟩ = some (.int .i64 t273) := (blk_cell BK276.out 5).trans rfl
                                have hcz152_6 : wc.cell? ⟨gb276, 6, none⟩ = some (.int .u32 t274) := (blk_cell BK276.out 6).trans rfl
                                have hfz152_0 := blk_frozen BK276.out 0
                                have hfz152_1 := blk_frozen BK276.out 1
                                have hfz152_2 := blk_frozen BK276.out 2
                                have hfz152_3 := blk_frozen BK276.out 3
                                have hfz152_4 := blk_frozen BK276.out 4
                                have hfz152_5 := blk_frozen BK276.out 5
                                have hfz152_6 := blk_frozen BK276.out 6
                                have hnb153 := NB266_256.out
                                have hnc153 := NB256_266.out
                                have hnb154 := NB266_267.out
                                have hnc154 := NB267_266.out
                                have hcz155_0 : wc.cell? ⟨gb266, 0, none⟩ = some (.int .i64 t258) := (blk_cell BK266.out 0).trans rfl
                                have hcz155_1 : wc.cell? ⟨gb266, 1, none⟩ = some (.int .i64 t259) := (blk_cell BK266.out 1).trans rfl
                                have hcz155_2 : wc.cell? ⟨gb266, 2, none⟩ = some (.int .i64 t260) := (blk_cell BK266.out 2).trans rfl
                                have hcz155_3 : wc.cell? ⟨gb266, 3, none⟩ = some (.int .i64 t261) := (blk_cell BK266.out 3).trans rfl
                                have hcz155_4 : wc.cell? ⟨gb266, 4, none⟩ = some (.int .i64 t262) := (blk_cell BK266.out 4).trans rfl
                                have hcz155_5 : wc.cell? ⟨gb266, 5, none⟩ = some (.int .i64 t263) := (blk_cell BK266.out 5).trans rfl
                                have hcz155_6 : wc.cell? ⟨gb266, 6, none⟩ = some (.int .u32 t264) := (blk_cell BK266.out 6).trans rfl
                                have hfz155_0 := blk_frozen BK266.out 0
                                have hfz155_1 := blk_frozen BK266.out 1
                                have hfz155_2 := blk_frozen BK266.out 2
                                have hfz155_3 := blk_frozen BK266.out 3
                                have hfz155_4 := blk_frozen BK266.out 4
                                have hfz155_5 := blk_frozen BK266.out 5
                                have hfz155_6 := blk_frozen BK266.out 6
                                go_wp2
                                go_ret
                                exact ⟨by first | rfl | (simp [errW_none, errW_some] <;> rfl) | (simp [*, errW_none, errW_some] <;> rfl), by repeat (first | (with_reducible first | exact HB.out | apply below_alloc | apply pw_below_drewN | apply below_drew1 | refine below_set ?_ GE256.out | refine below_set ?_ GE266.out | refine below_set ?_ GE267.out | refine below_set ?_ GE276.out) | exact HB.out)⟩
                    · rw [if_neg c39] at H
                      have c39b0 : (t271 == 0) = false := beq_eq_false_iff_ne.mpr c39
                      have c39b1 : (t271 != 0) = true := bne_iff_ne.mpr c39
                      by_cases c156 : t263 = 59
                      · rw [if_pos c156] at H
                        have c156b0 : (t263 == 59) = true := beq_iff_eq.mpr c156
                        have c156b1 : (t263 != 59) = false := bne_eq_false_iff_eq.mpr c156
                        clear c156
                        by_cases c157 : t262 = 59
                        · as_aux_lemma =>
                          rw [if_pos c157] at H
                          have c157b0 : (t262 == 59) = true := beq_iff_eq.mpr c157
                          have c157b1 : (t262 != 59) = false := bne_eq_false_iff_eq.mpr c157
                          clear c157
                          by_cases c158 : (wrap64 (t261 + 1)) = t271
                          · rw [if_pos c158] at H
                            have c158b0 : ((wrap64 (t261 + 1)) == t271) = true := beq_iff_eq.mpr c158
                            have c158b1 : ((wrap64 (t261 + 1)) != t271) = false := bne_eq_false_iff_eq.mpr c158
                            clear c158
                            by_cases c159 : t260 = t270
                            · rw [if_pos c159] at H
                              have c159b0 : (t260 == t270) = true := beq_iff_eq.mpr c159
                              have c159b1 : (t260 != t270) = false := bne_eq_false_iff_eq.mpr c159
                              clear c159
                              by_cases c160 : t259 = t269
                              · rw [if_pos c160] at H
                                have c160b0 : (t259 == t269) = true := beq_iff_eq.mpr c160
                                have c160b1 : (t259 != t269) = false := bne_eq_false_iff_eq.mpr c160
                                clear c160
                                obtain rfl := Option.some.inj H
                                have hnb161 := NB266_256.out
                                have hnc161 := NB256_266.out
                                have hnb162 := NB266_267.out
                                have hnc162 := NB267_266.out
                                have hnb163 := NB266_276.out
                                have hnc163 := NB276_266.out
                                have hcz164_0 : wc.cell? ⟨gb266, 0, none⟩ = some (.int .i64 t258) := (blk_cell BK266.out 0).trans rfl
                                have hcz164_1 : wc.cell? ⟨gb266, 1, none⟩ = some (.int .i64 t259) := (blk_cell BK266.out 1).trans rfl
                                have hcz164_2 : wc.cell? ⟨gb266, 2, none⟩ = some (.int .i64 t260) := (blk_cell BK266.out 2).trans rfl
                                have hcz164_3 : wc.cell? ⟨gb266, 3, none⟩ = some (.int .i64 t261) := (blk_cell BK266.out 3).trans rfl
                                have hcz164_4 : wc.cell? ⟨gb266, 4, none⟩ = some (.int .i64 t262) := (blk_cell BK266.out 4).trans rfl
                                have hcz164_5 : wc.cell? ⟨gb266, 5, none⟩ = some (.int .i64 t263) := (blk_cell BK266.out 5).trans rfl
                                have hcz164_6 : wc.cell? ⟨gb266, 6, none⟩ = some (.int .u32 t264) := (blk_cell BK266.out 6).trans rfl
                                have hfz164_0 := blk_frozen BK266.out 0
                                have hfz164_1 := blk_frozen BK266.out 1
                                have hfz164_2 := blk_frozen BK266.out 2
                                have hfz164_3 := blk_frozen BK266.out 3
                                have hfz164_4 := blk_frozen BK266.out 4
                                have hfz164_5 := blk_frozen BK266.out 5
                                have hfz164_6 := blk_frozen BK266.out 6
                                have hnb165 := NB276_256.out
                                have hnc165 := NB256_276.out
                                have hnb166 := NB276_267.out
                                have hnc166 := NB267_276.out
                                have hcz167_0 : wc.cell? ⟨gb276, 0, none⟩ = some (.int .i64 t268) := (blk_cell BK276.out 0).trans rfl
                                have hcz167_1 : wc.cell? ⟨gb276, 1, none⟩ = some (.int .i64 t269) := (blk_cell BK276.out 1).trans rfl
                                have hcz167_2 : wc.cell? ⟨gb276, 2, none⟩ = some (.int .i64 t270) := (blk_cell BK276.out 2).trans rfl
                                have hcz167_3 : wc.cell? ⟨gb276, 3, none⟩ = some (.int .i64 t271) := (blk_cell BK276.out 3).trans rfl
                                have hcz167_4 : wc.cell? ⟨gb276, 4, none⟩ = some (.int .i64 t272) := (blk_cell BK276.out 4).trans rfl
                                have hcz167_5 : wc.cell? ⟨gb276, 5, none⟩ = some (.int .i64 t273) := (blk_cell BK276.out 5).trans rfl
                                have hcz167_6 : wc.cell? ⟨gb276, 6, none⟩ = some (.int .u32 t274) := (blk_cell BK276.out 6).trans rfl
                                have hfz167_0 := blk_frozen BK276.out 0
                                have hfz167_1 := blk_frozen BK276.out 1
                                have hfz167_2 := blk_frozen BK276.out 2
                                have hfz167_3 := blk_frozen BK276.out 3
                                have hfz167_4 := blk_frozen BK276.out 4
                                have hfz167_5 := blk_frozen BK276.out 5
                                have hfz167_6 := blk_frozen BK276.out 6
                                go_wp2
                                go_ret
                                exact ⟨by first | rfl | (simp [errW_none, errW_some] <;> rfl) | (simp [*, errW_none, errW_some] <;> rfl), by repeat (first | (with_reducible first | exact HB.out | apply below_alloc | apply pw_below_drewN | apply below_drew1 | refine below_set ?_ GE256.out | refine below_set ?_ GE266.out | refine below_set ?_ GE267.out | refine below_set ?_ GE276.out) | exact HB.out)⟩
                              · rw [if_neg c160] at H
                                have c160b0 : (t259 == t269) = false := beq_eq_false_iff_ne.mpr c160
                                have c160b1 : (t259 != t269) = true := bne_iff_ne.mpr c160
                                obtain rfl := Option.some.inj H
                                have hnb168 := NB266_256.out
                                have hnc168 := NB256_266.out
                                have hnb169 := NB266_267.out
                                have hnc169 := NB267_266.out
                                have hnb170 := NB266_276.out
                                have hnc170 := NB276_266.out
                                have hcz171_0 : wc.cell? ⟨gb266, 0, none⟩ = some (.int .i64 t258) := (blk_cell BK266.out 0).trans rfl
                                have hcz171_1 : wc.cell? ⟨gb266, 1, none⟩ = some (.int .i64 t259) := (blk_cell BK266.out 1).trans rfl
                                have hcz171_2 : wc.cell? ⟨gb266, 2, none⟩ = some (.int .i64 t260) := (blk_cell BK266.out 2).trans rfl
                                have hcz171_3 : wc.cell? ⟨gb266, 3, none⟩ = some (.int .i64 t261) := (blk_cell BK266.out 3).trans rfl
                                have hcz171_4 : wc.cell? ⟨gb266, 4, none⟩ = some (.int .i64 t262) := (blk_cell BK266.out 4).trans rfl
                                have hcz171_5 : wc.cell? ⟨gb266, 5, none⟩ = some (.int .i64 t263) := (blk_cell BK266.out 5).trans rfl
                                have hcz171_6 : wc.cell? ⟨gb266, 6, none⟩ = some (.int .u32 t264) := (blk_cell BK266.out 6).trans rfl
                                have hfz171_0 := blk_frozen BK266.out 0
                                have hfz171_1 := blk_frozen BK266.out 1
                                have hfz171_2 := blk_frozen BK266.out 2
                                have hfz171_3 := blk_frozen BK266.out 3
                                have hfz171_4 := blk_frozen BK266.out 4
                                have hfz171_5 := blk_frozen BK266.out 5
                                have hfz171_6 := blk_frozen BK266.out 6
                                have hnb172 := NB276_256.out
                                have hnc172 := NB256_276.out
                                have hnb173 := NB276_267.out
                                have hnc173 := NB267_276.out
                                have hcz174_0 : wc.cell? ⟨gb276, 0, none⟩ = some (.int .i64 t268) := (blk_cell BK276.out 0).trans rfl
                                have hcz174_1 : wc.cell? ⟨gb276, 1, none⟩ = some (.int .i64 t269) := (blk_cell BK276.out 1).trans rfl
                                have hcz174_2 : wc.cell? ⟨gb276, 2, none⟩ = some (.int .i64 t270) := (blk_cell BK276.out 2).trans rfl
                                have hcz174_3 : wc.cell? ⟨gb276, 3, none⟩ = some (.int .i64 t271) := (blk_cell BK276.out 3).trans rfl
                                have hcz174_4 : wc.cell? ⟨gb276, 4, none⟩ = some (.int .i64 t272) := (blk_cell BK276.out 4).trans rfl
                                have hcz174_5 : wc.cell? ⟨gb276, 5, none⟩ = some (.int .i64 t273) := (blk_cell BK276.out 5).trans rfl
                                have hcz174_6 : wc.cell? ⟨gb276, 6, none⟩ = some (.int .u32 t274) := (blk_cell BK276.out 6).trans rfl
                                have hfz174_0 := blk_frozen BK276.out 0
                                have hfz174_1 := blk_frozen BK276.out 1
                                have hfz174_2 := blk_frozen BK276.out 2
                                have hfz174_3 := blk_frozen BK276.out 3
                                have hfz174_4 := blk_frozen BK276.out 4
                                have hfz174_5 := blk_frozen BK276.out 5
                                have hfz174_6 := blk_frozen BK276.out 6
                                go_wp2
                                go_ret
                                exact ⟨by first | rfl | (simp [errW_none, errW_some] <;> rfl) | (simp [*, errW_none, errW_some] <;> rfl), by repeat (first | (with_reducible first | exact HB.out | apply below_alloc | apply pw_below_drewN | apply below_drew1 | refine below_set ?_ GE256.out | refine below_set ?_ GE266.out | refine below_set ?_ GE267.out | refine below_set ?_ GE276.out) | exact HB.out)⟩
                            · rw [if_neg c159] at H
                              have c159b0 : (t260 == t270) = false := beq_eq_false_iff_ne.mpr c159
                              have c159b1 : (t260 != t270) = true := bne_iff_ne.mpr c159
                              obtain rfl := Option.some.inj H
                              have hnb175 := NB266_256.out
                              have hnc175 := NB256_266.out
                              have hnb176 := NB266_267.out
                              have hnc176 := NB267_266.out
                              have hnb177 := NB266_276.out
                              have hnc177 := NB276_266.out
                              have hcz178_0 : wc.cell? ⟨gb266, 0, none⟩ = some (.int .i64 t258) := (blk_cell BK266.out 0).trans rfl
                              have hcz178_1 : wc.cell? ⟨gb266, 1, none⟩ = some (.int .i64 t259) := (blk_cell BK266.out 1).trans rfl
                              have hcz178_2 : wc.cell? ⟨gb266, 2, none⟩ = some (.int .i64 t260) := (blk_cell BK266.out 2).trans rfl
                              have hcz178_3 : wc.cell? ⟨gb266, 3, none⟩ = some (.int .i64 t261) := (blk_cell BK266.out 3).trans rfl
                              have hcz178_4 : wc.cell? ⟨gb266, 4, none⟩ = some (.int .i64 t262) := (blk_cell BK266.out 4).trans rfl
                              have hcz178_5 : wc.cell? ⟨gb266, 5, none⟩ = some (.int .i64 t263) := (blk_cell BK266.out 5).trans rfl
                              have hcz178_6 : wc.cell? ⟨gb266, 6, none⟩ = some (.int .u32 t264) := (blk_cell BK266.out 6).trans rfl
                              have hfz178_0 := blk_frozen BK266.out 0
                              have hfz178_1 := blk_frozen BK266.out 1
                              have hfz178_2 := blk_frozen BK266.out 2
                              have hfz178_3 := blk_frozen BK266.out 3
                              have hfz178_4 := blk_frozen BK266.out 4
                              have hfz178_5 := blk_frozen BK266.out 5
                              have hfz178_6 := blk_frozen BK266.out 6
                              have hnb179 := NB276_256.out
                              have hnc179 := NB256_276.out
                              have hnb180 := NB276_267.out
                              have hnc180 := NB267_276.out
                              have hcz181_0 : wc.cell? ⟨gb276, 0, none⟩ = some (.int .i64 t268) := (blk_cell BK276.out 0).trans rfl
                              have hcz181_1 : wc.cell? ⟨gb276, 1, none⟩ = some (.int .i64 t269) := (blk_cell BK276.out 1).trans rfl
                              have hcz181_2 : wc.cell? ⟨gb276, 2, none⟩ = some (.int .i64 t270) := (blk_cell BK276.out 2).trans rfl
                              have hcz181_3 : wc.cell? ⟨gb276, 3, none⟩ = some (.int .i64 t271) := (blk_cell BK276.out 3).trans rfl
                              have hcz181_4 : wc.cell? ⟨gb276, 4, none⟩ = some (.int .i64 t272) := (blk_cell BK276.out 4).trans rfl
                              have hcz181_5 : wc.cell? ⟨gb276, 5, none⟩ = some (.int .i64 t273) := (blk_cell BK276.out 5).trans rfl
                              have hcz181_6 : wc.cell? ⟨gb276, 6, none⟩ = some (.int .u32 t274) := (blk_cell BK276.out 6).trans rfl
                              have hfz181_0 := blk_frozen BK276.out 0
                              have hfz181_1 := blk_frozen BK276.out 1
                              have hfz181_2 := blk_frozen BK276.out 2
                              have hfz181_3 := blk_frozen BK276.out 3
                              have hfz181_4 := blk_frozen BK276.out 4
                              have hfz181_5 := blk_frozen BK276.out 5
                              have hfz181_6 := blk_frozen BK276.out 6
                              go_wp2
                              go_ret
                              exact ⟨by first | rfl | (simp [errW_none, errW_some] <;> rfl) | (simp [*, errW_none, errW_some] <;> rfl), by repeat (first | (with_reducible first | exact HB.out | apply below_alloc | apply pw_below_drewN | apply below_drew1 | refine below_set ?_ GE256.out | refine below_set ?_ GE266.out | refine below_set ?_ GE267.out | refine below_set ?_ GE276.out) | exact HB.out)⟩
                          · rw [if_neg c158] at H
                            have c158b0 : ((wrap64 (t261 + 1)) == t271) = false := beq_eq_false_iff_ne.mpr c158
                            have c158b1 : ((wrap64 (t261 + 1)) != t271) = true := bne_iff_ne.mpr c158
                            obtain rfl := Option.some.inj H
                            have hnb182 := NB266_256.out
                            have hnc182 := NB256_266.out
                            have hnb183 := NB266_267.out
                            have hnc183 := NB267_266.out
                            have hnb184 := NB266_276.out
                            have hnc184 := NB276_266.out
                            have hcz185_0 : wc.cell? ⟨gb266, 0, none⟩ = some (.int .i64 t258) := (blk_cell BK266.out 0).trans rfl
                            have hcz185_1 : wc.cell? ⟨gb266, 1, none⟩ = some (.int .i64 t259) := (blk_cell BK266.out 1).trans rfl
                            have hcz185_2 : wc.cell? ⟨gb266, 2, none⟩ = some (.int .i64 t260) := (blk_cell BK266.out 2).trans rfl
                            have hcz185_3 : wc.cell? ⟨gb266, 3, none⟩ = some (.int .i64 t261) := (blk_cell BK266.out 3).trans rfl
                            have hcz185_4 : wc.cell? ⟨gb266, 4, none⟩ = some (.int .i64 t262) := (blk_cell BK266.out 4).trans rfl
                            have hcz185_5 : wc.cell? ⟨gb266, 5, none⟩ = some (.int .i64 t263) := (blk_cell BK266.out 5).trans rfl
                            have hcz185_6 : wc.cell? ⟨gb266, 6, none⟩ = some (.int .u32 t264) := (blk_cell BK266.out 6).trans rfl
                            have hfz185_0 := blk_frozen BK266.out 0
                            have hfz185_1 := blk_frozen BK266.out 1
                            have hfz185_2 := blk_frozen BK266.out 2
                            have hfz185_3 := blk_frozen BK266.out 3
                            have hfz185_4 := blk_frozen BK266.out 4
                            have hfz185_5 := blk_frozen BK266.out 5
                            have hfz185_6 := blk_frozen BK266.out 6
                            have hnb186 := NB276_256.out
                            have hnc186 := NB256_276.out
                            have hnb187 := NB276_267.out
                            have hnc187 := NB267_276.out
                            have hcz188_0 : wc.cell? ⟨gb276, 0, none⟩ = some (.int .i64 t268) := (blk_cell BK276.out 0).trans rfl
                            have hcz188_1 : wc.cell? ⟨gb276, 1, none⟩ = some (.int .i64 t269) := (blk_cell BK276.out 1).trans rfl
                            have hcz188_2 : wc.cell? ⟨gb276, 2, none⟩ = some (.int .i64 t270) := (blk_cell BK276.out 2).trans rfl
                            have hcz188_3 : wc.cell? ⟨gb276, 3, none⟩ = some (.int .i64 t271) := (blk_cell BK276.out 3).trans rfl
                            have hcz188_4 : wc.cell? ⟨gb276, 4, none⟩ = some (.int .i64 t272) := (blk_cell BK276.out 4).trans rfl
                            have hcz188_5 : wc.cell? ⟨gb276, 5, none⟩ = some (.int .i64 t273) := (blk_cell BK276.out 5).trans rfl
                            have hcz188_6 : wc.cell? ⟨gb276, 6, none⟩ = some (.int .u32 t274) := (blk_cell BK276.out 6).trans rfl
                            have hfz188_0 := blk_frozen BK276.out 0
                            have hfz188_1 := blk_frozen BK276.out 1
                            have hfz188_2 := blk_frozen BK276.out 2
                            have hfz188_3 := blk_frozen BK276.out 3
                            have hfz188_4 := blk_frozen BK276.out 4
                            have hfz188_5 := blk_frozen BK276.out 5
                            have hfz188_6 := blk_frozen BK276.out 6
                            go_wp2
                            go_ret
                            exact ⟨by first | rfl | (simp [errW_none, errW_some] <;> rfl) | (simp [*, errW_none, errW_some] <;> rfl), by repeat (first | (with_reducible first | exact HB.out | apply below_alloc | apply pw_below_drewN | apply below_drew1 | refine below_set ?_ GE256.out | refine below_set ?_ GE266.out | refine below_set ?_ GE267.out | refine below_set ?_ GE276.out) | exact HB.out)⟩
                        · as_aux_lemma =>
                          rw [if_neg c157] at H
                          have c157b0 : (t262 == 59) = false := beq_eq_false_iff_ne.mpr c157
                          have c157b1 : (t262 != 59) = true := bne_iff_ne.mpr c157
                          obtain rfl := Option.some.inj H
                          have hnb189 := NB266_256.out
                          have hnc189 := NB256_266.out
                          have hnb190 := NB266_267.out
                          have hnc190 := NB267_266.out
                          have hnb191 := NB266_276.out
                          have hnc191 := NB276_266.out
                          have hcz192_0 : wc.cell? ⟨gb266, 0, none⟩ = some (.int .i64 t258) := (blk_cell BK266.out 0).trans rfl
                          have hcz192_1 : wc.cell? ⟨gb266, 1, none⟩ = some (.int .i64 t259) := (blk_cell BK266.out 1).trans rfl
                          have hcz192_2 : wc.cell? ⟨gb266, 2, none⟩ = some (.int .i64 t260) := (blk_cell BK266.out 2).trans rfl
                          have hcz192_3 : wc.cell? ⟨gb266, 3, none⟩ = some (.int .i64 t261) := (blk_cell BK266.out 3).trans rfl
                          have hcz192_4 : wc.cell? ⟨gb266, 4, none⟩ = some (.int .i64 t262) := (blk_cell BK266.out 4).trans rfl
                          have hcz192_5 : wc.cell? ⟨gb266, 5, none⟩ = some (.int .i64 t263) := (blk_cell BK266.out 5).trans rfl
                          have hcz192_6 : wc.cell? ⟨gb266, 6, none⟩ = some (.int .u32 t264) := (blk_cell BK266.out 6).trans rfl
                          have hfz192_0 := blk_frozen BK266.out 0
                          have hfz192_1 := blk_frozen BK266.out 1
                          have hfz192_2 := blk_frozen BK266.out 2
                          have hfz192_3 := blk_frozen BK266.out 3
                          have hfz192_4 := blk_frozen BK266.out 4
                          have hfz192_5 := blk_frozen BK266.out 5
                          have hfz192_6 := blk_frozen BK266.out 6
                          have hnb193 := NB276_256.out
                          have hnc193 := NB256_276.out
                          have hnb194 := NB276_267.out
                          have hnc194 := NB267_276.out
                          have hcz195_0 : wc.cell? ⟨gb276, 0, none⟩ = some (.int .i64 t268) := (blk_cell BK276.out 0).trans rfl
                          have hcz195_1 : wc.cell? ⟨gb276, 1, none⟩ = some (.int .i64 t269) := (blk_cell BK276.out 1).trans rfl
                          have hcz195_2 : wc.cell? ⟨gb276, 2, none⟩ = some (.int .i64 t270) := (blk_cell BK276.out 2).trans rfl
                          have hcz195_3 : wc.cell? ⟨gb276, 3, none⟩ = some (.int .i64 t271) := (blk_cell BK276.out 3).trans rfl
                          have hcz195_4 : wc.cell? ⟨gb276, 4, none⟩ = some (.int .i64 t272) := (blk_cell BK276.out 4).trans rfl
                          have hcz195_5 : wc.cell? ⟨gb276, 5, none⟩ = some (.int .i64 t273) := (blk_cell BK276.out 5).trans rfl
                          have hcz195_6 : wc.cell? ⟨gb276, 6, none⟩ = some (.int .u32 t274) := (blk_cell BK276.out 6).trans rfl
                          have hfz195_0 := blk_frozen BK276.out 0
                          have hfz195_1 := blk_frozen BK276.out 1
                          have hfz195_2 := blk_frozen BK276.out 2
                          have hfz195_3 := blk_frozen BK276.out 3
                          have hfz195_4 := blk_frozen BK276.out 4
                          have hfz195_5 := blk_frozen BK276.out 5
                          have hfz195_6 := blk_frozen BK276.out 6
                          go_wp2
                          go_ret
                          exact ⟨by first | rfl | (simp [errW_none, errW_some] <;> rfl) | (simp [*, errW_none, errW_some] <;> rfl), by repeat (first | (with_reducible first | exact HB.out | apply below_alloc | apply pw_below_drewN | apply below_drew1 | refine below_set ?_ GE256.out | refine below_set ?_ GE266.out | refine below_set ?_ GE267.out | refine below_set ?_ GE276.out) | exact HB.out)⟩
                      · as_aux_lemma =>
                        rw [if_neg c156] at H
                        have c156b0 : (t263 == 59) = false := beq_eq_false_iff_ne.mpr c156
                        have c156b1 : (t263 != 59) = true := bne_iff_ne.mpr c156
                        obtain rfl := Option.some.inj H
                        have hnb196 := NB266_256.out
                        have hnc196 := NB256_266.out
                        have hnb197 := NB266_267.out
                        have hnc197 := NB267_266.out
                        have hnb198 := NB266_276.out
                        have hnc198 := NB276_266.out
                        have hcz199_0 : wc.cell? ⟨gb266, 0, none⟩ = some (.int .i64 t258) := (blk_cell BK266.out 0).trans rfl
                        have hcz199_1 : wc.cell? ⟨gb266, 1, none⟩ = some (.int .i64 t259) := (blk_cell BK266.out 1).trans rfl
                        have hcz199_2 : wc.cell? ⟨gb266, 2, none⟩ = some (.int .i64 t260) := (blk_cell BK266.out 2).trans rfl
                        have hcz199_3 : wc.cell? ⟨gb266, 3, none⟩ = some (.int .i64 t261) := (blk_cell BK266.out 3).trans rfl
                        have hcz199_4 : wc.cell? ⟨gb266, 4, none⟩ = some (.int .i64 t262) := (blk_cell BK266.out 4).trans rfl
                        have hcz199_5 : wc.cell? ⟨gb266, 5, none⟩ = some (.int .i64 t263) := (blk_cell BK266.out 5).trans rfl
                        have hcz199_6 : wc.cell? ⟨gb266, 6, none⟩ = some (.int .u32 t264) := (blk_cell BK266.out 6).trans rfl
                        have hfz199_0 := blk_frozen BK266.out 0
                        have hfz199_1 := blk_frozen BK266.out 1
                        have hfz199_2 := blk_frozen BK266.out 2
                        have hfz199_3 := blk_frozen BK266.out 3
                        have hfz199_4 := blk_frozen BK266.out 4
                        have hfz199_5 := blk_frozen BK266.out 5
                        have hfz199_6 := blk_frozen BK266.out 6
                        have hnb200 := NB276_256.out
                        have hnc200 := NB256_276.out
                        have hnb201 := NB276_267.out
                        have hnc201 := NB267_276.out
                        have hcz202_0 : wc.cell? ⟨gb276, 0, none⟩ = some (.int .i64 t268) := (blk_cell BK276.out 0).trans rfl
                        have hcz202_1 : wc.cell? ⟨gb276, 1, none⟩ = some (.int .i64 t269) := (blk_cell BK276.out 1).trans rfl
                        have hcz202_2 : wc.cell? ⟨gb276, 2, none⟩ = some (.int .i64 t270) := (blk_cell BK276.out 2).trans rfl
                        have hcz202_3 : wc.cell? ⟨gb276, 3, none⟩ = some (.int .i64 t271) := (blk_cell BK276.out 3).trans rfl
                        have hcz202_4 : wc.cell? ⟨gb276, 4, none⟩ = some (.int .i64 t272) := (blk_cell BK276.out 4).trans rfl
                        have hcz202_5 : wc.cell? ⟨gb276, 5, none⟩ = some (.int .i64 t273) := (blk_cell BK276.out 5).trans rfl
                        have hcz202_6 : wc.cell? ⟨gb276, 6, none⟩ = some (.int .u32 t274) := (blk_cell BK276.out 6).trans rfl
                        have hfz202_0 := blk_frozen BK276.out 0
                        have hfz202_1 := blk_frozen BK276.out 1
                        have hfz202_2 := blk_frozen BK276.out 2
                        have hfz202_3 := blk_frozen BK276.out 3
                        have hfz202_4 := blk_frozen BK276.out 4
                        have hfz202_5 := blk_frozen BK276.out 5
                        have hfz202_6 := blk_frozen BK276.out 6
                        go_wp2
                        go_ret
                        exact ⟨by first | rfl | (simp [errW_none, errW_some] <;> rfl) | (simp [*, errW_none, errW_some] <;> rfl), by repeat (first | (with_reducible first | exact HB.out | apply below_alloc | apply pw_below_drewN | apply below_drew1 | refine below_set ?_ GE256.out | refine below_set ?_ GE266.out | refine below_set ?_ GE267.out | refine below_set ?_ GE276.out) | exact HB.out)⟩
                  · rw [if_neg c38] at H
                    have c38b0 : (t272 == 0) = false := beq_eq_false_iff_ne.mpr c38
                    have c38b1 : (t272 != 0) = true := bne_iff_ne.mpr c38
                    by_cases c203 : t263 = 59
                    · rw [if_pos c203] at H
                      have c203b0 : (t263 == 59) = true := beq_iff_eq.mpr c203
                      have c203b1 : (t263 != 59) = false := bne_eq_false_iff_eq.mpr c203
                      clear c203
                      by_cases c204 : (wrap64 (t262 + 1)) = t272
                      · as_aux_lemma =>
                        rw [if_pos c204] at H
                        have c204b0 : ((wrap64 (t262 + 1)) == t272) = true := beq_iff_eq.mpr c204
                        have c204b1 : ((wrap64 (t262 + 1)) != t272) = false := bne_eq_false_iff_eq.mpr c204
                        clear c204
                        by_cases c205 : t261 = t271
                        · rw [if_pos c205] at H
                          have c205b0 : (t261 == t271) = true := beq_iff_eq.mpr c205
                          have c205b1 : (t261 != t271) = false := bne_eq_false_iff_eq.mpr c205
                          clear c205
                          by_cases c206 : t260 = t270
                          · rw [if_pos c206] at H
                            have c206b0 : (t260 == t270) = true := beq_iff_eq.mpr c206
                            have c206b1 : (t260 != t270) = false := bne_eq_false_iff_eq.mpr c206
                            clear c206
                            by_cases c207 : t259 = t269
                            · rw [if_pos c207] at H
                              have c207b0 : (t259 == t269) = true := beq_iff_eq.mpr c207
                              have c207b1 : (t259 != t269) = false := bne_eq_false_iff_eq.mpr c207
                              clear c207
                              obtain rfl := Option.some.inj H
                              have hnb208 := NB266_256.out
                              have hnc208 := NB256_266.out
                              have hnb209 := NB266_267.out
                              have hnc209 := NB267_266.out
                              have hnb210 := NB266_276.out
                              have hnc210 := NB276_266.out
                              have hcz211_0 : wc.cell? ⟨gb266, 0, none⟩ = some (.int .i64 t258) := (blk_cell BK266.out 0).trans rfl
                              have hcz211_1 : wc.cell? ⟨gb266, 1, none⟩ = some (.int .i64 t259) := (blk_cell BK266.out 1).trans rfl
                              have hcz211_2 : wc.cell? ⟨gb266, 2, none⟩ = some (.int .i64 t260) := (blk_cell BK266.out 2).trans rfl
                              have hcz211_3 : wc.cell? ⟨gb266, 3, none⟩ = some (.int .i64 t261) := (blk_cell BK266.out 3).trans rfl
                              have hcz211_4 : wc.cell? ⟨gb266, 4, none⟩ = some (.int .i64 t262) := (blk_cell BK266.out 4).trans rfl
                              have hcz211_5 : wc.cell? ⟨gb266, 5, none⟩ = some (.int .i64 t263) := (blk_cell BK266.out 5).trans rfl
                              have hcz211_6 : wc.cell? ⟨gb266, 6, none⟩ = some (.int .u32 t264) := (blk_cell BK266.out 6).trans rfl
                              have hfz211_0 := blk_frozen BK266.out 0
                              have hfz211_1 := blk_frozen BK266.out 1
                              have hfz211_2 := blk_frozen BK266.out 2
                              have hfz211_3 := blk_frozen BK266.out 3
                              have hfz211_4 := blk_frozen BK266.out 4
                              have hfz211_5 := blk_frozen BK266.out 5
                              have hfz211_6 := blk_frozen BK266.out 6
                              have hnb212 := NB276_256.out
                              have hnc212 := NB256_276.out
                              have hnb213 := NB276_267.out
                              have hnc213 := NB267_276.out
                              have hcz214_0 : wc.cell? ⟨gb276, 0, none⟩ = some (.int .i64 t268) := (blk_cell BK276.out 0).trans rfl
                              have hcz214_1 : wc.cell? ⟨gb276, 1, none⟩ = some (.int .i64 t269) := (blk_cell BK276.out 1).trans rfl
                              have hcz214_2 : wc.cell? ⟨gb276, 2, none⟩ = some (.int .i64 t270) := (blk_cell BK276.out 2).trans rfl
                              have hcz214_3 : wc.cell? ⟨gb276, 3, none⟩ = some (.int .i64 t271) := (blk_cell BK276.out 3).trans rfl
                              have hcz214_4 : wc.cell? ⟨gb276, 4, none⟩ = some (.int .i64 t272) := (blk_cell BK276.out 4).trans rfl
                              have hcz214_5 : wc.cell? ⟨gb276, 5, none⟩ = some (.int .i64 t273) := (blk_cell BK276.out 5).trans rfl
                              have hcz214_6 : wc.cell? ⟨gb276, 6, none⟩ = some (.int .u32 t274) := (blk_cell BK276.out 6).trans rfl
                              have hfz214_0 := blk_frozen BK276.out 0
                              have hfz214_1 := blk_frozen BK276.out 1
                              have hfz214_2 := blk_frozen BK276.out 2
                              have hfz214_3 := blk_frozen BK276.out 3
                              have hfz214_4 := blk_frozen BK276.out 4
                              have hfz214_5 := blk_frozen BK276.out 5
                              have hfz214_6 := blk_frozen BK276.out 6
                              go_wp2
                              go_ret
                              exact ⟨by first | rfl | (simp [errW_none, errW_some] <;> rfl) | (simp [*, errW_none, errW_some] <;> rfl), by repeat (first | (with_reducible first | exact HB.out | apply below_alloc | apply pw_below_drewN | apply below_drew1 | refine below_set ?_ GE256.out | refine below_set ?_ GE266.out | refine below_set ?_ GE267.out | refine below_set ?_ GE276.out) | exact HB.out)⟩
                            · rw [if_neg c207] at H
                              have c207b0 : (t259 == t269) = false := beq_eq_false_iff_ne.mpr c207
                              have c207b1 : (t259 != t269) = true := bne_iff_ne.mpr c207
                              obtain rfl := Option.some.inj H
                              have hnb215 := NB266_256.out
                              have hnc215 := NB256_266.out
                              have hnb216 := NB266_267.out
                              have hnc216 := NB267_266.out
                              have hnb217 := NB266_276.out
                              have hnc217 := NB276_266.out
                              have hcz218_0 : wc.cell? ⟨gb266, 0, none⟩ = some (.int .i64 t258) := (blk_cell BK266.out 0).trans rfl
                              have hcz218_1 : wc.cell? ⟨gb266, 1, none⟩ = some (.int .i64 t259) := (blk_cell BK266.out 1).trans rfl
                              have hcz218_2 : wc.cell? ⟨gb266, 2, none⟩ = some (.int .i64 t260) := (blk_cell BK266.out 2).trans rfl
                              have hcz218_3 : wc.cell? ⟨gb266, 3, none⟩ = some (.int .i64 t261) := (blk_cell BK266.out 3).trans rfl
                              have hcz218_4 : wc.cell? ⟨gb266, 4, none⟩ = some (.int .i64 t262) := (blk_cell BK266.out 4).trans rfl
                              have hcz218_5 : wc.cell? ⟨gb266, 5, none⟩ = some (.int .i64 t263) := (blk_cell BK266.out 5).trans rfl
                              have hcz218_6 : wc.cell? ⟨gb266, 6, none⟩ = some (.int .u32 t264) := (blk_cell BK266.out 6).trans rfl
                              have hfz218_0 := blk_frozen BK266.out 0
                              have hfz218_1 := blk_frozen BK266.out 1
                              have hfz218_2 := blk_frozen BK266.out 2
                              have hfz218_3 := blk_frozen BK266.out 3
                              have hfz218_4 := blk_frozen BK266.out 4
                              have hfz218_5 := blk_frozen BK266.out 5
                              have hfz218_6 := blk_frozen BK266.out 6
                              have hnb219 := NB276_256.out
                              have hnc219 := NB256_276.out
                              have hnb220 := NB276_267.out
                              have hnc220 := NB267_276.out
                              have hcz221_0 : wc.cell? ⟨gb276, 0, none⟩ = some (.int .i64 t268) := (blk_cell BK276.out 0).trans rfl
                              have hcz221_1 : wc.cell? ⟨gb276, 1, none⟩ = some (.int .i64 t269) := (blk_cell BK276.out 1).trans rfl
                              have hcz221_2 : wc.cell? ⟨gb276, 2, none⟩ = some (.int .i64 t270) := (blk_cell BK276.out 2).trans rfl
                              have hcz221_3 : wc.cell? ⟨gb276, 3, none⟩ = some (.int .i64 t271) := (blk_cell BK276.out 3).trans rfl
                              have hcz221_4 : wc.cell? ⟨gb276, 4, none⟩ = some (.int .i64 t272) := (blk_cell BK276.out 4).trans rfl
                              have hcz221_5 : wc.cell? ⟨gb276, 5, none⟩ = some (.int .i64 t273) := (blk_cell BK276.out 5).trans rfl
                              have hcz221_6 : wc.cell? ⟨gb276, 6, none⟩ = some (.int .u32 t274) := (blk_cell BK276.out 6).trans rfl
                              have hfz221_0 := blk_frozen BK276.out 0
                              have hfz221_1 := blk_frozen BK276.out 1
                              have hfz221_2 := blk_frozen BK276.out 2
                              have hfz221_3 := blk_frozen BK276.out 3
                              have hfz221_4 := blk_frozen BK276.out 4
                              have hfz221_5 := blk_frozen BK276.out 5
                              have hfz221_6 := blk_frozen BK276.out 6
                              go_wp2
                              go_ret
                              exact ⟨by first | rfl | (simp [errW_none, errW_some] <;> rfl) | (simp [*, errW_none, errW_some] <;> rfl), by repeat (first | (with_reducible first | exact HB.out | apply below_alloc | apply pw_below_drewN | apply below_drew1 | refine below_set ?_ GE256.out | refine below_set ?_ GE266.out | refine below_set ?_ GE267.out | refine below_set ?_ GE276.out) | exact HB.out)⟩
                          · rw [if_neg c206] at H
                            have c206b0 : (t260 == t270) = false := beq_eq_false_iff_ne.mpr c206
                            have c206b1 : (t260 != t270) = true := bne_iff_ne.mpr c206
                            obtain rfl := Option.some.inj H
                            have hnb222 := NB266_256.out
                            have hnc222 := NB256_266.out
                            have hnb223 := NB266_267.out
                            have hnc223 := NB267_266.out
                            have hnb224 := NB266_276.out
                            have hnc224 := NB276_266.out
                            have hcz225_0 : wc.cell? ⟨gb266, 0, none⟩ = some (.int .i64 t258) := (blk_cell BK266.out 0).trans rfl
                            have hcz225_1 : wc.cell? ⟨gb266, 1, none⟩ = some (.int .i64 t259) := (blk_cell BK266.out 1).trans rfl
                            have hcz225_2 : wc.cell? ⟨gb266, 2, none⟩ = some (.int .i64 t260) := (blk_cell BK266.out 2).trans rfl
                            have hcz225_3 : wc.cell? ⟨gb266, 3, none⟩ = some (.int .i64 t261) := (blk_cell BK266.out 3).trans rfl
                            have hcz225_4 : wc.cell? ⟨gb266, 4, none⟩ = some (.int .i64 t262) := (blk_cell BK266.out 4).trans rfl
                            have hcz225_5 : wc.cell? ⟨gb266, 5, none⟩ = some (.int .i64 t263) := (blk_cell BK266.out 5).trans rfl
                            have hcz225_6 : wc.cell? ⟨gb266, 6, none⟩ = some (.int .u32 t264) := (blk_cell BK266.out 6).trans rfl
                            have hfz225_0 := blk_frozen BK266.out 0
                            have hfz225_1 := blk_frozen BK266.out 1
                            have hfz225_2 := blk_frozen BK266.out 2
                            have hfz225_3 := blk_frozen BK266.out 3
                            have hfz225_4 := blk_frozen BK266.out 4
                            have hfz225_5 := blk_frozen BK266.out 5
                            have hfz225_6 := blk_frozen BK266.out 6
                            have hnb226 := NB276_256.out
                            have hnc226 := NB256_276.out
                            have hnb227 := NB276_267.out
                            have hnc227 := NB267_276.out
                            have hcz228_0 : wc.cell? ⟨gb276, 0, none⟩ = some (.int .i64 t268) := (blk_cell BK276.out 0).trans rfl
                            have hcz228_1 : wc.cell? ⟨gb276, 1, none⟩ = some (.int .i64 t269) := (blk_cell BK276.out 1).trans rfl
                            have hcz228_2 : wc.cell? ⟨gb276, 2, none⟩ = some (.int .i64 t270) := (blk_cell BK276.out 2).trans rfl
                            have hcz228_3 : wc.cell? ⟨gb276, 3, none⟩ = some (.int .i64 t271) := (blk_cell BK276.out 3).trans rfl
                            have hcz228_4 : wc.cell? ⟨gb276, 4, none⟩ = some (.int .i64 t272) := (blk_cell BK276.out 4).trans rfl
                            have hcz228_5 : wc.cell? ⟨gb276, 5, none⟩ = some (.int .i64 t273) := (blk_cell BK276.out 5).trans rfl
                            have hcz228_6 : wc.cell? ⟨gb276, 6, none⟩ = some (.int .u32 t274) := (blk_cell BK276.out 6).trans rfl
                            have hfz228_0 := blk_frozen BK276.out 0
                            have hfz228_1 := blk_frozen BK276.out 1
                            have hfz228_2 := blk_frozen BK276.out 2
                            have hfz228_3 := blk_frozen BK276.out 3
                            have hfz228_4 := blk_frozen BK276.out 4
                            have hfz228_5 := blk_frozen BK276.out 5
                            have hfz228_6 := blk_frozen BK276.out 6
                            go_wp2
                            go_ret
                            exact ⟨by first | rfl | (simp [errW_none, errW_some] <;> rfl) | (simp [*, errW_none, errW_some] <;> rfl), by repeat (first | (with_reducible first | exact HB.out | apply below_alloc | apply pw_below_drewN | apply below_drew1 | refine below_set ?_ GE256.out | refine below_set ?_ GE266.out | refine below_set ?_ GE267.out | refine below_set ?_ GE276.out) | exact HB.out)⟩
                        · rw [if_neg c205] at H
                          have c205b0 : (t261 == t271) = false := beq_eq_false_iff_ne.mpr c205
                          have c205b1 : (t261 != t271) = true := bne_iff_ne.mpr c205
                          obtain rfl := Option.some.inj H
                          have hnb229 := NB266_256.out
                          have hnc229 := NB256_266.out
                          have hnb230 := NB266_267.out
                          have hnc230 := NB267_266.out
                          have hnb231 := NB266_276.out
                          have hnc231 := NB276_266.out
                          have hcz232_0 : wc.cell? ⟨gb266, 0, none⟩ = some (.int .i64 t258) := (blk_cell BK266.out 0).trans rfl
                          have hcz232_1 : wc.cell? ⟨gb266, 1, none⟩ = some (.int .i64 t259) := (blk_cell BK266.out 1).trans rfl
                          have hcz232_2 : wc.cell? ⟨gb266, 2, none⟩ = some (.int .i64 t260) := (blk_cell BK266.out 2).trans rfl
                          have hcz232_3 : wc.cell? ⟨gb266, 3, none⟩ = some (.int .i64 t261) := (blk_cell BK266.out 3).trans rfl
                          have hcz232_4 : wc.cell? ⟨gb266, 4, none⟩ = some (.int .i64 t262) := (blk_cell BK266.out 4).trans rfl
                          have hcz232_5 : wc.cell? ⟨gb266, 5, none⟩ = some (.int .i64 t263) := (blk_cell BK266.out 5).trans rfl
                          have hcz232_6 : wc.cell? ⟨gb266, 6, none⟩ = some (.int .u32 t264) := (blk_cell BK266.out 6).trans rfl
                          have hfz232_0 := blk_frozen BK266.out 0
                          have hfz232_1 := blk_frozen BK266.out 1
                          have hfz232_2 := blk_frozen BK266.out 2
                          have hfz232_3 := blk_frozen BK266.out 3
                          have hfz232_4 := blk_frozen BK266.out 4
                          have hfz232_5 := blk_frozen BK266.out 5
                          have hfz232_6 := blk_frozen BK266.out 6
                          have hnb233 := NB276_256.out
                          have hnc233 := NB256_276.out
                          have hnb234 := NB276_267.out
                          have hnc234 := NB267_276.out
                          have hcz235_0 : wc.cell? ⟨gb276, 0, none⟩ = some (.int .i64 t268) := (blk_cell BK276.out 0).trans rfl
                          have hcz235_1 : wc.cell? ⟨gb276, 1, none⟩ = some (.int .i64 t269) := (blk_cell BK276.out 1).trans rfl
                          have hcz235_2 : wc.cell? ⟨gb276, 2, none⟩ = some (.int .i64 t270) := (blk_cell BK276.out 2).trans rfl
                          have hcz235_3 : wc.cell? ⟨gb276, 3, none⟩ = some (.int .i64 t271) := (blk_cell BK276.out 3).trans rfl
                          have hcz235_4 : wc.cell? ⟨gb276, 4, none⟩ = some (.int .i64 t272) := (blk_cell BK276.out 4).trans rfl
                          have hcz235_5 : wc.cell? ⟨gb276, 5, none⟩ = some (.int .i64 t273) := (blk_cell BK276.out 5).trans rfl
                          have hcz235_6 : wc.cell? ⟨gb276, 6, none⟩ = some (.int .u32 t274) := (blk_cell BK276.out 6).trans rfl
                          have hfz235_0 := blk_frozen BK276.out 0
                          have hfz235_1 := blk_frozen BK276.out 1
                          have hfz235_2 := blk_frozen BK276.out 2
                          have hfz235_3 := blk_frozen BK276.out 3
                          have hfz235_4 := blk_frozen BK276.out 4
                          have hfz235_5 := blk_frozen BK276.out 5
                          have hfz235_6 := blk_frozen BK276.out 6
                          go_wp2
                          go_ret
                          exact ⟨by first | rfl | (simp [errW_none, errW_some] <;> rfl) | (simp [*, errW_none, errW_some] <;> rfl), by repeat (first | (with_reducible first | exact HB.out | apply below_alloc | apply pw_below_drewN | apply below_drew1 | refine below_set ?_ GE256.out | refine below_set ?_ GE266.out | refine below_set ?_ GE267.out | refine below_set ?_ GE276.out) | exact HB.out)⟩
                      · as_aux_lemma =>
                        rw [if_neg c204] at H
                        have c204b0 : ((wrap64 (t262 + 1)) == t272) = false := beq_eq_false_iff_ne.mpr c204
                        have c204b1 : ((wrap64 (t262 + 1)) != t272) = true := bne_iff_ne.mpr c204
                        obtain rfl := Option.some.inj H
                        have hnb236 := NB266_256.out
                        have hnc236 := NB256_266.out
                        have hnb237 := NB266_267.out
                        have hnc237 := NB267_266.out
                        have hnb238 := NB266_276.out
                        have hnc238 := NB276_266.out
                        have hcz239_0 : wc.cell? ⟨gb266, 0, none⟩ = some (.int .i64 t258) := (blk_cell BK266.out 0).trans rfl
                        have hcz239_1 : wc.cell? ⟨gb266, 1, none⟩ = some (.int .i64 t259) := (blk_cell BK266.out 1).trans rfl
                        have hcz239_2 : wc.cell? ⟨gb266, 2, none⟩ = some (.int .i64 t260) := (blk_cell BK266.out 2).trans rfl
                        have hcz239_3 : wc.cell? ⟨gb266, 3, none⟩ = some (.int .i64 t261) := (blk_cell BK266.out 3).trans rfl
                        have hcz239_4 : wc.cell? ⟨gb266, 4, none⟩ = some (.int .i64 t262) := (blk_cell BK266.out 4).trans rfl
                        have hcz239_5 : wc.cell? ⟨gb266, 5, none⟩ = some (.int .i64 t263) := (blk_cell BK266.out 5).trans rfl
                        have hcz239_6 : wc.cell? ⟨gb266, 6, none⟩ = some (.int .u32 t264) := (blk_cell BK266.out 6).trans rfl
                        have hfz239_0 := blk_frozen BK266.out 0
                        have hfz239_1 := blk_frozen BK266.out 1
                        have hfz239_2 := blk_frozen BK266.out 2
                        have hfz239_3 := blk_frozen BK266.out 3
                        have hfz239_4 := blk_frozen BK266.out 4
                        have hfz239_5 := blk_frozen BK266.out 5
                        have hfz239_6 := blk_frozen BK266.out 6
                        have hnb240 := NB276_256.out
                        have hnc240 := NB256_276.out
                        have hnb241 := NB276_267.out
                        have hnc241 := NB267_276.out
                        have hcz242_0 : wc.cell? ⟨gb276, 0, none⟩ = some (.int .i64 t268) := (blk_cell BK276.out 0).trans rfl
                        have hcz242_1 : wc.cell? ⟨gb276, 1, none⟩ = some (.int .i64 t269) := (blk_cell BK276.out 1).trans rfl
                        have hcz242_2 : wc.cell? ⟨gb276, 2, none⟩ = some (.int .i64 t270) := (blk_cell BK276.out 2).trans rfl
                        have hcz242_3 : wc.cell? ⟨gb276, 3, none⟩ = some (.int .i64 t271) := (blk_cell BK276.out 3).trans rfl
                        have hcz242_4 : wc.cell? ⟨gb276, 4, none⟩ = some (.int .i64 t272) := (blk_cell BK276.out 4).trans rfl
                        have hcz242_5 : wc.cell? ⟨gb276, 5, none⟩ = some (.int .i64 t273) := (blk_cell BK276.out 5).trans rfl
                        have hcz242_6 : wc.cell? ⟨gb276, 6, none⟩ = some (.int .u32 t274) := (blk_cell BK276.out 6).trans rfl
                        have hfz242_0 := blk_frozen BK276.out 0
                        have hfz242_1 := blk_frozen BK276.out 1
                        have hfz242_2 := blk_frozen BK276.out 2
                        have hfz242_3 := blk_frozen BK276.out 3
                        have hfz242_4 := blk_frozen BK276.out 4
                        have hfz242_5 := blk_frozen BK276.out 5
                        have hfz242_6 := blk_frozen BK276.out 6
                        go_wp2
                        go_ret
                        exact ⟨by first | rfl | (simp [errW_none, errW_some] <;> rfl) | (simp [*, errW_none, errW_some] <;> rfl), by repeat (first | (with_reducible first | exact HB.out | apply below_alloc | apply pw_below_drewN | apply below_drew1 | refine below_set ?_ GE256.out | refine below_set ?_ GE266.out | refine below_set ?_ GE267.out | refine below_set ?_ GE276.out) | exact HB.out)⟩
                    · as_aux_lemma =>
                      rw [if_neg c203] at H
                      have c203b0 : (t263 == 59) = false := beq_eq_false_iff_ne.mpr c203
                      have c203b1 : (t263 != 59) = true := bne_iff_ne.mpr c203
                      obtain rfl := Option.some.inj H
                      have hnb243 := NB266_256.out
                      have hnc243 := NB256_266.out
                      have hnb244 := NB266_267.out
                      have hnc244 := NB267_266.out
                      have hnb245 := NB266_276.out
                      have hnc245 := NB276_266.out
                      have hcz246_0 : wc.cell? ⟨gb266, 0, none⟩ = some (.int .i64 t258) := (blk_cell BK266.out 0).trans rfl
                      have hcz246_1 : wc.cell? ⟨gb266, 1, none⟩ = some (.int .i64 t259) := (blk_cell BK266.out 1).trans rfl
                      have hcz246_2 : wc.cell? ⟨gb266, 2, none⟩ = some (.int .i64 t260) := (blk_cell BK266.out 2).trans rfl
                      have hcz246_3 : wc.cell? ⟨gb266, 3, none⟩ = some (.int .i64 t261) := (blk_cell BK266.out 3).trans rfl
                      have hcz246_4 : wc.cell? ⟨gb266, 4, none⟩ = some (.int .i64 t262) := (blk_cell BK266.out 4).trans rfl
                      have hcz246_5 : wc.cell? ⟨gb266, 5, none⟩ = some (.int .i64 t263) := (blk_cell BK266.out 5).trans rfl
                      have hcz246_6 : wc.cell? ⟨gb266, 6, none⟩ = some (.int .u32 t264) := (blk_cell BK266.out 6).trans rfl
                      have hfz246_0 := blk_frozen BK266.out 0
                      have hfz246_1 := blk_frozen BK266.out 1
                      have hfz246_2 := blk_frozen BK266.out 2
                      have hfz246_3 := blk_frozen BK266.out 3
                      have hfz246_4 := blk_frozen BK266.out 4
                      have hfz246_5 := blk_frozen BK266.out 5
                      have hfz246_6 := blk_frozen BK266.out 6
                      have hnb247 := NB276_256.out
                      have hnc247 := NB256_276.out
                      have hnb248 := NB276_267.out
                      have hnc248 := NB267_276.out
                      have hcz249_0 : wc.cell? ⟨gb276, 0, none⟩ = some (.int .i64 t268) := (blk_cell BK276.out 0).trans rfl
                      have hcz249_1 : wc.cell? ⟨gb276, 1, none⟩ = some (.int .i64 t269) := (blk_cell BK276.out 1).trans rfl
                      have hcz249_2 : wc.cell? ⟨gb276, 2, none⟩ = some (.int .i64 t270) := (blk_cell BK276.out 2).trans rfl
                      have hcz249_3 : wc.cell? ⟨gb276, 3, none⟩ = some (.int .i64 t271) := (blk_cell BK276.out 3).trans rfl
                      have hcz249_4 : wc.cell? ⟨gb276, 4, none⟩ = some (.int .i64 t272) := (blk_cell BK276.out 4).trans rfl
                      have hcz249_5 : wc.cell? ⟨gb276, 5, none⟩ = some (.int .i64 t273) := (blk_cell BK276.out 5).trans rfl
                      have hcz249_6 : wc.cell? ⟨gb276, 6, none⟩ = some (.int .u32 t274) := (blk_cell BK276.out 6).trans rfl
                      have hfz249_0 := blk_frozen BK276.out 0
                      have hfz249_1 := blk_frozen BK276.out 1
                      have hfz249_2 := blk_frozen BK276.out 2
                      have hfz249_3 := blk_frozen BK276.out 3
                      have hfz249_4 := blk_frozen BK276.out 4
                      have hfz249_5 := blk_frozen BK276.out 5
                      have hfz249_6 := blk_frozen BK276.out 6
                      go_wp2
                      go_ret
                      exact ⟨by first | rfl | (simp [errW_none, errW_some] <;> rfl) | (simp [*, errW_none, errW_some] <;> rfl), by repeat (first | (with_reducible first | exact HB.out | apply below_alloc | apply pw_below_drewN | apply below_drew1 | refine below_set ?_ GE256.out | refine below_set ?_ GE266.out | refine below_set ?_ GE267.out | refine below_set ?_ GE276.out) | exact HB.out)⟩
                · rw [if_neg c37] at H
                  have c37b0 : (t273 == 0) = false := beq_eq_false_iff_ne.mpr c37
                  have c37b1 : (t273 != 0) = true := bne_iff_ne.mpr c37
                  by_cases c250 : (wrap64 (t263 + 1)) = t273
                  · rw [if_pos c250] at H
                    have c250b0 : ((wrap64 (t263 + 1)) == t273) = true := beq_iff_eq.mpr c250
                    have c250b1 : ((wrap64 (t263 + 1)) != t273) = false := bne_eq_false_iff_eq.mpr c250
                    clear c250
                    by_cases c251 : t262 = t272
                    · as_aux_lemma =>
                      rw [if_pos c251] at H
                      have c251b0 : (t262 == t272) = true := beq_iff_eq.mpr c251
                      have c251b1 : (t262 != t272) = false := bne_eq_false_iff_eq.mpr c251
                      clear c251
                      by_cases c252 : t261 = t271
                      · rw [if_pos c252] at H
                        have c252b0 : (t261 == t271) = true := beq_iff_eq.mpr c252
                        have c252b1 : (t261 != t271) = false := bne_eq_false_iff_eq.mpr c252
                        clear c252
                        by_cases c253 : t260 = t270
                        · rw [if_pos c253] at H
                          have c253b0 : (t260 == t270) = true := beq_iff_eq.mpr c253
                          have c253b1 : (t260 != t270) = false := bne_eq_false_iff_eq.mpr c253
                          clear c253
                          by_cases c254 : t259 = t269
                          · rw [if_pos c254] at H
                            have c254b0 : (t259 == t269) = true := beq_iff_eq.mpr c254
                            have c254b1 : (t259 != t269) = false := bne_eq_false_iff_eq.mpr c254
                            clear c254
                            obtain rfl := Option.some.inj H
                            have hnb255 := NB266_256.out
                            have hnc255 := NB256_266.out
                            have hnb256 := NB266_267.out
                            have hnc256 := NB267_266.out
                            have hnb257 := NB266_276.out
                            have hnc257 := NB276_266.out
                            have hcz258_0 : wc.cell? ⟨gb266, 0, none⟩ = some (.int .i64 t258) := (blk_cell BK266.out 0).trans rfl
                            have hcz258_1 : wc.cell? ⟨gb266, 1, none⟩ = some (.int .i64 t259) := (blk_cell BK266.out 1).trans rfl
                            have hcz258_2 : wc.cell? ⟨gb266, 2, none⟩ = some (.int .i64 t260) := (blk_cell BK266.out 2).trans rfl
                            have hcz258_3 : wc.cell? ⟨gb266, 3, none⟩ = some (.int .i64 t261) := (blk_cell BK266.out 3).trans rfl
                            have hcz258_4 : wc.cell? ⟨gb266, 4, none⟩ = some (.int .i64 t262) := (blk_cell BK266.out 4).trans rfl
                            have hcz258_5 : wc.cell? ⟨gb266, 5, none⟩ = some (.int .i64 t263) := (blk_cell BK266.out 5).trans rfl
                            have hcz258_6 : wc.cell? ⟨gb266, 6, none⟩ = some (.int .u32 t264) := (blk_cell BK266.out 6).trans rfl
                            have hfz258_0 := blk_frozen BK266.out 0
                            have hfz258_1 := blk_frozen BK266.out 1
                            have hfz258_2 := blk_frozen BK266.out 2
                            have hfz258_3 := blk_frozen BK266.out 3
                            have hfz258_4 := blk_frozen BK266.out 4
                            have hfz258_5 := blk_frozen BK266.out 5
                            have hfz258_6 := blk_frozen BK266.out 6
                            have hnb259 := NB276_256.out
                            have hnc259 := NB256_276.out
                            have hnb260 := NB276_267.out
                            have hnc260 := NB267_276.out
                            have hcz261_0 : wc.cell? ⟨gb276, 0, none⟩ = some (.int .i64 t268) := (blk_cell BK276.out 0).trans rfl
                            have hcz261_1 : wc.cell? ⟨gb276, 1, none⟩ = some (.int .i64 t269) := (blk_cell BK276.out 1).trans rfl
                            have hcz261_2 : wc.cell? ⟨gb276, 2, none⟩ = some (.int .i64 t270) := (blk_cell BK276.out 2).trans rfl
                            have hcz261_3 : wc.cell? ⟨gb276, 3, none⟩ = some (.int .i64 t271) := (blk_cell BK276.out 3).trans rfl
                            have hcz261_4 : wc.cell? ⟨gb276, 4, none⟩ = some (.int .i64 t272) := (blk_cell BK276.out 4).trans rfl
                            have hcz261_5 : wc.cell? ⟨gb276, 5, none⟩ = some (.int .i64 t273) := (blk_cell BK276.out 5).trans rfl
                            have hcz261_6 : wc.cell? ⟨gb276, 6, none⟩ = some (.int .u32 t274) := (blk_cell BK276.out 6).trans rfl
                            have hfz261_0 := blk_frozen BK276.out 0
                            have hfz261_1 := blk_frozen BK276.out 1
                            have hfz261_2 := blk_frozen BK276.out 2
                            have hfz261_3 := blk_frozen BK276.out 3
                            have hfz261_4 := blk_frozen BK276.out 4
                            have hfz261_5 := blk_frozen BK276.out 5
                            have hfz261_6 := blk_frozen BK276.out 6
                            go_wp2
                            go_ret
                            exact ⟨by first | rfl | (simp [errW_none, errW_some] <;> rfl) | (simp [*, errW_none, errW_some] <;> rfl), by repeat (first | (with_reducible first | exact HB.out | apply below_alloc | apply pw_below_drewN | apply below_drew1 | refine below_set ?_ GE256.out | refine below_set ?_ GE266.out | refine below_set ?_ GE267.out | refine below_set ?_ GE276.out) | exact HB.out)⟩
                          · rw [if_neg c254] at H
                            have c254b0 : (t259 == t269) = false := beq_eq_false_iff_ne.mpr c254
                            have c254b1 : (t259 != t269) = true := bne_iff_ne.mpr c254
                            obtain rfl := Option.some.inj H
                            have hnb262 := NB266_256.out
                            have hnc262 := NB256_266.out
                            have hnb263 := NB266_267.out
                            have hnc263 := NB267_266.out
                            have hnb264 := NB266_276.out
                            have hnc264 := NB276_266.out
                            have hcz265_0 : wc.cell? ⟨gb266, 0, none⟩ = some (.int .i64 t258) := (blk_cell BK266.out 0).trans rfl
                            have hcz265_1 : wc.cell? ⟨gb266, 1, none⟩ = some (.int .i64 t259) := (blk_cell BK266.out 1).trans rfl
                            have hcz265_2 : wc.cell? ⟨gb266, 2, none⟩ = some (.int .i64 t260) := (blk_cell BK266.out 2).trans rfl
                            have hcz265_3 : wc.cell? ⟨gb266, 3, none⟩ = some (.int .i64 t261) := (blk_cell BK266.out 3).trans rfl
                            have hcz265_4 : wc.cell? ⟨gb266, 4, none⟩ = some (.int .i64 t262) := (blk_cell BK266.out 4).trans rfl
                            have hcz265_5 : wc.cell? ⟨gb266, 5, none⟩ = some (.int .i64 t263) := (blk_cell BK266.out 5).trans rfl
                            have hcz265_6 : wc.cell? ⟨gb266, 6, none⟩ = some (.int .u32 t264) := (blk_cell BK266.out 6).trans rfl
                            have hfz265_0 := blk_frozen BK266.out 0
                            have hfz265_1 := blk_frozen BK266.out 1
                            have hfz265_2 := blk_frozen BK266.out 2
                            have hfz265_3 := blk_frozen BK266.out 3
                            have hfz265_4 := blk_frozen BK266.out 4
                            have hfz265_5 := blk_frozen BK266.out 5
                            have hfz265_6 := blk_frozen BK266.out 6
                            have hnb266 := NB276_256.out
                            have hnc266 := NB256_276.out
                            have hnb267 := NB276_267.out
                            have hnc267 := NB267_276.out
                            have hcz268_0 : wc.cell? ⟨gb276, 0, none⟩ = some (.int .i64 t268) := (blk_cell BK276.out 0).trans rfl
                            have hcz268_1 : wc.cell? ⟨gb276, 1, none⟩ = some (.int .i64 t269) := (blk_cell BK276.out 1).trans rfl
                            have hcz268_2 : wc.cell? ⟨gb276, 2, none⟩ = some (.int .i64 t270) := (blk_cell BK276.out 2).trans rfl
                            have hcz268_3 : wc.cell? ⟨gb276, 3, none⟩ = some (.int .i64 t271) := (blk_cell BK276.out 3).trans rfl
                            have hcz268_4 : wc.cell? ⟨gb276, 4, none⟩ = some (.int .i64 t272) := (blk_cell BK276.out 4).trans rfl
                            have hcz268_5 : wc.cell? ⟨gb276, 5, none⟩ = some (.int .i64 t273) := (blk_cell BK276.out 5).trans rfl
                            have hcz268_6 : wc.cell? ⟨gb276, 6, none⟩ = some (.int .u32 t274) := (blk_cell BK276.out 6).trans rfl
                            have hfz268_0 := blk_frozen BK276.out 0
                            have hfz268_1 := blk_frozen BK276.out 1
                            have hfz268_2 := blk_frozen BK276.out 2
                            have hfz268_3 := blk_frozen BK276.out 3
                            have hfz268_4 := blk_frozen BK276.out 4
                            have hfz268_5 := blk_frozen BK276.out 5
                            have hfz268_6 := blk_frozen BK276.out 6
                            go_wp2
                            go_ret
                            exact ⟨by first | rfl | (simp [errW_none, errW_some] <;> rfl) | (simp [*, errW_none, errW_some] <;> rfl), by repeat (first | (with_reducible first | exact HB.out | apply below_alloc | apply pw_below_drewN | apply below_drew1 | refine below_set ?_ GE256.out | refine below_set ?_ GE266.out | refine below_set ?_ GE267.out | refine below_set ?_ GE276.out) | exact HB.out)⟩
                        · rw [if_neg c253] at H
                          have c253b0 : (t260 == t270) = false := beq_eq_false_iff_ne.mpr c253
                          have c253b1 : (t260 != t270) = true := bne_iff_ne.mpr c253
                          obtain rfl := Option.some.inj H
                          have hnb269 := NB266_256.out
                          have hnc269 := NB256_266.out
                          have hnb270 := NB266_267.out
                          have hnc270 := NB267_266.out
                          have hnb271 := NB266_276.out
                          have hnc271 := NB276_266.out
                          have hcz272_0 : wc.cell? ⟨gb266, 0, none⟩ = some (.int .i64 t258) := (blk_cell BK266.out 0).trans rfl
                          have hcz272_1 : wc.cell? ⟨gb266, 1, none⟩ = some (.int .i64 t259) := (blk_cell BK266.out 1).trans rfl
                          have hcz272_2 : wc.cell? ⟨gb266, 2, none⟩ = some (.int .i64 t260) := (blk_cell BK266.out 2).trans rfl
                          have hcz272_3 : wc.cell? ⟨gb266, 3, none⟩ = some (.int .i64 t261) := (blk_cell BK266.out 3).trans rfl
                          have hcz272_4 : wc.cell? ⟨gb266, 4, none⟩ = some (.int .i64 t262) := (blk_cell BK266.out 4).trans rfl
                          have hcz272_5 : wc.cell? ⟨gb266, 5, none⟩ = some (.int .i64 t263) := (blk_cell BK266.out 5).trans rfl
                          have hcz272_6 : wc.cell? ⟨gb266, 6, none⟩ = some (.int .u32 t264) := (blk_cell BK266.out 6).trans rfl
                          have hfz272_0 := blk_frozen BK266.out 0
                          have hfz272_1 := blk_frozen BK266.out 1
                          have hfz272_2 := blk_frozen BK266.out 2
                          have hfz272_3 := blk_frozen BK266.out 3
                          have hfz272_4 := blk_frozen BK266.out 4
                          have hfz272_5 := blk_frozen BK266.out 5
                          have hfz272_6 := blk_frozen BK266.out 6
                          have hnb273 := NB276_256.out
                          have hnc273 := NB256_276.out
                          have hnb274 := NB276_267.out
                          have hnc274 := NB267_276.out
                          have hcz275_0 : wc.cell? ⟨gb276, 0, none⟩ = some (.int .i64 t268) := (blk_cell BK276.out 0).trans rfl
                          have hcz275_1 : wc.cell? ⟨gb276, 1, none⟩ = some (.int .i64 t269) := (blk_cell BK276.out 1).trans rfl
                          have hcz275_2 : wc.cell? ⟨gb276, 2, none⟩ = some (.int .i64 t270) := (blk_cell BK276.out 2).trans rfl
                          have hcz275_3 : wc.cell? ⟨gb276, 3, none⟩ = some (.int .i64 t271) := (blk_cell BK276.out 3).trans rfl
                          have hcz275_4 : wc.cell? ⟨gb276, 4, none⟩ = some (.int .i64 t272) := (blk_cell BK276.out 4).trans rfl
                          have hcz275_5 : wc.cell? ⟨gb276, 5, none⟩ = some (.int .i64 t273) := (blk_cell BK276.out 5).trans rfl
                          have hcz275_6 : wc.cell? ⟨gb276, 6, none⟩ = some (.int .u32 t274) := (blk_cell BK276.out 6).trans rfl
                          have hfz275_0 := blk_frozen BK276.out 0
                          have hfz275_1 := blk_frozen BK276.out 1
                          have hfz275_2 := blk_frozen BK276.out 2
                          have hfz275_3 := blk_frozen BK276.out 3
                          have hfz275_4 := blk_frozen BK276.out 4
                          have hfz275_5 := blk_frozen BK276.out 5
                          have hfz275_6 := blk_frozen BK276.out 6
                          go_wp2
                          go_ret
                          exact ⟨by first | rfl | (simp [errW_none, errW_some] <;> rfl) | (simp [*, errW_none, errW_some] <;> rfl), by repeat (first | (with_reducible first | exact HB.out | apply below_alloc | apply pw_below_drewN | apply below_drew1 | refine below_set ?_ GE256.out | refine below_set ?_ GE266.out | refine below_set ?_ GE267.out | refine below_set ?_ GE276.out) | exact HB.out)⟩
                      · rw [if_neg c252] at H
                        have c252b0 : (t261 == t271) = false := beq_eq_false_iff_ne.mpr c252
                        have c252b1 : (t261 != t271) = true := bne_iff_ne.mpr c252
                        obtain rfl := Option.some.inj H
                        have hnb276 := NB266_256.out
                        have hnc276 := NB256_266.out
                        have hnb277 := NB266_267.out
                        have hnc277 := NB267_266.out
                        have hnb278 := NB266_276.out
                        have hnc278 := NB276_266.out
                        have hcz279_0 : wc.cell? ⟨gb266, 0, none⟩ = some (.int .i64 t258) := (blk_cell BK266.out 0).trans rfl
                        have hcz279_1 : wc.cell? ⟨gb266, 1, none⟩ = some (.int .i64 t259) := (blk_cell BK266.out 1).trans rfl
                        have hcz279_2 : wc.cell? ⟨gb266, 2, none⟩ = some (.int .i64 t260) := (blk_cell BK266.out 2).trans rfl
                        have hcz279_3 : wc.cell? ⟨gb266, 3, none⟩ = some (.int .i64 t261) := (blk_cell BK266.out 3).trans rfl
                        have hcz279_4 : wc.cell? ⟨gb266, 4, none⟩ = some (.int .i64 t262) := (blk_cell BK266.out 4).trans rfl
                        have hcz279_5 : wc.cell? ⟨gb266, 5, none⟩ = some (.int .i64 t263) := (blk_cell BK266.out 5).trans rfl
                        have hcz279_6 : wc.cell? ⟨gb266, 6, none⟩ = some (.int .u32 t264) := (blk_cell BK266.out 6).trans rfl
                        have hfz279_0 := blk_frozen BK266.out 0
                        have hfz279_1 := blk_frozen BK266.out 1
                        have hfz279_2 := blk_frozen BK266.out 2
                        have hfz279_3 := blk_frozen BK266.out 3
                        have hfz279_4 := blk_frozen BK266.out 4
                        have hfz279_5 := blk_frozen BK266.out 5
                        have hfz279_6 := blk_frozen BK266.out 6
                        have hnb280 := NB276_256.out
                        have hnc280 := NB256_276.out
                        have hnb281 := NB276_267.out
                        have hnc281 := NB267_276.out
                        have hcz282_0 : wc.cell? ⟨gb276, 0, none⟩ = some (.int .i64 t268) := (blk_cell BK276.out 0).trans rfl
                        have hcz282_1 : wc.cell? ⟨gb276, 1, none⟩ = some (.int .i64 t269) := (blk_cell BK276.out 1).trans rfl
                        have hcz282_2 : wc.cell? ⟨gb276, 2, none⟩ = some (.int .i64 t270) := (blk_cell BK276.out 2).trans rfl
                        have hcz282_3 : wc.cell? ⟨gb276, 3, none⟩ = some (.int .i64 t271) := (blk_cell BK276.out 3).trans rfl
                        have hcz282_4 : wc.cell? ⟨gb276, 4, none⟩ = some (.int .i64 t272) := (blk_cell BK276.out 4).trans rfl
                        have hcz282_5 : wc.cell? ⟨gb276, 5, none⟩ = some (.int .i64 t273) := (blk_cell BK276.out 5).trans rfl
                        have hcz282_6 : wc.cell? ⟨gb276, 6, none⟩ = some (.int .u32 t274) := (blk_cell BK276.out 6).trans rfl
                        have hfz282_0 := blk_frozen BK276.out 0
                        have hfz282_1 := blk_frozen BK276.out 1
                        have hfz282_2 := blk_frozen BK276.out 2
                        have hfz282_3 := blk_frozen BK276.out 3
                        have hfz282_4 := blk_frozen BK276.out 4
                        have hfz282_5 := blk_frozen BK276.out 5
                        have hfz282_6 := blk_frozen BK276.out 6
                        go_wp2
                        go_ret
                        exact ⟨by first | rfl | (simp [errW_none, errW_some] <;> rfl) | (simp [*, errW_none, errW_some] <;> rfl), by repeat (first | (with_reducible first | exact HB.out | apply below_alloc | apply pw_below_drewN | apply below_drew1 | refine below_set ?_ GE256.out | refine below_set ?_ GE266.out | refine below_set ?_ GE267.out | refine below_set ?_ GE276.out) | exact HB.out)⟩
                    · as_aux_lemma =>
                      rw [if_neg c251] at H
                      have c251b0 : (t262 == t272) = false := beq_eq_false_iff_ne.mpr c251
                      have c251b1 : (t262 != t272) = true := bne_iff_ne.mpr c251
                      obtain rfl := Option.some.inj H
                      have hnb283 := NB266_256.out
                      have hnc283 := NB256_266.out
                      have hnb284 := NB266_267.out
                      have hnc284 := NB267_266.out
                      have hnb285 := NB266_276.out
                      have hnc285 := NB276_266.out
                      have hcz286_0 : wc.cell? ⟨gb266, 0, none⟩ = some (.int .i64 t258) := (blk_cell BK266.out 0).trans rfl
                      have hcz286_1 : wc.cell? ⟨gb266, 1, none⟩ = some (.int .i64 t259) := (blk_cell BK266.out 1).trans rfl
                      have hcz286_2 : wc.cell? ⟨gb266, 2, none⟩ = some (.int .i64 t260) := (blk_cell BK266.out 2).trans rfl
                      have hcz286_3 : wc.cell? ⟨gb266, 3, none⟩ = some (.int .i64 t261) := (blk_cell BK266.out 3).trans rfl
                      have hcz286_4 : wc.cell? ⟨gb266, 4, none⟩ = some (.int .i64 t262) := (blk_cell BK266.out 4).trans rfl
                      have hcz286_5 : wc.cell? ⟨gb266, 5, none⟩ = some (.int .i64 t263) := (blk_cell BK266.out 5).trans rfl
                      have hcz286_6 : wc.cell? ⟨gb266, 6, none⟩ = some (.int .u32 t264) := (blk_cell BK266.out 6).trans rfl
                      have hfz286_0 := blk_frozen BK266.out 0
                      have hfz286_1 := blk_frozen BK266.out 1
                      have hfz286_2 := blk_frozen BK266.out 2
                      have hfz286_3 := blk_frozen BK266.out 3
                      have hfz286_4 := blk_frozen BK266.out 4
                      have hfz286_5 := blk_frozen BK266.out 5
                      have hfz286_6 := blk_frozen BK266.out 6
                      have hnb287 := NB276_256.out
                      have hnc287 := NB256_276.out
                      have hnb288 := NB276_267.out
                      have hnc288 := NB267_276.out
                      have hcz289_0 : wc.cell? ⟨gb276, 0, none⟩ = some (.int .i64 t268) := (blk_cell BK276.out 0).trans rfl
                      have hcz289_1 : wc.cell? ⟨gb276, 1, none⟩ = some (.int .i64 t269) := (blk_cell BK276.out 1).trans rfl
                      have hcz289_2 : wc.cell? ⟨gb276, 2, none⟩ = some (.int .i64 t270) := (blk_cell BK276.out 2).trans rfl
                      have hcz289_3 : wc.cell? ⟨gb276, 3, none⟩ = some (.int .i64 t271) := (blk_cell BK276.out 3).trans rfl
                      have hcz289_4 : wc.cell? ⟨gb276, 4, none⟩ = some (.int .i64 t272) := (blk_cell BK276.out 4).trans rfl
                      have hcz289_5 : wc.cell? ⟨gb276, 5, none⟩ = some (.int .i64 t273) := (blk_cell BK276.out 5).trans rfl
                      have hcz289_6 : wc.cell? ⟨gb276, 6, none⟩ = some (.int .u32 t274) := (blk_cell BK276.out 6).trans rfl
                      have hfz289_0 := blk_frozen BK276.out 0
                      have hfz289_1 := blk_frozen BK276.out 1
                      have hfz289_2 := blk_frozen BK276.out 2
                      have hfz289_3 := blk_frozen BK276.out 3
                      have hfz289_4 := blk_frozen BK276.out 4
                      have hfz289_5 := blk_frozen BK276.out 5
                      have hfz289_6 := blk_frozen BK276.out 6
                      go_wp2
                      go_ret
                      exact ⟨by first | rfl | (simp [errW_none, errW_some] <;> rfl) | (simp [*, errW_none, errW_some] <;> rfl), by repeat (first | (with_reducible first | exact HB.out | apply below_alloc | apply pw_below_drewN | apply below_drew1 | refine below_set ?_ GE256.out | refine below_set ?_ GE266.out | refine below_set ?_ GE267.out | refine below_set ?_ GE276.out) | exact HB.out)⟩
                  · as_aux_lemma =>
                    rw [if_neg c250] at H
                    have c250b0 : ((wrap64 (t263 + 1)) == t273) = false := beq_eq_false_iff_ne.mpr c250
                    have c250b1 : ((wrap64 (t263 + 1)) != t273) = true := bne_iff_ne.mpr c250
                    obtain rfl := Option.some.inj H
                    have hnb290 := NB266_256.out
                    have hnc290 := NB256_266.out
                    have hnb291 := NB266_267.out
                    have hnc291 := NB267_266.out
                    have hnb292 := NB266_276.out
                    have hnc292 := NB276_266.out
                    have hcz293_0 : wc.cell? ⟨gb266, 0, none⟩ = some (.int .i64 t258) := (blk_cell BK266.out 0).trans rfl
                    have hcz293_1 : wc.cell? ⟨gb266, 1, none⟩ = some (.int .i64 t259) := (blk_cell BK266.out 1).trans rfl
                    have hcz293_2 : wc.cell? ⟨gb266, 2, none⟩ = some (.int .i64 t260) := (blk_cell BK266.out 2).trans rfl
                    have hcz293_3 : wc.cell? ⟨gb266, 3, none⟩ = some (.int .i64 t261) := (blk_cell BK266.out 3).trans rfl
                    have hcz293_4 : wc.cell? ⟨gb266, 4, none⟩ = some (.int .i64 t262) := (blk_cell BK266.out 4).trans rfl
                    have hcz293_5 : wc.cell? ⟨gb266, 5, none⟩ = some (.int .i64 t263) := (blk_cell BK266.out 5).trans rfl
                    have hcz293_6 : wc.cell? ⟨gb266, 6, none⟩ = some (.int .u32 t264) := (blk_cell BK266.out 6).trans rfl
                    have hfz293_0 := blk_frozen BK266.out 0
                    have hfz293_1 := blk_frozen BK266.out 1
                    have hfz293_2 := blk_frozen BK266.out 2
                    have hfz293_3 := blk_frozen BK266.out 3
                    have hfz293_4 := blk_frozen BK266.out 4
                    have hfz293_5 := blk_frozen BK266.out 5
                    have hfz293_6 := blk_frozen BK266.out 6
                    have hnb294 := NB276_256.out
                    have hnc294 := NB256_276.out
                    have hnb295 := NB276_267.out
                    have hnc295 := NB267_276.out
                    have hcz296_0 : wc.cell? ⟨gb276, 0, none⟩ = some (.int .i64 t268) := (blk_cell BK276.out 0).trans rfl
                    have hcz296_1 : wc.cell? ⟨gb276, 1, none⟩ = some (.int .i64 t269) := (blk_cell BK276.out 1).trans rfl
                    have hcz296_2 : wc.cell? ⟨gb276, 2, none⟩ = some (.int .i64 t270) := (blk_cell BK276.out 2).trans rfl
                    have hcz296_3 : wc.cell? ⟨gb276, 3, none⟩ = some (.int .i64 t271) := (blk_cell BK276.out 3).trans rfl
                    have hcz296_4 : wc.cell? ⟨gb276, 4, none⟩ = some (.int .i64 t272) := (blk_cell BK276.out 4).trans rfl
                    have hcz296_5 : wc.cell? ⟨gb276, 5, none⟩ = some (.int .i64 t273) := (blk_cell BK276.out 5).trans rfl
                    have hcz296_6 : wc.cell? ⟨gb276, 6, none⟩ = some (.int .u32 t274) := (blk_cell BK276.out 6).trans rfl
                    have hfz296_0 := blk_frozen BK276.out 0
                    have hfz296_1 := blk_frozen BK276.out 1
                    have hfz296_2 := blk_frozen BK276.out 2
                    have hfz296_3 := blk_frozen BK276.out 3
                    have hfz296_4 := blk_frozen BK276.out 4
                    have hfz296_5 := blk_frozen BK276.out 5
                    have hfz296_6 := blk_frozen BK276.out 6
                    go_wp2
                    go_ret
                    exact ⟨by first | rfl | (simp [errW_none, errW_some] <;> rfl) | (simp [*, errW_none, errW_some] <;> rfl), by repeat (first | (with_reducible first | exact HB.out | apply below_alloc | apply pw_below_drewN | apply below_drew1 | refine below_set ?_ GE256.out | refine below_set ?_ GE266.out | refine below_set ?_ GE267.out | refine below_set ?_ GE276.out) | exact HB.out)⟩
              · as_aux_lemma =>
                rw [if_neg c36] at H
                have c36b0 : (t264 == t274) = false := beq_eq_false_iff_ne.mpr c36
                have c36b1 : (t264 != t274) = true := bne_iff_ne.mpr c36
                obtain rfl := Option.some.inj H
                have hnb297 := NB266_256.out
                have hnc297 := NB256_266.out
                have hnb298 := NB266_267.out
                have hnc298 := NB267_266.out
                have hnb299 := NB266_276.out
                have hnc299 := NB276_266.out
                have hcz300_0 : wc.cell? ⟨gb266, 0, none⟩ = some (.int .i64 t258) := (blk_cell BK266.out 0).trans rfl
                have hcz300_1 : wc.cell? ⟨gb266, 1, none⟩ = some (.int .i64 t259) := (blk_cell BK266.out 1).trans rfl
                have hcz300_2 : wc.cell? ⟨gb266, 2, none⟩ = some (.int .i64 t260) := (blk_cell BK266.out 2).trans rfl
                have hcz300_3 : wc.cell? ⟨gb266, 3, none⟩ = some (.int .i64 t261) := (blk_cell BK266.out 3).trans rfl
                have hcz300_4 : wc.cell? ⟨gb266, 4, none⟩ = some (.int .i64 t262) := (blk_cell BK266.out 4).trans rfl
                have hcz300_5 : wc.cell? ⟨gb266, 5, none⟩ = some (.int .i64 t263) := (blk_cell BK266.out 5).trans rfl
                have hcz300_6 : wc.cell? ⟨gb266, 6, none⟩ = some (.int .u32 t264) := (blk_cell BK266.out 6).trans rfl
                have hfz300_0 := blk_frozen BK266.out 0
                have hfz300_1 := blk_frozen BK266.out 1
                have hfz300_2 := blk_frozen BK266.out 2
                have hfz300_3 := blk_frozen BK266.out 3
                have hfz300_4 := blk_frozen BK266.out 4
                have hfz300_5 := blk_frozen BK266.out 5
                have hfz300_6 := blk_frozen BK266.out 6
                have hnb301 := NB276_256.out
                have hnc301 := NB256_276.out
                have hnb302 := NB276_267.out
                have hnc302 := NB267_276.out
                have hcz303_0 : wc.cell? ⟨gb276, 0, none⟩ = some (.int .i64 t268) := (blk_cell BK276.out 0).trans rfl
                have hcz303_1 : wc.cell? ⟨gb276, 1, none⟩ = some (.int .i64 t269) := (blk_cell BK276.out 1).trans rfl
                have hcz303_2 : wc.cell? ⟨gb276, 2, none⟩ = some (.int .i64 t270) := (blk_cell BK276.out 2).trans rfl
                have hcz303_3 : wc.cell? ⟨gb276, 3, none⟩ = some (.int .i64 t271) := (blk_cell BK276.out 3).trans rfl
                have hcz303_4 : wc.cell? ⟨gb276, 4, none⟩ = some (.int .i64 t272) := (blk_cell BK276.out 4).trans rfl
                have hcz303_5 : wc.cell? ⟨gb276, 5, none⟩ = some (.int .i64 t273) := (blk_cell BK276.out 5).trans rfl
                have hcz303_6 : wc.cell? ⟨gb276, 6, none⟩ = some (.int .u32 t274) := (blk_cell BK276.out 6).trans rfl
                have hfz303_0 := blk_frozen BK276.out 0
                have hfz303_1 := blk_frozen BK276.out 1
                have hfz303_2 := blk_frozen BK276.out 2
                have hfz303_3 := blk_frozen BK276.out 3
                have hfz303_4 := blk_frozen BK276.out 4
                have hfz303_5 := blk_frozen BK276.out 5
                have hfz303_6 := blk_frozen BK276.out 6
                go_wp2
                go_ret
                exact ⟨by first | rfl | (simp [errW_none, errW_some] <;> rfl) | (simp [*, errW_none, errW_some] <;> rfl), by repeat (first | (with_reducible first | exact HB.out | apply below_alloc | apply pw_below_drewN | apply below_drew1 | refine below_set ?_ GE256.out | refine below_set ?_ GE266.out | refine below_set ?_ GE267.out | refine below_set ?_ GE276.out) | exact HB.out)⟩
  · as_aux_lemma =>
    replace c3 := Bool.eq_false_iff.mpr c3
    subst c3
    have H1 : (some false) = some r := by rw [if_neg (show ¬ (false = true) by decide)] at H; exact H
    clear H
    have H := H1
    clear H1
    obtain rfl := Option.some.inj H
    go_enter Try.func5, Try.ntmps5
    go_wp2_with (first | ((with_reducible refine gate_dst (N := 1) rfl ?_); refine box_event ?hg (N := 1) ?hd (cs := #[.int .i64 a0_0, .int .u64 a0_1]) (t := 25) ?hr ?_; (case hd => rfl); (case hg => rfl); (case hr => first | (go_simp; done) | (go_simp; rfl)); intro gb256 hg w304 hbox hb; have n0_ := Aside0.mk (below_step (by repeat (first | (with_reducible first | exact HB.out | apply below_alloc | apply pw_below_drewN | apply below_drew1) | exact HB.out)) hb); have n1_ := Aside0.mk (hbox); have n2_ := Aside0.mk ((by rw [hg]; exact (below_size (by repeat (first | (with_reducible first | exact HB.out | apply below_alloc | apply pw_below_drewN | apply below_drew1) | exact HB.out))) : w.heap.size ≤ gb256)); have n3_ := Aside0.mk ((by rw [hg]; exact (below_size (by repeat (first | (with_reducible first | exact HB.out | apply below_alloc | apply pw_below_drewN | apply below_drew1) | exact HB.out))) : w.heap.size ≤ gb256)); clear HB; have HB := n0_; have BK256 := n1_; have GW256 := n2_; have GE256 := n3_; clear n0_ n1_ n2_ n3_; clear hb hbox hg) | ((with_reducible refine gate_callee (f := 13) rfl ?_); refine goesL_ (some 9) rfl rfl Try.func13 (by kernel_rfl) rfl #[] rfl (by (try simp only [List.map_toArray, List.map_cons, List.map_nil]); first | done | rfl | (simp only [List.length_drop, List.length_take]; rfl)) ?_; (with_reducible refine (foliotlaw02_shown.calls k  false _ A2.out).mono ?_); rintro e w305 ⟨rfl, hb⟩; refine ⟨_, rfl, ?_⟩; have n0_ := Aside0.mk (blk_below (g := gb256) (o := .cells #[.int .i64 a0_0, .int .u64 a0_1] 25 (0, 0)) (by (with_reducible repeat (first | refine blk_drewN ?_ _ | refine blk_drew ?_ | refine blk_alloc ?_ _)); exact BK256.out) hb); have n1_ := Aside0.mk (below_step (by repeat (first | (with_reducible first | exact HB.out | apply below_alloc | apply pw_below_drewN | apply below_drew1 | refine below_set ?_ GE256.out) | exact HB.out)) hb); clear BK256; clear HB; have BK256 := n0_; have HB := n1_; clear n0_ n1_; (try clear hb); (try clear hb2); (try clear hk); (try clear hi)))
    go_ret
    exact ⟨by first | rfl | (simp [errW_none, errW_some] <;> rfl) | (simp [*, errW_none, errW_some] <;> rfl), by repeat (first | (with_reducible first | exact HB.out | apply below_alloc | apply pw_below_drewN | apply below_drew1 | refine below_set ?_ GE256.out) | exact HB.out)⟩

end Go.Proofs.Ytbondhnhiinlbaa.Pr
