/- Printed walks, packed. -/
import Derived.Test.YtbondhnhiinlbaaTK0
import Derived.Test.YtbondhnhiinlbaaTPrx26
namespace Go.Proofs.Ytbondhnhiinlbaa.Pr
open Go.RowKit Go.Proofs.YtbondhnhiinlbaaW.PrintWords Go.Proofs.YtbondhnhiinlbaaW.PrintLast Go.Proofs.YtbondhnhiinlbaaW.PrintMore
attribute [local go_sem] max2_int min2_int max_two min_two max_three min_three max_four min_four   -- for this text's walks alone
set_option linter.unusedVariables false
set_option linter.unusedSimpArgs false

/-! ### foliotref02_Print: function 22 -/
def foliotref02_Print.f (k : Nat) (a0_0 : Int) (a0_1 : Int) : Option (ByteArray × Int) := (foliotref02_OfDate.f k a0_0 a0_1).bind fun bt297 => (if bt297.2.2.2.2.2.2.2 = 0 then ((foliotref02_digits.f k bt297.1 4).bind fun t306 => (if t306.size + 1 ≤ 9223372036854775807 then ((foliotref02_digits.f k bt297.2.1 2).bind fun t307 => (if (t306 ++ (⟨#[45]⟩ : ByteArray)).size + t307.size ≤ 9223372036854775807 then (if ((t306 ++ (⟨#[45]⟩ : ByteArray)) ++ t307).size + 1 ≤ 9223372036854775807 then ((foliotref02_digits.f k bt297.2.2.1 2).bind fun t308 => (if (((t306 ++ (⟨#[45]⟩ : ByteArray)) ++ t307) ++ (⟨#[45]⟩ : ByteArray)).size + t308.size ≤ 9223372036854775807 then (if ((((t306 ++ (⟨#[45]⟩ : ByteArray)) ++ t307) ++ (⟨#[45]⟩ : ByteArray)) ++ t308).size + 1 ≤ 9223372036854775807 then ((foliotref02_digits.f k bt297.2.2.2.1 2).bind fun t309 => (if (((((t306 ++ (⟨#[45]⟩ : ByteArray)) ++ t307) ++ (⟨#[45]⟩ : ByteArray)) ++ t308) ++ (⟨#[32]⟩ : ByteArray)).size + t309.size ≤ 9223372036854775807 then (if ((((((t306 ++ (⟨#[45]⟩ : ByteArray)) ++ t307) ++ (⟨#[45]⟩ : ByteArray)) ++ t308) ++ (⟨#[32]⟩ : ByteArray)) ++ t309).size + 1 ≤ 9223372036854775807 then ((foliotref02_digits.f k bt297.2.2.2.2.1 2).bind fun t310 => (if (((((((t306 ++ (⟨#[45]⟩ : ByteArray)) ++ t307) ++ (⟨#[45]⟩ : ByteArray)) ++ t308) ++ (⟨#[32]⟩ : ByteArray)) ++ t309) ++ (⟨#[58]⟩ : ByteArray)).size + t310.size ≤ 9223372036854775807 then (if ((((((((t306 ++ (⟨#[45]⟩ : ByteArray)) ++ t307) ++ (⟨#[45]⟩ : ByteArray)) ++ t308) ++ (⟨#[32]⟩ : ByteArray)) ++ t309) ++ (⟨#[58]⟩ : ByteArray)) ++ t310).size + 1 ≤ 9223372036854775807 then ((foliotref02_digits.f k bt297.2.2.2.2.2.1 2).bind fun t311 => (if (((((((((t306 ++ (⟨#[45]⟩ : ByteArray)) ++ t307) ++ (⟨#[45]⟩ : ByteArray)) ++ t308) ++ (⟨#[32]⟩ : ByteArray)) ++ t309) ++ (⟨#[58]⟩ : ByteArray)) ++ t310) ++ (⟨#[58]⟩ : ByteArray)).size + t311.size ≤ 9223372036854775807 then (if ((((((((((t306 ++ (⟨#[45]⟩ : ByteArray)) ++ t307) ++ (⟨#[45]⟩ : ByteArray)) ++ t308) ++ (⟨#[32]⟩ : ByteArray)) ++ t309) ++ (⟨#[58]⟩ : ByteArray)) ++ t310) ++ (⟨#[58]⟩ : ByteArray)) ++ t311).size + 1 ≤ 9223372036854775807 then ((foliotref02_digits.f k ((wrap64 ((wrap64 (bt297.2.2.2.2.2.2.1)) * 1000000)) / 4294967296) 6).bind fun t312 => (if (((((((((((t306 ++ (⟨#[45]⟩ : ByteArray)) ++ t307) ++ (⟨#[45]⟩ : ByteArray)) ++ t308) ++ (⟨#[32]⟩ : ByteArray)) ++ t309) ++ (⟨#[58]⟩ : ByteArray)) ++ t310) ++ (⟨#[58]⟩ : ByteArray)) ++ t311) ++ (⟨#[46]⟩ : ByteArray)).size + t312.size ≤ 9223372036854775807 then (some ((((((((((((t306 ++ (⟨#[45]⟩ : ByteArray)) ++ t307) ++ (⟨#[45]⟩ : ByteArray)) ++ t308) ++ (⟨#[32]⟩ : ByteArray)) ++ t309) ++ (⟨#[58]⟩ : ByteArray)) ++ t310) ++ (⟨#[58]⟩ : ByteArray)) ++ t311) ++ (⟨#[46]⟩ : ByteArray)) ++ t312, 0)) else (none))) else (none)) else (none))) else (none)) else (none))) else (none)) else (none))) else (none)) else (none))) else (none)) else (none))) else (none))) else (some ((⟨#[]⟩ : ByteArray), bt297.2.2.2.2.2.2.2)))
theorem foliotref02_Print.mono : ∀ a0 a1 k, LeO (foliotref02_Print.f k a0 a1) (foliotref02_Print.f (k + 1) a0 a1) := by
 intro a0 a1 k
 unfold foliotref02_Print.f
 repeat' first
   | (with_reducible exact foliotref02_OfDate.mono _ _ _)
   | (with_reducible exact foliotref02_digits.mono _ _ _)
   | (with_reducible exact LeO.refl _)
   | (with_reducible exact LeO.none _)
   | (with_reducible refine LeO.ite ?_ ?_)
   | (with_reducible refine LeO.bind ?_ (fun _ => ?_))
   | exact foliotref02_OfDate.mono _ _ _
   | exact foliotref02_digits.mono _ _ _
   | exact LeO.none _
   | refine LeO.ite ?_ ?_
   | refine LeO.bind ?_ (fun _ => ?_)
def foliotref02_Print.T4 : Bool × List (List Nat × List Nat) := (true, [([], []), ([0], [0]), ([1], [1]), ([2], [2]), ([], []), ([4], [4]), ([5, 2], [5]), ([3, 6], [3, 6]), ([7], [7]), ([], []), ([9], [9]), ([10, 6], [10]), ([8, 11], [8, 11]), ([12], [12]), ([], []), ([14], [14]), ([15, 11], [15]), ([13, 16], [13, 16]), ([17], [17]), ([], []), ([19], [19]), ([20, 16], [20]), ([18, 21], [18, 21]), ([22], [22]), ([], []), ([24], [24]), ([25, 21], [25]), ([23, 26], [23, 26]), ([27], [27]), ([], []), ([29], [29]), ([30], [30]), ([31], [31]), ([32], [32]), ([33, 26], [33]), ([28, 34], [28, 34]), ([35, 34, 0, 1, 2, 3, 4, 5, 6, 7, 8, 9, 10, 11, 12, 13, 14, 15, 16, 17, 18, 19, 20, 21, 22, 23, 24, 25, 26, 27, 28, 29, 30, 31, 32, 33, 34, 35], [35]), ([36, 0, 1, 2, 3, 4, 5, 6, 7, 8, 9, 10, 11, 12, 13, 14, 15, 16, 17, 18, 19, 20, 21, 22, 23, 24, 25, 26, 27, 28, 29, 30, 31, 32, 33, 34, 35, 36], [])])
def foliotref02_Print.B4 : List Nat := [0, 1, 3, 7, 0, 16, 55, 127, 255, 0, 512, 1655, 4095, 8191, 0, 16384, 52855, 131071, 262143, 0, 524288, 1691255, 4194303, 8388607, 0, 16777216, 54120055, 134217727, 268435455, 0, 536870912, 1610612736, 3758096384, 8053063680, 16764227191, 34359738367, 68719476735, 137438953471]
theorem foliotref02_Print.tab4 : rtab .any (opsOf Try.f22 4) = foliotref02_Print.T4 := by kernel_rfl
theorem foliotref02_Print.bits4 : waitsOk foliotref02_Print.T4.2 foliotref02_Print.B4 = true := by kernel_rfl
set_option maxHeartbeats 8000000 in
set_option maxRecDepth 100000 in
theorem foliotref02_Print.calls (k : Nat) (a0_0 : Int) (a0_1 : Int) (r1 : ByteArray) (r2 : Int) (w : World) (h : foliotref02_Print.f k a0_0 a0_1 = some (r1, r2)) :
  Calls Try.prog 22 #[.agg #[.int .i64 a0_0, .int .u64 a0_1]] w fun e w' => e = .returned (.tuple #[.string r1, .int .i64 r2]) ∧ Below w.heap.size w w' := by
 have hu36 := Try.underlying36
 have hu33 := Try.underlying33
 have HB := Aside0.mk (Below.refl w.heap.size w)
 have H : ((foliotref02_OfDate.f k a0_0 a0_1).bind fun bt297 => (if bt297.2.2.2.2.2.2.2 = 0 then ((foliotref02_digits.f k bt297.1 4).bind fun t306 => (if t306.size + 1 ≤ 9223372036854775807 then ((foliotref02_digits.f k bt297.2.1 2).bind fun t307 => (if (t306 ++ (⟨#[45]⟩ : ByteArray)).size + t307.size ≤ 9223372036854775807 then (if ((t306 ++ (⟨#[45]⟩ : ByteArray)) ++ t307).size + 1 ≤ 9223372036854775807 then ((foliotref02_digits.f k bt297.2.2.1 2).bind fun t308 => (if (((t306 ++ (⟨#[45]⟩ : ByteArray)) ++ t307) ++ (⟨#[45]⟩ : ByteArray)).size + t308.size ≤ 9223372036854775807 then (if ((((t306 ++ (⟨#[45]⟩ : ByteArray)) ++ t307) ++ (⟨#[45]⟩ : ByteArray)) ++ t308).size + 1 ≤ 9223372036854775807 then ((foliotref02_digits.f k bt297.2.2.2.1 2).bind fun t309 => (if (((((t306 ++ (⟨#[45]⟩ : ByteArray)) ++ t307) ++ (⟨#[45]⟩ : ByteArray)) ++ t308) ++ (⟨#[32]⟩ : ByteArray)).size + t309.size ≤ 9223372036854775807 then (if ((((((t306 ++ (⟨#[45]⟩ : ByteArray)) ++ t307) ++ (⟨#[45]⟩ : ByteArray)) ++ t308) ++ (⟨#[32]⟩ : ByteArray)) ++ t309).size + 1 ≤ 9223372036854775807 then ((foliotref02_digits.f k bt297.2.2.2.2.1 2).bind fun t310 => (if (((((((t306 ++ (⟨#[45]⟩ : ByteArray)) ++ t307) ++ (⟨#[45]⟩ : ByteArray)) ++ t308) ++ (⟨#[32]⟩ : ByteArray)) ++ t309) ++ (⟨#[58]⟩ : ByteArray)).size + t310.size ≤ 9223372036854775807 then (if ((((((((t306 ++ (⟨#[45]⟩ : ByteArray)) ++ t307) ++ (⟨#[45]⟩ : ByteArray)) ++ t308) ++ (⟨#[32]⟩ : ByteArray)) ++ t309) ++ (⟨#[58]⟩ : ByteArray)) ++ t310).size + 1 ≤ 9223372036854775807 then ((foliotref02_digits.f k bt297.2.2.2.2.2.1 2).bind fun t311 => (if (((((((((t306 ++ (⟨#[45]⟩ : ByteArray)) ++ t307) ++ (⟨#[45]⟩ : ByteArray)) ++ t308) ++ (⟨#[32]⟩ : ByteArray)) ++ t309) ++ (⟨#[58]⟩ : ByteArray)) ++ t310) ++ (⟨#[58]⟩ : ByteArray)).size + t311.size ≤ 9223372036854775807 then (if ((((((((((t306 ++ (⟨#[45]⟩ : ByteArray)) ++ t307) ++ (⟨#[45]⟩ : ByteArray)) ++ t308) ++ (⟨#[32]⟩ : ByteArray)) ++ t309) ++ (⟨#[58]⟩ : ByteArray)) ++ t310) ++ (⟨#[58]⟩ : ByteArray)) ++ t311).size + 1 ≤ 9223372036854775807 then ((foliotref02_digits.f k ((wrap64 ((wrap64 (bt297.2.2.2.2.2.2.1)) * 1000000)) / 4294967296) 6).bind fun t312 => (if (((((((((((t306 ++ (⟨#[45]⟩ : ByteArray)) ++ t307) ++ (⟨#[45]⟩ : ByteArray)) ++ t308) ++ (⟨#[32]⟩ : ByteArray)) ++ t309) ++ (⟨#[58]⟩ : ByteArray)) ++ t310) ++ (⟨#[58]⟩ : ByteArray)) ++ t311) ++ (⟨#[46]⟩ : ByteArray)).size + t312.size ≤ 9223372036854775807 then (some ((((((((((((t306 ++ (⟨#[45]⟩ : ByteArray)) ++ t307) ++ (⟨#[45]⟩ : ByteArray)) ++ t308) ++ (⟨#[32]⟩ : ByteArray)) ++ t309) ++ (⟨#[58]⟩ : ByteArray)) ++ t310) ++ (⟨#[58]⟩ : ByteArray)) ++ t311) ++ (⟨#[46]⟩ : ByteArray)) ++ t312, 0)) else (none))) else (none)) else (none))) else (none)) else (none))) else (none)) else (none))) else (none)) else (none))) else (none)) else (none))) else (none))) else (some ((⟨#[]⟩ : ByteArray), bt297.2.2.2.2.2.2.2)))) = some (r1, r2) := h
 clear h
 replace H := Option.bind_eq_some_iff.mp H
 obtain ⟨⟨t297, t298, t299, t300, t301, t302, t303, t304⟩, A20, H⟩ := H
 replace H : (if t304 = 0 then ((foliotref02_digits.f k t297 4).bind fun t306 => (if t306.size + 1 ≤ 9223372036854775807 then ((foliotref02_digits.f k t298 2).bind fun t307 => (if (t306 ++ (⟨#[45]⟩ : ByteArray)).size + t307.size ≤ 9223372036854775807 then (if ((t306 ++ (⟨#[45]⟩ : ByteArray)) ++ t307).size + 1 ≤ 9223372036854775807 then ((foliotref02_digits.f k t299 2).bind fun t308 => (if (((t306 ++ (⟨#[45]⟩ : ByteArray)) ++ t307) ++ (⟨#[45]⟩ : ByteArray)).size + t308.size ≤ 9223372036854775807 then (if ((((t306 ++ (⟨#[45]⟩ : ByteArray)) ++ t307) ++ (⟨#[45]⟩ : ByteArray)) ++ t308).size + 1 ≤ 9223372036854775807 then ((foliotref02_digits.f k t300 2).bind fun t309 => (if (((((t306 ++ (⟨#[45]⟩ : ByteArray)) ++ t307) ++ (⟨#[45]⟩ : ByteArray)) ++ t308) ++ (⟨#[32]⟩ : ByteArray)).size + t309.size ≤ 9223372036854775807 then (if ((((((t306 ++ (⟨#[45]⟩ : ByteArray)) ++ t307) ++ (⟨#[45]⟩ : ByteArray)) ++ t308) ++ (⟨#[32]⟩ : ByteArray)) ++ t309).size + 1 ≤ 9223372036854775807 then ((foliotref02_digits.f k t301 2).bind fun t310 => (if (((((((t306 ++ (⟨#[45]⟩ : ByteArray)) ++ t307) ++ (⟨#[45]⟩ : ByteArray)) ++ t308) ++ (⟨#[32]⟩ : ByteArray)) ++ t309) ++ (⟨#[58]⟩ : ByteArray)).size + t310.size ≤ 9223372036854775807 then (if ((((((((t306 ++ (⟨#[45]⟩ : ByteArray)) ++ t307) ++ (⟨#[45]⟩ : ByteArray)) ++ t308) ++ (⟨#[32]⟩ : ByteArray)) ++ t309) ++ (⟨#[58]⟩ : ByteArray)) ++ t310).size + 1 ≤ 9223372036854775807 then ((foliotref02_digits.f k t302 2).bind fun t311 => (if (((((((((t306 ++ (⟨#[45]⟩ : ByteArray)) ++ t307) ++ (⟨#[45]⟩ : ByteArray)) ++ t308) ++ (⟨#[32]⟩ : ByteArray)) ++ t309) ++ (⟨#[58]⟩ : ByteArray)) ++ t310) ++ (⟨#[58]⟩ : ByteArray)).size + t311.size ≤ 9223372036854775807 then (if ((((((((((t306 ++ (⟨#[45]⟩ : ByteArray)) ++ t307) ++ (⟨#[45]⟩ : ByteArray)) ++ t308) ++ (⟨#[32]⟩ : ByteArray)) ++ t309) ++ (⟨#[58]⟩ : ByteArray)) ++ t310) ++ (⟨#[58]⟩ : ByteArray)) ++ t311).size + 1 ≤ 9223372036854775807 then ((foliotref02_digits.f k ((wrap64 ((wrap64 (t303)) * 1000000)) / 4294967296) 6).bind fun t312 => (if (((((((((((t306 ++ (⟨#[45]⟩ : ByteArray)) ++ t307) ++ (⟨#[45]⟩ : ByteArray)) ++ t308) ++ (⟨#[32]⟩ : ByteArray)) ++ t309) ++ (⟨#[58]⟩ : ByteArray)) ++ t310) ++ (⟨#[58]⟩ : ByteArray)) ++ t311) ++ (⟨#[46]⟩ : ByteArray)).size + t312.size ≤ 9223372036854775807 then (some ((((((((((((t306 ++ (⟨#[45]⟩ : ByteArray)) ++ t307) ++ (⟨#[45]⟩ : ByteArray)) ++ t308) ++ (⟨#[32]⟩ : ByteArray)) ++ t309) ++ (⟨#[58]⟩ : ByteArray)) ++ t310) ++ (⟨#[58]⟩ : ByteArray)) ++ t311) ++ (⟨#[46]⟩ : ByteArray)) ++ t312, 0)) else (none))) else (none)) else (none))) else (none)) else (none))) else (none)) else (none))) else (none)) else (none))) else (none)) else (none))) else (none))) else (some ((⟨#[]⟩ : ByteArray), t304))) = some (r1, r2) := H
 have A2 := Aside0.mk A20
 clear A20
 by_cases c3 : t304 = 0
 ·rw [if_pos c3] at H
  have c3b0 : (t304 == 0) = true := beq_iff_eq.mpr c3
  have c3b1 : (t304 != 0) = false := bne_eq_false_iff_eq.mpr c3
  clear c3
  replace H := Option.bind_eq_some_iff.mp H
  obtain ⟨t306, A40, H⟩ := H
  replace H : (if t306.size + 1 ≤ 9223372036854775807 then ((foliotref02_digits.f k t298 2).bind fun t307 => (if (t306 ++ (⟨#[45]⟩ : ByteArray)).size + t307.size ≤ 9223372036854775807 then (if ((t306 ++ (⟨#[45]⟩ : ByteArray)) ++ t307).size + 1 ≤ 9223372036854775807 then ((foliotref02_digits.f k t299 2).bind fun t308 => (if (((t306 ++ (⟨#[45]⟩ : ByteArray)) ++ t307) ++ (⟨#[45]⟩ : ByteArray)).size + t308.size ≤ 9223372036854775807 then (if ((((t306 ++ (⟨#[45]⟩ : ByteArray)) ++ t307) ++ (⟨#[45]⟩ : ByteArray)) ++ t308).size + 1 ≤ 9223372036854775807 then ((foliotref02_digits.f k t300 2).bind fun t309 => (if (((((t306 ++ (⟨#[45]⟩ : ByteArray)) ++ t307) ++ (⟨#[45]⟩ : ByteArray)) ++ t308) ++ (⟨#[32]⟩ : ByteArray)).size + t309.size ≤ 9223372036854775807 then (if ((((((t306 ++ (⟨#[45]⟩ : ByteArray)) ++ t307) ++ (⟨#[45]⟩ : ByteArray)) ++ t308) ++ (⟨#[32]⟩ : ByteArray)) ++ t309).size + 1 ≤ 9223372036854775807 then ((foliotref02_digits.f k t301 2).bind fun t310 => (if (((((((t306 ++ (⟨#[45]⟩ : ByteArray)) ++ t307) ++ (⟨#[45]⟩ : ByteArray)) ++ t308) ++ (⟨#[32]⟩ : ByteArray)) ++ t309) ++ (⟨#[58]⟩ : ByteArray)).size + t310.size ≤ 9223372036854775807 then (if ((((((((t306 ++ (⟨#[45]⟩ : ByteArray)) ++ t307) ++ (⟨#[45]⟩ : ByteArray)) ++ t308) ++ (⟨#[32]⟩ : ByteArray)) ++ t309) ++ (⟨#[58]⟩ : ByteArray)) ++ t310).size + 1 ≤ 9223372036854775807 then ((foliotref02_digits.f k t302 2).bind fun t311 => (if (((((((((t306 ++ (⟨#[45]⟩ : ByteArray)) ++ t307) ++ (⟨#[45]⟩ : ByteArray)) ++ t308) ++ (⟨#[32]⟩ : ByteArray)) ++ t309) ++ (⟨#[58]⟩ : ByteArray)) ++ t310) ++ (⟨#[58]⟩ : ByteArray)).size + t311.size ≤ 9223372036854775807 then (if ((((((((((t306 ++ (⟨#[45]⟩ : ByteArray)) ++ t307) ++ (⟨#[45]⟩ : ByteArray)) ++ t308) ++ (⟨#[32]⟩ : ByteArray)) ++ t309) ++ (⟨#[58]⟩ : ByteArray)) ++ t310) ++ (⟨#[58]⟩ : ByteArray)) ++ t311).size + 1 ≤ 9223372036854775807 then ((foliotref02_digits.f k ((wrap64 ((wrap64 (t303)) * 1000000)) / 4294967296) 6).bind fun t312 => (if (((((((((((t306 ++ (⟨#[45]⟩ : ByteArray)) ++ t307) ++ (⟨#[45]⟩ : ByteArray)) ++ t308) ++ (⟨#[32]⟩ : ByteArray)) ++ t309) ++ (⟨#[58]⟩ : ByteArray)) ++ t310) ++ (⟨#[58]⟩ : ByteArray)) ++ t311) ++ (⟨#[46]⟩ : ByteArray)).size + t312.size ≤ 9223372036854775807 then (some ((((((((((((t306 ++ (⟨#[45]⟩ : ByteArray)) ++ t307) ++ (⟨#[45]⟩ : ByteArray)) ++ t308) ++ (⟨#[32]⟩ : ByteArray)) ++ t309) ++ (⟨#[58]⟩ : ByteArray)) ++ t310) ++ (⟨#[58]⟩ : ByteArray)) ++ t311) ++ (⟨#[46]⟩ : ByteArray)) ++ t312, 0)) else (none))) else (none)) else (none))) else (none)) else (none))) else (none)) else (none))) else (none)) else (none))) else (none)) else (none))) else (none)) = some (r1, r2) := H
  have A4 := Aside0.mk A40
  clear A40
  by_cases c5 : t306.size + 1 ≤ 9223372036854775807
  ·rw [if_pos c5] at H
   have c5b0 := eq_true c5
   have c5b1 : decide (t306.size + 1 ≤ 9223372036854775807) = true := decide_eq_true c5
   try have c5b2 : (9223372036854775807 < t306.size + 1) = False := eq_false (Nat.not_lt.2 c5)
   replace H := Option.bind_eq_some_iff.mp H
   obtain ⟨t307, A60, H⟩ := H
   replace H : (if (t306 ++ (⟨#[45]⟩ : ByteArray)).size + t307.size ≤ 9223372036854775807 then (if ((t306 ++ (⟨#[45]⟩ : ByteArray)) ++ t307).size + 1 ≤ 9223372036854775807 then ((foliotref02_digits.f k t299 2).bind fun t308 => (if (((t306 ++ (⟨#[45]⟩ : ByteArray)) ++ t307) ++ (⟨#[45]⟩ : ByteArray)).size + t308.size ≤ 9223372036854775807 then (if ((((t306 ++ (⟨#[45]⟩ : ByteArray)) ++ t307) ++ (⟨#[45]⟩ : ByteArray)) ++ t308).size + 1 ≤ 9223372036854775807 then ((foliotref02_digits.f k t300 2).bind fun t309 => (if (((((t306 ++ (⟨#[45]⟩ : ByteArray)) ++ t307) ++ (⟨#[45]⟩ : ByteArray)) ++ t308) ++ (⟨#[32]⟩ : ByteArray)).size + t309.size ≤ 9223372036854775807 then (if ((((((t306 ++ (⟨#[45]⟩ : ByteArray)) ++ t307) ++ (⟨#[45]⟩ : ByteArray)) ++ t308) ++ (⟨#[32]⟩ : ByteArray)) ++ t309).size + 1 ≤ 9223372036854775807 then ((foliotref02_digits.f k t301 2).bind fun t310 => (if (((((((t306 ++ (⟨#[45]⟩ : ByteArray)) ++ t307) ++ (⟨#[45]⟩ : ByteArray)) ++ t308) ++ (⟨#[32]⟩ : ByteArray)) ++ t309) ++ (⟨#[58]⟩ : ByteArray)).size + t310.size ≤ 9223372036854775807 then (if ((((((((t306 ++ (⟨#[45]⟩ : ByteArray)) ++ t307) ++ (⟨#[45]⟩ : ByteArray)) ++ t308) ++ (⟨#[32]⟩ : ByteArray)) ++ t309) ++ (⟨#[58]⟩ : ByteArray)) ++ t310).size + 1 ≤ 9223372036854775807 then ((foliotref02_digits.f k t302 2).bind fun t311 => (if (((((((((t306 ++ (⟨#[45]⟩ : ByteArray)) ++ t307) ++ (⟨#[45]⟩ : ByteArray)) ++ t308) ++ (⟨#[32]⟩ : ByteArray)) ++ t309) ++ (⟨#[58]⟩ : ByteArray)) ++ t310) ++ (⟨#[58]⟩ : ByteArray)).size + t311.size ≤ 9223372036854775807 then (if ((((((((((t306 ++ (⟨#[45]⟩ : ByteArray)) ++ t307) ++ (⟨#[45]⟩ : ByteArray)) ++ t308) ++ (⟨#[32]⟩ : ByteArray)) ++ t309) ++ (⟨#[58]⟩ : ByteArray)) ++ t310) ++ (⟨#[58]⟩ : ByteArray)) ++ t311).size + 1 ≤ 9223372036854775807 then ((foliotref02_digits.f k ((wrap64 ((wrap64 (t303)) * 1000000)) / 4294967296) 6).bind fun t312 => (if (((((((((((t306 ++ (⟨#[45]⟩ : ByteArray)) ++ t307) ++ (⟨#[45]⟩ : ByteArray)) ++ t308) ++ (⟨#[32]⟩ : ByteArray)) ++ t309) ++ (⟨#[58]⟩ : ByteArray)) ++ t310) ++ (⟨#[58]⟩ : ByteArray)) ++ t311) ++ (⟨#[46]⟩ : ByteArray)).size + t312.size ≤ 9223372036854775807 then (some ((((((((((((t306 ++ (⟨#[45]⟩ : ByteArray)) ++ t307) ++ (⟨#[45]⟩ : ByteArray)) ++ t308) ++ (⟨#[32]⟩ : ByteArray)) ++ t309) ++ (⟨#[58]⟩ : ByteArray)) ++ t310) ++ (⟨#[58]⟩ : ByteArray)) ++ t311) ++ (⟨#[46]⟩ : ByteArray)) ++ t312, 0)) else (none))) else (none)) else (none))) else (none)) else (none))) else (none)) else (none))) else (none)) else (none))) else (none)) else (none)) = some (r1, r2) := H
   have A6 := Aside0.mk A60
   clear A60
   by_cases c7 : (t306 ++ (⟨#[45]⟩ : ByteArray)).size + t307.size ≤ 9223372036854775807
   ·rw [if_pos c7] at H
    have c7b0 := eq_true c7
    have c7b1 : decide ((t306 ++ (⟨#[45]⟩ : ByteArray)).size + t307.size ≤ 9223372036854775807) = true := decide_eq_true c7
    try have c7b2 : (9223372036854775807 < (t306 ++ (⟨#[45]⟩ : ByteArray)).size + t307.size) = False := eq_false (Nat.not_lt.2 c7)
    have c7b3 : (9223372036854775807 < t306.size + 1 + t307.size) = False := eq_false (by have h := c7; simp only [ByteArray.size_append] at h; simp only [show (⟨#[45]⟩ : ByteArray).size = 1 from rfl, show (⟨#[32]⟩ : ByteArray).size = 1 from rfl, show (⟨#[58]⟩ : ByteArray).size = 1 from rfl, show (⟨#[46]⟩ : ByteArray).size = 1 from rfl] at h; omega)
    by_cases c8 : ((t306 ++ (⟨#[45]⟩ : ByteArray)) ++ t307).size + 1 ≤ 9223372036854775807
    ·rw [if_pos c8] at H
     have c8b0 := eq_true c8
     have c8b1 : decide (((t306 ++ (⟨#[45]⟩ : ByteArray)) ++ t307).size + 1 ≤ 9223372036854775807) = true := decide_eq_true c8
     try have c8b2 : (9223372036854775807 < ((t306 ++ (⟨#[45]⟩ : ByteArray)) ++ t307).size + 1) = False := eq_false (Nat.not_lt.2 c8)
     have c8b3 : (9223372036854775807 < t306.size + 1 + t307.size + 1) = False := eq_false (by have h := c8; simp only [ByteArray.size_append] at h; simp only [show (⟨#[45]⟩ : ByteArray).size = 1 from rfl, show (⟨#[32]⟩ : ByteArray).size = 1 from rfl, show (⟨#[58]⟩ : ByteArray).size = 1 from rfl, show (⟨#[46]⟩ : ByteArray).size = 1 from rfl] at h; omega)
     replace H := Option.bind_eq_some_iff.mp H
     obtain ⟨t308, A90, H⟩ := H
     replace H : (if (((t306 ++ (⟨#[45]⟩ : ByteArray)) ++ t307) ++ (⟨#[45]⟩ : ByteArray)).size + t308.size ≤ 9223372036854775807 then (if ((((t306 ++ (⟨#[45]⟩ : ByteArray)) ++ t307) ++ (⟨#[45]⟩ : ByteArray)) ++ t308).size + 1 ≤ 9223372036854775807 then ((foliotref02_digits.f k t300 2).bind fun t309 => (if (((((t306 ++ (⟨#[45]⟩ : ByteArray)) ++ t307) ++ (⟨#[45]⟩ : ByteArray)) ++ t308) ++ (⟨#[32]⟩ : ByteArray)).size + t309.size ≤ 9223372036854775807 then (if ((((((t306 ++ (⟨#[45]⟩ : ByteArray)) ++ t307) ++ (⟨#[45]⟩ : ByteArray)) ++ t308) ++ (⟨#[32]⟩ : ByteArray)) ++ t309).size + 1 ≤ 9223372036854775807 then ((foliotref02_digits.f k t301 2).bind fun t310 => (if (((((((t306 ++ (⟨#[45]⟩ : ByteArray)) ++ t307) ++ (⟨#[45]⟩ : ByteArray)) ++ t308) ++ (⟨#[32]⟩ : ByteArray)) ++ t309) ++ (⟨#[58]⟩ : ByteArray)).size + t310.size ≤ 9223372036854775807 then (if ((((((((t306 ++ (⟨#[45]⟩ : ByteArray)) ++ t307) ++ (⟨#[45]⟩ : ByteArray)) ++ t308) ++ (⟨#[32]⟩ : ByteArray)) ++ t309) ++ (⟨#[58]⟩ : ByteArray)) ++ t310).size + 1 ≤ 9223372036854775807 then ((foliotref02_digits.f k t302 2).bind fun t311 => (if (((((((((t306 ++ (⟨#[45]⟩ : ByteArray)) ++ t307) ++ (⟨#[45]⟩ : ByteArray)) ++ t308) ++ (⟨#[32]⟩ : ByteArray)) ++ t309) ++ (⟨#[58]⟩ : ByteArray)) ++ t310) ++ (⟨#[58]⟩ : ByteArray)).size + t311.size ≤ 9223372036854775807 then (if ((((((((((t306 ++ (⟨#[45]⟩ : ByteArray)) ++ t307) ++ (⟨#[45]⟩ : ByteArray)) ++ t308) ++ (⟨#[32]⟩ : ByteArray)) ++ t309) ++ (⟨#[58]⟩ : ByteArray)) ++ t310) ++ (⟨#[58]⟩ : ByteArray)) ++ t311).size + 1 ≤ 9223372036854775807 then ((foliotref02_digits.f k ((wrap64 ((wrap64 (t303)) * 1000000)) / 4294967296) 6).bind fun t312 => (if (((((((((((t306 ++ (⟨#[45]⟩ : ByteArray)) ++ t307) ++ (⟨#[45]⟩ : ByteArray)) ++ t308) ++ (⟨#[32]⟩ : ByteArray)) ++ t309) ++ (⟨#[58]⟩ : ByteArray)) ++ t310) ++ (⟨#[58]⟩ : ByteArray)) ++ t311) ++ (⟨#[46]⟩ : ByteArray)).size + t312.size ≤ 9223372036854775807 then (some ((((((((((((t306 ++ (⟨#[45]⟩ : ByteArray)) ++ t307) ++ (⟨#[45]⟩ : ByteArray)) ++ t308) ++ (⟨#[32]⟩ : ByteArray)) ++ t309) ++ (⟨#[58]⟩ : ByteArray)) ++ t310) ++ (⟨#[58]⟩ : ByteArray)) ++ t311) ++ (⟨#[46]⟩ : ByteArray)) ++ t312, 0)) else (none))) else (none)) else (none))) else (none)) else (none))) else (none)) else (none))) else (none)) else (none)) = some (r1, r2) := H
     have A9 := Aside0.mk A90
     clear A90
     by_cases c10 : (((t306 ++ (⟨#[45]⟩ : ByteArray)) ++ t307) ++ (⟨#[45]⟩ : ByteArray)).size + t308.size ≤ 9223372036854775807
     ·rw [if_pos c10] at H
      have c10b0 := eq_true c10
      have c10b1 : decide ((((t306 ++ (⟨#[45]⟩ : ByteArray)) ++ t307) ++ (⟨#[45]⟩ : ByteArray)).size + t308.size ≤ 9223372036854775807) = true := decide_eq_true c10
      try have c10b2 : (9223372036854775807 < (((t306 ++ (⟨#[45]⟩ : ByteArray)) ++ t307) ++ (⟨#[45]⟩ : ByteArray)).size + t308.size) = False := eq_false (Nat.not_lt.2 c10)
      have c10b3 : (9223372036854775807 < t306.size + 1 + t307.size + 1 + t308.size) = False := eq_false (by have h := c10; simp only [ByteArray.size_append] at h; simp only [show (⟨#[45]⟩ : ByteArray).size = 1 from rfl, show (⟨#[32]⟩ : ByteArray).size = 1 from rfl, show (⟨#[58]⟩ : ByteArray).size = 1 from rfl, show (⟨#[46]⟩ : ByteArray).size = 1 from rfl] at h; omega)
      by_cases c11 : ((((t306 ++ (⟨#[45]⟩ : ByteArray)) ++ t307) ++ (⟨#[45]⟩ : ByteArray)) ++ t308).size + 1 ≤ 9223372036854775807
      ·rw [if_pos c11] at H
       have c11b0 := eq_true c11
       have c11b1 : decide (((((t306 ++ (⟨#[45]⟩ : ByteArray)) ++ t307) ++ (⟨#[45]⟩ : ByteArray)) ++ t308).size + 1 ≤ 9223372036854775807) = true := decide_eq_true c11
       try have c11b2 : (9223372036854775807 < ((((t306 ++ (⟨#[45]⟩ : ByteArray)) ++ t307) ++ (⟨#[45]⟩ : ByteArray)) ++ t308).size + 1) = False := eq_false (Nat.not_lt.2 c11)
       have c11b3 : (9223372036854775807 < t306.size + 1 + t307.size + 1 + t308.size + 1) = False := eq_false (by have h := c11; simp only [ByteArray.size_append] at h; simp only [show (⟨#[45]⟩ : ByteArray).size = 1 from rfl, show (⟨#[32]⟩ : ByteArray).size = 1 from rfl, show (⟨#[58]⟩ : ByteArray).size = 1 from rfl, show (⟨#[46]⟩ : ByteArray).size = 1 from rfl] at h; omega)
       replace H := Option.bind_eq_some_iff.mp H
       obtain ⟨t309, A120, H⟩ := H
       replace H : (if (((((t306 ++ (⟨#[45]⟩ : ByteArray)) ++ t307) ++ (⟨#[45]⟩ : ByteArray)) ++ t308) ++ (⟨#[32]⟩ : ByteArray)).size + t309.size ≤ 9223372036854775807 then (if ((((((t306 ++ (⟨#[45]⟩ : ByteArray)) ++ t307) ++ (⟨#[45]⟩ : ByteArray)) ++ t308) ++ (⟨#[32]⟩ : ByteArray)) ++ t309).size + 1 ≤ 9223372036854775807 then ((foliotref02_digits.f k t301 2).bind fun t310 => (if (((((((t306 ++ (⟨#[45]⟩ : ByteArray)) ++ t307) ++ (⟨#[45]⟩ : ByteArray)) ++ t308) ++ (⟨#[32]⟩ : ByteArray)) ++ t309) ++ (⟨#[58]⟩ : ByteArray)).size + t310.size ≤ 9223372036854775807 then (if ((((((((t306 ++ (⟨#[45]⟩ : ByteArray)) ++ t307) ++ (⟨#[45]⟩ : ByteArray)) ++ t308) ++ (⟨#[32]⟩ : ByteArray)) ++ t309) ++ (⟨#[58]⟩ : ByteArray)) ++ t310).size + 1 ≤ 9223372036854775807 then ((foliotref02_digits.f k t302 2).bind fun t311 => (if (((((((((t306 ++ (⟨#[45]⟩ : ByteArray)) ++ t307) ++ (⟨#[45]⟩ : ByteArray)) ++ t308) ++ (⟨#[32]⟩ : ByteArray)) ++ t309) ++ (⟨#[58]⟩ : ByteArray)) ++ t310) ++ (⟨#[58]⟩ : ByteArray)).size + t311.size ≤ 9223372036854775807 then (if ((((((((((t306 ++ (⟨#[45]⟩ : ByteArray)) ++ t307) ++ (⟨#[45]⟩ : ByteArray)) ++ t308) ++ (⟨#[32]⟩ : ByteArray)) ++ t309) ++ (⟨#[58]⟩ : ByteArray)) ++ t310) ++ (⟨#[58]⟩ : ByteArray)) ++ t311).size + 1 ≤ 9223372036854775807 then ((foliotref02_digits.f k ((wrap64 ((wrap64 (t303)) * 1000000)) / 4294967296) 6).bind fun t312 => (if (((((((((((t306 ++ (⟨#[45]⟩ : ByteArray)) ++ t307) ++ (⟨#[45]⟩ : ByteArray)) ++ t308) ++ (⟨#[32]⟩ : ByteArray)) ++ t309) ++ (⟨#[58]⟩ : ByteArray)) ++ t310) ++ (⟨#[58]⟩ : ByteArray)) ++ t311) ++ (⟨#[46]⟩ : ByteArray)).size + t312.size ≤ 9223372036854775807 then (some ((((((((((((t306 ++ (⟨#[45]⟩ : ByteArray)) ++ t307) ++ (⟨#[45]⟩ : ByteArray)) ++ t308) ++ (⟨#[32]⟩ : ByteArray)) ++ t309) ++ (⟨#[58]⟩ : ByteArray)) ++ t310) ++ (⟨#[58]⟩ : ByteArray)) ++ t311) ++ (⟨#[46]⟩ : ByteArray)) ++ t312, 0)) else (none))) else (none)) else (none))) else (none)) else (none))) else (none)) else (none)) = some (r1, r2) := H
       have A12 := Aside0.mk A120
       clear A120
       by_cases c13 : (((((t306 ++ (⟨#[45]⟩ : ByteArray)) ++ t307) ++ (⟨#[45]⟩ : ByteArray)) ++ t308) ++ (⟨#[32]⟩ : ByteArray)).size + t309.size ≤ 9223372036854775807
       ·rw [if_pos c13] at H
        have c13b0 := eq_true c13
        have c13b1 : decide ((((((t306 ++ (⟨#[45]⟩ : ByteArray)) ++ t307) ++ (⟨#[45]⟩ : ByteArray)) ++ t308) ++ (⟨#[32]⟩ : ByteArray)).size + t309.size ≤ 9223372036854775807) = true := decide_eq_true c13
        try have c13b2 : (9223372036854775807 < (((((t306 ++ (⟨#[45]⟩ : ByteArray)) ++ t307) ++ (⟨#[45]⟩ : ByteArray)) ++ t308) ++ (⟨#[32]⟩ : ByteArray)).size + t309.size) = False := eq_false (Nat.not_lt.2 c13)
        have c13b3 : (9223372036854775807 < t306.size + 1 + t307.size + 1 + t308.size + 1 + t309.size) = False := eq_false (by have h := c13; simp only [ByteArray.size_append] at h; simp only [show (⟨#[45]⟩ : ByteArray).size = 1 from rfl, show (⟨#[32]⟩ : ByteArray).size = 1 from rfl, show (⟨#[58]⟩ : ByteArray).size = 1 from rfl, show (⟨#[46]⟩ : ByteArray).size = 1 from rfl] at h; omega)
        by_cases c14 : ((((((t306 ++ (⟨#[45]⟩ : ByteArray)) ++ t307) ++ (⟨#[45]⟩ : ByteArray)) ++ t308) ++ (⟨#[32]⟩ : ByteArray)) ++ t309).size + 1 ≤ 9223372036854775807
        ·rw [if_pos c14] at H
         have c14b0 := eq_true c14
         have c14b1 : decide (((((((t306 ++ (⟨#[45]⟩ : ByteArray)) ++ t307) ++ (⟨#[45]⟩ : ByteArray)) ++ t308) ++ (⟨#[32]⟩ : ByteArray)) ++ t309).size + 1 ≤ 9223372036854775807) = true := decide_eq_true c14
         try have c14b2 : (9223372036854775807 < ((((((t306 ++ (⟨#[45]⟩ : ByteArray)) ++ t307) ++ (⟨#[45]⟩ : ByteArray)) ++ t308) ++ (⟨#[32]⟩ : ByteArray)) ++ t309).size + 1) = False := eq_false (Nat.not_lt.2 c14)
         have c14b3 : (9223372036854775807 < t306.size + 1 + t307.size + 1 + t308.size + 1 + t309.size + 1) = False := eq_false (by have h := c14; simp only [ByteArray.size_append] at h; simp only [show (⟨#[45]⟩ : ByteArray).size = 1 from rfl, show (⟨#[32]⟩ : ByteArray).size = 1 from rfl, show (⟨#[58]⟩ : ByteArray).size = 1 from rfl, show (⟨#[46]⟩ : ByteArray).size = 1 from rfl] at h; omega)
         replace H := Option.bind_eq_some_iff.mp H
         obtain ⟨t310, A150, H⟩ := H
         replace H : (if (((((((t306 ++ (⟨#[45]⟩ : ByteArray)) ++ t307) ++ (⟨#[45]⟩ : ByteArray)) ++ t308) ++ (⟨#[32]⟩ : ByteArray)) ++ t309) ++ (⟨#[58]⟩ : ByteArray)).size + t310.size ≤ 9223372036854775807 then (if ((((((((t306 ++ (⟨#[45]⟩ : ByteArray)) ++ t307) ++ (⟨#[45]⟩ : ByteArray)) ++ t308) ++ (⟨#[32]⟩ : ByteArray)) ++ t309) ++ (⟨#[58]⟩ : ByteArray)) ++ t310).size + 1 ≤ 9223372036854775807 then ((foliotref02_digits.f k t302 2).bind fun t311 => (if (((((((((t306 ++ (⟨#[45]⟩ : ByteArray)) ++ t307) ++ (⟨#[45]⟩ : ByteArray)) ++ t308) ++ (⟨#[32]⟩ : ByteArray)) ++ t309) ++ (⟨#[58]⟩ : ByteArray)) ++ t310) ++ (⟨#[58]⟩ : ByteArray)).size + t311.size ≤ 9223372036854775807 then (if ((((((((((t306 ++ (⟨#[45]⟩ : ByteArray)) ++ t307) ++ (⟨#[45]⟩ : ByteArray)) ++ t308) ++ (⟨#[32]⟩ : ByteArray)) ++ t309) ++ (⟨#[58]⟩ : ByteArray)) ++ t310) ++ (⟨#[58]⟩ : ByteArray)) ++ t311).size + 1 ≤ 9223372036854775807 then ((foliotref02_digits.f k ((wrap64 ((wrap64 (t303)) * 1000000)) / 4294967296) 6).bind fun t312 => (if (((((((((((t306 ++ (⟨#[45]⟩ : ByteArray)) ++ t307) ++ (⟨#[45]⟩ : ByteArray)) ++ t308) ++ (⟨#[32]⟩ : ByteArray)) ++ t309) ++ (⟨#[58]⟩ : ByteArray)) ++ t310) ++ (⟨#[58]⟩ : ByteArray)) ++ t311) ++ (⟨#[46]⟩ : ByteArray)).size + t312.size ≤ 9223372036854775807 then (some ((((((((((((t306 ++ (⟨#[45]⟩ : ByteArray)) ++ t307) ++ (⟨#[45]⟩ : ByteArray)) ++ t308) ++ (⟨#[32]⟩ : ByteArray)) ++ t309) ++ (⟨#[58]⟩ : ByteArray)) ++ t310) ++ (⟨#[58]⟩ : ByteArray)) ++ t311) ++ (⟨#[46]⟩ : ByteArray)) ++ t312, 0)) else (none))) else (none)) else (none))) else (none)) else (none)) = some (r1, r2) := H
         have A15 := Aside0.mk A150
         clear A150
         by_cases c16 : (((((((t306 ++ (⟨#[45]⟩ : ByteArray)) ++ t307) ++ (⟨#[45]⟩ : ByteArray)) ++ t308) ++ (⟨#[32]⟩ : ByteArray)) ++ t309) ++ (⟨#[58]⟩ : ByteArray)).size + t310.size ≤ 9223372036854775807
         ·rw [if_pos c16] at H
          have c16b0 := eq_true c16
          have c16b1 : decide ((((((((t306 ++ (⟨#[45]⟩ : ByteArray)) ++ t307) ++ (⟨#[45]⟩ : ByteArray)) ++ t308) ++ (⟨#[32]⟩ : ByteArray)) ++ t309) ++ (⟨#[58]⟩ : ByteArray)).size + t310.size ≤ 9223372036854775807) = true := decide_eq_true c16
          try have c16b2 : (9223372036854775807 < (((((((t306 ++ (⟨#[45]⟩ : ByteArray)) ++ t307) ++ (⟨#[45]⟩ : ByteArray)) ++ t308) ++ (⟨#[32]⟩ : ByteArray)) ++ t309) ++ (⟨#[58]⟩ : ByteArray)).size + t310.size) = False := eq_false (Nat.not_lt.2 c16)
          have c16b3 : (9223372036854775807 < t306.size + 1 + t307.size + 1 + t308.size + 1 + t309.size + 1 + t310.size) = False := eq_false (by have h := c16; simp only [ByteArray.size_append] at h; simp only [show (⟨#[45]⟩ : ByteArray).size = 1 from rfl, show (⟨#[32]⟩ : ByteArray).size = 1 from rfl, show (⟨#[58]⟩ : ByteArray).size = 1 from rfl, show (⟨#[46]⟩ : ByteArray).size = 1 from rfl] at h; omega)
          by_cases c17 : ((((((((t306 ++ (⟨#[45]⟩ : ByteArray)) ++ t307) ++ (⟨#[45]⟩ : ByteArray)) ++ t308) ++ (⟨#[32]⟩ : ByteArray)) ++ t309) ++ (⟨#[58]⟩ : ByteArray)) ++ t310).size + 1 ≤ 9223372036854775807
          ·rw [if_pos c17] at H
           have c17b0 := eq_true c17
           have c17b1 : decide (((((((((t306 ++ (⟨#[45]⟩ : ByteArray)) ++ t307) ++ (⟨#[45]⟩ : ByteArray)) ++ t308) ++ (⟨#[32]⟩ : ByteArray)) ++ t309) ++ (⟨#[58]⟩ : ByteArray)) ++ t310).size + 1 ≤ 9223372036854775807) = true := decide_eq_true c17
           try have c17b2 : (9223372036854775807 < ((((((((t306 ++ (⟨#[45]⟩ : ByteArray)) ++ t307) ++ (⟨#[45]⟩ : ByteArray)) ++ t308) ++ (⟨#[32]⟩ : ByteArray)) ++ t309) ++ (⟨#[58]⟩ : ByteArray)) ++ t310).size + 1) = False := eq_false (Nat.not_lt.2 c17)
           have c17b3 : (9223372036854775807 < t306.size + 1 + t307.size + 1 + t308.size + 1 + t309.size + 1 + t310.size + 1) = False := eq_false (by have h := c17; simp only [ByteArray.size_append] at h; simp only [show (⟨#[45]⟩ : ByteArray).size = 1 from rfl, show (⟨#[32]⟩ : ByteArray).size = 1 from rfl, show (⟨#[58]⟩ : ByteArray).size = 1 from rfl, show (⟨#[46]⟩ : ByteArray).size = 1 from rfl] at h; omega)
           replace H := Option.bind_eq_some_iff.mp H
           obtain ⟨t311, A180, H⟩ := H
           replace H : (if (((((((((t306 ++ (⟨#[45]⟩ : ByteArray)) ++ t307) ++ (⟨#[45]⟩ : ByteArray)) ++ t308) ++ (⟨#[32]⟩ : ByteArray)) ++ t309) ++ (⟨#[58]⟩ : ByteArray)) ++ t310) ++ (⟨#[58]⟩ : ByteArray)).size + t311.size ≤ 9223372036854775807 then (if ((((((((((t306 ++ (⟨#[45]⟩ : ByteArray)) ++ t307) ++ (⟨#[45]⟩ : ByteArray)) ++ t308) ++ (⟨#[32]⟩ : ByteArray)) ++ t309) ++ (⟨#[58]⟩ : ByteArray)) ++ t310) ++ (⟨#[58]⟩ : ByteArray)) ++ t311).size + 1 ≤ 9223372036854775807 then ((foliotref02_digits.f k ((wrap64 ((wrap64 (t303)) * 1000000)) / 4294967296) 6).bind fun t312 => (if (((((((((((t306 ++ (⟨#[45]⟩ : ByteArray)) ++ t307) ++ (⟨#[45]⟩ : ByteArray)) ++ t308) ++ (⟨#[32]⟩ : ByteArray)) ++ t309) ++ (⟨#[58]⟩ : ByteArray)) ++ t310) ++ (⟨#[58]⟩ : ByteArray)) ++ t311) ++ (⟨#[46]⟩ : ByteArray)).size + t312.size ≤ 9223372036854775807 then (some ((((((((((((t306 ++ (⟨#[45]⟩ : ByteArray)) ++ t307) ++ (⟨#[45]⟩ : ByteArray)) ++ t308) ++ (⟨#[32]⟩ : ByteArray)) ++ t309) ++ (⟨#[58]⟩ : ByteArray)) ++ t310) ++ (⟨#[58]⟩ : ByteArray)) ++ t311) ++ (⟨#[46]⟩ : ByteArray)) ++ t312, 0)) else (none))) else (none)) else (none)) = some (r1, r2) := H
           have A18 := Aside0.mk A180
           clear A180
           by_cases c19 : (((((((((t306 ++ (⟨#[45]⟩ : ByteArray)) ++ t307) ++ (⟨#[45]⟩ : ByteArray)) ++ t308) ++ (⟨#[32]⟩ : ByteArray)) ++ t309) ++ (⟨#[58]⟩ : ByteArray)) ++ t310) ++ (⟨#[58]⟩ : ByteArray)).size + t311.size ≤ 9223372036854775807
           ·rw [if_pos c19] at H
            have c19b0 := eq_true c19
            have c19b1 : decide ((((((((((t306 ++ (⟨#[45]⟩ : ByteArray)) ++ t307) ++ (⟨#[45]⟩ : ByteArray)) ++ t308) ++ (⟨#[32]⟩ : ByteArray)) ++ t309) ++ (⟨#[58]⟩ : ByteArray)) ++ t310) ++ (⟨#[58]⟩ : ByteArray)).size + t311.size ≤ 9223372036854775807) = true := decide_eq_true c19
            try have c19b2 : (9223372036854775807 < (((((((((t306 ++ (⟨#[45]⟩ : ByteArray)) ++ t307) ++ (⟨#[45]⟩ : ByteArray)) ++ t308) ++ (⟨#[32]⟩ : ByteArray)) ++ t309) ++ (⟨#[58]⟩ : ByteArray)) ++ t310) ++ (⟨#[58]⟩ : ByteArray)).size + t311.size) = False := eq_false (Nat.not_lt.2 c19)
            have c19b3 : (9223372036854775807 < t306.size + 1 + t307.size + 1 + t308.size + 1 + t309.size + 1 + t310.size + 1 + t311.size) = False := eq_false (by have h := c19; simp only [ByteArray.size_append] at h; simp only [show (⟨#[45]⟩ : ByteArray).size = 1 from rfl, show (⟨#[32]⟩ : ByteArray).size = 1 from rfl, show (⟨#[58]⟩ : ByteArray).size = 1 from rfl, show (⟨#[46]⟩ : ByteArray).size = 1 from rfl] at h; omega)
            by_cases c20 : ((((((((((t306 ++ (⟨#[45]⟩ : ByteArray)) ++ t307) ++ (⟨#[45]⟩ : ByteArray)) ++ t308) ++ (⟨#[32]⟩ : ByteArray)) ++ t309) ++ (⟨#[58]⟩ : ByteArray)) ++ t310) ++ (⟨#[58]⟩ : ByteArray)) ++ t311).size + 1 ≤ 9223372036854775807
            ·rw [if_pos c20] at H
             have c20b0 := eq_true c20
             have c20b1 : decide (((((((((((t306 ++ (⟨#[45]⟩ : ByteArray)) ++ t307) ++ (⟨#[45]⟩ : ByteArray)) ++ t308) ++ (⟨#[32]⟩ : ByteArray)) ++ t309) ++ (⟨#[58]⟩ : ByteArray)) ++ t310) ++ (⟨#[58]⟩ : ByteArray)) ++ t311).size + 1 ≤ 9223372036854775807) = true := decide_eq_true c20
             try have c20b2 : (9223372036854775807 < ((((((((((t306 ++ (⟨#[45]⟩ : ByteArray)) ++ t307) ++ (⟨#[45]⟩ : ByteArray)) ++ t308) ++ (⟨#[32]⟩ : ByteArray)) ++ t309) ++ (⟨#[58]⟩ : ByteArray)) ++ t310) ++ (⟨#[58]⟩ : ByteArray)) ++ t311).size + 1) = False := eq_false (Nat.not_lt.2 c20)
             have c20b3 : (9223372036854775807 < t306.size + 1 + t307.size + 1 + t308.size + 1 + t309.size + 1 + t310.size + 1 + t311.size + 1) = False := eq_false (by have h := c20; simp only [ByteArray.size_append] at h; simp only [show (⟨#[45]⟩ : ByteArray).size = 1 from rfl, show (⟨#[32]⟩ : ByteArray).size = 1 from rfl, show (⟨#[58]⟩ : ByteArray).size = 1 from rfl, show (⟨#[46]⟩ : ByteArray).size = 1 from rfl] at h; omega)
             replace H := Option.bind_eq_some_iff.mp H
             obtain ⟨t312, A210, H⟩ := H
             replace H : (if (((((((((((t306 ++ (⟨#[45]⟩ : ByteArray)) ++ t307) ++ (⟨#[45]⟩ : ByteArray)) ++ t308) ++ (⟨#[32]⟩ : ByteArray)) ++ t309) ++ (⟨#[58]⟩ : ByteArray)) ++ t310) ++ (⟨#[58]⟩ : ByteArray)) ++ t311) ++ (⟨#[46]⟩ : ByteArray)).size + t312.size ≤ 9223372036854775807 then (some ((((((((((((t306 ++ (⟨#[45]⟩ : ByteArray)) ++ t307) ++ (⟨#[45]⟩ : ByteArray)) ++ t308) ++ (⟨#[32]⟩ : ByteArray)) ++ t309) ++ (⟨#[58]⟩ : ByteArray)) ++ t310) ++ (⟨#[58]⟩ : ByteArray)) ++ t311) ++ (⟨#[46]⟩ : ByteArray)) ++ t312, 0)) else (none)) = some (r1, r2) := H
             have A21 := Aside0.mk A210
             clear A210
             by_cases c22 : (((((((((((t306 ++ (⟨#[45]⟩ : ByteArray)) ++ t307) ++ (⟨#[45]⟩ : ByteArray)) ++ t308) ++ (⟨#[32]⟩ : ByteArray)) ++ t309) ++ (⟨#[58]⟩ : ByteArray)) ++ t310) ++ (⟨#[58]⟩ : ByteArray)) ++ t311) ++ (⟨#[46]⟩ : ByteArray)).size + t312.size ≤ 9223372036854775807
             ·rw [if_pos c22] at H
              have c22b0 := eq_true c22
              have c22b1 : decide ((((((((((((t306 ++ (⟨#[45]⟩ : ByteArray)) ++ t307) ++ (⟨#[45]⟩ : ByteArray)) ++ t308) ++ (⟨#[32]⟩ : ByteArray)) ++ t309) ++ (⟨#[58]⟩ : ByteArray)) ++ t310) ++ (⟨#[58]⟩ : ByteArray)) ++ t311) ++ (⟨#[46]⟩ : ByteArray)).size + t312.size ≤ 9223372036854775807) = true := decide_eq_true c22
              try have c22b2 : (9223372036854775807 < (((((((((((t306 ++ (⟨#[45]⟩ : ByteArray)) ++ t307) ++ (⟨#[45]⟩ : ByteArray)) ++ t308) ++ (⟨#[32]⟩ : ByteArray)) ++ t309) ++ (⟨#[58]⟩ : ByteArray)) ++ t310) ++ (⟨#[58]⟩ : ByteArray)) ++ t311) ++ (⟨#[46]⟩ : ByteArray)).size + t312.size) = False := eq_false (Nat.not_lt.2 c22)
              have c22b3 : (9223372036854775807 < t306.size + 1 + t307.size + 1 + t308.size + 1 + t309.size + 1 + t310.size + 1 + t311.size + 1 + t312.size) = False := eq_false (by have h := c22; simp only [ByteArray.size_append] at h; simp only [show (⟨#[45]⟩ : ByteArray).size = 1 from rfl, show (⟨#[32]⟩ : ByteArray).size = 1 from rfl, show (⟨#[58]⟩ : ByteArray).size = 1 from rfl, show (⟨#[46]⟩ : ByteArray).size = 1 from rfl] at h; omega)
              simp only [Option.some.injEq, Prod.mk.injEq] at H
              obtain ⟨rfl, rfl⟩ := H
              go_enter Try.func22, Try.ntmps22
              try go_wp2_with (first | ((with_reducible refine gate_dst (N := 1) rfl ?_); refine box_event ?hg (N := 1) ?hd (cs := #[.int .i64 a0_0, .int .u64 a0_1]) (t := 36) ?hr ?_; (case hd => rfl); (case hg => rfl); (case hr => first | (go_simp; done) | (go_simp; rfl)); intro gb296 hg w23 hbox hb; have n0_ := Aside0.mk (below_step (by repeat (first | (with_reducible first | exact HB.out | apply below_alloc | apply pw_below_drewN | apply below_drew1) | exact HB.out)) hb); have n1_ := Aside0.mk (hbox); have n2_ := Aside0.mk ((by rw [hg]; exact (below_size (by repeat (first | (with_reducible first | exact HB.out | apply below_alloc | apply pw_below_drewN | apply below_drew1) | exact HB.out))) : w.heap.size ≤ gb296)); have n3_ := Aside0.mk ((by rw [hg]; exact (below_size (by repeat (first | (with_reducible first | exact HB.out | apply below_alloc | apply pw_below_drewN | apply below_drew1) | exact HB.out))) : w.heap.size ≤ gb296)); clear HB; have HB := n0_; have BK296 := n1_; have GW296 := n2_; have GE296 := n3_; clear n0_ n1_ n2_ n3_; clear hb hbox hg; have hcz24_0 : w23.cell? ⟨gb296, 0, none⟩ = some (.int .i64 a0_0) := (blk_cell BK296.out 0).trans rfl; have hcz24_1 : w23.cell? ⟨gb296, 1, none⟩ = some (.int .u64 a0_1) := (blk_cell BK296.out 1).trans rfl; have hfz24_0 := blk_frozen BK296.out 0; have hfz24_1 := blk_frozen BK296.out 1) | ((with_reducible refine gate_callee (f := 15) rfl ?_); refine goesL_ (some 8) rfl rfl Try.func15 (by kernel_rfl) rfl #[.agg #[.int .i64 a0_0, .int .u64 a0_1]] rfl (by (try simp only [List.map_toArray, List.map_cons, List.map_nil]); first | done | rfl | (simp only [List.length_drop, List.length_take]; rfl)) ?_; (with_reducible refine (foliotref02_OfDate.calls k a0_0 a0_1 t297 t298 t299 t300 t301 t302 t303 t304 _ A2.out).mono ?_); rintro e w25 ⟨rfl, hb⟩; refine ⟨_, rfl, ?_⟩; have n0_ := Aside0.mk (blk_below (g := gb296) (o := .cells #[.int .i64 a0_0, .int .u64 a0_1] 36 (0, 0)) (by (with_reducible repeat (first | refine blk_drewN ?_ _ | refine blk_drew ?_ | refine blk_alloc ?_ _)); exact BK296.out) hb); have n1_ := Aside0.mk (below_step (by repeat (first | (with_reducible first | exact HB.out | apply below_alloc | apply pw_below_drewN | apply below_drew1 | refine below_set ?_ GE296.out) | exact HB.out)) hb); clear BK296; clear HB; have BK296 := n0_; have HB := n1_; clear n0_ n1_; (try clear hb); (try clear hb2); (try clear hk); (try clear hi)) | ((with_reducible refine gate_dst (N := 4) rfl ?_); refine box_event ?hg (N := 4) ?hd (cs := #[.int .i64 0, .int .i64 0, .int .i64 0, .int .i64 0, .int .i64 0, .int .i64 0, .int .u32 0]) (t := 33) ?hr ?_; (case hd => rfl); (case hg => rfl); (case hr => first | (go_simp; done) | (go_simp; rfl)); intro gb305 hg w26 hbox hb; have n0_ := Aside0.mk (blk_below (g := gb296) (o := .cells #[.int .i64 a0_0, .int .u64 a0_1] 36 (0, 0)) (by (with_reducible repeat (first | refine blk_drewN ?_ _ | refine blk_drew ?_ | refine blk_alloc ?_ _)); exact BK296.out) hb); have n1_ := Aside0.mk (below_step (by repeat (first | (with_reducible first | exact HB.out | apply below_alloc | apply pw_below_drewN | apply below_drew1 | refine below_set ?_ GE296.out) | exact HB.out)) hb); have n2_ := Aside0.mk (hbox); have n3_ := Aside0.mk ((by rw [hg]; exact (below_size (by repeat (first | (with_reducible first | exact HB.out | apply below_alloc | apply pw_below_drewN | apply below_drew1 | refine below_set ?_ GE296.out) | exact HB.out))) : w.heap.size ≤ gb305)); have n4_ := Aside0.mk ((by rw [hg]; exact (below_size (by repeat (first | (with_reducible first | exact HB.out | apply below_alloc | apply pw_below_drewN | apply below_drew1 | refine below_set ?_ GE296.out) | exact HB.out))) : w.heap.size ≤ gb305)); have n5_ := Aside0.mk ((by rw [hg]; exact Nat.ne_of_lt (blk_lt (g := gb296) (o := .cells #[.int .i64 a0_0, .int .u64 a0_1] 36 (0, 0)) (by (with_reducible repeat (first | refine blk_drewN ?_ _ | refine blk_drew ?_ | refine blk_alloc ?_ _)); exact BK296.out)) : gb296 ≠ gb305)); have n6_ := Aside0.mk ((by rw [hg]; exact Nat.ne_of_gt (blk_lt (g := gb296) (o := .cells #[.int .i64 a0_0, .int .u64 a0_1] 36 (0, 0)) (by (with_reducible repeat (first | refine blk_drewN ?_ _ | refine blk_drew ?_ | refine blk_alloc ?_ _)); exact BK296.out)) : gb305 ≠ gb296)); clear BK296; clear HB; have BK296 := n0_; have HB := n1_; have BK305 := n2_; have GW305 := n3_; have GE305 := n4_; have NB296_305 := n5_; have NB305_296 := n6_; clear n0_ n1_ n2_ n3_ n4_ n5_ n6_; clear hb hbox hg; have hnb27 := NB305_296.out; have hnc27 := NB296_305.out; have hcz28_0 : w26.cell? ⟨gb305, 0, none⟩ = some (.int .i64 0) := (blk_cell BK305.out 0).trans rfl; have hcz28_1 : w26.cell? ⟨gb305, 1, none⟩ = some (.int .i64 0) := (blk_cell BK305.out 1).trans rfl; have hcz28_2 : w26.cell? ⟨gb305, 2, none⟩ = some (.int .i64 0) := (blk_cell BK305.out 2).trans rfl; have hcz28_3 : w26.cell? ⟨gb305, 3, none⟩ = some (.int .i64 0) := (blk_cell BK305.out 3).trans rfl; have hcz28_4 : w26.cell? ⟨gb305, 4, none⟩ = some (.int .i64 0) := (blk_cell BK305.out 4).trans rfl; have hcz28_5 : w26.cell? ⟨gb305, 5, none⟩ = some (.int .i64 0) := (blk_cell BK305.out 5).trans rfl; have hcz28_6 : w26.cell? ⟨gb305, 6, none⟩ = some (.int .u32 0) := (blk_cell BK305.out 6).trans rfl; have hfz28_0 := blk_frozen BK305.out 0; have hfz28_1 := blk_frozen BK305.out 1; have hfz28_2 := blk_frozen BK305.out 2; have hfz28_3 := blk_frozen BK305.out 3; have hfz28_4 := blk_frozen BK305.out 4; have hfz28_5 := blk_frozen BK305.out 5; have hfz28_6 := blk_frozen BK305.out 6))
              have n0_ : Aside0 ((((((((w26.setCell ⟨gb305, 0, none⟩ (.int .i64 t297)).setCell ⟨gb305, 1, none⟩ (.int .i64 t298)).setCell ⟨gb305, 2, none⟩ (.int .i64 t299)).setCell ⟨gb305, 3, none⟩ (.int .i64 t300)).setCell ⟨gb305, 4, none⟩ (.int .i64 t301)).setCell ⟨gb305, 5, none⟩ (.int .i64 t302)).setCell ⟨gb305, 6, none⟩ (.int .u32 t303)).heap[gb296]? = some (.cells #[.int .i64 a0_0, .int .u64 a0_1] 36 (0, 0))) := ⟨by (with_reducible repeat (first | refine blk_drewN ?_ _ | refine blk_drew ?_ | refine blk_alloc ?_ _)); refine blk_far ?_ NB296_305.out _; (with_reducible repeat (first | refine blk_drewN ?_ _ | refine blk_drew ?_ | refine blk_alloc ?_ _)); refine blk_far ?_ NB296_305.out _; (with_reducible repeat (first | refine blk_drewN ?_ _ | refine blk_drew ?_ | refine blk_alloc ?_ _)); refine blk_far ?_ NB296_305.out _; (with_reducible repeat (first | refine blk_drewN ?_ _ | refine blk_drew ?_ | refine blk_alloc ?_ _)); refine blk_far ?_ NB296_305.out _; (with_reducible repeat (first | refine blk_drewN ?_ _ | refine blk_drew ?_ | refine blk_alloc ?_ _)); refine blk_far ?_ NB296_305.out _; (with_reducible repeat (first | refine blk_drewN ?_ _ | refine blk_drew ?_ | refine blk_alloc ?_ _)); refine blk_far ?_ NB296_305.out _; (with_reducible repeat (first | refine blk_drewN ?_ _ | refine blk_drew ?_ | refine blk_alloc ?_ _)); refine blk_far ?_ NB296_305.out _; (with_reducible repeat (first | refine blk_drewN ?_ _ | refine blk_drew ?_ | refine blk_alloc ?_ _)); exact BK296.out⟩
              have n1_ : Aside0 ((((((((w26.setCell ⟨gb305, 0, none⟩ (.int .i64 t297)).setCell ⟨gb305, 1, none⟩ (.int .i64 t298)).setCell ⟨gb305, 2, none⟩ (.int .i64 t299)).setCell ⟨gb305, 3, none⟩ (.int .i64 t300)).setCell ⟨gb305, 4, none⟩ (.int .i64 t301)).setCell ⟨gb305, 5, none⟩ (.int .i64 t302)).setCell ⟨gb305, 6, none⟩ (.int .u32 t303)).heap[gb305]? = some (.cells #[.int .i64 t297, .int .i64 t298, .int .i64 t299, .int .i64 t300, .int .i64 t301, .int .i64 t302, .int .u32 t303] 33 (0, 0))) := ⟨by (with_reducible repeat (first | refine blk_drewN ?_ _ | refine blk_drew ?_ | refine blk_alloc ?_ _)); refine blk_put (cs := #[.int .i64 t297, .int .i64 t298, .int .i64 t299, .int .i64 t300, .int .i64 t301, .int .i64 t302, .int .u32 0]) ?_ 6 _ rfl; (with_reducible repeat (first | refine blk_drewN ?_ _ | refine blk_drew ?_ | refine blk_alloc ?_ _)); refine blk_put (cs := #[.int .i64 t297, .int .i64 t298, .int .i64 t299, .int .i64 t300, .int .i64 t301, .int .i64 0, .int .u32 0]) ?_ 5 _ rfl; (with_reducible repeat (first | refine blk_drewN ?_ _ | refine blk_drew ?_ | refine blk_alloc ?_ _)); refine blk_put (cs := #[.int .i64 t297, .int .i64 t298, .int .i64 t299, .int .i64 t300, .int .i64 0, .int .i64 0, .int .u32 0]) ?_ 4 _ rfl; (with_reducible repeat (first | refine blk_drewN ?_ _ | refine blk_drew ?_ | refine blk_alloc ?_ _)); refine blk_put (cs := #[.int .i64 t297, .int .i64 t298, .int .i64 t299, .int .i64 0, .int .i64 0, .int .i64 0, .int .u32 0]) ?_ 3 _ rfl; (with_reducible repeat (first | refine blk_drewN ?_ _ | refine blk_drew ?_ | refine blk_alloc ?_ _)); refine blk_put (cs := #[.int .i64 t297, .int .i64 t298, .int .i64 0, .int .i64 0, .int .i64 0, .int .i64 0, .int .u32 0]) ?_ 2 _ rfl; (with_reducible repeat (first | refine blk_drewN ?_ _ | refine blk_drew ?_ | refine blk_alloc ?_ _)); refine blk_put (cs := #[.int .i64 t297, .int .i64 0, .int .i64 0, .int .i64 0, .int .i64 0, .int .i64 0, .int .u32 0]) ?_ 1 _ rfl; (with_reducible repeat (first | refine blk_drewN ?_ _ | refine blk_drew ?_ | refine blk_alloc ?_ _)); refine blk_put (cs := #[.int .i64 0, .int .i64 0, .int .i64 0, .int .i64 0, .int .i64 0, .int .i64 0, .int .u32 0]) ?_ 0 _ rfl; (with_reducible repeat (first | refine blk_drewN ?_ _ | refine blk_drew ?_ | refine blk_alloc ?_ _)); exact BK305.out⟩
              have n2_ : Aside0 (Below w.heap.size w (((((((w26.setCell ⟨gb305, 0, none⟩ (.int .i64 t297)).setCell ⟨gb305, 1, none⟩ (.int .i64 t298)).setCell ⟨gb305, 2, none⟩ (.int .i64 t299)).setCell ⟨gb305, 3, none⟩ (.int .i64 t300)).setCell ⟨gb305, 4, none⟩ (.int .i64 t301)).setCell ⟨gb305, 5, none⟩ (.int .i64 t302)).setCell ⟨gb305, 6, none⟩ (.int .u32 t303))) := ⟨by repeat (first | (with_reducible first | exact HB.out | apply below_alloc | apply pw_below_drewN | apply below_drew1 | refine below_set ?_ GE296.out | refine below_set ?_ GE305.out) | exact HB.out)⟩
              (try clear BK296)
              (try clear BK305)
              (try clear HB)
              generalize (((((((w26.setCell ⟨gb305, 0, none⟩ (.int .i64 t297)).setCell ⟨gb305, 1, none⟩ (.int .i64 t298)).setCell ⟨gb305, 2, none⟩ (.int .i64 t299)).setCell ⟨gb305, 3, none⟩ (.int .i64 t300)).setCell ⟨gb305, 4, none⟩ (.int .i64 t301)).setCell ⟨gb305, 5, none⟩ (.int .i64 t302)).setCell ⟨gb305, 6, none⟩ (.int .u32 t303)) = w29 at n0_ n1_ n2_ ⊢
              have BK296 := n0_
              have BK305 := n1_
              have HB := n2_
              clear n0_ n1_ n2_
              have n0_ := Aside0.mk (blk_drew BK296.out)
              have n1_ := Aside0.mk (blk_drew BK305.out)
              have n2_ := Aside0.mk (below_drew1 HB.out)
              clear BK296
              clear BK305
              clear HB
              have BK296 := n0_
              have BK305 := n1_
              have HB := n2_
              clear n0_ n1_ n2_
              refine start_ (n := 38) (S := fun w' => w'.cell? ⟨gb305, 0, none⟩ = some (.int .i64 t297) ∧ w'.cell? ⟨gb305, 1, none⟩ = some (.int .i64 t298) ∧ w'.cell? ⟨gb305, 2, none⟩ = some (.int .i64 t299) ∧ w'.cell? ⟨gb305, 3, none⟩ = some (.int .i64 t300) ∧ w'.cell? ⟨gb305, 4, none⟩ = some (.int .i64 t301) ∧ w'.cell? ⟨gb305, 5, none⟩ = some (.int .i64 t302) ∧ w'.cell? ⟨gb305, 6, none⟩ = some (.int .u32 t303)) (ds := []) #[false, false, false, false, false, false, false, false, false, false, false, false, false, false, false, false, false, false, false, false, false, false, false, false, false, false, false, false, false, false, false, false, false, false, false, false, false, false] (by kernel_rfl) rfl rfl ⟨(blk_cell BK305.out 0).trans rfl, (blk_cell BK305.out 1).trans rfl, (blk_cell BK305.out 2).trans rfl, (blk_cell BK305.out 3).trans rfl, (blk_cell BK305.out 4).trans rfl, (blk_cell BK305.out 5).trans rfl, (blk_cell BK305.out 6).trans rfl⟩ (fun hHeld => ?_); refine with_tabW foliotref02_Print.tab4 foliotref02_Print.bits4 (fun HT_ HW_ => ?_)
              generalize w29.drew = w30 at BK296 BK305 HB hHeld ⊢
              refine pure_ (i := 0) (N := some 14) (v := ?_) (a' := ?_) #[true, false, false, false, false, false, false, false, false, false, false, false, false, false, false, false, false, false, false, false, false, false, false, false, false, false, false, false, false, false, false, false, false, false, false, false, false, false] rfl rfl (any_of HT_.out (by kernel_rfl)) (fun _ _ _ h => h) (Or.inl ⟨by rfl, ?_⟩) ?_ ?_
              rotate_left
              ·intro w'
               go_simp
               with_reducible rfl
              rotate_left
              ·simp only [Act.put, List.setIfInBounds_toArray, List.set_cons_zero, List.set_cons_succ, i64_w, i32_w]
               rfl
              refine pure_ (i := 4) (N := some 18) (v := ?_) (a' := ?_) #[true, false, false, false, true, false, false, false, false, false, false, false, false, false, false, false, false, false, false, false, false, false, false, false, false, false, false, false, false, false, false, false, false, false, false, false, false, false] rfl rfl (any_of HT_.out (by kernel_rfl)) (fun _ _ _ h => h) (Or.inl ⟨by rfl, ?_⟩) ?_ ?_
              rotate_left
              ·intro w'
               go_simp
               with_reducible rfl
              rotate_left
              ·simp only [Act.put, List.setIfInBounds_toArray, List.set_cons_zero, List.set_cons_succ, i64_w, i32_w]
               rfl
              refine pure_ (i := 9) (N := some 23) (v := ?_) (a' := ?_) #[true, false, false, false, true, false, false, false, false, true, false, false, false, false, false, false, false, false, false, false, false, false, false, false, false, false, false, false, false, false, false, false, false, false, false, false, false, false] rfl rfl (any_of HT_.out (by kernel_rfl)) (fun _ _ _ h => h) (Or.inl ⟨by rfl, ?_⟩) ?_ ?_
              rotate_left
              ·intro w'
               go_simp
               with_reducible rfl
              rotate_left
              ·simp only [Act.put, List.setIfInBounds_toArray, List.set_cons_zero, List.set_cons_succ, i64_w, i32_w]
               rfl
              refine pure_ (i := 14) (N := some 28) (v := ?_) (a' := ?_) #[true, false, false, false, true, false, false, false, false, true, false, false, false, false, true, false, false, false, false, false, false, false, false, false, false, false, false, false, false, false, false, false, false, false, false, false, false, false] rfl rfl (any_of HT_.out (by kernel_rfl)) (fun _ _ _ h => h) (Or.inl ⟨by rfl, ?_⟩) ?_ ?_
              rotate_left
              ·intro w'
               go_simp
               with_reducible rfl
              rotate_left
              ·simp only [Act.put, List.setIfInBounds_toArray, List.set_cons_zero, List.set_cons_succ, i64_w, i32_w]
               rfl
              refine pure_ (i := 19) (N := some 33) (v := ?_) (a' := ?_) #[true, false, false, false, true, false, false, false, false, true, false, false, false, false, true, false, false, false, false, true, false, false, false, false, false, false, false, false, false, false, false, false, false, false, false, false, false, false] rfl rfl (any_of HT_.out (by kernel_rfl)) (fun _ _ _ h => h) (Or.inl ⟨by rfl, ?_⟩) ?_ ?_
              rotate_left
              ·intro w'
               go_simp
               with_reducible rfl
              rotate_left
              ·simp only [Act.put, List.setIfInBounds_toArray, List.set_cons_zero, List.set_cons_succ, i64_w, i32_w]
               rfl
              refine pure_ (i := 24) (N := some 38) (v := ?_) (a' := ?_) #[true, false, false, false, true, false, false, false, false, true, false, false, false, false, true, false, false, false, false, true, false, false, false, false, true, false, false, false, false, false, false, false, false, false, false, false, false, false] rfl rfl (any_of HT_.out (by kernel_rfl)) (fun _ _ _ h => h) (Or.inl ⟨by rfl, ?_⟩) ?_ ?_
              rotate_left
              ·intro w'
               go_simp
               with_reducible rfl
              rotate_left
              ·simp only [Act.put, List.setIfInBounds_toArray, List.set_cons_zero, List.set_cons_succ, i64_w, i32_w]
               rfl
              refine pure_ (i := 29) (N := some 43) (v := ?_) (a' := ?_) #[true, false, false, false, true, false, false, false, false, true, false, false, false, false, true, false, false, false, false, true, false, false, false, false, true, false, false, false, false, true, false, false, false, false, false, false, false, false] rfl rfl (any_of HT_.out (by kernel_rfl)) (fun _ _ _ h => h) (Or.inl ⟨by rfl, ?_⟩) ?_ ?_
              rotate_left
              ·intro w'
               go_simp
               with_reducible rfl
              rotate_left
              ·simp only [Act.put, List.setIfInBounds_toArray, List.set_cons_zero, List.set_cons_succ, i64_w, i32_w]
               rfl
              refine take_ (i := 1) (N := some 15) (v := ?_) (a' := ?_) #[true, true, false, false, true, false, false, false, false, true, false, false, false, false, true, false, false, false, false, true, false, false, false, false, true, false, false, false, false, true, false, false, false, false, false, false, false, false] rfl rfl (take_ofW HT_.out HW_.out (by kernel_rfl)) (fun _ _ _ h => h) (Or.inl ⟨by rfl, ?_⟩) hHeld ?_ ?_
              rotate_left
              ·rintro w' ⟨s0, s1, s2, s3, s4, s5, s6⟩
               go_simp
               with_reducible rfl
              rotate_left
              ·simp only [Act.put, List.setIfInBounds_toArray, List.set_cons_zero, List.set_cons_succ, i64_w, i32_w]
               rfl
              refine take_ (i := 5) (N := some 19) (v := ?_) (a' := ?_) #[true, true, false, false, true, true, false, false, false, true, false, false, false, false, true, false, false, false, false, true, false, false, false, false, true, false, false, false, false, true, false, false, false, false, false, false, false, false] rfl rfl (take_ofW HT_.out HW_.out (by kernel_rfl)) (fun _ _ _ h => h) (Or.inl ⟨by rfl, ?_⟩) hHeld ?_ ?_
              rotate_left
              ·rintro w' ⟨s0, s1, s2, s3, s4, s5, s6⟩
               go_simp
               with_reducible rfl
              rotate_left
              ·simp only [Act.put, List.setIfInBounds_toArray, List.set_cons_zero, List.set_cons_succ, i64_w, i32_w]
               rfl
              refine take_ (i := 10) (N := some 24) (v := ?_) (a' := ?_) #[true, true, false, false, true, true, false, false, false, true, true, false, false, false, true, false, false, false, false, true, false, false, false, false, true, false, false, false, false, true, false, false, false, false, false, false, false, false] rfl rfl (take_ofW HT_.out HW_.out (by kernel_rfl)) (fun _ _ _ h => h) (Or.inl ⟨by rfl, ?_⟩) hHeld ?_ ?_
              rotate_left
              ·rintro w' ⟨s0, s1, s2, s3, s4, s5, s6⟩
               go_simp
               with_reducible rfl
              rotate_left
              ·simp only [Act.put, List.setIfInBounds_toArray, List.set_cons_zero, List.set_cons_succ, i64_w, i32_w]
               rfl
              refine take_ (i := 15) (N := some 29) (v := ?_) (a' := ?_) #[true, true, false, false, true, true, false, false, false, true, true, false, false, false, true, true, false, false, false, true, false, false, false, false, true, false, false, false, false, true, false, false, false, false, false, false, false, false] rfl rfl (take_ofW HT_.out HW_.out (by kernel_rfl)) (fun _ _ _ h => h) (Or.inl ⟨by rfl, ?_⟩) hHeld ?_ ?_
              rotate_left
              ·rintro w' ⟨s0, s1, s2, s3, s4, s5, s6⟩
               go_simp
               with_reducible rfl
              rotate_left
              ·simp only [Act.put, List.setIfInBounds_toArray, List.set_cons_zero, List.set_cons_succ, i64_w, i32_w]
               rfl
              refine take_ (i := 20) (N := some 34) (v := ?_) (a' := ?_) #[true, true, false, false, true, true, false, false, false, true, true, false, false, false, true, true, false, false, false, true, true, false, false, false, true, false, false, false, false, true, false, false, false, false, false, false, false, false] rfl rfl (take_ofW HT_.out HW_.out (by kernel_rfl)) (fun _ _ _ h => h) (Or.inl ⟨by rfl, ?_⟩) hHeld ?_ ?_
              rotate_left
              ·rintro w' ⟨s0, s1, s2, s3, s4, s5, s6⟩
               go_simp
               with_reducible rfl
              rotate_left
              ·simp only [Act.put, List.setIfInBounds_toArray, List.set_cons_zero, List.set_cons_succ, i64_w, i32_w]
               rfl
              refine take_ (i := 25) (N := some 39) (v := ?_) (a' := ?_) #[true, true, false, false, true, true, false, false, false, true, true, false, false, false, true, true, false, false, false, true, true, false, false, false, true, true, false, false, false, true, false, false, false, false, false, false, false, false] rfl rfl (take_ofW HT_.out HW_.out (by kernel_rfl)) (fun _ _ _ h => h) (Or.inl ⟨by rfl, ?_⟩) hHeld ?_ ?_
              rotate_left
              ·rintro w' ⟨s0, s1, s2, s3, s4, s5, s6⟩
               go_simp
               with_reducible rfl
              rotate_left
              ·simp only [Act.put, List.setIfInBounds_toArray, List.set_cons_zero, List.set_cons_succ, i64_w, i32_w]
               rfl
              refine take_ (i := 30) (N := some 44) (v := ?_) (a' := ?_) #[true, true, false, false, true, true, false, false, false, true, true, false, false, false, true, true, false, false, false, true, true, false, false, false, true, true, false, false, false, true, true, false, false, false, false, false, false, false] rfl rfl (take_ofW HT_.out HW_.out (by kernel_rfl)) (fun _ _ _ h => h) (Or.inl ⟨by rfl, ?_⟩) hHeld ?_ ?_
              rotate_left
              ·rintro w' ⟨s0, s1, s2, s3, s4, s5, s6⟩
               go_simp
               with_reducible rfl
              rotate_left
              ·simp only [Act.put, List.setIfInBounds_toArray, List.set_cons_zero, List.set_cons_succ, i64_w, i32_w]
               rfl
              refine pure_ (i := 31) (N := some 45) (v := ?_) (a' := ?_) #[true, true, false, false, true, true, false, false, false, true, true, false, false, false, true, true, false, false, false, true, true, false, false, false, true, true, false, false, false, true, true, true, false, false, false, false, false, false] rfl rfl (any_of HT_.out (by kernel_rfl)) (fun _ _ _ h => h) (Or.inl ⟨by rfl, ?_⟩) ?_ ?_
              rotate_left
              ·intro w'
               go_simp
               with_reducible rfl
              rotate_left
              ·simp only [Act.put, List.setIfInBounds_toArray, List.set_cons_zero, List.set_cons_succ, i64_w, i32_w]
               rfl
              refine pure_ (i := 32) (N := some 46) (v := ?_) (a' := ?_) #[true, true, false, false, true, true, false, false, false, true, true, false, false, false, true, true, false, false, false, true, true, false, false, false, true, true, false, false, false, true, true, true, true, false, false, false, false, false] rfl rfl (any_of HT_.out (by kernel_rfl)) (fun _ _ _ h => h) (Or.inl ⟨by rfl, ?_⟩) ?_ ?_
              rotate_left
              ·intro w'
               go_simp
               with_reducible rfl
              rotate_left
              ·simp only [Act.put, List.setIfInBounds_toArray, List.set_cons_zero, List.set_cons_succ, i64_w, i32_w]
               rfl
              refine pure_ (i := 33) (N := some 47) (v := ?_) (a' := ?_) #[true, true, false, false, true, true, false, false, false, true, true, false, false, false, true, true, false, false, false, true, true, false, false, false, true, true, false, false, false, true, true, true, true, true, false, false, false, false] rfl rfl (any_of HT_.out (by kernel_rfl)) (fun _ _ _ h => h) (Or.inl ⟨by rfl, ?_⟩) ?_ ?_
              rotate_left
              ·intro w'
               go_simp
               with_reducible rfl
              rotate_left
              ·simp only [Act.put, List.setIfInBounds_toArray, List.set_cons_zero, List.set_cons_succ, i64_w, i32_w]
               rfl
              refine one_ (i := 2) (N := some 16) #[true, true, true, false, true, true, false, false, false, true, true, false, false, false, true, true, false, false, false, true, true, false, false, false, true, true, false, false, false, true, true, true, true, true, false, false, false, false] rfl rfl (one_of HT_.out (by kernel_rfl)) (by decide) (fun K hK => ?_)
              refine goes_ Try.func40 (by kernel_rfl) rfl #[.int .i64 t297, .int .i64 4] (by rfl) rfl rfl (by (try simp only [List.map_toArray, List.map_cons, List.map_nil]); first | done | rfl | (simp only [List.length_drop, List.length_take]; rfl)) ?_
              with_reducible refine (foliotref02_digits.calls k t297 4 t306 _ A4.out).mono ?_
              rintro e w' ⟨rfl, ⟨nd, rfl⟩⟩
              refine ⟨_, rfl, ?_⟩
              refine hK.out _ _ ⟨(blk_cell BK305.out 0).trans rfl, (blk_cell BK305.out 1).trans rfl, (blk_cell BK305.out 2).trans rfl, (blk_cell BK305.out 3).trans rfl, (blk_cell BK305.out 4).trans rfl, (blk_cell BK305.out 5).trans rfl, (blk_cell BK305.out 6).trans rfl⟩ (fun hHeld => ?_)
              clear hK K
              refine norm_ (a' := ?_) ?_ ?_
              rotate_left
              ·show Act.put _ (some 16) _ = _
               simp only [Act.put, List.setIfInBounds_toArray, List.set_cons_zero, List.set_cons_succ, i64_w, i32_w]
               rfl
              refine pure_ (i := 3) (N := some 17) (v := ?_) (a' := ?_) #[true, true, true, true, true, true, false, false, false, true, true, false, false, false, true, true, false, false, false, true, true, false, false, false, true, true, false, false, false, true, true, true, true, true, false, false, false, false] rfl rfl (any_of HT_.out (by kernel_rfl)) (fun _ _ _ h => h) (Or.inl ⟨by rfl, ?_⟩) ?_ ?_
              rotate_left
              ·intro w'
               go_simp
               with_reducible rfl
              rotate_left
              ·simp only [Act.put, List.setIfInBounds_toArray, List.set_cons_zero, List.set_cons_succ, i64_w, i32_w]
               rfl
              refine one_ (i := 6) (N := some 20) #[true, true, true, true, true, true, true, false, false, true, true, false, false, false, true, true, false, false, false, true, true, false, false, false, true, true, false, false, false, true, true, true, true, true, false, false, false, false] rfl rfl (one_of HT_.out (by kernel_rfl)) (by decide) (fun K hK => ?_)
              refine goes_ Try.func40 (by kernel_rfl) rfl #[.int .i64 t298, .int .i64 2] (by rfl) rfl rfl (by (try simp only [List.map_toArray, List.map_cons, List.map_nil]); first | done | rfl | (simp only [List.length_drop, List.length_take]; rfl)) ?_
              with_reducible refine (foliotref02_digits.calls k t298 2 t307 _ A6.out).mono ?_
              rintro e w' ⟨rfl, ⟨nd, rfl⟩⟩
              refine ⟨_, rfl, ?_⟩
              refine hK.out _ _ ⟨(blk_cell BK305.out 0).trans rfl, (blk_cell BK305.out 1).trans rfl, (blk_cell BK305.out 2).trans rfl, (blk_cell BK305.out 3).trans rfl, (blk_cell BK305.out 4).trans rfl, (blk_cell BK305.out 5).trans rfl, (blk_cell BK305.out 6).trans rfl⟩ (fun hHeld => ?_)
              clear hK K
              refine norm_ (a' := ?_) ?_ ?_
              rotate_left
              ·show Act.put _ (some 20) _ = _
               simp only [Act.put, List.setIfInBounds_toArray, List.set_cons_zero, List.set_cons_succ, i64_w, i32_w]
               rfl
              refine pure_ (i := 7) (N := some 21) (v := ?_) (a' := ?_) #[true, true, true, true, true, true, true, true, false, true, true, false, false, false, true, true, false, false, false, true, true, false, false, false, true, true, false, false, false, true, true, true, true, true, false, false, false, false] rfl rfl (any_of HT_.out (by kernel_rfl)) (fun _ _ _ h => h) (Or.inl ⟨by rfl, ?_⟩) ?_ ?_
              rotate_left
              ·intro w'
               go_simp
               with_reducible rfl
              rotate_left
              ·simp only [Act.put, List.setIfInBounds_toArray, List.set_cons_zero, List.set_cons_succ, i64_w, i32_w]
               rfl
              refine pure_ (i := 8) (N := some 22) (v := ?_) (a' := ?_) #[true, true, true, true, true, true, true, true, true, true, true, false, false, false, true, true, false, false, false, true, true, false, false, false, true, true, false, false, false, true, true, true, true, true, false, false, false, false] rfl rfl (any_of HT_.out (by kernel_rfl)) (fun _ _ _ h => h) (Or.inl ⟨by rfl, ?_⟩) ?_ ?_
              rotate_left
              ·intro w'
               go_simp
               with_reducible rfl
              rotate_left
              ·simp only [Act.put, List.setIfInBounds_toArray, List.set_cons_zero, List.set_cons_succ, i64_w, i32_w]
               rfl
              refine one_ (i := 11) (N := some 25) #[true, true, true, true, true, true, true, true, true, true, true, true, false, false, true, true, false, false, false, true, true, false, false, false, true, true, false, false, false, true, true, true, true, true, false, false, false, false] rfl rfl (one_of HT_.out (by kernel_rfl)) (by decide) (fun K hK => ?_)
              refine goes_ Try.func40 (by kernel_rfl) rfl #[.int .i64 t299, .int .i64 2] (by rfl) rfl rfl (by (try simp only [List.map_toArray, List.map_cons, List.map_nil]); first | done | rfl | (simp only [List.length_drop, List.length_take]; rfl)) ?_
              with_reducible refine (foliotref02_digits.calls k t299 2 t308 _ A9.out).mono ?_
              rintro e w' ⟨rfl, ⟨nd, rfl⟩⟩
              refine ⟨_, rfl, ?_⟩
              refine hK.out _ _ ⟨(blk_cell BK305.out 0).trans rfl, (blk_cell BK305.out 1).trans rfl, (blk_cell BK305.out 2).trans rfl, (blk_cell BK305.out 3).trans rfl, (blk_cell BK305.out 4).trans rfl, (blk_cell BK305.out 5).trans rfl, (blk_cell BK305.out 6).trans rfl⟩ (fun hHeld => ?_)
              clear hK K
              refine norm_ (a' := ?_) ?_ ?_
              rotate_left
              ·show Act.put _ (some 25) _ = _
               simp only [Act.put, List.setIfInBounds_toArray, List.set_cons_zero, List.set_cons_succ, i64_w, i32_w]
               rfl
              refine pure_ (i := 12) (N := some 26) (v := ?_) (a' := ?_) #[true, true, true, true, true, true, true, true, true, true, true, true, true, false, true, true, false, false, false, true, true, false, false, false, true, true, false, false, false, true, true, true, true, true, false, false, false, false] rfl rfl (any_of HT_.out (by kernel_rfl)) (fun _ _ _ h => h) (Or.inl ⟨by rfl, ?_⟩) ?_ ?_
              rotate_left
              ·intro w'
               go_simp
               with_reducible rfl
              rotate_left
              ·simp only [Act.put, List.setIfInBounds_toArray, List.set_cons_zero, List.set_cons_succ, i64_w, i32_w]
               rfl
              refine pure_ (i := 13) (N := some 27) (v := ?_) (a' := ?_) #[true, true, true, true, true, true, true, true, true, true, true, true, true, true, true, true, false, false, false, true, true, false, false, false, true, true, false, false, false, true, true, true, true, true, false, false, false, false] rfl rfl (any_of HT_.out (by kernel_rfl)) (fun _ _ _ h => h) (Or.inl ⟨by rfl, ?_⟩) ?_ ?_
              rotate_left
              ·intro w'
               go_simp
               with_reducible rfl
              rotate_left
              ·simp only [Act.put, List.setIfInBounds_toArray, List.set_cons_zero, List.set_cons_succ, i64_w, i32_w]
               rfl
              refine one_ (i := 16) (N := some 30) #[true, true, true, true, true, true, true, true, true, true, true, true, true, true, true, true, true, false, false, true, true, false, false, false, true, true, false, false, false, true, true, true, true, true, false, false, false, false] rfl rfl (one_of HT_.out (by kernel_rfl)) (by decide) (fun K hK => ?_)
              refine goes_ Try.func40 (by kernel_rfl) rfl #[.int .i64 t300, .int .i64 2] (by rfl) rfl rfl (by (try simp only [List.map_toArray, List.map_cons, List.map_nil]); first | done | rfl | (simp only [List.length_drop, List.length_take]; rfl)) ?_
              with_reducible refine (foliotref02_digits.calls k t300 2 t309 _ A12.out).mono ?_
              rintro e w' ⟨rfl, ⟨nd, rfl⟩⟩
              refine ⟨_, rfl, ?_⟩
              refine hK.out _ _ ⟨(blk_cell BK305.out 0).trans rfl, (blk_cell BK305.out 1).trans rfl, (blk_cell BK305.out 2).trans rfl, (blk_cell BK305.out 3).trans rfl, (blk_cell BK305.out 4).trans rfl, (blk_cell BK305.out 5).trans rfl, (blk_cell BK305.out 6).trans rfl⟩ (fun hHeld => ?_)
              clear hK K
              refine norm_ (a' := ?_) ?_ ?_
              rotate_left
              ·show Act.put _ (some 30) _ = _
               simp only [Act.put, List.setIfInBounds_toArray, List.set_cons_zero, List.set_cons_succ, i64_w, i32_w]
               rfl
              refine pure_ (i := 17) (N := some 31) (v := ?_) (a' := ?_) #[true, true, true, true, true, true, true, true, true, true, true, true, true, true, true, true, true, true, false, true, true, false, false, false, true, true, false, false, false, true, true, true, true, true, false, false, false, false] rfl rfl (any_of HT_.out (by kernel_rfl)) (fun _ _ _ h => h) (Or.inl ⟨by rfl, ?_⟩) ?_ ?_
              rotate_left
              ·intro w'
               go_simp
               with_reducible rfl
              rotate_left
              ·simp only [Act.put, List.setIfInBounds_toArray, List.set_cons_zero, List.set_cons_succ, i64_w, i32_w]
               rfl
              refine pure_ (i := 18) (N := some 32) (v := ?_) (a' := ?_) #[true, true, true, true, true, true, true, true, true, true, true, true, true, true, true, true, true, true, true, true, true, false, false, false, true, true, false, false, false, true, true, true, true, true, false, false, false, false] rfl rfl (any_of HT_.out (by kernel_rfl)) (fun _ _ _ h => h) (Or.inl ⟨by rfl, ?_⟩) ?_ ?_
              rotate_left
              ·intro w'
               go_simp
               with_reducible rfl
              rotate_left
              ·simp only [Act.put, List.setIfInBounds_toArray, List.set_cons_zero, List.set_cons_succ, i64_w, i32_w]
               rfl
              refine one_ (i := 21) (N := some 35) #[true, true, true, true, true, true, true, true, true, true, true, true, true, true, true, true, true, true, true, true, true, true, false, false, true, true, false, false, false, true, true, true, true, true, false, false, false, false] rfl rfl (one_of HT_.out (by kernel_rfl)) (by decide) (fun K hK => ?_)
              refine goes_ Try.func40 (by kernel_rfl) rfl #[.int .i64 t301, .int .i64 2] (by rfl) rfl rfl (by (try simp only [List.map_toArray, List.map_cons, List.map_nil]); first | done | rfl | (simp only [List.length_drop, List.length_take]; rfl)) ?_
              with_reducible refine (foliotref02_digits.calls k t301 2 t310 _ A15.out).mono ?_
              rintro e w' ⟨rfl, ⟨nd, rfl⟩⟩
              refine ⟨_, rfl, ?_⟩
              refine hK.out _ _ ⟨(blk_cell BK305.out 0).trans rfl, (blk_cell BK305.out 1).trans rfl, (blk_cell BK305.out 2).trans rfl, (blk_cell BK305.out 3).trans rfl, (blk_cell BK305.out 4).trans rfl, (blk_cell BK305.out 5).trans rfl, (blk_cell BK305.out 6).trans rfl⟩ (fun hHeld => ?_)
              clear hK K
              refine norm_ (a' := ?_) ?_ ?_
              rotate_left
              ·show Act.put _ (some 35) _ = _
               simp only [Act.put, List.setIfInBounds_toArray, List.set_cons_zero, List.set_cons_succ, i64_w, i32_w]
               rfl
              refine pure_ (i := 22) (N := some 36) (v := ?_) (a' := ?_) #[true, true, true, true, true, true, true, true, true, true, true, true, true, true, true, true, true, true, true, true, true, true, true, false, true, true, false, false, false, true, true, true, true, true, false, false, false, false] rfl rfl (any_of HT_.out (by kernel_rfl)) (fun _ _ _ h => h) (Or.inl ⟨by rfl, ?_⟩) ?_ ?_
              rotate_left
              ·intro w'
               go_simp
               with_reducible rfl
              rotate_left
              ·simp only [Act.put, List.setIfInBounds_toArray, List.set_cons_zero, List.set_cons_succ, i64_w, i32_w]
               rfl
              refine pure_ (i := 23) (N := some 37) (v := ?_) (a' := ?_) #[true, true, true, true, true, true, true, true, true, true, true, true, true, true, true, true, true, true, true, true, true, true, true, true, true, true, false, false, false, true, true, true, true, true, false, false, false, false] rfl rfl (any_of HT_.out (by kernel_rfl)) (fun _ _ _ h => h) (Or.inl ⟨by rfl, ?_⟩) ?_ ?_
              rotate_left
              ·intro w'
               go_simp
               with_reducible rfl
              rotate_left
              ·simp only [Act.put, List.setIfInBounds_toArray, List.set_cons_zero, List.set_cons_succ, i64_w, i32_w]
               rfl
              refine one_ (i := 26) (N := some 40) #[true, true, true, true, true, true, true, true, true, true, true, true, true, true, true, true, true, true, true, true, true, true, true, true, true, true, true, false, false, true, true, true, true, true, false, false, false, false] rfl rfl (one_of HT_.out (by kernel_rfl)) (by decide) (fun K hK => ?_)
              refine goes_ Try.func40 (by kernel_rfl) rfl #[.int .i64 t302, .int .i64 2] (by rfl) rfl rfl (by (try simp only [List.map_toArray, List.map_cons, List.map_nil]); first | done | rfl | (simp only [List.length_drop, List.length_take]; rfl)) ?_
              with_reducible refine (foliotref02_digits.calls k t302 2 t311 _ A18.out).mono ?_
              rintro e w' ⟨rfl, ⟨nd, rfl⟩⟩
              refine ⟨_, rfl, ?_⟩
              refine hK.out _ _ ⟨(blk_cell BK305.out 0).trans rfl, (blk_cell BK305.out 1).trans rfl, (blk_cell BK305.out 2).trans rfl, (blk_cell BK305.out 3).trans rfl, (blk_cell BK305.out 4).trans rfl, (blk_cell BK305.out 5).trans rfl, (blk_cell BK305.out 6).trans rfl⟩ (fun hHeld => ?_)
              clear hK K
              refine norm_ (a' := ?_) ?_ ?_
              rotate_left
              ·show Act.put _ (some 40) _ = _
               simp only [Act.put, List.setIfInBounds_toArray, List.set_cons_zero, List.set_cons_succ, i64_w, i32_w]
               rfl
              refine pure_ (i := 27) (N := some 41) (v := ?_) (a' := ?_) #[true, true, true, true, true, true, true, true, true, true, true, true, true, true, true, true, true, true, true, true, true, true, true, true, true, true, true, true, false, true, true, true, true, true, false, false, false, false] rfl rfl (any_of HT_.out (by kernel_rfl)) (fun _ _ _ h => h) (Or.inl ⟨by rfl, ?_⟩) ?_ ?_
              rotate_left
              ·intro w'
               go_simp
               with_reducible rfl
              rotate_left
              ·simp only [Act.put, List.setIfInBounds_toArray, List.set_cons_zero, List.set_cons_succ, i64_w, i32_w]
               rfl
              refine pure_ (i := 28) (N := some 42) (v := ?_) (a' := ?_) #[true, true, true, true, true, true, true, true, true, true, true, true, true, true, true, true, true, true, true, true, true, true, true, true, true, true, true, true, true, true, true, true, true, true, false, false, false, false] rfl rfl (any_of HT_.out (by kernel_rfl)) (fun _ _ _ h => h) (Or.inl ⟨by rfl, ?_⟩) ?_ ?_
              rotate_left
              ·intro w'
               go_simp
               with_reducible rfl
              rotate_left
              ·simp only [Act.put, List.setIfInBounds_toArray, List.set_cons_zero, List.set_cons_succ, i64_w, i32_w]
               rfl
              refine one_ (i := 34) (N := some 48) #[true, true, true, true, true, true, true, true, true, true, true, true, true, true, true, true, true, true, true, true, true, true, true, true, true, true, true, true, true, true, true, true, true, true, true, false, false, false] rfl rfl (one_of HT_.out (by kernel_rfl)) (by decide) (fun K hK => ?_)
              refine goes_ Try.func40 (by kernel_rfl) rfl #[.int .i64 ((wrap64 ((wrap64 (t303)) * 1000000)) / 4294967296), .int .i64 6] (by rfl) rfl rfl (by (try simp only [List.map_toArray, List.map_cons, List.map_nil]); first | done | rfl | (simp only [List.length_drop, List.length_take]; rfl)) ?_
              with_reducible refine (foliotref02_digits.calls k ((wrap64 ((wrap64 (t303)) * 1000000)) / 4294967296) 6 t312 _ A21.out).mono ?_
              rintro e w' ⟨rfl, ⟨nd, rfl⟩⟩
              refine ⟨_, rfl, ?_⟩
              refine hK.out _ _ ⟨(blk_cell BK305.out 0).trans rfl, (blk_cell BK305.out 1).trans rfl, (blk_cell BK305.out 2).trans rfl, (blk_cell BK305.out 3).trans rfl, (blk_cell BK305.out 4).trans rfl, (blk_cell BK305.out 5).trans rfl, (blk_cell BK305.out 6).trans rfl⟩ (fun hHeld => ?_)
              clear hK K
              refine norm_ (a' := ?_) ?_ ?_
              rotate_left
              ·show Act.put _ (some 48) _ = _
               simp only [Act.put, List.setIfInBounds_toArray, List.set_cons_zero, List.set_cons_succ, i64_w, i32_w]
               rfl
              refine pure_ (i := 35) (N := some 49) (v := ?_) (a' := ?_) #[true, true, true, true, true, true, true, true, true, true, true, true, true, true, true, true, true, true, true, true, true, true, true, true, true, true, true, true, true, true, true, true, true, true, true, true, false, false] rfl rfl (any_of HT_.out (by kernel_rfl)) (fun _ _ _ h => h) (Or.inl ⟨by rfl, ?_⟩) ?_ ?_
              rotate_left
              ·intro w'
               go_simp
               with_reducible rfl
              rotate_left
              ·simp only [Act.put, List.setIfInBounds_toArray, List.set_cons_zero, List.set_cons_succ, i64_w, i32_w]
               rfl
              refine pure_ (i := 36) (N := some 2) (v := ?_) (a' := ?_) #[true, true, true, true, true, true, true, true, true, true, true, true, true, true, true, true, true, true, true, true, true, true, true, true, true, true, true, true, true, true, true, true, true, true, true, true, true, false] rfl rfl (any_of HT_.out (by kernel_rfl)) (fun _ _ _ h => h) (Or.inl ⟨by rfl, ?_⟩) ?_ ?_
              rotate_left
              ·intro w'
               go_simp
               with_reducible rfl
              rotate_left
              ·simp only [Act.put, List.setIfInBounds_toArray, List.set_cons_zero, List.set_cons_succ, i64_w, i32_w]
               rfl
              refine pure_ (i := 37) (N := some 3) (v := ?_) (a' := ?_) #[true, true, true, true, true, true, true, true, true, true, true, true, true, true, true, true, true, true, true, true, true, true, true, true, true, true, true, true, true, true, true, true, true, true, true, true, true, true] rfl rfl (any_of HT_.out (by kernel_rfl)) (fun _ _ _ h => h) (Or.inl ⟨by rfl, ?_⟩) ?_ ?_
              rotate_left
              ·intro w'
               go_simp
               with_reducible rfl
              rotate_left
              ·simp only [Act.put, List.setIfInBounds_toArray, List.set_cons_zero, List.set_cons_succ, i64_w, i32_w]
               rfl
              refine done_ (done_of HT_.out (by kernel_rfl)) ?_
              try go_wp2
              go_ret2
              exact ⟨by first | rfl | (simp [errW_none, errW_some] <;> rfl) | (simp [*, errW_none, errW_some] <;> rfl), by repeat (first | (with_reducible first | exact HB.out | apply below_alloc | apply pw_below_drewN | apply below_drew1 | refine below_set ?_ GE296.out | refine below_set ?_ GE305.out) | exact HB.out)⟩
             ·rw [if_neg c22] at H
              exact absurd H (by simp)
            ·rw [if_neg c20] at H
             exact absurd H (by simp)
           ·rw [if_neg c19] at H
            exact absurd H (by simp)
          ·rw [if_neg c17] at H
           exact absurd H (by simp)
         ·rw [if_neg c16] at H
          exact absurd H (by simp)
        ·rw [if_neg c14] at H
         exact absurd H (by simp)
       ·rw [if_neg c13] at H
        exact absurd H (by simp)
      ·rw [if_neg c11] at H
       exact absurd H (by simp)
     ·rw [if_neg c10] at H
      exact absurd H (by simp)
    ·rw [if_neg c8] at H
     exact absurd H (by simp)
   ·rw [if_neg c7] at H
    exact absurd H (by simp)
  ·rw [if_neg c5] at H
   exact absurd H (by simp)
 ·rw [if_neg c3] at H
  have c3b0 : (t304 == 0) = false := beq_eq_false_iff_ne.mpr c3
  have c3b1 : (t304 != 0) = true := bne_iff_ne.mpr c3
  simp only [Option.some.injEq, Prod.mk.injEq] at H
  obtain ⟨rfl, rfl⟩ := H
  go_enter Try.func22, Try.ntmps22
  go_wp2_with (first | ((with_reducible refine gate_dst (N := 1) rfl ?_); refine box_event ?hg (N := 1) ?hd (cs := #[.int .i64 a0_0, .int .u64 a0_1]) (t := 36) ?hr ?_; (case hd => rfl); (case hg => rfl); (case hr => first | (go_simp; done) | (go_simp; rfl)); intro gb296 hg w31 hbox hb; have n0_ := Aside0.mk (below_step (by repeat (first | (with_reducible first | exact HB.out | apply below_alloc | apply pw_below_drewN | apply below_drew1) | exact HB.out)) hb); have n1_ := Aside0.mk (hbox); have n2_ := Aside0.mk ((by rw [hg]; exact (below_size (by repeat (first | (with_reducible first | exact HB.out | apply below_alloc | apply pw_below_drewN | apply below_drew1) | exact HB.out))) : w.heap.size ≤ gb296)); have n3_ := Aside0.mk ((by rw [hg]; exact (below_size (by repeat (first | (with_reducible first | exact HB.out | apply below_alloc | apply pw_below_drewN | apply below_drew1) | exact HB.out))) : w.heap.size ≤ gb296)); clear HB; have HB := n0_; have BK296 := n1_; have GW296 := n2_; have GE296 := n3_; clear n0_ n1_ n2_ n3_; clear hb hbox hg; have hcz32_0 : w31.cell? ⟨gb296, 0, none⟩ = some (.int .i64 a0_0) := (blk_cell BK296.out 0).trans rfl; have hcz32_1 : w31.cell? ⟨gb296, 1, none⟩ = some (.int .u64 a0_1) := (blk_cell BK296.out 1).trans rfl; have hfz32_0 := blk_frozen BK296.out 0; have hfz32_1 := blk_frozen BK296.out 1) | ((with_reducible refine gate_callee (f := 15) rfl ?_); refine goesL_ (some 8) rfl rfl Try.func15 (by kernel_rfl) rfl #[.agg #[.int .i64 a0_0, .int .u64 a0_1]] rfl (by (try simp only [List.map_toArray, List.map_cons, List.map_nil]); first | done | rfl | (simp only [List.length_drop, List.length_take]; rfl)) ?_; (with_reducible refine (foliotref02_OfDate.calls k a0_0 a0_1 t297 t298 t299 t300 t301 t302 t303 t304 _ A2.out).mono ?_); rintro e w33 ⟨rfl, hb⟩; refine ⟨_, rfl, ?_⟩; have n0_ := Aside0.mk (blk_below (g := gb296) (o := .cells #[.int .i64 a0_0, .int .u64 a0_1] 36 (0, 0)) (by (with_reducible repeat (first | refine blk_drewN ?_ _ | refine blk_drew ?_ | refine blk_alloc ?_ _)); exact BK296.out) hb); have n1_ := Aside0.mk (below_step (by repeat (first | (with_reducible first | exact HB.out | apply below_alloc | apply pw_below_drewN | apply below_drew1 | refine below_set ?_ GE296.out) | exact HB.out)) hb); clear BK296; clear HB; have BK296 := n0_; have HB := n1_; clear n0_ n1_; (try clear hb); (try clear hb2); (try clear hk); (try clear hi)) | ((with_reducible refine gate_dst (N := 4) rfl ?_); refine box_event ?hg (N := 4) ?hd (cs := #[.int .i64 0, .int .i64 0, .int .i64 0, .int .i64 0, .int .i64 0, .int .i64 0, .int .u32 0]) (t := 33) ?hr ?_; (case hd => rfl); (case hg => rfl); (case hr => first | (go_simp; done) | (go_simp; rfl)); intro gb305 hg w34 hbox hb; have n0_ := Aside0.mk (blk_below (g := gb296) (o := .cells #[.int .i64 a0_0, .int .u64 a0_1] 36 (0, 0)) (by (with_reducible repeat (first | refine blk_drewN ?_ _ | refine blk_drew ?_ | refine blk_alloc ?_ _)); exact BK296.out) hb); have n1_ := Aside0.mk (below_step (by repeat (first | (with_reducible first | exact HB.out | apply below_alloc | apply pw_below_drewN | apply below_drew1 | refine below_set ?_ GE296.out) | exact HB.out)) hb); have n2_ := Aside0.mk (hbox); have n3_ := Aside0.mk ((by rw [hg]; exact (below_size (by repeat (first | (with_reducible first | exact HB.out | apply below_alloc | apply pw_below_drewN | apply below_drew1 | refine below_set ?_ GE296.out) | exact HB.out))) : w.heap.size ≤ gb305)); have n4_ := Aside0.mk ((by rw [hg]; exact (below_size (by repeat (first | (with_reducible first | exact HB.out | apply below_alloc | apply pw_below_drewN | apply below_drew1 | refine below_set ?_ GE296.out) | exact HB.out))) : w.heap.size ≤ gb305)); have n5_ := Aside0.mk ((by rw [hg]; exact Nat.ne_of_lt (blk_lt (g := gb296) (o := .cells #[.int .i64 a0_0, .int .u64 a0_1] 36 (0, 0)) (by (with_reducible repeat (first | refine blk_drewN ?_ _ | refine blk_drew ?_ | refine blk_alloc ?_ _)); exact BK296.out)) : gb296 ≠ gb305)); have n6_ := Aside0.mk ((by rw [hg]; exact Nat.ne_of_gt (blk_lt (g := gb296) (o := .cells #[.int .i64 a0_0, .int .u64 a0_1] 36 (0, 0)) (by (with_reducible repeat (first | refine blk_drewN ?_ _ | refine blk_drew ?_ | refine blk_alloc ?_ _)); exact BK296.out)) : gb305 ≠ gb296)); clear BK296; clear HB; have BK296 := n0_; have HB := n1_; have BK305 := n2_; have GW305 := n3_; have GE305 := n4_; have NB296_305 := n5_; have NB305_296 := n6_; clear n0_ n1_ n2_ n3_ n4_ n5_ n6_; clear hb hbox hg; have hnb35 := NB305_296.out; have hnc35 := NB296_305.out; have hcz36_0 : w34.cell? ⟨gb305, 0, none⟩ = some (.int .i64 0) := (blk_cell BK305.out 0).trans rfl; have hcz36_1 : w34.cell? ⟨gb305, 1, none⟩ = some (.int .i64 0) := (blk_cell BK305.out 1).trans rfl; have hcz36_2 : w34.cell? ⟨gb305, 2, none⟩ = some (.int .i64 0) := (blk_cell BK305.out 2).trans rfl; have hcz36_3 : w34.cell? ⟨gb305, 3, none⟩ = some (.int .i64 0) := (blk_cell BK305.out 3).trans rfl; have hcz36_4 : w34.cell? ⟨gb305, 4, none⟩ = some (.int .i64 0) := (blk_cell BK305.out 4).trans rfl; have hcz36_5 : w34.cell? ⟨gb305, 5, none⟩ = some (.int .i64 0) := (blk_cell BK305.out 5).trans rfl; have hcz36_6 : w34.cell? ⟨gb305, 6, none⟩ = some (.int .u32 0) := (blk_cell BK305.out 6).trans rfl; have hfz36_0 := blk_frozen BK305.out 0; have hfz36_1 := blk_frozen BK305.out 1; have hfz36_2 := blk_frozen BK305.out 2; have hfz36_3 := blk_frozen BK305.out 3; have hfz36_4 := blk_frozen BK305.out 4; have hfz36_5 := blk_frozen BK305.out 5; have hfz36_6 := blk_frozen BK305.out 6))
  go_ret2
  exact ⟨by first | rfl | (simp [errW_none, errW_some] <;> rfl) | (simp [*, errW_none, errW_some] <;> rfl), by repeat (first | (with_reducible first | exact HB.out | apply below_alloc | apply pw_below_drewN | apply below_drew1 | refine below_set ?_ GE296.out | refine below_set ?_ GE305.out) | exact HB.out)⟩

end Go.Proofs.Ytbondhnhiinlbaa.Pr
