/- The machine's call of fixed.sum. -/
import Derived.Test.YtbondhnhiinlbaaTK0
import Derived.Laws.Externs
import Derived.Laws.BitsAllLaws
set_option linter.unusedVariables false
set_option linter.unusedSimpArgs false
namespace Go.Proofs.Ytbondhnhiinlbaa.Pr
open Go.RowKit Go.Proofs.YtbondhnhiinlbaaW.PrintWords Go.Proofs.YtbondhnhiinlbaaW.PrintLast Go.Proofs.YtbondhnhiinlbaaW.PrintMore
theorem bits_add (x y c : Int) (hx : 0 ≤ x) (hy : 0 ≤ y) (hc0 : 0 ≤ c) (hc : c ≤ 1) (w : World) :
    (callFunc 48 #[.int .u64 x, .int .u64 y, .int .u64 c]).run Try.prog w =
      .ok (.value (.tuple #[.int .u64 ((x + y + c) % 18446744073709551616), .int .u64 ((x + y + c) / 18446744073709551616)])) w := by
  rw [run_callFunc_extern Try.func48 (by kernel_rfl) (by kernel_rfl) (by kernel_rfl) (e := add64Entry) (by kernel_rfl), run_add64 x y c hx hy hc0 hc]
  rfl
theorem bits_is (x y c p q : Int) (hx : 0 ≤ x) (hy : 0 ≤ y) (hc0 : 0 ≤ c) (hc : c ≤ 1) (hp : (x + y + c) % 18446744073709551616 = p) (hq : (x + y + c) / 18446744073709551616 = q) (w : World) :
    (callFunc 48 #[.int .u64 x, .int .u64 y, .int .u64 c]).run Try.prog w = .ok (.value (.tuple #[.int .u64 p, .int .u64 q])) w := by
  rw [bits_add x y c hx hy hc0 hc, hp, hq]
theorem u64_not (p : Int) (h0 : 0 ≤ p) (h1 : p < 18446744073709551616) : bits BinOp.xor IntKind.u64 IntKind.u64.max p = 18446744073709551615 - p := by
  rw [show IntKind.u64.max = 18446744073709551615 from by decide, u64_xor _ _ (by omega) (by omega) h0 h1]
  obtain ⟨n, rfl⟩ := Int.eq_ofNat_of_zero_le h0
  have hn : n < 2 ^ 64 := by omega
  rw [show (18446744073709551615 : Int).toNat = 2 ^ 64 - 1 from rfl, Int.toNat_natCast]
  have e : (2 ^ 64 - 1) ^^^ n = 2 ^ 64 - 1 - n := by
    have h := BitVec.toNat_not (x := BitVec.ofNat 64 n)
    rw [← BitVec.allOnes_xor, BitVec.toNat_xor, BitVec.toNat_allOnes, BitVec.toNat_ofNat, Nat.mod_eq_of_lt hn] at h
    exact h
  rw [e]
  omega
set_option maxHeartbeats 1000000 in
theorem sum_walk (a0 a1 u0 u1 p q s0 s1 h1 h2 v0 v1 np nh p2 c2 r1 r2 : Int) (r3 : Bool) (w : World)
    (e0 : IntKind.u64.wrap a0 = u0) (e1 : IntKind.u64.wrap a1 = u1)
    (hadd : ∀ w, (callFunc 48 #[.int .u64 u0, .int .u64 u1, .int .u64 0]).run Try.prog w = .ok (.value (.tuple #[.int .u64 p, .int .u64 q])) w)
    (f0 : a0 / 9223372036854775808 = s0) (f1 : a1 / 9223372036854775808 = s1) (g0 : IntKind.u64.wrap s0 = v0) (g1 : IntKind.u64.wrap s1 = v1)
    (k1 : IntKind.u64.wrap (v0 + v1) = h1) (k2 : IntKind.u64.wrap (h1 + q) = h2)
    (hres : decide (wrap64 h2 < 0) = r3)
    (hadd2 : r3 = true → ∀ w, (callFunc 48 #[.int .u64 np, .int .u64 1, .int .u64 0]).run Try.prog w = .ok (.value (.tuple #[.int .u64 p2, .int .u64 c2])) w)
    (n1 : bits BinOp.xor IntKind.u64 IntKind.u64.max p = np) (n2 : bits BinOp.xor IntKind.u64 IntKind.u64.max h2 = nh)
    (o1 : r1 = if r3 = true then IntKind.u64.wrap (nh + c2) else h2) (o2 : r2 = if r3 = true then p2 else p) :
    Calls Try.prog 46 #[.int .i64 a0, .int .i64 a1] w fun e w' => e = .returned (.agg #[.int .u64 r1, .int .u64 r2, .bool r3]) ∧ Below w.heap.size w w' := by
  have hu78 := Try.underlying78
  cases r3
  · rw [if_neg (by decide)] at o1 o2
    subst o1 o2
    clear hadd2
    go_enter Try.func46, Try.ntmps46
    go_wp2
    exact bodyPost_ret (by simp [results, Try.results46, go_sem]) rfl ⟨rfl, below_alloc (Below.refl _ _) _⟩
  · rw [if_pos rfl] at o1 o2
    subst o1 o2
    have hadd2 := hadd2 rfl
    go_enter Try.func46, Try.ntmps46
    go_wp2
    exact bodyPost_ret (by simp [results, Try.results46, go_sem]) rfl ⟨rfl, below_alloc (Below.refl _ _) _⟩
theorem fixed_sum.calls (a0 a1 : Int) (r1 : Int) (r2 : Int) (r3 : Bool) (w : World) (h : fixed_sum.f a0 a1 = some (r1, r2, r3)) :
    Calls Try.prog 46 #[.int .i64 a0, .int .i64 a1] w fun e w' => e = .returned (.agg #[.int .u64 r1, .int .u64 r2, .bool r3]) ∧ Below w.heap.size w w' := by
  unfold fixed_sum.f at h
  by_cases hr : (-9223372036854775808 ≤ a0 ∧ a0 ≤ 9223372036854775807) ∧ (-9223372036854775808 ≤ a1 ∧ a1 ≤ 9223372036854775807)
  · rw [if_pos hr] at h
    have hw : ∀ n : Int, IntKind.u64.wrap n = n % 18446744073709551616 := IntKind.wrap_u64
    obtain ⟨u0, s0, v0, e0, f0, g0, x0⟩ : ∃ u0 s0 v0, a0 % 18446744073709551616 = u0 ∧ a0 / 9223372036854775808 = s0 ∧ s0 % 18446744073709551616 = v0 ∧ ((0 ≤ a0 ∧ u0 = a0 ∧ v0 = 0) ∨ (a0 < 0 ∧ u0 = a0 + 18446744073709551616 ∧ v0 = 18446744073709551615)) := ⟨_, _, _, rfl, rfl, rfl, by omega⟩
    obtain ⟨u1, s1, v1, e1, f1, g1, x1⟩ : ∃ u0 s0 v0, a1 % 18446744073709551616 = u0 ∧ a1 / 9223372036854775808 = s0 ∧ s0 % 18446744073709551616 = v0 ∧ ((0 ≤ a1 ∧ u0 = a1 ∧ v0 = 0) ∨ (a1 < 0 ∧ u0 = a1 + 18446744073709551616 ∧ v0 = 18446744073709551615)) := ⟨_, _, _, rfl, rfl, rfl, by omega⟩
    have b0 : 0 ≤ u0 := by omega
    have b1 : 0 ≤ u1 := by omega
    by_cases hs : a0 + a1 < 0
    · rw [if_pos hs] at h
      simp only [Option.some.injEq, Prod.mk.injEq] at h
      obtain ⟨rfl, rfl, rfl⟩ := h
      obtain ⟨p, q, hp, hq, hv, hpe⟩ : ∃ p q, (u0 + u1 + 0) % 18446744073709551616 = p ∧ (u0 + u1 + 0) / 18446744073709551616 = q ∧ ((v0 + v1) % 18446744073709551616 + q) % 18446744073709551616 = 18446744073709551615 ∧ p = a0 + a1 + 18446744073709551616 := by
        refine ⟨_, _, rfl, rfl, ?_, ?_⟩ <;> rcases x0 with ⟨y0, z0, t0⟩ | ⟨y0, z0, t0⟩ <;> rcases x1 with ⟨y1, z1, t1⟩ | ⟨y1, z1, t1⟩ <;> subst t0 t1 z0 z1 <;> omega
      have bp : 0 ≤ p ∧ p < 18446744073709551616 := by omega
      clear x0 x1
      refine sum_walk a0 a1 u0 u1 p q s0 s1 _ 18446744073709551615 v0 v1 (18446744073709551615 - p) 0 ((18446744073709551615 - p + 1 + 0) % 18446744073709551616) ((18446744073709551615 - p + 1 + 0) / 18446744073709551616) _ _ true w
        ((hw _).trans e0) ((hw _).trans e1) (fun w => bits_is _ _ _ _ _ b0 b1 (by decide) (by decide) hp hq w) f0 f1 ((hw _).trans g0) ((hw _).trans g1) (hw _) ((hw _).trans hv) (decide_eq_true (by unfold wrap64; omega))
        (fun _ w => bits_is _ _ _ _ _ (by omega) (by decide) (by decide) (by decide) rfl rfl w) (u64_not _ bp.1 bp.2) (u64_not _ (by decide) (by decide)) ?_ ?_
      · rw [if_pos rfl, hw]
        clear hp hq hv e0 e1 g0 g1 f0 f1
        omega
      · rw [if_pos rfl]
        clear hp hq hv e0 e1 g0 g1 f0 f1
        omega
    · rw [if_neg hs] at h
      simp only [Option.some.injEq, Prod.mk.injEq] at h
      obtain ⟨rfl, rfl, rfl⟩ := h
      obtain ⟨p, q, hp, hq, hv, hpe⟩ : ∃ p q, (u0 + u1 + 0) % 18446744073709551616 = p ∧ (u0 + u1 + 0) / 18446744073709551616 = q ∧ ((v0 + v1) % 18446744073709551616 + q) % 18446744073709551616 = 0 ∧ p = a0 + a1 := by
        refine ⟨_, _, rfl, rfl, ?_, ?_⟩ <;> rcases x0 with ⟨y0, z0, t0⟩ | ⟨y0, z0, t0⟩ <;> rcases x1 with ⟨y1, z1, t1⟩ | ⟨y1, z1, t1⟩ <;> subst t0 t1 z0 z1 <;> omega
      have bp : 0 ≤ p ∧ p < 18446744073709551616 := by omega
      clear x0 x1
      refine sum_walk a0 a1 u0 u1 p q s0 s1 _ 0 v0 v1 (18446744073709551615 - p) 18446744073709551615 0 0 _ _ false w
        ((hw _).trans e0) ((hw _).trans e1) (fun w => bits_is _ _ _ _ _ b0 b1 (by decide) (by decide) hp hq w) f0 f1 ((hw _).trans g0) ((hw _).trans g1) (hw _) ((hw _).trans hv) (decide_eq_false (by unfold wrap64; omega))
        (fun h => by simp at h) (u64_not _ bp.1 bp.2) (u64_not _ (by decide) (by decide)) ?_ ?_
      · rw [if_neg (by decide)]
      · rw [if_neg (by decide), hpe]
  · rw [if_neg hr] at h
    exact absurd h (by simp)
end Go.Proofs.Ytbondhnhiinlbaa.Pr
