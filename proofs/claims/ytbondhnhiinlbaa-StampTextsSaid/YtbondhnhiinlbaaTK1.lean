/- The reference's calendar, plainly. The reference's OfDate is the program's. -/
import Derived.Test.YtbondhnhiinlbaaTK0
import Derived.Test.YtbondhnhiinlbaaTHa
import Derived.Test.YtbondhnhiinlbaaTPrx26
section
namespace Go.Proofs.Ytbondhnhiinlbaa.Pr
open Go.RowKit Go.Proofs.YtbondhnhiinlbaaW.PrintWords Go.Proofs.YtbondhnhiinlbaaW.PrintLast Go.Proofs.YtbondhnhiinlbaaW.PrintMore
attribute [local go_sem] max2_int min2_int max_two min_two max_three min_three max_four min_four   -- for this text's walks alone
set_option linter.unusedVariables false
set_option linter.unusedSimpArgs false

/-! ### fixed_Add: function 45 -/
def fixed_Add.f (k : Nat) (a0 : Int) (a1 : Int) : Option (Int) := (fixed_sum.f a0 a1).bind fun bt157 => ((fixed_whole_span.f k bt157.1 bt157.2.1 bt157.2.2).bind fun t160 => (some t160))
theorem fixed_Add.mono : ∀ a0 a1 k, LeO (fixed_Add.f k a0 a1) (fixed_Add.f (k + 1) a0 a1) := by
  intro a0 a1 k
  unfold fixed_Add.f
  repeat' first
      | (with_reducible exact fixed_whole_span.mono _ _ _ _)
      | (with_reducible exact LeO.refl _)
      | (with_reducible exact LeO.none _)
      | (with_reducible refine LeO.ite ?_ ?_)
      | (with_reducible refine LeO.bind ?_ (fun _ => ?_))
      | exact fixed_whole_span.mono _ _ _ _
      | exact LeO.none _
      | refine LeO.ite ?_ ?_
      | refine LeO.bind ?_ (fun _ => ?_)
set_option maxHeartbeats 8000000 in
set_option maxRecDepth 100000 in
theorem fixed_Add.calls (k : Nat) (a0 : Int) (a1 : Int) (r : Int) (w : World) (h : fixed_Add.f k a0 a1 = some r) :
    Calls Try.prog 45 #[.int .i64 a0, .int .i64 a1] w fun e w' => e = .returned (.int .i64 r) ∧ Below w.heap.size w w' := by
  have HB := Aside0.mk (Below.refl w.heap.size w)
  have H : ((fixed_sum.f a0 a1).bind fun bt157 => ((fixed_whole_span.f k bt157.1 bt157.2.1 bt157.2.2).bind fun t160 => (some t160))) = some r := h
  clear h
  replace H := Option.bind_eq_some_iff.mp H
  obtain ⟨⟨t157, t158, t159⟩, A30, H⟩ := H
  replace H : ((fixed_whole_span.f k t157 t158 t159).bind fun t160 => (some t160)) = some r := H
  have A3 := Aside0.mk A30
  clear A30
  replace H := Option.bind_eq_some_iff.mp H
  obtain ⟨t160, A40, H⟩ := H
  replace H : (some t160) = some r := H
  have A4 := Aside0.mk A40
  clear A40
  obtain rfl := Option.some.inj H
  go_enter Try.func45, Try.ntmps45
  go_wp2_with (first | ((with_reducible refine gate_callee (f := 46) rfl ?_); refine goesL_ (some 7) rfl rfl Try.func46 (by kernel_rfl) rfl #[.int .i64 a0, .int .i64 a1] rfl (by (try simp only [List.map_toArray, List.map_cons, List.map_nil]); first | done | rfl | (simp only [List.length_drop, List.length_take]; rfl)) ?_; (with_reducible refine (fixed_sum.calls a0 a1 t157 t158 t159 _ A3.out).mono ?_); rintro e w5 ⟨rfl, hb⟩; refine ⟨_, rfl, ?_⟩; have n0_ := Aside0.mk (below_step (by repeat (first | (with_reducible first | exact HB.out | apply below_alloc | apply pw_below_drewN | apply below_drew1) | exact HB.out)) hb); clear HB; have HB := n0_; clear n0_; (try clear hb); (try clear hb2); (try clear hk); (try clear hi)) | ((with_reducible refine gate_callee (f := 47) rfl ?_); refine goesL_ (some 8) rfl rfl Try.func47 (by kernel_rfl) rfl #[.agg #[.int .u64 t157, .int .u64 t158, .bool t159]] rfl (by (try simp only [List.map_toArray, List.map_cons, List.map_nil]); first | done | rfl | (simp only [List.length_drop, List.length_take]; rfl)) ?_; (with_reducible refine (fixed_whole_span.calls k t157 t158 t159 t160 _ A4.out).mono ?_); rintro e w6 ⟨rfl, hb⟩; refine ⟨_, rfl, ?_⟩; have n0_ := Aside0.mk (below_step (by repeat (first | (with_reducible first | exact HB.out | apply below_alloc | apply pw_below_drewN | apply below_drew1) | exact HB.out)) hb); clear HB; have HB := n0_; clear n0_; (try clear hb); (try clear hb2); (try clear hk); (try clear hi)))
  go_ret
  exact ⟨by first | rfl | (simp [errW_none, errW_some] <;> rfl) | (simp [*, errW_none, errW_some] <;> rfl), by repeat (first | (with_reducible first | exact HB.out | apply below_alloc | apply pw_below_drewN | apply below_drew1) | exact HB.out)⟩

end Go.Proofs.Ytbondhnhiinlbaa.Pr
end
section
namespace Go.Proofs.Ytbondhnhiinlbaa.Pr
open Go.RowKit Go.Proofs.YtbondhnhiinlbaaW.PrintWords Go.Proofs.YtbondhnhiinlbaaW.PrintLast Go.Proofs.YtbondhnhiinlbaaW.PrintMore
attribute [local go_sem] max2_int min2_int max_two min_two max_three min_three max_four min_four   -- for this text's walks alone
set_option linter.unusedVariables false
set_option linter.unusedSimpArgs false

/-! ### fixed_Clamp: function 41 -/
def fixed_Clamp.f (k : Nat) (a0 : Int) (a1 : Int) : Option (Int) := if a1 < 0 then (some 0) else ((fixed_Add.f k (mx (mn a0 a1) (wrap64 (-a1))) 0).bind fun t161 => (some t161))
theorem fixed_Clamp.mono : ∀ a0 a1 k, LeO (fixed_Clamp.f k a0 a1) (fixed_Clamp.f (k + 1) a0 a1) := by
  intro a0 a1 k
  unfold fixed_Clamp.f
  repeat' first
      | (with_reducible exact fixed_Add.mono _ _ _)
      | (with_reducible exact LeO.refl _)
      | (with_reducible exact LeO.none _)
      | (with_reducible refine LeO.ite ?_ ?_)
      | (with_reducible refine LeO.bind ?_ (fun _ => ?_))
      | exact fixed_Add.mono _ _ _
      | exact LeO.none _
      | refine LeO.ite ?_ ?_
      | refine LeO.bind ?_ (fun _ => ?_)
set_option maxHeartbeats 8000000 in
set_option maxRecDepth 100000 in
theorem fixed_Clamp.calls (k : Nat) (a0 : Int) (a1 : Int) (r : Int) (w : World) (h : fixed_Clamp.f k a0 a1 = some r) :
    Calls Try.prog 41 #[.int .i64 a0, .int .i64 a1] w fun e w' => e = .returned (.int .i64 r) ∧ Below w.heap.size w w' := by
  have HB := Aside0.mk (Below.refl w.heap.size w)
  have H : (if a1 < 0 then (some 0) else ((fixed_Add.f k (mx (mn a0 a1) (wrap64 (-a1))) 0).bind fun t161 => (some t161))) = some r := h
  clear h
  by_cases c3 : a1 < 0
  · rw [if_pos c3] at H
    have c3b0 : decide (a1 < 0) = true := decide_eq_true c3
    clear c3
    obtain rfl := Option.some.inj H
    go_enter Try.func41, Try.ntmps41
    go_wp2
    go_ret
    exact ⟨by first | rfl | (simp [errW_none, errW_some] <;> rfl) | (simp [*, errW_none, errW_some] <;> rfl), by repeat (first | (with_reducible first | exact HB.out | apply below_alloc | apply pw_below_drewN | apply below_drew1) | exact HB.out)⟩
  · rw [if_neg c3] at H
    have c3b0 : decide (a1 < 0) = false := decide_eq_false c3
    clear c3
    obtain ⟨ji4, hji4⟩ : ∃ j_ : Int, (mn a0 a1) = j_ := ⟨_, rfl⟩
    replace H : ((fixed_Add.f k (mx (ji4) (wrap64 (-a1))) 0).bind fun t161 => (some t161)) = some r := by first | (rw [hji4] at H; exact H) | (simp only [hji4] at H ⊢; exact H)
    have hji4_ : (if a1 < a0 then a1 else a0) = ji4 := hji4
    obtain ⟨ji5, hji5⟩ : ∃ j_ : Int, (mx (ji4) (wrap64 (-a1))) = j_ := ⟨_, rfl⟩
    replace H : ((fixed_Add.f k (ji5) 0).bind fun t161 => (some t161)) = some r := by first | (rw [hji5] at H; exact H) | (simp only [hji5] at H ⊢; exact H)
    have hji5_ : (if (ji4) < (wrap64 (-a1)) then (wrap64 (-a1)) else (ji4)) = ji5 := hji5
    replace H := Option.bind_eq_some_iff.mp H
    obtain ⟨t161, A60, H⟩ := H
    replace H : (some t161) = some r := H
    have A6 := Aside0.mk A60
    clear A60
    obtain rfl := Option.some.inj H
    go_enter Try.func41, Try.ntmps41
    go_wp2_with (first | ((with_reducible refine gate_callee (f := 45) rfl ?_); refine goesL_ (some 13) rfl rfl Try.func45 (by kernel_rfl) rfl #[.int .i64 ji5, .int .i64 0] rfl (by (try simp only [List.map_toArray, List.map_cons, List.map_nil]); first | done | (simp only [hji5]; rfl) | rfl | (simp only [List.length_drop, List.length_take]; rfl)) ?_; (with_reducible refine (fixed_Add.calls k ji5 0 t161 _ A6.out).mono ?_); rintro e w7 ⟨rfl, hb⟩; refine ⟨_, rfl, ?_⟩; have n0_ := Aside0.mk (below_step (by repeat (first | (with_reducible first | exact HB.out | apply below_alloc | apply pw_below_drewN | apply below_drew1) | exact HB.out)) hb); clear HB; have HB := n0_; clear n0_; (try clear hb); (try clear hb2); (try clear hk); (try clear hi)))
    go_ret
    exact ⟨by first | rfl | (simp [errW_none, errW_some] <;> rfl) | (simp only [← hji4, ← hji5]; first | rfl | (simp [errW_none, errW_some] <;> rfl)) | (simp [*, errW_none, errW_some] <;> rfl), by repeat (first | (with_reducible first | exact HB.out | apply below_alloc | apply pw_below_drewN | apply below_drew1) | exact HB.out)⟩

end Go.Proofs.Ytbondhnhiinlbaa.Pr
end
section
namespace Go.Proofs.Ytbondhnhiinlbaa.Pr
open Go.RowKit Go.Proofs.YtbondhnhiinlbaaW.PrintWords Go.Proofs.YtbondhnhiinlbaaW.PrintLast Go.Proofs.YtbondhnhiinlbaaW.PrintMore
attribute [local go_sem] max2_int min2_int max_two min_two max_three min_three max_four min_four   -- for this text's walks alone
set_option linter.unusedVariables false
set_option linter.unusedSimpArgs false

/-! ### stamp_Since: function 23 -/
def stamp_Since.f (k : Nat) (a0 : Int) (a1 : Int) : Option (Int) := (fixed_Clamp.f k (wrap64 (IntKind.u64.wrap (a0 - a1))) 4611686018427387904).bind fun t162 => (some t162)
theorem stamp_Since.mono : ∀ a0 a1 k, LeO (stamp_Since.f k a0 a1) (stamp_Since.f (k + 1) a0 a1) := by
  intro a0 a1 k
  unfold stamp_Since.f
  repeat' first
      | (with_reducible exact fixed_Clamp.mono _ _ _)
      | (with_reducible exact LeO.refl _)
      | (with_reducible exact LeO.none _)
      | (with_reducible refine LeO.ite ?_ ?_)
      | (with_reducible refine LeO.bind ?_ (fun _ => ?_))
      | exact fixed_Clamp.mono _ _ _
      | exact LeO.none _
      | refine LeO.ite ?_ ?_
      | refine LeO.bind ?_ (fun _ => ?_)
set_option maxHeartbeats 8000000 in
set_option maxRecDepth 100000 in
theorem stamp_Since.calls (k : Nat) (a0 : Int) (a1 : Int) (r : Int) (w : World) (h : stamp_Since.f k a0 a1 = some r) :
    Calls Try.prog 23 #[.int .u64 a0, .int .u64 a1] w fun e w' => e = .returned (.int .i64 r) ∧ Below w.heap.size w w' := by
  have HB := Aside0.mk (Below.refl w.heap.size w)
  have H : ((fixed_Clamp.f k (wrap64 (IntKind.u64.wrap (a0 - a1))) 4611686018427387904).bind fun t162 => (some t162)) = some r := h
  clear h
  replace H := Option.bind_eq_some_iff.mp H
  obtain ⟨t162, A30, H⟩ := H
  replace H : (some t162) = some r := H
  have A3 := Aside0.mk A30
  clear A30
  obtain rfl := Option.some.inj H
  go_enter Try.func23, Try.ntmps23
  go_wp2_with (first | ((with_reducible refine gate_callee (f := 41) rfl ?_); refine goesL_ (some 9) rfl rfl Try.func41 (by kernel_rfl) rfl #[.int .i64 (wrap64 (IntKind.u64.wrap (a0 - a1))), .int .i64 4611686018427387904] rfl (by (try simp only [List.map_toArray, List.map_cons, List.map_nil]); first | done | rfl | (simp only [List.length_drop, List.length_take]; rfl)) ?_; (with_reducible refine (fixed_Clamp.calls k (wrap64 (IntKind.u64.wrap (a0 - a1))) 4611686018427387904 t162 _ A3.out).mono ?_); rintro e w4 ⟨rfl, hb⟩; refine ⟨_, rfl, ?_⟩; have n0_ := Aside0.mk (below_step (by repeat (first | (with_reducible first | exact HB.out | apply below_alloc | apply pw_below_drewN | apply below_drew1) | exact HB.out)) hb); clear HB; have HB := n0_; clear n0_; (try clear hb); (try clear hb2); (try clear hk); (try clear hi)))
  go_ret
  exact ⟨by first | rfl | (simp [errW_none, errW_some] <;> rfl) | (simp [*, errW_none, errW_some] <;> rfl), by repeat (first | (with_reducible first | exact HB.out | apply below_alloc | apply pw_below_drewN | apply below_drew1) | exact HB.out)⟩

end Go.Proofs.Ytbondhnhiinlbaa.Pr
end
section
set_option linter.unusedVariables false
set_option linter.unusedSimpArgs false
namespace Go.Proofs.Ytbondhnhiinlbaa.Pr
open Go.RowKit Go.Proofs.YtbondhnhiinlbaaW.PrintWords Go.Proofs.YtbondhnhiinlbaaW.PrintLast Go.Proofs.YtbondhnhiinlbaaW.PrintMore
theorem refleap_eq (y : Int) (h : 0 ≤ y) : foliotref02_leap.f y = some (decide (lp y = 1)) := by
  unfold foliotref02_leap.f lp
  rw [tm_eq h, tm_eq h, tm_eq h]
  by_cases h4 : y % 4 = 0
  · by_cases h1 : y % 100 = 0
    · by_cases h2 : y % 400 = 0 <;> simp [h4, h1, h2]
    · simp [h4, h1]
  · have h2 : ¬ y % 400 = 0 := by omega
    simp [h4, h2]
theorem days_eq (y : Int) (h : 0 ≤ y) : foliotref02_days.f y = some (365 + lp y) := by
  unfold foliotref02_days.f
  rw [refleap_eq y h, Option.bind_some]
  rcases lp_01 y with e | e <;> rw [e] <;> simp
theorem first_l0 (y : Int) (hy : y ≤ 3000) : ∀ (d k : Nat) (x : Int), x + d = y → 1 ≤ x → foliotref02_first.l0 (k + d + 1) y (B x) x = some (B y)
  | 0, k, x, hx, h1 => by
    obtain rfl : x = y := by omega
    rw [foliotref02_first.l0, if_neg (by omega)]
  | d + 1, k, x, hx, h1 => by
    have hb := B_succ x h1
    have h0 := B_nonneg x h1
    have h3 : B x ≤ 366 * x := by unfold B; omega
    have hl := lp_01 x
    rw [show k + (d + 1) + 1 = (k + d + 1) + 1 from by omega, foliotref02_first.l0, if_pos (by omega), days_eq x (by omega), Option.bind_some, w_in (n := B x + (365 + lp x)) (by omega), w_in (n := x + 1) (by omega), show B x + (365 + lp x) = B (x + 1) from by omega]
    exact first_l0 y hy d k (x + 1) (by omega) (by omega)
theorem first_eq (y : Int) (hy : 1 ≤ y ∧ y ≤ 3000) (k : Nat) (hk : 3001 ≤ k) : foliotref02_first.f k y = some (B y) := by
  unfold foliotref02_first.f
  obtain ⟨d, hd⟩ : ∃ d : Nat, (1 : Int) + d = y := ⟨(y - 1).toNat, by omega⟩
  have h := first_l0 y hy.2 d (k - d - 1) 1 hd (by decide)
  rw [B_one, show k - d - 1 + d + 1 = k from by omega] at h
  exact h
theorem month_eq (k : Nat) (y : Int) (hy : 0 ≤ y) (j : Nat) (hj : j < 12) : foliotref02_month.f (k + 1) y ((j : Int) + 1) = some ((mtab (lp y)).getD j 0) := by
  have e29 : wrap64 29 = 29 := by decide +kernel
  have e28 : wrap64 28 = 28 := by decide +kernel
  rcases (show j = 0 ∨ j = 1 ∨ j = 2 ∨ j = 3 ∨ j = 4 ∨ j = 5 ∨ j = 6 ∨ j = 7 ∨ j = 8 ∨ j = 9 ∨ j = 10 ∨ j = 11 from by omega) with rfl | rfl | rfl | rfl | rfl | rfl | rfl | rfl | rfl | rfl | rfl | rfl
  case inr.inl =>
    simp only [foliotref02_month.f, foliotref02_month.j0, refleap_eq y hy]
    rcases lp_01 y with e | e <;> rw [e] <;> simp [mtab, e28, e29]
  all_goals simp [foliotref02_month.f, foliotref02_month.j0, mtab]
theorem ref_l1 {day y D : Int} {j : Nat} (hc : Cal day y j D) (x2 h mi s fr : Int) (k : Nat) : ∀ (n i : Nat), i + n = j →
    foliotref02_OfDate.l1 (k + n + 2) (day - B y - tsum ((mtab (lp y)).take i)) y ((i : Int) + 1) x2 h mi s fr = some (y, (j : Int) + 1, D, h, mi, s, fr, 0)
  | 0, i, hi => by
    obtain rfl : i = j := by omega
    have h1 := hc.d1
    have h2 := hc.d2
    have h3 := hc.at_
    have hb := hc.bounds
    rw [foliotref02_OfDate.l1, month_eq _ y (by have := hc.y1; omega) i hc.j2, Option.bind_some, if_neg (by omega), show day - B y - tsum ((mtab (lp y)).take i) + 1 = D from by omega, w_in (n := D) (by omega)]
  | n + 1, i, hi => by
    have h1 := hc.d1
    have h3 := hc.at_
    have hb := hc.bounds
    have hj := hc.j2
    have hBn := B_nonneg y hc.y1
    have ht := take_le (lp y) (lp_01 y) i (by omega)
    have hs := take_succ_sum (lp y) (lp_01 y) i (by omega)
    have hmp := month_pos (lp y) (lp_01 y) i (by omega)
    have hl := lp_01 y
    have hmono : ∀ m : Nat, m ≤ 12 → tsum ((mtab (lp y)).take (i + 1)) ≤ tsum ((mtab (lp y)).take (i + 1 + m)) ∨ 12 < i + 1 + m := by
      intro m
      induction m with
      | zero => intro _; exact .inl (Int.le_refl _)
      | succ m ih =>
        intro hm
        by_cases hlt : i + 1 + m < 12
        · have e1 := take_succ_sum (lp y) hl (i + 1 + m) hlt
          have e2 := month_pos (lp y) hl (i + 1 + m) hlt
          rcases ih (by omega) with h | h
          · left
            rw [show i + 1 + (m + 1) = i + 1 + m + 1 from by omega]
            omega
          · omega
        · right; omega
    have hle : tsum ((mtab (lp y)).take (i + 1)) ≤ tsum ((mtab (lp y)).take j) := by
      rcases hmono n (by omega) with h | h
      · rw [show i + 1 + n = j from by omega] at h
        exact h
      · omega
    rw [show k + (n + 1) + 2 = (k + n + 2) + 1 from by omega, foliotref02_OfDate.l1, month_eq _ y (by have := hc.y1; omega) i (by omega), Option.bind_some, if_pos (by omega), Option.bind_some, w_in (n := (i : Int) + 1 + 1) (by omega), w_in (by omega),
      show day - B y - tsum ((mtab (lp y)).take i) - (mtab (lp y)).getD i 0 = day - B y - tsum ((mtab (lp y)).take (i + 1)) from by omega]
    have h := ref_l1 hc x2 h mi s fr k n (i + 1) (by omega)
    rw [show (((i + 1 : Nat) : Int)) + 1 = (i : Int) + 1 + 1 from by omega] at h
    exact h
theorem ref_l0 {day y D : Int} {j : Nat} (hc : Cal day y j D) (h mi s fr : Int) (k : Nat) : ∀ (n : Nat) (x : Int), x + n = y → 1 ≤ x →
    foliotref02_OfDate.l0 (k + n + 15) (day - B x) x 1 0 h mi s fr = some (y, (j : Int) + 1, D, h, mi, s, fr, 0)
  | 0, x, hx, h1 => by
    obtain rfl : x = y := by omega
    have hb := hc.bounds
    have hB := B_succ x h1
    have hj := hc.j2
    rw [show k + 0 + 15 = (k + 14) + 1 from by omega, foliotref02_OfDate.l0, days_eq x (by omega), Option.bind_some, if_neg (by omega)]
    have h := ref_l1 hc 0 h mi s fr (k + 12 - j) j 0 (by omega)
    rw [show k + 12 - j + j + 2 = k + 14 from by omega, show (mtab (lp x)).take 0 = [] from rfl, show tsum [] = 0 from rfl, Int.sub_zero] at h
    exact h
  | n + 1, x, hx, h1 => by
    have hb := hc.bounds
    have hB := B_succ x h1
    have hm := B_mono (show x < y by omega)
    have h0 := B_nonneg x h1
    have hl := lp_01 x
    have hy2 := hc.y2
    rw [show k + (n + 1) + 15 = (k + n + 15) + 1 from by omega, foliotref02_OfDate.l0, days_eq x (by omega), Option.bind_some, if_pos (by omega), Option.bind_some, w_in (n := x + 1) (by omega), w_in (by omega), show day - B x - (365 + lp x) = day - B (x + 1) from by omega]
    exact ref_l0 hc h mi s fr k n (x + 1) (by omega) (by omega)
end Go.Proofs.Ytbondhnhiinlbaa.Pr
end
section
set_option linter.unusedVariables false
set_option linter.unusedSimpArgs false
namespace Go.Proofs.Ytbondhnhiinlbaa.Pr
open Go.RowKit Go.Proofs.YtbondhnhiinlbaaW.PrintWords Go.Proofs.YtbondhnhiinlbaaW.PrintLast Go.Proofs.YtbondhnhiinlbaaW.PrintMore
theorem refof_eq (e a : Int) (ha : 0 ≤ a ∧ a ≤ 18446744073709551615) (k : Nat) (hk : 6000 ≤ k) : foliotref02_OfDate.f k e a = stamp_OfDate.f e a := by
  obtain ⟨m, rfl⟩ : ∃ m, k = m + 6000 := ⟨k - 6000, by omega⟩
  unfold foliotref02_OfDate.f
  by_cases h1 : e < -20
  · rw [if_pos h1, ofdate_bad e a ha (by unfold good; omega)]
    simp [foliotref02_OfDate.j0]
  · rw [if_neg h1]
    by_cases h2 : e > 20
    · rw [decide_eq_true h2, ofdate_bad e a ha (by unfold good; omega)]
      simp [foliotref02_OfDate.j0]
    · rw [decide_eq_false h2, show m + 6000 = (m + 5999) + 1 from rfl, foliotref02_OfDate.j0, if_neg (by decide), first_eq 1900 (by decide) _ (by omega), Option.bind_some, first_eq 2101 (by decide) _ (by omega), Option.bind_some,
        show B 1900 = 693595 from by decide +kernel, B_2101]
      have hS : wrap64 (wrap64 (wrap64 (e * 4294967296) + wrap64 (a / 4294967296)) + wrap64 (693595 * 86400)) = secs e a := by
        unfold secs
        rw [w_in (n := e * 4294967296) (by omega), w_in (n := a / 4294967296) (by omega), w_in (n := e * 4294967296 + a / 4294967296) (by omega), w_in (n := (693595 : Int) * 86400) (by decide), w_in (by omega)]
        omega
      rw [hS]
      have hb : secs e a = e * 4294967296 + a / 4294967296 + 59926608000 := rfl
      by_cases h3 : secs e a < 0
      · rw [if_pos h3, ofdate_bad e a ha (by unfold good; omega), show m + 5999 = (m + 5998) + 1 from rfl, foliotref02_OfDate.j1, if_pos rfl]
      · rw [if_neg h3, w_in (n := (767009 : Int) * 86400) (by decide), show m + 5999 = (m + 5998) + 1 from rfl, foliotref02_OfDate.j1]
        by_cases h4 : secs e a ≥ 767009 * 86400
        · rw [decide_eq_true h4, if_pos rfl, ofdate_bad e a ha (by unfold good; omega)]
        · rw [decide_eq_false h4, if_neg (by decide)]
          have hg : good e a := by unfold good; omega
          obtain ⟨y, j, D, hc⟩ := Cal.exists (day := secs e a / 86400) (by omega) hg.2.2.2
          rw [ofdate_good e a ha hg hc]
          generalize secs e a = S at hc h3 h4 ⊢
          rw [td_eq (n := S) (by omega) 86400, td_eq (n := S) (by omega) 3600, td_eq (n := S) (by omega) 60, tm_eq (n := S) (by omega), w_in (n := S / 86400) (by omega), w_in (n := S / 3600) (by omega), w_in (n := S / 60) (by omega), tm_eq (by omega), tm_eq (by omega)]
          have hy1 := hc.y1
          have hy2 := hc.y2
          obtain ⟨d, hd⟩ : ∃ d : Nat, (1 : Int) + d = y := ⟨(y - 1).toNat, by omega⟩
          have h := ref_l0 hc (S / 3600 % 24) (S / 60 % 60) (S % 60) (a % 4294967296) (m + 5998 - d - 15) d 1 hd (by decide)
          rw [B_one, Int.sub_zero, show m + 5998 - d - 15 + d + 15 = m + 5998 from by omega] at h
          exact h
end Go.Proofs.Ytbondhnhiinlbaa.Pr
end
