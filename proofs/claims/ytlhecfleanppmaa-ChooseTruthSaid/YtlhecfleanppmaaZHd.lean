/- The machine's call of choose.point, from above. -/
import Derived.Test.YtlhecfleanppmaaZHa
import Derived.ScopeJumps
import Derived.WalkMore
import Derived.Test.YtlhecfleanppmaaZHc
set_option linter.unusedVariables false
namespace Go.Proofs.Ytlhecfleanppmaa.Pr
open Go.RowKit Go.Proofs.YtlhecfleanppmaaW.PrintWords Go.Proofs.YtlhecfleanppmaaW.PrintLast Go.Proofs.YtlhecfleanppmaaW.PrintMore Go.Proofs.YFl

set_option maxRecDepth 100000 in
set_option maxHeartbeats 2000000 in
theorem point_dn (A : Option Addr) (c : Nat) (xs : List Cx) (wanted : Int) (w : World) (hr : Kd.C kcx w A xs.length xs) (hc : xs.length ≤ c) (hn : xs.length ≤ 192) (hk : Kinds xs) (hw : 0 ≤ wanted ∧ wanted ≤ 192) (res : Int × Int × Bool) (hres : ptRes (ptf (-1) wanted (leftDn xs xs.length) 0 0) = res) :
    Calls Try.prog 33 #[.slice A xs.length c, .int .i64 (-1), .int .i64 wanted] w fun e w' => e = .returned (.tuple #[.float .f64 (fl res.1), .int .i64 res.2.1, .bool res.2.2]) ∧ w' = w := by
  have HR := Aside0.mk hr
  have HK := Aside0.mk hk
  have HRES := Aside0.mk hres
  have HN := Aside0.mk hn
  clear hr hk hres
  obtain ⟨hw0, hw1⟩ := hw
  go_enter Try.func33, Try.ntmps33
  go_wp2
  refine wp_scope_jumps2 0 (fun a' w' => w' = w ∧ ∃ (i : Nat) (count mids : Int) (u12 u13 u14 u15 u16 u17 u18 u19 u20 u21 u22 u23 u24 u25 u26 u27 u28 u29 u30 u31 u32 u33 u34 u35 u36 u37 u38 u39 u40 u41 u42 u43 u44 u45 u46 u47 u48 u49 u50 : Value), a' = { tmps := #[Value.slice A xs.length c, .int .i64 (-1), .int .i64 wanted, undef, undef, undef, .float .f64 0, .int .i64 0, .bool false, .int .i64 ((i : Int) - 1), .int .i64 count, .int .i64 mids, u12, u13, u14, u15, u16, u17, u18, u19, u20, u21, u22, u23, u24, u25, u26, u27, u28, u29, u30, u31, u32, u33, u34, u35, u36, u37, u38, u39, u40, u41, u42, u43, u44, u45, u46, u47, u48, u49, u50], defers := [] } ∧ Aside0 (ptRes (ptf (-1) wanted (leftDn xs i) count mids) = res) ∧ i ≤ xs.length ∧ -192 + ((i : Int) : Int) ≤ count ∧ count ≤ 192 - ((i : Int) : Int) ∧ 0 ≤ mids ∧ mids ≤ 192 - ((i : Int) : Int)) (fun a' _ => (intOf (a'.tmps.getD 9 undef) + 1).toNat) rfl ?_ ?_
  · intro hrest
    go_wp2
    go_step3
    rename_i hcont
    refine hcont _ _ (hrest _ _ ?_)
    exact ⟨rfl, xs.length, 0, 0, _, _, _, _, _, _, _, _, _, _, _, _, _, _, _, _, _, _, _, _, _, _, _, _, _, _, _, _, _, _, _, _, _, _, _, _, _, _, _, rfl, HRES, by omega, by omega, by omega, by omega, by omega⟩
  · rintro a' w' ⟨rfl, i, count, mids, u12, u13, u14, u15, u16, u17, u18, u19, u20, u21, u22, u23, u24, u25, u26, u27, u28, u29, u30, u31, u32, u33, u34, u35, u36, u37, u38, u39, u40, u41, u42, u43, u44, u45, u46, u47, u48, u49, u50, rfl, HP, hi, hc1, hc2, hm1, hm2⟩
    by_cases hin : 0 < i
    · obtain ⟨m, rfl⟩ : ∃ m, i = m + 1 := ⟨i - 1, by omega⟩
      rw [show (((m + 1 : Nat) : Int) - 1) = (m : Int) from by omega]
      obtain ⟨ad, ea, hcell⟩ := cell_cx HR.out m (by omega)
      cases ea
      obtain ⟨hsr, hkk⟩ := HK.out.rd m
      have HSR := Aside0.mk hsr
      clear hsr
      obtain ⟨x, hx⟩ : ∃ x, x = rdx xs m := ⟨_, rfl⟩
      rw [← hx] at hcell hkk
      have HX := Aside0.mk hx
      clear hx
      have hk1 : -1 ≤ x.im := by omega
      have hk2 : x.im ≤ 1 := by omega
      have hsm : Small x.im := by unfold Small; omega
      have hcv : ∀ W : World, (convert 52 3 (.float .f64 (fl x.im))).run Try.prog W = .ok (.int .i64 x.im) W := fun W => run_convert_float_int W 52 3 .f64 .i64 _ _ rfl Try.underlying3 (toInt_fl _ hsm)
      clear hkk
      have p1 : (0 : Int) ≤ (m : Int) := by omega
      have p2 : (m : Int) < (xs.length : Int) := by omega
      have p3 : ((m : Int) == (xs.length : Int)) = false := beq_eq_false_iff_ne.mpr (by omega)
      have p4 : (m == xs.length) = false := beq_eq_false_iff_ne.mpr (by omega)
      clear hin
      by_cases hx0 : x.im = 0
      · by_cases hxq : count + x.im = wanted
        · have hdummy : True := trivial
          have hz : (FloatKind.f64.format.order (fl x.im) 0 == some .eq) = true := by rw [← fl_zero, eq_fl _ _ hsm small_0, hx0]; rfl
          have hq : ((count + x.im : Int) == wanted) = true := beq_iff_eq.mpr hxq
          have HPP := HP.out
          rw [leftDn_cons xs m (by omega), ← HX.out] at HPP
          unfold ptf at HPP
          rw [if_pos (show count - (-1) * x.im = wanted by omega), if_pos hx0] at HPP
          have HPQ := Aside0.mk HPP
          have HX0 := Aside0.mk hx0
          have HXQ := Aside0.mk hxq
          clear HP HPP hx0 hxq hdummy
          clear hsm
          go_wp2
          simp only [Exit.jump]
          go_ret3
          rw [← HPQ.out]
          exact ⟨rfl, rfl⟩
        · have hdummy : True := trivial
          have hz : (FloatKind.f64.format.order (fl x.im) 0 == some .eq) = true := by rw [← fl_zero, eq_fl _ _ hsm small_0, hx0]; rfl
          have hq : ((count + x.im : Int) == wanted) = false := beq_eq_false_iff_ne.mpr hxq
          have HPP := HP.out
          rw [leftDn_cons xs m (by omega), ← HX.out] at HPP
          unfold ptf at HPP
          rw [if_neg (show ¬ (count - (-1) * x.im = wanted) by omega), if_pos hx0] at HPP
          have HPQ := Aside0.mk HPP
          have HX0 := Aside0.mk hx0
          have HXQ := Aside0.mk hxq
          clear HP HPP hx0 hxq hdummy
          clear hsm
          go_wp2
          go_step3
          have hnc : (count + x.im : Int) = count - (-1) * x.im := by omega
          refine ⟨rfl, ⟨rfl, m, count + x.im, mids + 1, _, _, _, _, _, _, _, _, _, _, _, _, _, _, _, _, _, _, _, _, _, _, _, _, _, _, _, _, _, _, _, _, _, _, _, _, _, _, _, rfl, ⟨?_⟩, by omega, by omega, by omega, by omega, by omega⟩, ?_⟩
          · rw [hnc]; exact HPQ.out
          · show (((m : Int) + -1) + 1).toNat < ((m : Int) + 1).toNat; omega
      · by_cases hxq : count + x.im = wanted
        · have hdummy : True := trivial
          have hz : (FloatKind.f64.format.order (fl x.im) 0 == some .eq) = false := by rw [← fl_zero, eq_fl _ _ hsm small_0]; exact decide_eq_false hx0
          have hq : ((count + x.im : Int) == wanted) = true := beq_iff_eq.mpr hxq
          have HPP := HP.out
          rw [leftDn_cons xs m (by omega), ← HX.out] at HPP
          unfold ptf at HPP
          rw [if_pos (show count - (-1) * x.im = wanted by omega), if_neg hx0] at HPP
          have HPQ := Aside0.mk HPP
          have HX0 := Aside0.mk hx0
          have HXQ := Aside0.mk hxq
          clear HP HPP hx0 hxq hdummy
          clear hsm
          go_wp2
          simp only [Exit.jump]
          go_ret3
          rw [← HPQ.out]
          exact ⟨rfl, rfl⟩
        · have hdummy : True := trivial
          have hz : (FloatKind.f64.format.order (fl x.im) 0 == some .eq) = false := by rw [← fl_zero, eq_fl _ _ hsm small_0]; exact decide_eq_false hx0
          have hq : ((count + x.im : Int) == wanted) = false := beq_eq_false_iff_ne.mpr hxq
          have HPP := HP.out
          rw [leftDn_cons xs m (by omega), ← HX.out] at HPP
          unfold ptf at HPP
          rw [if_neg (show ¬ (count - (-1) * x.im = wanted) by omega), if_neg hx0] at HPP
          have HPQ := Aside0.mk HPP
          have HX0 := Aside0.mk hx0
          have HXQ := Aside0.mk hxq
          clear HP HPP hx0 hxq hdummy
          clear hsm
          go_wp2
          go_step3
          have hnc : (count + x.im : Int) = count - (-1) * x.im := by omega
          refine ⟨rfl, ⟨rfl, m, count + x.im, mids, _, _, _, _, _, _, _, _, _, _, _, _, _, _, _, _, _, _, _, _, _, _, _, _, _, _, _, _, _, _, _, _, _, _, _, _, _, _, _, rfl, ⟨?_⟩, by omega, by omega, by omega, by omega, by omega⟩, ?_⟩
          · rw [hnc]; exact HPQ.out
          · show (((m : Int) + -1) + 1).toNat < ((m : Int) + 1).toNat; omega
    · have hi2 : i = 0 := by omega
      rw [show ((i : Int) - 1) = -1 from by omega]
      have HPP := HP.out
      rw [show leftDn xs i = [] from by unfold leftDn; rw [hi2]; rfl] at HPP
      have HPQ := Aside0.mk HPP
      clear HP HPP hin
      have HI2 := Aside0.mk hi2
      clear hi2
      go_wp2
      simp only [Exit.jump]
      go_ret3
      rw [← HPQ.out]
      exact ⟨by show _ = Ending.returned (.tuple #[.float .f64 (fl 0), _, _]); rw [fl_zero]; rfl, rfl⟩
end Go.Proofs.Ytlhecfleanppmaa.Pr
