/- The machine's call of choose.point. -/
import Derived.Test.YtlhecfleanppmaaZHa
import Derived.ScopeJumps
import Derived.WalkMore
namespace Go
theorem wp_scope_jumps2 {P : Program} {a : Act} {w : World} {Q : Exit → Act → World → Prop} {c rest : Code} (l : Nat) (J : Act → World → Prop) (μ : Act → World → Nat) (hf : findLabel c l = some (Code.skip.seq rest))
    (first : (∀ a w, J a w → rest.wp P (Exit.jump l J Q) a w) → c.wp P (Exit.jump l J Q) a w)
    (pass : ∀ a w, J a w → rest.wp P (Exit.jump l (fun a' w' => J a' w' ∧ μ a' w' < μ a w) Q) a w) : (Code.scope c).wp P Q a w :=
  wp_scope_jumps l J μ hf (first fun a w h => wp_mono (pass a w h) (fun e a w he => by
    cases e with
    | goto l' => exact ⟨he.1, he.2.1⟩
    | _ => exact he)) (fun a w h => wp_seq (wp_skip (pass a w h)))
end Go
set_option linter.unusedVariables false
namespace Go.Proofs.Ytlhecfleanppmaa.Pr
open Go.RowKit Go.Proofs.YtlhecfleanppmaaW.PrintWords Go.Proofs.YtlhecfleanppmaaW.PrintLast Go.Proofs.YtlhecfleanppmaaW.PrintMore Go.Proofs.YFl

def ptf (side : Int) (wanted : Int) : List Cx → Int → Int → Option (Int × Int)
  | [], _, _ => none
  | e :: l, count, mids => if count - side * e.im = wanted then some (e.re, if e.im = 0 then mids + 1 else mids) else ptf side wanted l (count - side * e.im) (if e.im = 0 then mids + 1 else mids)
def ptRes : Option (Int × Int) → Int × Int × Bool
  | none => (0, 0, false)
  | some (a, b) => (a, b, true)
/-- kinds of ends -/
def Kinds (xs : List Cx) : Prop := ∀ x ∈ xs, Small x.re ∧ (x.im = -1 ∨ x.im = 0 ∨ x.im = 1)
def rdx (xs : List Cx) (i : Nat) : Cx := xs.getD i zcx
theorem Kinds.rd {xs : List Cx} (h : Kinds xs) (i : Nat) : Small (rdx xs i).re ∧ ((rdx xs i).im = -1 ∨ (rdx xs i).im = 0 ∨ (rdx xs i).im = 1) := by
  unfold rdx
  rw [List.getD_eq_getElem?_getD]
  rcases hi : xs[i]? with _ | x
  · exact ⟨by unfold Small zcx; simp, .inr (.inl rfl)⟩
  · obtain ⟨hl, rfl⟩ := List.getElem?_eq_some_iff.1 hi
    exact h _ (List.getElem_mem hl)
theorem cell_cx {w : World} {A : Option Addr} {xs : List Cx} (hr : Kd.C kcx w A xs.length xs) (i : Nat) (hi : i < xs.length) : ∃ ad, A = some ad ∧ w.cell? (ad.add i) = some (.complex .f64 (fl (rdx xs i).re) (fl (rdx xs i).im)) := by
  obtain ⟨ad, cs, e, _, hK, hc⟩ := Kd.C_get hr zcx (i : Int) (by omega) (by omega)
  have hK' : cs = [encx (xs.getD (i : Int).toNat zcx)] := hK
  subst hK'
  refine ⟨ad, e, ?_⟩
  have h0 := hc 0 _ rfl
  have hs : kcx.sz = 1 := rfl
  rw [hs, Int.toNat_natCast, Nat.mul_one, Nat.add_zero] at h0
  exact h0
theorem small_0 : Small 0 := by unfold Small; omega
/-- what is left of the ends, from a place on -/
def leftUp (xs : List Cx) (i : Nat) : List Cx := xs.drop i
def leftDn (xs : List Cx) (i : Nat) : List Cx := (xs.take i).reverse
theorem leftUp_cons (xs : List Cx) (i : Nat) (h : i < xs.length) : leftUp xs i = rdx xs i :: leftUp xs (i + 1) := by
  unfold leftUp rdx
  rw [List.drop_eq_getElem_cons h, List.getD_eq_getElem?_getD, List.getElem?_eq_getElem h]
  rfl
theorem leftDn_cons (xs : List Cx) (i : Nat) (h : i < xs.length) : leftDn xs (i + 1) = rdx xs i :: leftDn xs i := by
  unfold leftDn rdx
  rw [List.take_succ_eq_append_getElem h, List.reverse_append, List.getD_eq_getElem?_getD, List.getElem?_eq_getElem h]
  rfl

set_option maxRecDepth 100000 in
set_option maxHeartbeats 2000000 in
theorem point_up (A : Option Addr) (c : Nat) (xs : List Cx) (wanted : Int) (w : World) (hr : Kd.C kcx w A xs.length xs) (hc : xs.length ≤ c) (hn : xs.length ≤ 192) (hk : Kinds xs) (hw : 0 ≤ wanted ∧ wanted ≤ 192) (res : Int × Int × Bool) (hres : ptRes (ptf 1 wanted (leftUp xs 0) 0 0) = res) :
    Calls Try.prog 33 #[.slice A xs.length c, .int .i64 1, .int .i64 wanted] w fun e w' => e = .returned (.tuple #[.float .f64 (fl res.1), .int .i64 res.2.1, .bool res.2.2]) ∧ w' = w := by
  have HR := Aside0.mk hr
  have HK := Aside0.mk hk
  have HRES := Aside0.mk hres
  have HN := Aside0.mk hn
  clear hr hk hres
  obtain ⟨hw0, hw1⟩ := hw
  go_enter Try.func33, Try.ntmps33
  go_wp2
  refine wp_scope_jumps2 0 (fun a' w' => w' = w ∧ ∃ (i : Nat) (count mids : Int) (u12 u13 u14 u15 u16 u17 u18 u19 u20 u21 u22 u23 u24 u25 u26 u27 u28 u29 u30 u31 u32 u33 u34 u35 u36 u37 u38 u39 u40 u41 u42 u43 u44 u45 u46 u47 u48 u49 u50 : Value), a' = { tmps := #[Value.slice A xs.length c, .int .i64 1, .int .i64 wanted, undef, undef, undef, .float .f64 0, .int .i64 0, .bool false, .int .i64 (i : Int), .int .i64 count, .int .i64 mids, u12, u13, u14, u15, u16, u17, u18, u19, u20, u21, u22, u23, u24, u25, u26, u27, u28, u29, u30, u31, u32, u33, u34, u35, u36, u37, u38, u39, u40, u41, u42, u43, u44, u45, u46, u47, u48, u49, u50], defers := [] } ∧ Aside0 (ptRes (ptf 1 wanted (leftUp xs i) count mids) = res) ∧ i ≤ xs.length ∧ -192 + ((xs.length : Int) - i : Int) ≤ count ∧ count ≤ 192 - ((xs.length : Int) - i : Int) ∧ 0 ≤ mids ∧ mids ≤ 192 - ((xs.length : Int) - i : Int)) (fun a' _ => xs.length - (intOf (a'.tmps.getD 9 undef)).toNat) rfl ?_ ?_
  · intro hrest
    go_wp2
    go_step3
    rename_i hcont
    refine hcont _ _ (hrest _ _ ?_)
    exact ⟨rfl, 0, 0, 0, _, _, _, _, _, _, _, _, _, _, _, _, _, _, _, _, _, _, _, _, _, _, _, _, _, _, _, _, _, _, _, _, _, _, _, _, _, _, _, rfl, HRES, by omega, by omega, by omega, by omega, by omega⟩
  · rintro a' w' ⟨rfl, i, count, mids, u12, u13, u14, u15, u16, u17, u18, u19, u20, u21, u22, u23, u24, u25, u26, u27, u28, u29, u30, u31, u32, u33, u34, u35, u36, u37, u38, u39, u40, u41, u42, u43, u44, u45, u46, u47, u48, u49, u50, rfl, HP, hi, hc1, hc2, hm1, hm2⟩
    by_cases hin : i < xs.length
    · have hdd : True := trivial
      obtain ⟨ad, ea, hcell⟩ := cell_cx HR.out i (by omega)
      cases ea
      obtain ⟨hsr, hkk⟩ := HK.out.rd i
      have HSR := Aside0.mk hsr
      clear hsr
      obtain ⟨x, hx⟩ : ∃ x, x = rdx xs i := ⟨_, rfl⟩
      rw [← hx] at hcell hkk
      have HX := Aside0.mk hx
      clear hx
      have hk1 : -1 ≤ x.im := by omega
      have hk2 : x.im ≤ 1 := by omega
      have hsm : Small x.im := by unfold Small; omega
      have hcv : ∀ W : World, (convert 52 3 (.float .f64 (fl x.im))).run Try.prog W = .ok (.int .i64 x.im) W := fun W => run_convert_float_int W 52 3 .f64 .i64 _ _ rfl Try.underlying3 (toInt_fl _ hsm)
      clear hkk
      have p1 : (0 : Int) ≤ (i : Int) := by omega
      have p2 : (i : Int) < (xs.length : Int) := by omega
      have p3 : ((i : Int) == (xs.length : Int)) = false := beq_eq_false_iff_ne.mpr (by omega)
      have p4 : (i == xs.length) = false := beq_eq_false_iff_ne.mpr (by omega)
      by_cases hx0 : x.im = 0
      · by_cases hxq : count - x.im = wanted
        · have hdummy : True := trivial
          have hz : (FloatKind.f64.format.order (fl x.im) 0 == some .eq) = true := by rw [← fl_zero, eq_fl _ _ hsm small_0, hx0]; rfl
          have hq : ((count - x.im : Int) == wanted) = true := beq_iff_eq.mpr hxq
          have HPP := HP.out
          rw [leftUp_cons xs i hin, ← HX.out] at HPP
          unfold ptf at HPP
          rw [if_pos (show count - 1 * x.im = wanted by omega), if_pos hx0] at HPP
          have HPQ := Aside0.mk HPP
          have HX0 := Aside0.mk hx0
          have HXQ := Aside0.mk hxq
          clear HP HPP hx0 hxq hdummy
          clear hsm
          go_wp2
          simp only [Exit.jump]
          go_ret3
          rw [← HPQ.out]
          exact ⟨rfl, rfl⟩
        · have hdummy : True := trivial
          have hz : (FloatKind.f64.format.order (fl x.im) 0 == some .eq) = true := by rw [← fl_zero, eq_fl _ _ hsm small_0, hx0]; rfl
          have hq : ((count - x.im : Int) == wanted) = false := beq_eq_false_iff_ne.mpr hxq
          have HPP := HP.out
          rw [leftUp_cons xs i hin, ← HX.out] at HPP
          unfold ptf at HPP
          rw [if_neg (show ¬ (count - 1 * x.im = wanted) by omega), if_pos hx0] at HPP
          have HPQ := Aside0.mk HPP
          have HX0 := Aside0.mk hx0
          have HXQ := Aside0.mk hxq
          clear HP HPP hx0 hxq hdummy
          clear hsm
          go_wp2
          go_step3
          have hnc : (count - x.im : Int) = count - 1 * x.im := by omega
          refine ⟨rfl, ⟨rfl, i + 1, count - x.im, mids + 1, _, _, _, _, _, _, _, _, _, _, _, _, _, _, _, _, _, _, _, _, _, _, _, _, _, _, _, _, _, _, _, _, _, _, _, _, _, _, _, rfl, ⟨?_⟩, by omega, by omega, by omega, by omega, by omega⟩, ?_⟩
          · rw [hnc]; exact HPQ.out
          · show xs.length - ((i : Int) + 1).toNat < xs.length - ((i : Int)).toNat; omega
      · by_cases hxq : count - x.im = wanted
        · have hdummy : True := trivial
          have hz : (FloatKind.f64.format.order (fl x.im) 0 == some .eq) = false := by rw [← fl_zero, eq_fl _ _ hsm small_0]; exact decide_eq_false hx0
          have hq : ((count - x.im : Int) == wanted) = true := beq_iff_eq.mpr hxq
          have HPP := HP.out
          rw [leftUp_cons xs i hin, ← HX.out] at HPP
          unfold ptf at HPP
          rw [if_pos (show count - 1 * x.im = wanted by omega), if_neg hx0] at HPP
          have HPQ := Aside0.mk HPP
          have HX0 := Aside0.mk hx0
          have HXQ := Aside0.mk hxq
          clear HP HPP hx0 hxq hdummy
          clear hsm
          go_wp2
          simp only [Exit.jump]
          go_ret3
          rw [← HPQ.out]
          exact ⟨rfl, rfl⟩
        · have hdummy : True := trivial
          have hz : (FloatKind.f64.format.order (fl x.im) 0 == some .eq) = false := by rw [← fl_zero, eq_fl _ _ hsm small_0]; exact decide_eq_false hx0
          have hq : ((count - x.im : Int) == wanted) = false := beq_eq_false_iff_ne.mpr hxq
          have HPP := HP.out
          rw [leftUp_cons xs i hin, ← HX.out] at HPP
          unfold ptf at HPP
          rw [if_neg (show ¬ (count - 1 * x.im = wanted) by omega), if_neg hx0] at HPP
          have HPQ := Aside0.mk HPP
          have HX0 := Aside0.mk hx0
          have HXQ := Aside0.mk hxq
          clear HP HPP hx0 hxq hdummy
          clear hsm
          go_wp2
          go_step3
          have hnc : (count - x.im : Int) = count - 1 * x.im := by omega
          refine ⟨rfl, ⟨rfl, i + 1, count - x.im, mids, _, _, _, _, _, _, _, _, _, _, _, _, _, _, _, _, _, _, _, _, _, _, _, _, _, _, _, _, _, _, _, _, _, _, _, _, _, _, _, rfl, ⟨?_⟩, by omega, by omega, by omega, by omega, by omega⟩, ?_⟩
          · rw [hnc]; exact HPQ.out
          · show xs.length - ((i : Int) + 1).toNat < xs.length - ((i : Int)).toNat; omega
    · have hi2 : i = xs.length := by omega
      have p1 : ¬ ((i : Int) < 0) := by omega
      have p3 : ((i : Int) == (xs.length : Int)) = true := beq_iff_eq.mpr (by omega)
      have p4 : (i == xs.length) = true := beq_iff_eq.mpr (by omega)
      have HPP := HP.out
      rw [show leftUp xs i = [] from by unfold leftUp; rw [hi2]; exact List.drop_length] at HPP
      have HPQ := Aside0.mk HPP
      clear HP HPP
      have HI2 := Aside0.mk hi2
      clear hi2
      go_wp2
      simp only [Exit.jump]
      go_ret3
      rw [← HPQ.out]
      exact ⟨by show _ = Ending.returned (.tuple #[.float .f64 (fl 0), _, _]); rw [fl_zero]; rfl, rfl⟩
end Go.Proofs.Ytlhecfleanppmaa.Pr
