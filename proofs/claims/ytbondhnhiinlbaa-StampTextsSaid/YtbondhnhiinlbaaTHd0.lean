/- The machine's call of stamp.number. -/
import Derived.Test.YtbondhnhiinlbaaTK0
import Derived.ScopeJumps
import Derived.WalkMore
namespace Go
theorem wp_scope_jumps2 {P : Program} {a : Act} {w : World} {Q : Exit → Act → World → Prop} {c rest : Code} (l : Nat) (J : Act → World → Prop) (μ : Act → World → Nat) (hf : findLabel c l = some (Code.skip.seq rest))
    (first : (∀ a w, J a w → rest.wp P (Exit.jump l J Q) a w) → c.wp P (Exit.jump l J Q) a w)
    (pass : ∀ a w, J a w → rest.wp P (Exit.jump l (fun a' w' => J a' w' ∧ μ a' w' < μ a w) Q) a w) : (Code.scope c).wp P Q a w :=
  wp_scope_jumps l J μ hf (first fun a w h => wp_mono (pass a w h) (fun e a w he => by
    cases e with
    | goto l' => exact ⟨he.1, he.2.1⟩
    | _ => exact he)) (fun a w h => wp_seq (wp_skip (pass a w h)))
end Go
set_option linter.unusedVariables false
set_option linter.unusedSimpArgs false
namespace Go.Proofs.Ytbondhnhiinlbaa.Pr
open Go.RowKit Go.Proofs.YtbondhnhiinlbaaW.PrintWords Go.Proofs.YtbondhnhiinlbaaW.PrintLast Go.Proofs.YtbondhnhiinlbaaW.PrintMore
def numRes (s : ByteArray) (many sign : Nat) : Int × ByteArray := match number s many sign with | some p => p | none => (-1, ⟨#[]⟩)
def endRes (s : ByteArray) (many sign : Nat) (o : Option Int) : Int × ByteArray :=
  match (o.bind fun n => if sign = 0 then (if s.size = many then some (n, ⟨#[]⟩) else none) else (if h : many < s.size then (if s[many].toNat = sign then some (n, s.extract (many + 1) s.size) else none) else none)) with | some p => p | none => (-1, ⟨#[]⟩)
theorem numRes_eq (s : ByteArray) (many sign : Nat) : numRes s many sign = endRes s many sign (digs s many 0 0) := rfl
set_option maxHeartbeats 4000000 in
set_option maxRecDepth 100000 in
theorem number_calls (s : ByteArray) (many sign : Nat) (hm : many ≤ 6) (hs : sign < 256) (w : World) (res : Int × ByteArray) (hres : endRes s many sign (digs s many 0 0) = res) :
    Calls Try.prog 38 #[.string s, .int .i64 (many : Int), .int .u8 (sign : Int)] w fun e w' => e = .returned (.tuple #[.int .i64 res.1, .string res.2]) ∧ ∃ k, w' = w.drewN k := by
  have HR := Aside0.mk hres
  clear hres
  go_enter Try.func38, Try.ntmps38
  go_wp2
  refine wp_scope_jumps2 0 (fun a' w' => w' = w ∧ ∃ (i : Nat) (n : Int) (u10 u11 u12 u13 u14 u15 u16 u17 u18 u19 u20 u21 u22 u23 u24 u25 u26 u27 u28 u29 u30 u31 u32 u33 u34 u35 u36 u37 u38 u39 u40 u41 u42 u43 u44 u45 u46 u47 u48 u49 u50 u51 u52 u53 u54 u55 u56 u57 u58 u59 u60 u61 u62 u63 u64 u65 u66 u67 u68 u69 : Value), a' = { tmps := #[.string s, .int .i64 (many : Int), .int .u8 (sign : Int), undef, undef, undef, .int .i64 0, .string ⟨#[]⟩, .int .i64 n, .int .i64 (i : Int), u10, u11, u12, u13, u14, u15, u16, u17, u18, u19, u20, u21, u22, u23, u24, u25, u26, u27, u28, u29, u30, u31, u32, u33, u34, u35, u36, u37, u38, u39, u40, u41, u42, u43, u44, u45, u46, u47, u48, u49, u50, u51, u52, u53, u54, u55, u56, u57, u58, u59, u60, u61, u62, u63, u64, u65, u66, u67, u68, u69], defers := [] } ∧ Aside0 (endRes s many sign (digs s (many - i) i n) = res) ∧ i ≤ many ∧ 0 ≤ n ∧ n < 10 ^ i) (fun a' _ => many - (intOf (a'.tmps.getD 9 undef)).toNat) rfl ?_ ?_
  · intro hrest
    go_wp2
    go_step3
    rename_i hcont
    refine hcont _ _ (hrest _ _ ?_)
    exact ⟨rfl, 0, 0, _, _, _, _, _, _, _, _, _, _, _, _, _, _, _, _, _, _, _, _, _, _, _, _, _, _, _, _, _, _, _, _, _, _, _, _, _, _, _, _, _, _, _, _, _, _, _, _, _, _, _, _, _, _, _, _, _, _, _, _, rfl, ⟨by have h := HR.out; exact h⟩, by omega, by omega, by decide⟩
  · rintro a' w' ⟨rfl, i, n, u10, u11, u12, u13, u14, u15, u16, u17, u18, u19, u20, u21, u22, u23, u24, u25, u26, u27, u28, u29, u30, u31, u32, u33, u34, u35, u36, u37, u38, u39, u40, u41, u42, u43, u44, u45, u46, u47, u48, u49, u50, u51, u52, u53, u54, u55, u56, u57, u58, u59, u60, u61, u62, u63, u64, u65, u66, u67, u68, u69, rfl, HR, hi, hn0, hn1⟩
    have e10 : (10 : Int) ^ i ≤ 1000000 := by
      have h : i ≤ 6 := by omega
      rcases (show i = 0 ∨ i = 1 ∨ i = 2 ∨ i = 3 ∨ i = 4 ∨ i = 5 ∨ i = 6 from by omega) with rfl | rfl | rfl | rfl | rfl | rfl | rfl <;> decide
    by_cases hlt : i < many
    · have hd0 : decide ((i : Int) < (many : Int)) = true := decide_eq_true (by omega)
      have hr := HR.out
      rw [show many - i = (many - (i + 1)) + 1 from by omega, digs] at hr
      by_cases hsz : i < s.size
      · have k0 : (0 : Int) ≤ (i : Int) := by omega
        have k1 : (i : Int) < (s.size : Int) := by omega
        have hd1 : decide ((s.size : Int) ≤ (i : Int)) = false := decide_eq_false (by omega)
        rw [dif_pos hsz] at hr
        by_cases hc : 48 ≤ s[i].toNat ∧ s[i].toNat ≤ 57
        · rw [if_pos hc] at hr
          obtain ⟨c, hcc⟩ : ∃ c : Int, (s[i].toNat : Int) = c := ⟨_, rfl⟩
          rw [hcc] at hr
          have HR2 := Aside0.mk hr
          have b1 : 48 ≤ c := by omega
          have b2 : c ≤ 57 := by omega
          have hd2 : decide (c < 48) = false := decide_eq_false (by omega)
          have hd3 : decide (57 < c) = false := decide_eq_false (by omega)
          have q1 : IntKind.u8.wrap (c - 48) = c - 48 := by rw [show IntKind.u8.wrap (c - 48) = (c - 48) % 256 from by simp [IntKind.wrap, IntKind.bits, IntKind.signed]]; omega
          have q2 : IntKind.i64.wrap (n * 10) = n * 10 := IntWalk.i64_in _ (by omega)
          have q3 : IntKind.i64.wrap (c - 48) = c - 48 := IntWalk.i64_in _ (by omega)
          have q4 : IntKind.i64.wrap (n * 10 + (c - 48)) = n * 10 + (c - 48) := IntWalk.i64_in _ (by omega)
          have q5 : IntKind.i64.wrap ((i : Int) + 1) = (i : Int) + 1 := IntWalk.i64_in _ (by omega)
          clear hr HR hc
          go_wp2
          go_step3
          refine ⟨rfl, ⟨rfl, i + 1, n * 10 + (c - 48), _, _, _, _, _, _, _, _, _, _, _, _, _, _, _, _, _, _, _, _, _, _, _, _, _, _, _, _, _, _, _, _, _, _, _, _, _, _, _, _, _, _, _, _, _, _, _, _, _, _, _, _, _, _, _, _, _, _, _, _, rfl, HR2, by omega, by omega, by rw [Int.pow_succ]; omega⟩, ?_⟩
          show many - ((i : Int) + 1).toNat < many - ((i : Int)).toNat
          omega
        · rw [if_neg hc] at hr
          have HQ : Aside0 (res = (-1, ⟨#[]⟩)) := ⟨hr.symm⟩
          obtain ⟨c, hcc⟩ : ∃ c : Int, (s[i].toNat : Int) = c := ⟨_, rfl⟩
          by_cases hlo : c < 48
          · have hd2 : decide (c < 48) = true := decide_eq_true hlo
            clear hr HR hc
            go_wp2
            simp only [Exit.jump]
            have hq := HQ.out
            subst hq
            exact bodyPost_ret (by simp [results, Try.results38, go_sem]) rfl ⟨rfl, 0, rfl⟩
          · have hd2 : decide (c < 48) = false := decide_eq_false hlo
            have hd3 : decide (57 < c) = true := decide_eq_true (by omega)
            clear hr HR hc
            go_wp2
            simp only [Exit.jump]
            have hq := HQ.out
            subst hq
            exact bodyPost_ret (by simp [results, Try.results38, go_sem]) rfl ⟨rfl, 0, rfl⟩
      · rw [dif_neg hsz] at hr
        have HQ : Aside0 (res = (-1, ⟨#[]⟩)) := ⟨hr.symm⟩
        have hd1 : decide ((s.size : Int) ≤ (i : Int)) = true := decide_eq_true (by omega)
        have hd1' : decide (s.size ≤ i) = true := decide_eq_true (by omega)
        clear hr HR
        go_wp2
        simp only [Exit.jump]
        have hq := HQ.out
        subst hq
        exact bodyPost_ret (by simp [results, Try.results38, go_sem]) rfl ⟨rfl, 0, rfl⟩
    · obtain rfl : i = many := by omega
      have hd0 : decide ((i : Int) < (i : Int)) = false := decide_eq_false (by omega)
      have hr := HR.out
      rw [Nat.sub_self, digs] at hr
      unfold endRes at hr
      simp only [Option.bind_some] at hr
      clear HR
      by_cases hs0 : sign = 0
      · subst hs0
        rw [if_pos rfl] at hr
        by_cases hl : s.size = i
        · rw [if_pos hl] at hr
          have HQ : Aside0 (res = (n, ⟨#[]⟩)) := ⟨hr.symm⟩
          have d1 : (s.size == i) = true := beq_iff_eq.mpr hl
          have d2 : ((s.size : Int) == (i : Int)) = true := beq_iff_eq.mpr (by omega)
          clear hr
          go_wp2
          simp only [Exit.jump]
          have hq := HQ.out
          subst hq
          exact bodyPost_ret (by simp [results, Try.results38, go_sem]) rfl ⟨rfl, 0, rfl⟩
        · rw [if_neg hl] at hr
          have HQ : Aside0 (res = (-1, ⟨#[]⟩)) := ⟨hr.symm⟩
          have d1 : (s.size == i) = false := beq_eq_false_iff_ne.mpr hl
          have d2 : ((s.size : Int) == (i : Int)) = false := beq_eq_false_iff_ne.mpr (by omega)
          clear hr
          go_wp2
          simp only [Exit.jump]
          have hq := HQ.out
          subst hq
          exact bodyPost_ret (by simp [results, Try.results38, go_sem]) rfl ⟨rfl, 0, rfl⟩
      · rw [if_neg hs0] at hr
        have c1 : (sign == 0) = false := beq_eq_false_iff_ne.mpr hs0
        have c2 : ((sign : Int) == 0) = false := beq_eq_false_iff_ne.mpr (by omega)
        have c3 : ((sign : Int) != 0) = true := bne_iff_ne.mpr (by omega)
        by_cases hl : i < s.size
        · rw [dif_pos hl] at hr
          have d1 : decide (i < s.size) = true := decide_eq_true hl
          have d2 : decide ((i : Int) < (s.size : Int)) = true := decide_eq_true (by omega)
          have k0 : (0 : Int) ≤ (i : Int) := by omega
          have k1 : (i : Int) < (s.size : Int) := by omega
          by_cases hc : s[i].toNat = sign
          · rw [if_pos hc] at hr
            have HQ : Aside0 (res = (n, s.extract (i + 1) s.size)) := ⟨hr.symm⟩
            have e1 : ((s[i].toNat : Int) == (sign : Int)) = true := beq_iff_eq.mpr (by omega)
            have e2 : (s[i].toNat == sign) = true := beq_iff_eq.mpr hc
            clear hr
            have q5 : IntKind.i64.wrap ((i : Int) + 1) = (i : Int) + 1 := IntWalk.i64_in _ (by omega)
            have p0 : (0 : Int) ≤ (i : Int) + 1 := by omega
            have p1 : (i : Int) + 1 ≤ (s.size : Int) := by omega
            have p2 : ((i : Int) + 1).toNat = i + 1 := by omega
            go_wp2
            go_quiet (fail)
            go_wp2
            simp only [Exit.jump]
            have hq := HQ.out
            subst hq
            exact bodyPost_ret (by simp [results, Try.results38, go_sem]) rfl ⟨rfl, _, rfl⟩
          · rw [if_neg hc] at hr
            have HQ : Aside0 (res = (-1, ⟨#[]⟩)) := ⟨hr.symm⟩
            have e1 : ((s[i].toNat : Int) == (sign : Int)) = false := beq_eq_false_iff_ne.mpr (by omega)
            have e2 : (s[i].toNat == sign) = false := beq_eq_false_iff_ne.mpr hc
            clear hr
            go_wp2
            simp only [Exit.jump]
            have hq := HQ.out
            subst hq
            exact bodyPost_ret (by simp [results, Try.results38, go_sem]) rfl ⟨rfl, 0, rfl⟩
        · rw [dif_neg hl] at hr
          have HQ : Aside0 (res = (-1, ⟨#[]⟩)) := ⟨hr.symm⟩
          have d1 : decide (i < s.size) = false := decide_eq_false hl
          have d2 : decide ((i : Int) < (s.size : Int)) = false := decide_eq_false (by omega)
          clear hr
          go_wp2
          simp only [Exit.jump]
          have hq := HQ.out
          subst hq
          exact bodyPost_ret (by simp [results, Try.results38, go_sem]) rfl ⟨rfl, 0, rfl⟩
end Go.Proofs.Ytbondhnhiinlbaa.Pr
