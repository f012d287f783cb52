/- ChooseOrder, told plainly: in which order candidates are told changes nothing but the order of those who survive. -/
import Derived.Test.YtlhecfleanppmaaPd
import Derived.Test.YtlhecfleanppmaaPrx32
set_option linter.unusedVariables false
namespace Go.Proofs.Ytlhecfleanppmaa.Pr
open Go.RowKit Go.Proofs.YtlhecfleanppmaaW.PrintWords Go.Proofs.YtlhecfleanppmaaW.PrintLast Go.Proofs.YtlhecfleanppmaaW.PrintMore Go.Proofs.YFl Go.Proofs.Ytlhecfleanppmaa.Rw

theorem thatOf_short (l : List S26) (h : l.length ≤ 64) : thatOf l = l.filter cnt := by
  rw [thatOf_eq, List.take_of_length_le]
  exact Nat.le_trans (List.length_filter_le _ _) h
theorem ahead_anti (a b : Cx) (h1 : aheadB b a = false) (h2 : aheadB a b = false) : a = b := by
  rw [ahead_false] at h1 h2
  obtain ⟨a1, a2⟩ := a
  obtain ⟨b1, b2⟩ := b
  simp only [Cx.mk.injEq]
  dsimp only at h1 h2
  omega
theorem perm_that {l m : List S26} (hp : m.Perm l) (hl : l.length ≤ 60) : (thatOf m).Perm (thatOf l) := by
  rw [thatOf_short l (by omega), thatOf_short m (by rw [hp.length_eq]; omega)]
  exact hp.filter _
theorem perm_ends {l m : List S26} (hp : m.Perm l) (hl : l.length ≤ 60) : endsOf m = endsOf l := by
  have h1 : (rawEnds m).Perm (rawEnds l) := (perm_that hp hl).flatMap_right _
  exact List.Perm.eq_of_pairwise (le := fun a b => aheadB b a = false) (fun a b _ _ h1 h2 => ahead_anti a b h1 h2) (ends_sorted m) (ends_sorted l) ((ends_perm m).trans (h1.trans (ends_perm l).symm))
theorem perm_meet {l m : List S26} (hp : m.Perm l) (hl : l.length ≤ 60) : meetOf m = meetOf l := by
  unfold meetOf
  rw [perm_ends hp hl, (perm_that hp hl).length_eq]
theorem perm_surv {l m : List S26} (hp : m.Perm l) (hl : l.length ≤ 60) : (survOf m).length = (survOf l).length := by
  unfold survOf
  rw [perm_meet hp hl]
  split
  · exact ((perm_that hp hl).filter _).length_eq
  · rfl
theorem order_end (l m : List S26) (hp : m.Perm l) (hl : l.length ≤ 60) : Ev (fun k => foliotlaw13_ChooseOrder.j1 k l m) true := by
  obtain ⟨K1, g1⟩ := surv_ev l (by omega)
  obtain ⟨K2, g2⟩ := surv_ev m (by rw [hp.length_eq]; omega)
  obtain ⟨K3, g3⟩ := refMeet_ev l (by omega)
  refine ⟨K1 + K2 + K3 + 1, fun k hk => ?_⟩
  obtain ⟨k, rfl⟩ : ∃ m, k = m + 1 := ⟨k - 1, by omega⟩
  have m1 := g1 k (by omega)
  have m2 := g2 k (by omega)
  have m3 := g3 k (by omega)
  dsimp only at m1 m2 m3
  have a1 : choose_Meet.f l = some (meetOf l) := rfl
  have a2 : choose_Meet.f m = some (meetOf l) := by rw [← perm_meet hp hl]; rfl
  simp only [foliotlaw13_ChooseOrder.j1]
  rw [a1, a2, m3]
  simp only [Option.bind_some]
  rw [if_pos trivial, if_pos trivial, if_pos (by simp), if_pos trivial, if_pos trivial, if_pos (by simp), m1, m2]
  simp only [Option.bind_some]
  rw [perm_surv hp hl]
  simp
theorem rd_get (l : List S26) (i : Nat) (h : i < l.length) : rd_T26 l (i : Int) = l[i] := by
  unfold rd_T26
  rw [Int.toNat_natCast, List.getD_eq_getElem?_getD, List.getElem?_eq_getElem h]
  rfl
theorem order_loop (l : List S26) (hl : l.length ≤ 60) (picks : List Int) (hpk : ∀ y ∈ picks, (Lit.int .i64 y).wf = true) : ∀ (d i : Nat) (x : List S26), i + d = l.length → x.Perm l → Ev (fun k => foliotlaw13_ChooseOrder.l0 k l picks x (i : Int)) true := by
  intro d
  induction d with
  | zero =>
    intro i x hi hp
    have hx := hp.length_eq
    refine Ev.two (order_end l x hp hl) fun k hk => ?_
    simp only [foliotlaw13_ChooseOrder.l0]
    rw [if_neg (by omega)]
    exact hk
  | succ d ih =>
    intro i x hi hp
    have hx := hp.length_eq
    by_cases hpi : i < picks.length
    · have hb : Rw.I64 (rd picks (i : Int)) := by
        refine i64_of (hpk _ ?_)
        unfold rd
        rw [Int.toNat_natCast, List.getD_eq_getElem?_getD, List.getElem?_eq_getElem hpi]
        exact List.getElem_mem hpi
      unfold Rw.I64 at hb
      obtain ⟨q, hq⟩ : ∃ q, q = Int.tmod (rd picks (i : Int)) (x.length : Int) := ⟨_, rfl⟩
      have hn : (0 : Int) < (x.length : Int) := by omega
      have q1 : -(x.length : Int) < q := by
        have h1 := Int.natAbs_tmod (rd picks (i : Int)) (x.length : Int)
        have h2 : (rd picks (i : Int)).natAbs % (x.length : Int).natAbs < (x.length : Int).natAbs := Nat.mod_lt _ (by omega)
        rw [← h1, ← hq] at h2
        omega
      have q2 : q < (x.length : Int) := by rw [hq]; exact Int.tmod_lt_of_pos _ hn
      have e1 : wrap64 (q + (x.length : Int)) = q + (x.length : Int) := wrap_small (by omega)
      have e2 : Int.tmod (q + (x.length : Int)) (x.length : Int) = (q + (x.length : Int)) % (x.length : Int) := Int.tmod_eq_emod_of_nonneg (by omega)
      obtain ⟨j, hj⟩ : ∃ j : Nat, (j : Int) = (q + (x.length : Int)) % (x.length : Int) := ⟨((q + (x.length : Int)) % (x.length : Int)).toNat, by have := Int.emod_nonneg (q + (x.length : Int)) (b := (x.length : Int)) (by omega); omega⟩
      have hjl : j < x.length := by have := Int.emod_lt_of_pos (q + (x.length : Int)) hn; omega
      have hsw : ((x.set i x[j]).set j (x[i]'(by omega))).Perm x := List.set_set_perm (by omega) hjl
      refine Ev.two (ih (i + 1) ((x.set i x[j]).set j (x[i]'(by omega))) (by omega) (hsw.trans hp)) fun k hk => ?_
      simp only [foliotlaw13_ChooseOrder.l0]
      rw [if_pos (by omega), if_pos (by omega), if_pos (by omega), if_neg (by omega), ← hq, e1, e2, ← hj, if_pos (by omega), if_pos (by omega), wrap_succ i (by omega), S26.eta, S26.eta, Int.toNat_natCast, Int.toNat_natCast, rd_get x j hjl, rd_get x i (by omega)]
      exact hk
    · refine Ev.two (order_end l x hp hl) fun k hk => ?_
      simp only [foliotlaw13_ChooseOrder.l0]
      rw [if_pos (by omega), if_neg (by omega)]
      exact hk
theorem pure_ChooseOrder (l : List S26) (hn : l.length ≤ 9223372036854775807) (hf : ∀ y ∈ l, Fine y) (picks : List Int) (hn2 : picks.length ≤ 9223372036854775807) (hpk : ∀ y ∈ picks, (Lit.int .i64 y).wf = true) : ∃ k, foliotlaw13_ChooseOrder.f k l picks = some true := by
  by_cases h60 : (l.length : Int) > 60
  · exact ⟨0, by unfold foliotlaw13_ChooseOrder.f; rw [if_pos h60]⟩
  · obtain ⟨k, hk⟩ := Ev.rounds (order_loop l (by omega) picks hpk l.length 0 l (by omega) (List.Perm.refl _))
    refine ⟨k, ?_⟩
    unfold foliotlaw13_ChooseOrder.f
    rw [if_neg h60]
    simp only [Option.bind_some, List.nil_append, List.length_nil]
    rw [if_pos (by omega)]
    exact hk
end Go.Proofs.Ytlhecfleanppmaa.Pr
