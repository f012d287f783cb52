/- The document's Meet, told plainly: it finds what choose.Meet finds. -/
import Derived.Test.YtlhecfleanppmaaPa
import Derived.Test.YtlhecfleanppmaaHand
import Derived.Test.YtlhecfleanppmaaPrx19
set_option linter.unusedVariables false
namespace Go.Proofs.Ytlhecfleanppmaa.Pr
open Go.RowKit Go.Proofs.YtlhecfleanppmaaW.PrintWords Go.Proofs.YtlhecfleanppmaaW.PrintLast Go.Proofs.YtlhecfleanppmaaW.PrintMore Go.Proofs.YFl

theorem wrap_small {n : Int} (h : -9223372036854775808 ≤ n ∧ n ≤ 9223372036854775807) : wrap64 n = n := by unfold wrap64; omega
theorem drop_cons (e : List Cx) (i : Nat) (h : i < e.length) : e.drop i = rdx e i :: e.drop (i + 1) := leftUp_cons e i h
theorem rev_cons (e : List Cx) (i : Nat) (h : i < e.length) : (e.take (i + 1)).reverse = rdx e i :: (e.take i).reverse := leftDn_cons e i h
theorem ptf_shift (side W : Int) : ∀ (l : List Cx) (c m : Int), ptf side W l c m = (ptf side W l c 0).map fun p => (p.1, p.2 + m)
  | [], c, m => rfl
  | e :: l, c, m => by
    unfold ptf
    by_cases h : c - side * e.im = W
    · rw [if_pos h, if_pos h]
      simp only [Option.map_some, Option.some.injEq, Prod.mk.injEq, true_and]
      split <;> omega
    · rw [if_neg h, if_neg h, ptf_shift side W l _ (if e.im = 0 then m + 1 else m), ptf_shift side W l _ (if e.im = 0 then (0 : Int) + 1 else 0), Option.map_map]
      congr 1
      funext p
      simp only [Function.comp_apply, Prod.mk.injEq, true_and]
      split <;> omega

section
variable (e : List Cx) (n f : Nat)
theorem fwd_none (hk : Kinds e) (hl : e.length ≤ 192) (hn : n ≤ 64) (hf : f ≤ 65) (r : Int × Int × Bool) (h : Ev (fun k => foliotref13_Meet.l0 k (e.map to54) (n : Int) ((f + 1 : Nat) : Int)) r) : ∀ (d i : Nat) (c m : Int), i + d = e.length → -(i : Int) ≤ c → c ≤ i → 0 ≤ m → m ≤ i →
    ptf 1 ((n : Int) - f) (e.drop i) c m = none → Ev (fun k => foliotref13_Meet.l1 k (e.map to54) (n : Int) (f : Int) m (-1) c (i : Int)) r := by
  intro d
  induction d with
  | zero =>
    intro i c m hi h1 h2 h3 h4 hp
    refine Ev.three h fun k hk => ?_
    simp only [foliotref13_Meet.l1]
    rw [if_neg (by simp; omega)]
    simp only [foliotref13_Meet.j2]
    rw [if_neg (by decide), if_pos (by decide), wrap_succ f (by omega)]
    exact hk
  | succ d ih =>
    intro i c m hi h1 h2 h3 h4 hp
    have hx := (hk.rd i).2
    rw [drop_cons e i (by omega)] at hp
    unfold ptf at hp
    by_cases hc : c - 1 * (rdx e i).im = (n : Int) - f
    · rw [if_pos hc] at hp; cases hp
    · rw [if_neg hc] at hp
      have g := ih (i + 1) _ _ (by omega) (by omega) (by omega) (by split <;> omega) (by split <;> omega) hp
      refine Ev.three g fun k hk => ?_
      simp only [foliotref13_Meet.l1]
      rw [if_pos (by simp; omega)]
      simp only [foliotref13_Meet.j2]
      rw [if_pos (by decide), if_pos (by omega), if_pos (by simp; omega), to54_rd e i (by omega), wrap_small (n := (n : Int) - f) (by omega), wrap_succ i (by omega), wrap_small (n := c - (to54 (rdx e i)).f1) (by show _ ∧ _; simp only [to54]; omega)]
      have e1 : c - (to54 (rdx e i)).f1 = c - 1 * (rdx e i).im := by simp only [to54]; omega
      rw [e1, if_neg hc, if_neg hc]
      by_cases hz : (rdx e i).im = 0
      · rw [if_pos hz] at hk
        rw [if_pos (show (to54 (rdx e i)).f1 = 0 from hz), wrap_small (by omega)]
        exact hk
      · rw [if_neg hz] at hk
        rw [if_neg (show ¬ (to54 (rdx e i)).f1 = 0 from hz)]
        exact hk
theorem fwd_some (hk : Kinds e) (hl : e.length ≤ 192) (hn : n ≤ 64) (hf : f ≤ 65) (r : Int × Int × Bool) (a b : Int) : ∀ (d i : Nat) (c m : Int), i + d = e.length → -(i : Int) ≤ c → c ≤ i → 0 ≤ m → m ≤ i →
    ptf 1 ((n : Int) - f) (e.drop i) c m = some (a, b) → ∃ low : Nat, low < e.length ∧ (rdx e low).re = a ∧ 0 ≤ b ∧ b ≤ 192 ∧
      (Ev (fun k => foliotref13_Meet.l2 k (e.map to54) (n : Int) (f : Int) b (low : Int) 0 (-1) ((e.length : Int) - 1)) r → Ev (fun k => foliotref13_Meet.l1 k (e.map to54) (n : Int) (f : Int) m (-1) c (i : Int)) r) := by
  intro d
  induction d with
  | zero =>
    intro i c m hi h1 h2 h3 h4 hp
    rw [List.drop_eq_nil_of_le (by omega)] at hp
    cases hp
  | succ d ih =>
    intro i c m hi h1 h2 h3 h4 hp
    have hx := (hk.rd i).2
    rw [drop_cons e i (by omega)] at hp
    unfold ptf at hp
    have e1 : c - (to54 (rdx e i)).f1 = c - 1 * (rdx e i).im := by simp only [to54]; omega
    by_cases hc : c - 1 * (rdx e i).im = (n : Int) - f
    · rw [if_pos hc] at hp
      simp only [Option.some.injEq, Prod.mk.injEq] at hp
      refine ⟨i, by omega, hp.1, by rw [← hp.2]; split <;> omega, by rw [← hp.2]; split <;> omega, fun g => ?_⟩
      have g2 : Ev (fun k => foliotref13_Meet.l1 k (e.map to54) (n : Int) (f : Int) b (i : Int) ((n : Int) - f) ((i + 1 : Nat) : Int)) r := by
        refine Ev.three g fun k hk => ?_
        simp only [foliotref13_Meet.l1]
        by_cases hlt : ((i + 1 : Nat) : Int) < ((e.map to54).length : Int)
        · rw [if_pos hlt]
          simp only [foliotref13_Meet.j2]
          rw [if_neg (by simp), if_neg (by omega), List.length_map, wrap_small (by omega)]
          exact hk
        · rw [if_neg hlt]
          simp only [foliotref13_Meet.j2]
          rw [if_neg (by decide), if_neg (by omega), List.length_map, wrap_small (by omega)]
          exact hk
      refine Ev.three g2 fun k hk => ?_
      simp only [foliotref13_Meet.l1]
      rw [if_pos (by simp; omega)]
      simp only [foliotref13_Meet.j2]
      rw [if_pos (by decide), if_pos (by omega), if_pos (by simp; omega), to54_rd e i (by omega), wrap_small (n := (n : Int) - f) (by omega), wrap_succ i (by omega), wrap_small (n := c - (to54 (rdx e i)).f1) (by simp only [to54]; omega)]
      rw [e1, if_pos hc, if_pos hc, hc]
      by_cases hz : (rdx e i).im = 0
      · rw [if_pos (show (to54 (rdx e i)).f1 = 0 from hz), wrap_small (by omega)]
        rw [if_pos hz] at hp
        rw [hp.2]
        exact hk
      · rw [if_neg (show ¬ (to54 (rdx e i)).f1 = 0 from hz)]
        rw [if_neg hz] at hp
        rw [hp.2]
        exact hk
    · rw [if_neg hc] at hp
      obtain ⟨low, g1, g2, g3, g4, g5⟩ := ih (i + 1) _ _ (by omega) (by omega) (by omega) (by split <;> omega) (by split <;> omega) hp
      refine ⟨low, g1, g2, g3, g4, fun g => ?_⟩
      refine Ev.three (g5 g) fun k hk => ?_
      simp only [foliotref13_Meet.l1]
      rw [if_pos (by simp; omega)]
      simp only [foliotref13_Meet.j2]
      rw [if_pos (by decide), if_pos (by omega), if_pos (by simp; omega), to54_rd e i (by omega), wrap_small (n := (n : Int) - f) (by omega), wrap_succ i (by omega), wrap_small (n := c - (to54 (rdx e i)).f1) (by simp only [to54]; omega)]
      rw [e1, if_neg hc, if_neg hc]
      by_cases hz : (rdx e i).im = 0
      · rw [if_pos hz] at hk
        rw [if_pos (show (to54 (rdx e i)).f1 = 0 from hz), wrap_small (by omega)]
        exact hk
      · rw [if_neg hz] at hk
        rw [if_neg (show ¬ (to54 (rdx e i)).f1 = 0 from hz)]
        exact hk
theorem bwd_none (hk : Kinds e) (hl : e.length ≤ 192) (hn : n ≤ 64) (hf : f ≤ 65) (low : Nat) (r : Int × Int × Bool) (h : Ev (fun k => foliotref13_Meet.l0 k (e.map to54) (n : Int) ((f + 1 : Nat) : Int)) r) : ∀ (j : Nat) (c m : Int), j ≤ e.length → (j : Int) - 192 ≤ c → c ≤ 192 - (j : Int) → 0 ≤ m → m ≤ 400 - (j : Int) →
    ptf (-1) ((n : Int) - f) (e.take j).reverse c m = none → Ev (fun k => foliotref13_Meet.l2 k (e.map to54) (n : Int) (f : Int) m (low : Int) c (-1) ((j : Int) - 1)) r := by
  intro j
  induction j with
  | zero =>
    intro c m hi h1 h2 h3 h4 hp
    refine Ev.three h fun k hk => ?_
    simp only [foliotref13_Meet.l2]
    rw [if_neg (by omega)]
    simp only [foliotref13_Meet.j4]
    rw [if_neg (by decide), if_neg (by decide), wrap_succ f (by omega)]
    exact hk
  | succ j ih =>
    intro c m hi h1 h2 h3 h4 hp
    have hx := (hk.rd j).2
    have hj : (((j + 1 : Nat) : Int) - 1) = (j : Int) := by omega
    rw [rev_cons e j (by omega)] at hp
    unfold ptf at hp
    have e1 : c + (to54 (rdx e j)).f1 = c - (-1) * (rdx e j).im := by simp only [to54]; omega
    by_cases hc : c - (-1) * (rdx e j).im = (n : Int) - f
    · rw [if_pos hc] at hp; cases hp
    · rw [if_neg hc] at hp
      have g := ih _ _ (by omega) (by omega) (by omega) (by split <;> omega) (by split <;> omega) hp
      refine Ev.three g fun k hk => ?_
      simp only [foliotref13_Meet.l2]
      rw [if_pos (by omega)]
      simp only [foliotref13_Meet.j4]
      rw [if_pos (by decide), if_pos (by omega), if_pos (by simp; omega), hj, to54_rd e j (by omega), wrap_small (n := (n : Int) - f) (by omega), wrap_small (n := (j : Int) - 1) (by omega), wrap_small (n := c + (to54 (rdx e j)).f1) (by simp only [to54]; omega)]
      rw [e1, if_neg hc, if_neg hc]
      by_cases hz : (rdx e j).im = 0
      · rw [if_pos hz] at hk
        rw [if_pos (show (to54 (rdx e j)).f1 = 0 from hz), wrap_small (by omega)]
        exact hk
      · rw [if_neg hz] at hk
        rw [if_neg (show ¬ (to54 (rdx e j)).f1 = 0 from hz)]
        exact hk
theorem bwd_some (hk : Kinds e) (hl : e.length ≤ 192) (hn : n ≤ 64) (hf : f ≤ 65) (hne : ∀ x ∈ e, Near x.re) (low : Nat) (hlow : low < e.length) (r : Int × Int × Bool) (a b : Int) : ∀ (j : Nat) (c m : Int), j ≤ e.length → (j : Int) - 192 ≤ c → c ≤ 192 - (j : Int) → 0 ≤ m → m ≤ 400 - (j : Int) →
    ptf (-1) ((n : Int) - f) (e.take j).reverse c m = some (a, b) →
      ((b ≤ f ∧ (rdx e low).re ≤ a) → r = ((rdx e low).re * 65536, a * 65536, true)) → (¬ (b ≤ f ∧ (rdx e low).re ≤ a) → Ev (fun k => foliotref13_Meet.l0 k (e.map to54) (n : Int) ((f + 1 : Nat) : Int)) r) →
      Ev (fun k => foliotref13_Meet.l2 k (e.map to54) (n : Int) (f : Int) m (low : Int) c (-1) ((j : Int) - 1)) r := by
  intro j
  induction j with
  | zero =>
    intro c m hi h1 h2 h3 h4 hp
    cases hp
  | succ j ih =>
    intro c m hi h1 h2 h3 h4 hp hyes hno
    have hx := (hk.rd j).2
    have hj : (((j + 1 : Nat) : Int) - 1) = (j : Int) := by omega
    rw [rev_cons e j (by omega)] at hp
    unfold ptf at hp
    have e1 : c + (to54 (rdx e j)).f1 = c - (-1) * (rdx e j).im := by simp only [to54]; omega
    by_cases hc : c - (-1) * (rdx e j).im = (n : Int) - f
    · rw [if_pos hc] at hp
      simp only [Option.some.injEq, Prod.mk.injEq] at hp
      have near : ∀ i, i < e.length → Near (rdx e i).re := fun i hi => by
        refine hne _ ?_
        unfold rdx
        rw [List.getD_eq_getElem?_getD, List.getElem?_eq_getElem hi]
        exact List.getElem_mem hi
      have nl := near low hlow
      have nj := near j (by omega)
      unfold Near at nl nj
      have fin : Ev (fun k => foliotref13_Meet.l2 k (e.map to54) (n : Int) (f : Int) b (low : Int) ((n : Int) - f) (j : Int) ((j : Int) - 1)) r := by
        have two : ∀ (k : Nat), (∀ q, foliotref13_Meet.l2 (k + 2) (e.map to54) (n : Int) (f : Int) b (low : Int) ((n : Int) - f) (j : Int) ((j : Int) - 1) = some q ↔ foliotref13_Meet.j4 (k + 1) (e.map to54) (n : Int) (f : Int) b (low : Int) ((n : Int) - f) (j : Int) ((j : Int) - 1) false = some q) := fun k q => by
          simp only [foliotref13_Meet.l2]
          by_cases h0 : (j : Int) - 1 ≥ 0
          · rw [if_pos h0, decide_eq_false (by omega)]
          · rw [if_neg h0]
        by_cases hg : b ≤ f ∧ (rdx e low).re ≤ a
        · have hr := hyes hg
          refine Ev.end2 fun k => ?_
          rw [two]
          simp only [foliotref13_Meet.j4]
          rw [if_neg (by decide), if_pos (by omega), if_pos hg.1, if_pos (by omega), if_pos (by simp; omega), if_pos (by omega), if_pos (by simp; omega), to54_rd e low hlow, to54_rd e j (by omega)]
          rw [if_pos (show (to54 (rdx e low)).f0 ≤ (to54 (rdx e j)).f0 from by rw [← hp.1] at hg; exact hg.2), hr, ← hp.1]
          simp only [to54]
          rw [wrap_small (by omega), wrap_small (by omega)]
        · refine Ev.three (hno hg) fun k hk => ?_
          rw [two]
          simp only [foliotref13_Meet.j4]
          rw [if_neg (by decide), if_pos (by omega), wrap_succ f (by omega)]
          by_cases hb : b ≤ f
          · rw [if_pos hb, if_pos (by omega), if_pos (by simp; omega), if_pos (by omega), if_pos (by simp; omega), to54_rd e low hlow, to54_rd e j (by omega), if_neg (show ¬ ((to54 (rdx e low)).f0 ≤ (to54 (rdx e j)).f0) from fun h => hg ⟨hb, by rw [← hp.1]; exact h⟩)]
            exact hk
          · rw [if_neg hb]
            exact hk
      refine Ev.three fin fun k hk => ?_
      simp only [foliotref13_Meet.l2]
      rw [if_pos (by omega)]
      simp only [foliotref13_Meet.j4]
      rw [if_pos (by decide), if_pos (by omega), if_pos (by simp; omega), hj, to54_rd e j (by omega), wrap_small (n := (n : Int) - f) (by omega), wrap_small (n := (j : Int) - 1) (by omega), wrap_small (n := c + (to54 (rdx e j)).f1) (by simp only [to54]; omega)]
      rw [e1, if_pos hc, if_pos hc, hc]
      by_cases hz : (rdx e j).im = 0
      · rw [if_pos (show (to54 (rdx e j)).f1 = 0 from hz), wrap_small (by omega)]
        rw [if_pos hz] at hp
        rw [hp.2]
        exact hk
      · rw [if_neg (show ¬ (to54 (rdx e j)).f1 = 0 from hz)]
        rw [if_neg hz] at hp
        rw [hp.2]
        exact hk
    · rw [if_neg hc] at hp
      have g := ih _ _ (by omega) (by omega) (by omega) (by split <;> omega) (by split <;> omega) hp hyes hno
      refine Ev.three g fun k hk => ?_
      simp only [foliotref13_Meet.l2]
      rw [if_pos (by omega)]
      simp only [foliotref13_Meet.j4]
      rw [if_pos (by decide), if_pos (by omega), if_pos (by simp; omega), hj, to54_rd e j (by omega), wrap_small (n := (n : Int) - f) (by omega), wrap_small (n := (j : Int) - 1) (by omega), wrap_small (n := c + (to54 (rdx e j)).f1) (by simp only [to54]; omega)]
      rw [e1, if_neg hc, if_neg hc]
      by_cases hz : (rdx e j).im = 0
      · rw [if_pos hz] at hk
        rw [if_pos (show (to54 (rdx e j)).f1 = 0 from hz), wrap_small (by omega)]
        exact hk
      · rw [if_neg hz] at hk
        rw [if_neg (show ¬ (to54 (rdx e j)).f1 = 0 from hz)]
        exact hk
theorem meet_loop (hk : Kinds e) (hl : e.length ≤ 192) (hn : n ≤ 64) (hne : ∀ x ∈ e, Near x.re) : ∀ (d f : Nat), f + d = 65 → Ev (fun k => foliotref13_Meet.l0 k (e.map to54) (n : Int) (f : Int)) (meetL e n d f) := by
  intro d
  induction d with
  | zero =>
    intro f hf
    refine Ev.end1 fun k => ?_
    simp only [foliotref13_Meet.l0]
    rw [wrap_small (by omega), if_neg (by omega)]
    rfl
  | succ d ih =>
    intro f hf
    have next := ih (f + 1) (by omega)
    by_cases h2 : 2 * f < n
    · have start : Ev (fun k => foliotref13_Meet.l1 k (e.map to54) (n : Int) (f : Int) 0 (-1) 0 0) (meetL e n (d + 1) f) := by
        show Ev _ (if 2 * f < n then _ else _)
        rw [if_pos h2]
        rcases hp : ptf 1 ((n : Int) - f) e 0 0 with _ | ⟨a, b⟩
        · have hg : goodF (ptRes none) (ptRes (ptf (-1) ((n : Int) - f) e.reverse 0 0)) f = false := rfl
          rw [hg, if_neg (by decide)]
          exact fwd_none e n f hk hl hn (by omega) _ next e.length 0 0 0 (by omega) (by omega) (by omega) (by omega) (by omega) hp
        · have key : ∀ r, _ := fun r => fwd_some e n f hk hl hn (by omega) r a b e.length 0 0 0 (by omega) (by omega) (by omega) (by omega) (by omega) hp
          rcases hq : ptf (-1) ((n : Int) - f) e.reverse 0 0 with _ | ⟨a2, b2⟩
          · have hg : goodF (ptRes (some (a, b))) (ptRes none) f = false := rfl
            rw [hg, if_neg (by decide)]
            obtain ⟨low, g1, g2, g3, g4, g5⟩ := key (meetL e n d (f + 1))
            refine g5 (bwd_none e n f hk hl hn (by omega) low _ next e.length 0 b (by omega) (by omega) (by omega) g3 (by omega) ?_)
            rw [List.take_length, ptf_shift, hq]
            rfl
          · obtain ⟨low, g1, g2, g3, g4, g5⟩ := key (if goodF (ptRes (some (a, b))) (ptRes (some (a2, b2))) f = true then ((ptRes (some (a, b))).1 * 65536, (ptRes (some (a2, b2))).1 * 65536, true) else meetL e n d (f + 1))
            have hgood : goodF (ptRes (some (a, b))) (ptRes (some (a2, b2))) f = (decide (b + b2 ≤ (f : Int)) && decide (a ≤ a2)) := rfl
            refine g5 (bwd_some e n f hk hl hn (by omega) hne low g1 _ a2 (b2 + b) e.length 0 b (by omega) (by omega) (by omega) g3 (by omega) ?_ ?_ ?_)
            · rw [List.take_length, ptf_shift, hq]
              rfl
            · intro hh
              rw [g2] at hh ⊢
              rw [hgood, decide_eq_true (show b + b2 ≤ (f : Int) by omega), decide_eq_true hh.2]
              rfl
            · intro hh
              rw [g2] at hh
              have : (decide (b + b2 ≤ (f : Int)) && decide (a ≤ a2)) = false := by
                rw [Bool.and_eq_false_iff]
                by_cases h1 : b + b2 ≤ (f : Int)
                · exact .inr (decide_eq_false fun h => hh ⟨by omega, h⟩)
                · exact .inl (decide_eq_false h1)
              rw [hgood, this, if_neg (by decide)]
              exact next
      refine Ev.two start fun k hk => ?_
      simp only [foliotref13_Meet.l0]
      rw [wrap_small (by omega), if_pos (by omega)]
      exact hk
    · refine Ev.end1 fun k => ?_
      simp only [foliotref13_Meet.l0]
      rw [wrap_small (by omega), if_neg (by omega)]
      show _ = some (if 2 * f < n then _ else _)
      rw [if_neg h2]
end
theorem refMeet_ev (l : List S26) (hn : l.length ≤ 9223372036854775807) : Ev (fun k => foliotref13_Meet.f k l) (meetOf l) := by
  unfold foliotref13_Meet.f
  refine Ev.bind (all_ev l hn) (Ev.bind (those_ev l hn) ?_)
  have hl := ends_length l
  have hn' := thatOf_length l
  exact meet_loop (endsOf l) (thatOf l).length (ends_kinds l) (by omega) hn' (ends_near l) 65 0 rfl
end Go.Proofs.Ytlhecfleanppmaa.Pr
