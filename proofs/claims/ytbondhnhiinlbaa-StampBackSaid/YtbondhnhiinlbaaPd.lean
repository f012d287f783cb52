/- The calendar, plainly: what OfDate and ToDate tell. -/
import Derived.Test.YtbondhnhiinlbaaDf
set_option linter.unusedVariables false
set_option linter.unusedSimpArgs false
namespace Go.Proofs.Ytbondhnhiinlbaa.Pr
open Go.RowKit Go.Proofs.YtbondhnhiinlbaaW.PrintWords Go.Proofs.YtbondhnhiinlbaaW.PrintLast Go.Proofs.YtbondhnhiinlbaaW.PrintMore
def lp (y : Int) : Int := if y % 4 = 0 ∧ (y % 100 ≠ 0 ∨ y % 400 = 0) then 1 else 0
def B (y : Int) : Int := (y - 1) * 365 + (y - 1) / 4 - (y - 1) / 100 + (y - 1) / 400
theorem w_in {n : Int} (h : -9223372036854775808 ≤ n ∧ n ≤ 9223372036854775807) : wrap64 n = n := by unfold wrap64; omega
theorem td_eq {n : Int} (h : 0 ≤ n) (m : Int) : Int.tdiv n m = n / m := Int.tdiv_eq_ediv_of_nonneg h
theorem tm_eq {n : Int} (h : 0 ≤ n) (m : Int) : Int.tmod n m = n % m := Int.tmod_eq_emod_of_nonneg h
theorem lp_01 (y : Int) : lp y = 0 ∨ lp y = 1 := by
  unfold lp
  split
  · exact .inr rfl
  · exact .inl rfl
theorem begins_eq (y : Int) (h : 1 ≤ y ∧ y ≤ 1000000) : stamp_begins.f y = some (B y) := by
  unfold stamp_begins.f B
  have e0 : wrap64 (y - 1) = y - 1 := w_in (by omega)
  rw [e0, td_eq (by omega), td_eq (by omega), td_eq (by omega), w_in (n := (y - 1) * 365) (by omega), w_in (n := (y - 1) / 4) (by omega), w_in (n := (y - 1) / 100) (by omega), w_in (n := (y - 1) / 400) (by omega),
    w_in (n := (y - 1) * 365 + (y - 1) / 4) (by omega), w_in (n := (y - 1) * 365 + (y - 1) / 4 - (y - 1) / 100) (by omega), w_in (by omega)]
theorem leap_eq (y : Int) (h : 0 ≤ y) : stamp_leap.f y = some (lp y) := by
  unfold stamp_leap.f lp
  rw [tm_eq h, tm_eq h, tm_eq h]
  by_cases h4 : y % 4 = 0
  · rw [if_pos h4]
    by_cases h1 : y % 100 = 0
    · rw [if_pos h1]
      by_cases h2 : y % 400 = 0
      · rw [if_pos h2, if_pos ⟨h4, .inr h2⟩]
      · rw [if_neg h2, if_neg (by rintro ⟨_, h | h⟩; exact h h1; exact h2 h)]
    · rw [if_neg h1, if_pos ⟨h4, .inl h1⟩]
  · rw [if_neg h4, if_neg (fun h => h4 h.1)]
theorem B_succ (y : Int) (h : 1 ≤ y) : B (y + 1) = B y + 365 + lp y := by
  unfold B lp
  split <;> omega
theorem B_mono {a b : Int} (h : a < b) : B (a + 1) ≤ B b := by
  unfold B
  omega
theorem B_one : B 1 = 0 := by decide +kernel
theorem B_2101 : B 2101 = 767009 := by decide +kernel
theorem year_of (day : Int) (h0 : 0 ≤ day) : ∀ n : Nat, day < B ((n : Int) + 1) → ∃ y : Int, 1 ≤ y ∧ y ≤ n ∧ B y ≤ day ∧ day < B (y + 1)
  | 0, h => by
    rw [show ((0 : Nat) : Int) + 1 = 1 from rfl, B_one] at h
    omega
  | n + 1, h => by
    by_cases hl : day < B ((n : Int) + 1)
    · obtain ⟨y, h1, h2, h3, h4⟩ := year_of day h0 n hl
      exact ⟨y, h1, by omega, h3, h4⟩
    · exact ⟨(n : Int) + 1, by omega, by omega, by omega, by simpa using h⟩
theorem yr_eq (day y : Int) (hy : 1 ≤ y ∧ y ≤ 2100) (h1 : B y ≤ day) (h2 : day < B (y + 1)) : ∀ (k : Nat) (y0 : Int), 1 ≤ y0 → y0 ≤ y → y - y0 < k → yr k day y0 = some y
  | 0, y0, _, _, h => by omega
  | k + 1, y0, h3, h4, h5 => by
    rw [yr, w_in (n := y0 + 1) (by omega), begins_eq (y0 + 1) (by omega), Option.bind_some]
    by_cases he : y0 = y
    · subst he
      rw [if_neg (by omega)]
    · have := B_mono (show y0 < y by omega)
      rw [if_pos (by omega)]
      exact yr_eq day y hy h1 h2 k (y0 + 1) (by omega) (by omega) (by omega)
def tsum (l : List Int) : Int := l.foldr (· + ·) 0
theorem tsum_cons (a : Int) (l : List Int) : tsum (a :: l) = a + tsum l := rfl
theorem tsum_nonneg : ∀ (l : List Int), (∀ x ∈ l, 0 ≤ x ∧ x ≤ 31) → 0 ≤ tsum l ∧ tsum l ≤ 31 * l.length
  | [], _ => by simp [tsum]
  | a :: l, h => by
    have h1 := h a (by simp)
    have h2 := tsum_nonneg l (fun x hx => h x (by simp [hx]))
    rw [tsum_cons, List.length_cons]
    omega
theorem mo_eq : ∀ (l : List Int) (i : Nat) (m d : Int) (j : Nat) (D : Int), (∀ x ∈ l, 0 ≤ x ∧ x ≤ 31) → l.length ≤ 12 → j < l.length → 1 ≤ D → D ≤ l.getD j 0 → d = tsum (l.take j) + D → mo l i m d = ((i : Int) + j + 1, D)
  | [], _, _, _, j, _, _, _, hj, _, _, _ => absurd hj (by simp)
  | n :: l, i, m, d, 0, D, hl, hlen, hj, h1, h2, hd => by
    have e : d = D := by simpa [tsum] using hd
    subst e
    rw [mo, if_pos (by simpa using h2)]
    congr 1
  | n :: l, i, m, d, j + 1, D, hl, hlen, hj, h1, h2, hd => by
    rw [List.take_succ_cons, tsum_cons] at hd
    have hn := hl n (by simp)
    have ht := tsum_nonneg (l.take j) (fun x hx => hl x (by simp [List.mem_of_mem_take hx]))
    have hlt : ((l.take j).length : Int) ≤ 12 := by
      have : (l.take j).length ≤ l.length := by rw [List.length_take]; omega
      simp at hlen
      omega
    rw [List.getD_cons_succ] at h2
    have hD : D ≤ 31 := by
      have hj' : j < l.length := by simpa using hj
      have : l.getD j 0 = l[j] := by rw [List.getD_eq_getElem?_getD, List.getElem?_eq_getElem hj']; rfl
      rw [this] at h2
      have := hl l[j] (by simp)
      omega
    rw [mo, if_neg (by omega), w_in (n := d - n) (by omega), mo_eq l (i + 1) _ (d - n) j D (fun x hx => hl x (by simp [hx])) (by simp at hlen; omega) (by simpa using hj) h1 h2 (by omega)]
    congr 1
    omega
theorem month_of : ∀ (l : List Int) (d : Int), (∀ x ∈ l, 0 ≤ x ∧ x ≤ 31) → 1 ≤ d → d ≤ tsum l → ∃ (j : Nat) (D : Int), j < l.length ∧ 1 ≤ D ∧ D ≤ l.getD j 0 ∧ d = tsum (l.take j) + D
  | [], d, _, h1, h2 => by simp [tsum] at h2; omega
  | n :: l, d, hl, h1, h2 => by
    by_cases hd : d ≤ n
    · exact ⟨0, d, by simp, h1, by simpa using hd, by simp [tsum]⟩
    · rw [tsum_cons] at h2
      obtain ⟨j, D, h3, h4, h5, h6⟩ := month_of l (d - n) (fun x hx => hl x (by simp [hx])) (by omega) (by omega)
      exact ⟨j + 1, D, by simpa using h3, h4, by simpa using h5, by rw [List.take_succ_cons, tsum_cons]; omega⟩
theorem mtab_in (t : Int) (ht : t = 0 ∨ t = 1) : ∀ x ∈ mtab t, 0 ≤ x ∧ x ≤ 31 := by
  rcases ht with rfl | rfl <;> decide +kernel
theorem mtab_sum (t : Int) (ht : t = 0 ∨ t = 1) : tsum (mtab t) = 365 + t := by
  rcases ht with rfl | rfl <;> decide +kernel
theorem mtab_len (t : Int) : (mtab t).length = 12 := rfl
theorem sumDays_cons (a : Int) (l : List Int) (d : Int) : sumDays (a :: l) d = sumDays l (wrap64 (d + a)) := rfl
theorem sumDays_eq (l : List Int) : ∀ d : Int, (∀ x ∈ l, 0 ≤ x ∧ x ≤ 31) → -10000000 ≤ d → d ≤ 10000000 - 31 * (l.length : Int) → sumDays l d = d + tsum l := by
  induction l with
  | nil =>
    intro d _ _ _
    show d = d + 0
    omega
  | cons a l ih =>
    intro d hl h0 h1
    have ha := hl a (List.mem_cons_self)
    rw [List.length_cons] at h1
    rw [sumDays_cons, w_in (n := d + a) (by omega), ih (d + a) (fun x hx => hl x (List.mem_cons_of_mem _ hx)) (by omega) (by omega), tsum_cons]
    omega
/-- a day of the calendar -/
structure Cal (day y : Int) (j : Nat) (D : Int) : Prop where
  y1 : 1 ≤ y
  y2 : y ≤ 2100
  j2 : j < 12
  d1 : 1 ≤ D
  d2 : D ≤ (mtab (lp y)).getD j 0
  at_ : day = B y + tsum ((mtab (lp y)).take j) + D - 1
theorem Cal.exists {day : Int} (h0 : 0 ≤ day) (h1 : day < 767009) : ∃ y j D, Cal day y j D := by
  obtain ⟨y, h2, h3, h4, h5⟩ := year_of day h0 2100 (by rw [show ((2100 : Nat) : Int) + 1 = 2101 from rfl, B_2101]; exact h1)
  rw [B_succ y h2] at h5
  obtain ⟨j, D, h6, h7, h8, h9⟩ := month_of (mtab (lp y)) (day - B y + 1) (mtab_in _ (lp_01 y)) (by omega) (by rw [mtab_sum _ (lp_01 y)]; omega)
  exact ⟨y, j, D, h2, by omega, h6, h7, h8, by omega⟩
theorem take_le (t : Int) (ht : t = 0 ∨ t = 1) (j : Nat) (hj : j < 12) : 0 ≤ tsum ((mtab t).take j) ∧ tsum ((mtab t).take j) + (mtab t).getD j 0 ≤ 365 + t := by
  rcases (show j = 0 ∨ j = 1 ∨ j = 2 ∨ j = 3 ∨ j = 4 ∨ j = 5 ∨ j = 6 ∨ j = 7 ∨ j = 8 ∨ j = 9 ∨ j = 10 ∨ j = 11 from by omega) with rfl | rfl | rfl | rfl | rfl | rfl | rfl | rfl | rfl | rfl | rfl | rfl <;> rcases ht with rfl | rfl <;> decide +kernel
theorem Cal.bounds {day y : Int} {j : Nat} {D : Int} (h : Cal day y j D) : B y ≤ day ∧ day < B (y + 1) ∧ 0 ≤ day ∧ day < 767009 ∧ D ≤ 31 := by
  have h1 := take_le (lp y) (lp_01 y) j h.j2
  have h2 := h.d1
  have h3 := h.d2
  have h4 := h.at_
  have h5 := B_succ y h.y1
  have h6 : B 1 ≤ B y := by
    by_cases e : y = 1
    · rw [e]; exact Int.le_refl _
    · have := B_mono (show (0 : Int) < y by have := h.y1; omega)
      simpa using this
  have h7 : B (y + 1) ≤ B 2101 := B_mono (by have := h.y2; omega)
  rw [B_one] at h6
  rw [B_2101] at h7
  have h8 : D ≤ 31 := by
    have hj := h.j2
    have : (mtab (lp y)).getD j 0 = (mtab (lp y))[j]'hj := by rw [List.getD_eq_getElem?_getD, List.getElem?_eq_getElem (show j < (mtab (lp y)).length from hj)]; rfl
    rw [this] at h3
    have := mtab_in (lp y) (lp_01 y) _ (List.getElem_mem (show j < (mtab (lp y)).length from hj))
    omega
  exact ⟨by omega, by omega, by omega, by omega, h8⟩
end Go.Proofs.Ytbondhnhiinlbaa.Pr
