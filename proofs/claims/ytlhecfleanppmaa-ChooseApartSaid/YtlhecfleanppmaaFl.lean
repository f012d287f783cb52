/- Whole numbers below 2^53 as floats of 64 bits: their order is the numbers' own, and they turn back into the same numbers. -/
import Derived.WalkLawsBesides
namespace Go.Proofs.YFl
open Go

/-- the float of a whole number -/
def fl (n : Int) : Nat := floatOfInt .f64 n

def Small (n : Int) : Prop := -9007199254740992 < n ∧ n < 9007199254740992

theorem fl_zero : fl 0 = 0 := by decide +kernel
theorem fl_one : fl 1 = 4607182418800017408 := by decide +kernel
theorem fl_neg : fl (-1) = 13830554455654793216 := by decide +kernel

/-- what the float of a whole number stands for -/
theorem read_fl (n : Int) (h : Small n) :
    ∃ (m : Nat) (s : Nat), (FloatKind.f64.decode (fl n)) = .number (decide (n < 0)) m (-(s : Int)) ∧ m = n.natAbs * 2 ^ s ∧ (n = 0 ∨ (2 ^ 52 ≤ m ∧ m < 2 ^ 53)) := by
  by_cases h0 : n = 0
  · subst h0
    obtain ⟨u, hu⟩ : ∃ u : Nat, u = 1074 := ⟨_, rfl⟩
    exact ⟨0, u, by rw [hu]; decide +kernel, by rw [Int.natAbs_zero, Nat.zero_mul], .inl rfl⟩
  · have hpos : n.natAbs ≠ 0 := by omega
    have hlt : n.natAbs < 2 ^ 53 := by unfold Small at h; omega
    obtain ⟨L, hL⟩ : ∃ L, L = n.natAbs.log2 := ⟨_, rfl⟩
    have hL1 : 2 ^ L ≤ n.natAbs := by rw [hL]; exact Nat.log2_self_le hpos
    have hL2 : n.natAbs < 2 ^ (L + 1) := by rw [hL]; exact Nat.lt_log2_self
    have hL3 : L ≤ 52 := by
      rcases Nat.lt_or_ge 52 L with hgt | hle
      · have : 2 ^ 53 ≤ 2 ^ L := Nat.pow_le_pow_right (by omega) hgt
        omega
      · exact hle
    obtain ⟨s, hs⟩ : ∃ s, s = 52 - L := ⟨_, rfl⟩
    have hp : 2 ^ L * 2 ^ s = 2 ^ 52 := by rw [← Nat.pow_add]; congr 1; omega
    have hp2 : 2 ^ (L + 1) * 2 ^ s = 2 ^ 53 := by rw [← Nat.pow_add]; congr 1; omega
    have hspos : 0 < 2 ^ s := Nat.pow_pos (by omega)
    have hk1 : 2 ^ 52 ≤ n.natAbs * 2 ^ s := by rw [← hp]; exact Nat.mul_le_mul_right _ hL1
    have hk2 : n.natAbs * 2 ^ s < 2 ^ 53 := by rw [← hp2]; exact Nat.mul_lt_mul_of_pos_right hL2 hspos
    refine ⟨n.natAbs * 2 ^ s, s, ?_, rfl, .inr ⟨hk1, hk2⟩⟩
    generalize hK : n.natAbs * 2 ^ s = K at hk1 hk2
    have hw : fl n = Ieee.Format.word Ieee.double (decide (n < 0)) ((L + 1022) * 2 ^ 52 + K) := by
      show Ieee.Format.nearest Ieee.double (decide (n < 0)) n.natAbs 0 = _
      unfold Ieee.Format.nearest
      rw [if_neg hpos, ← hL]
      have e1 : Ieee.double.leastPlace = -1074 := by decide
      have e2 : Ieee.double.fractionBits = 52 := rfl
      have e3 : Ieee.double.binade = 2 ^ 52 := by decide
      have e4 : Ieee.double.infRung = 2047 * 2 ^ 52 := by decide
      have hlast : max ((0 : Int) + (L : Int) - ((52 : Nat) : Int)) (-1074) = -(s : Int) := by omega
      simp only [e1, e2, e3, e4]
      rw [hlast]
      have h1 : ((0 : Int) - -(s : Int)).toNat = s := by omega
      have h2 : (-(s : Int) - 0).toNat = 0 := by omega
      have h3 : (-(s : Int) - -1074).toNat = L + 1022 := by omega
      rw [h1, h2, h3, Nat.shiftLeft_eq, hK]
      have hcut : Ieee.Toward.even.cut (decide (n < 0)) K 0 = K := by
        simp [Ieee.Toward.cut, Nat.mod_one]
      rw [hcut, Nat.min_eq_left (by omega)]
    rw [hw]
    show Ieee.Format.read Ieee.double _ = _
    have e1 : Ieee.double.leastPlace = -1074 := by decide
    have e3 : Ieee.double.binade = 2 ^ 52 := by decide
    have e4 : Ieee.double.infRung = 2047 * 2 ^ 52 := by decide
    have e5 : Ieee.double.signWeight = 2 ^ 63 := by decide
    generalize hR : (L + 1022) * 2 ^ 52 + K = R
    have hR1 : R < 2 ^ 63 := by omega
    have hdiv : R / 2 ^ 52 = L + 1023 := by omega
    have hmod : R % 2 ^ 52 = K - 2 ^ 52 := by omega
    have a1 : 2 ^ 52 + (K - 2 ^ 52) = K := Nat.add_sub_cancel' hk1
    have a2 : (-1074 : Int) + ((L + 1023 - 1 : Nat) : Int) = -(s : Int) := by omega
    unfold Ieee.Format.read Ieee.Format.word
    simp only [e1, e3, e4, e5]
    by_cases hn : n < 0
    · simp only [hn, decide_true, if_true]
      have d1 : (2 ^ 63 + R) / 2 ^ 63 % 2 = 1 := by omega
      have d2 : (2 ^ 63 + R) % 2 ^ 63 = R := by omega
      rw [d1, d2, if_neg (by omega), if_pos (by omega), hdiv, hmod]
      simp only [beq_self_eq_true]
      rw [a1, a2]
    · simp only [hn, decide_false, if_false, Bool.false_eq_true]
      have d1 : R / 2 ^ 63 % 2 = 0 := by omega
      have d2 : R % 2 ^ 63 = R := by omega
      rw [d1, d2, if_neg (by omega), if_pos (by omega), hdiv, hmod]
      have : ((0 : Nat) == 1) = false := rfl
      rw [this, a1, a2]

theorem signed_eq (n : Int) (m : Nat) (hm : m = n.natAbs) (u : Nat) : Ieee.signed (decide (n < 0)) m u = n * 2 ^ u := by
  unfold Ieee.signed
  rw [Nat.shiftLeft_eq]
  by_cases hn : n < 0
  · simp only [hn, decide_true, if_true]
    have : (m : Int) = -n := by omega
    push_cast
    rw [this, Int.neg_mul, Int.neg_neg]
  · simp only [hn, decide_false, Bool.false_eq_true, if_false]
    have : (m : Int) = n := by omega
    push_cast
    rw [this]

theorem signed_mul (b : Bool) (m s u : Nat) : Ieee.signed b (m * 2 ^ s) u = Ieee.signed b m (s + u) := by
  unfold Ieee.signed
  simp only [Nat.shiftLeft_eq, Nat.pow_add, Nat.mul_assoc]

theorem order_fl (a b : Int) (ha : Small a) (hb : Small b) : FloatKind.f64.format.order (fl a) (fl b) = some (compare a b) := by
  obtain ⟨m, s, e1, hm, _⟩ := read_fl a ha
  obtain ⟨n, t, e2, hn, _⟩ := read_fl b hb
  unfold Ieee.Format.order
  have e1' : FloatKind.f64.format.read (fl a) = _ := e1
  have e2' : FloatKind.f64.format.read (fl b) = _ := e2
  rw [e1', e2']
  show some (compare (Ieee.signed _ m _) (Ieee.signed _ n _)) = _
  rw [hm, hn, signed_mul, signed_mul, signed_eq a _ rfl, signed_eq b _ rfl]
  obtain ⟨B, hB⟩ : ∃ B : Nat, B = (-(min (-(s : Int)) (-(t : Int)))).toNat := ⟨_, rfl⟩
  have h1 : s + (-(s : Int) - min (-(s : Int)) (-(t : Int))).toNat = B := by omega
  have h2 : t + (-(t : Int) - min (-(s : Int)) (-(t : Int))).toNat = B := by omega
  rw [h1, h2]
  congr 1
  have hp : (0 : Int) < 2 ^ B := Int.pow_pos (by omega)
  simp only [Int.compare_eq_ite_lt]
  have k1 : a * 2 ^ B < b * 2 ^ B ↔ a < b := Int.mul_lt_mul_right hp
  have k2 : b * 2 ^ B < a * 2 ^ B ↔ b < a := Int.mul_lt_mul_right hp
  simp only [k1, k2]

theorem toInt_fl (n : Int) (h : Small n) : floatToIntVal .f64 (fl n) .i64 = some n := by
  obtain ⟨m, s, e1, hm, hr⟩ := read_fl n h
  unfold floatToIntVal
  rw [e1]
  have hti : (Ieee.Datum.number (decide (n < 0)) m (-(s : Int))).toInt .zero = some n := by
    show some (Ieee.signed (decide (n < 0)) (Ieee.Toward.zero.cut (decide (n < 0)) (m <<< (-(s : Int)).toNat) (- -(s : Int)).toNat) 0) = some n
    have h1 : (-(s : Int)).toNat = 0 := by omega
    have h2 : (- -(s : Int)).toNat = s := by omega
    rw [h1, h2, Nat.shiftLeft_zero]
    have hcut : Ieee.Toward.zero.cut (decide (n < 0)) m s = n.natAbs := by
      unfold Ieee.Toward.cut
      simp only [Bool.toNat_false, Nat.add_zero, Nat.shiftLeft_eq, Nat.one_mul]
      rcases hr with h0 | ⟨hr1, hr2⟩
      · subst h0
        subst hm
        simp
      · have hl : m.log2 = 52 := by
          have hm0 : m ≠ 0 := by omega
          rw [Nat.log2_eq_iff hm0]
          exact ⟨hr1, hr2⟩
        have hs : s ≤ 52 := by
          rcases Nat.lt_or_ge 52 s with hgt | hle
          · have : 2 ^ 53 ≤ 2 ^ s := Nat.pow_le_pow_right (by omega) hgt
            have h1 : 1 ≤ n.natAbs := by
              rcases Nat.eq_zero_or_pos n.natAbs with z | z
              · rw [z] at hm; omega
              · exact z
            have : 1 * 2 ^ s ≤ n.natAbs * 2 ^ s := Nat.mul_le_mul_right _ h1
            omega
          · exact hle
        rw [hl, Nat.min_eq_left (by omega), hm, Nat.mul_div_cancel _ (Nat.pow_pos (by omega))]
    rw [hcut, signed_eq n _ rfl]
    simp
  rw [hti]
  unfold Small at h
  have : IntKind.min .i64 ≤ n ∧ n ≤ IntKind.max .i64 := by
    have e1 : IntKind.min .i64 = -9223372036854775808 := by decide
    have e2 : IntKind.max .i64 = 9223372036854775807 := by decide
    omega
  simp only [this, and_self, if_true]

theorem lt_fl (a b : Int) (ha : Small a) (hb : Small b) : (FloatKind.f64.format.order (fl a) (fl b) == some .lt) = decide (a < b) := by
  rw [order_fl a b ha hb, Int.compare_eq_ite_lt]
  by_cases h : a < b
  · simp [h]
  · by_cases h2 : b < a <;> simp [h, h2]
theorem eq_fl (a b : Int) (ha : Small a) (hb : Small b) : (FloatKind.f64.format.order (fl a) (fl b) == some .eq) = decide (a = b) := by
  rw [order_fl a b ha hb, Int.compare_eq_ite_lt]
  rcases Int.lt_trichotomy a b with h | h | h
  · have h2 : a ≠ b := by omega
    simp [h, h2]
  · simp [h]
  · have h1 : ¬ a < b := by omega
    have h2 : a ≠ b := by omega
    simp [h, h1, h2]
end Go.Proofs.YFl
