/- The document's examples hold. Digits: how the program and the reference write them. How the program writes a date. How the reference writes a date: as the program does. How a text is read by the program, over lists of bytes. How a text is read by the reference: as by the program. Texts: what the program reads, and what it writes. Texts: the reference's way and the program's are one. The law StampTexts' call where the program and the reference answer the same. Printed, and cut to one way by gen_texts.py. What any text says as a date, and how any date is written. -/
import Derived.Test.YtbondhnhiinlbaaTPrx21
import Derived.Test.YtbondhnhiinlbaaTK0
import Derived.Laws.Bits64
import Derived.Test.YtbondhnhiinlbaaTPrx12
import Derived.Test.YtbondhnhiinlbaaTK1
import Derived.Test.YtbondhnhiinlbaaTPrx34
import Derived.Test.YtbondhnhiinlbaaTPrx32
import Derived.Test.YtbondhnhiinlbaaTHd
import Derived.OpenShut
section
section
set_option linter.unusedVariables false
set_option linter.unusedSimpArgs false
namespace Go.Proofs.Ytbondhnhiinlbaa.Pr
open Go.RowKit Go.Proofs.YtbondhnhiinlbaaW.PrintWords Go.Proofs.YtbondhnhiinlbaaW.PrintLast Go.Proofs.YtbondhnhiinlbaaW.PrintMore
theorem Ev.two {α β : Type} {g : Nat → Option α} {f : Nat → Option β} {r : α} {q : β} (h : Ev f q) (hs : ∀ k, f k = some q → g (k + 1) = some r) : Ev g r := by
  obtain ⟨K, hK⟩ := h
  refine ⟨K + 1, fun k hk => ?_⟩
  obtain ⟨m, rfl⟩ : ∃ m, k = m + 1 := ⟨k - 1, by omega⟩
  exact hs m (hK m (by omega))
theorem Ev.three {α β : Type} {g : Nat → Option α} {f : Nat → Option β} {r : α} {q : β} (h : Ev f q) (hs : ∀ k, f k = some q → g (k + 2) = some r) : Ev g r := by
  obtain ⟨K, hK⟩ := h
  refine ⟨K + 2, fun k hk => ?_⟩
  obtain ⟨m, rfl⟩ : ∃ m, k = m + 2 := ⟨k - 2, by omega⟩
  exact hs m (hK m (by omega))
theorem Ev.zero {α β : Type} {g : Nat → Option α} {f : Nat → Option β} {r : α} {q : β} (h : Ev f q) (hs : ∀ k, f k = some q → g k = some r) : Ev g r := by
  obtain ⟨K, hK⟩ := h
  exact ⟨K, fun k hk => hs k (hK k hk)⟩
theorem Ev.end1 {α : Type} {g : Nat → Option α} {r : α} (hs : ∀ k, g (k + 1) = some r) : Ev g r :=
  ⟨1, fun k hk => by obtain ⟨m, rfl⟩ : ∃ m, k = m + 1 := ⟨k - 1, by omega⟩; exact hs m⟩
theorem Ev.all {α : Type} {g : Nat → Option α} {r : α} (hs : ∀ k, g k = some r) : Ev g r := ⟨0, fun k _ => hs k⟩
theorem Ev.of_mono {α : Type} {g : Nat → Option α} {r : α} (K : Nat) (h : g K = some r) (hm : ∀ k, LeO (g k) (g (k + 1))) : Ev g r := by
  refine ⟨K, fun k hk => ?_⟩
  induction k with
  | zero => rw [show K = 0 from by omega] at h; exact h
  | succ k ih =>
    by_cases hk' : K ≤ k
    · exact hm k _ (ih hk')
    · rw [show K = k + 1 from by omega] at h
      exact h
theorem shown_20 : foliotlaw02_shown.f 20 = some true := by decide +kernel
theorem shown_ev : Ev (fun k => foliotlaw02_shown.f k) true := Ev.of_mono 20 shown_20 (fun k => foliotlaw02_shown.mono k)
end Go.Proofs.Ytbondhnhiinlbaa.Pr
end
section
set_option linter.unusedVariables false
set_option linter.unusedSimpArgs false
namespace Go.Proofs.Ytbondhnhiinlbaa.Pr
open Go.RowKit Go.Proofs.YtbondhnhiinlbaaW.PrintWords Go.Proofs.YtbondhnhiinlbaaW.PrintLast Go.Proofs.YtbondhnhiinlbaaW.PrintMore
theorem u64_mod (n : Int) : IntKind.u64.wrap n = n % 18446744073709551616 := IntKind.wrap_u64 n
theorem add_zero_eq (k : Nat) (v : Int) (h0 : -4611686018427387904 ≤ v) (h1 : v ≤ 4611686018427387904) : fixed_Add.f (k + 1) v 0 = some v := by
  unfold fixed_Add.f fixed_sum.f
  rw [if_pos ⟨⟨by omega, by omega⟩, by decide, by decide⟩, Int.add_zero]
  by_cases hv : v < 0
  · rw [if_pos hv, Option.bind_some]
    rw [show -v / 18446744073709551616 = 0 from by omega, show -v % 18446744073709551616 = -v from by omega]
    unfold fixed_whole_span.f fixed_whole_cut.f
    dsimp only
    rw [if_pos rfl]
    by_cases hl : -v < 4611686018427387904
    · rw [decide_eq_true (by rw [u64_mod]; omega)]
      simp only [fixed_whole_cut.j0, if_true, Option.bind_some]
      congr 1
      unfold wrap64
      omega
    · rw [decide_eq_false (by rw [u64_mod]; omega)]
      simp only [fixed_whole_cut.j0, if_true, Option.bind_some]
      rw [if_neg (by decide)]
      simp only [Option.bind_some]
      congr 1
      unfold wrap64
      omega
  · rw [if_neg hv, Option.bind_some]
    unfold fixed_whole_span.f fixed_whole_cut.f
    dsimp only
    rw [if_pos rfl]
    by_cases hl : v < 4611686018427387904
    · rw [decide_eq_true (by rw [u64_mod]; omega)]
      simp only [fixed_whole_cut.j0, if_true, Option.bind_some]
      rw [if_neg (by decide)]
      simp only [Option.bind_some]
      congr 1
      unfold wrap64
      omega
    · rw [decide_eq_false (by rw [u64_mod]; omega)]
      simp only [fixed_whole_cut.j0, Option.bind_some]
      rw [if_neg (by decide), if_neg (by decide)]
      simp only [Option.bind_some]
      congr 1
      omega
theorem clamp_eq (k : Nat) (a : Int) : fixed_Clamp.f (k + 1) a 4611686018427387904 = some (mx (-4611686018427387904) (mn a 4611686018427387904)) := by
  unfold fixed_Clamp.f
  rw [if_neg (by decide)]
  have e : mx (mn a 4611686018427387904) (wrap64 (-4611686018427387904)) = mx (-4611686018427387904) (mn a 4611686018427387904) := by
    unfold mx mn wrap64
    repeat' split
    all_goals omega
  rw [e, add_zero_eq k _ (by unfold mx mn; repeat' split
                             all_goals omega) (by unfold mx mn; repeat' split
                                                  all_goals omega)]
  rfl
theorem since_eq (k : Nat) (a b : Int) : stamp_Since.f (k + 1) a b = some (mx (-4611686018427387904) (mn (wrap64 (IntKind.u64.wrap (a - b))) 4611686018427387904)) := by
  unfold stamp_Since.f
  rw [clamp_eq]
  rfl
theorem refsince_eq (a b : Int) : foliotref02_Since.f a b = some (mx (-4611686018427387904) (mn (wrap64 (IntKind.u64.wrap (a - b))) 4611686018427387904)) := by
  unfold foliotref02_Since.f foliotref02_Cut.f
  rfl
theorem since_cut (k : Nat) (a b d : Int) (hd : wrap64 (IntKind.u64.wrap (a - b)) = d) (h0 : -4611686018427387904 ≤ d) (h1 : d ≤ 4611686018427387904) : stamp_Since.f (k + 1) a b = some d := by
  rw [since_eq, hd]
  congr 1
  unfold mx mn
  repeat' split
  all_goals omega
end Go.Proofs.Ytbondhnhiinlbaa.Pr
end
end
section
set_option linter.unusedVariables false
set_option linter.unusedSimpArgs false
namespace Go.Proofs.Ytbondhnhiinlbaa.Pr
open Go.RowKit Go.Proofs.YtbondhnhiinlbaaW.PrintWords Go.Proofs.YtbondhnhiinlbaaW.PrintLast Go.Proofs.YtbondhnhiinlbaaW.PrintMore
theorem son_append (a b : List Int) : strOfNums (a ++ b) = strOfNums a ++ strOfNums b := by
  apply ByteArray.ext
  rw [ByteArray.data_append]
  simp [strOfNums]
theorem son_size (a : List Int) : (strOfNums a).size = a.length := by
  show (strOfNums a).data.size = _
  simp [strOfNums]
def bnums (s : ByteArray) : List Int := s.data.toList.map fun b => (b.toNat : Int)
theorem son_bnums (s : ByteArray) : strOfNums (bnums s) = s := by
  apply ByteArray.ext
  apply Array.ext'
  simp only [strOfNums, bnums, List.map_map]
  rw [List.map_congr_left (g := id) (fun b _ => by simp), List.map_id]
theorem bnums_son (l : List Int) (h : ∀ x ∈ l, 0 ≤ x ∧ x < 256) : bnums (strOfNums l) = l := by
  simp only [strOfNums, bnums, List.map_map]
  rw [List.map_congr_left (g := id) (fun x hx => ?_), List.map_id]
  have := h x hx
  simp only [Function.comp_apply, UInt8.toNat_ofNat', id]
  omega
theorem bnums_length (s : ByteArray) : (bnums s).length = s.size := by simp [bnums]
/-- so many digits of a number -/
def dg : Nat → Int → List Int
  | 0, _ => []
  | m + 1, n => dg m (n / 10) ++ [48 + n % 10]
theorem dg_length : ∀ (m : Nat) (n : Int), (dg m n).length = m
  | 0, _ => rfl
  | m + 1, n => by rw [dg, List.length_append, dg_length m]; rfl
theorem dg_range : ∀ (m : Nat) (n : Int), ∀ x ∈ dg m n, 48 ≤ x ∧ x ≤ 57
  | 0, _, x, hx => by simp [dg] at hx
  | m + 1, n, x, hx => by
    rw [dg, List.mem_append, List.mem_singleton] at hx
    rcases hx with hx | rfl
    · exact dg_range m _ x hx
    · omega
theorem digit_one (d : Int) (h : 0 ≤ d ∧ d < 10) : (⟨#[48, 49, 50, 51, 52, 53, 54, 55, 56, 57]⟩ : ByteArray).extract d.toNat (d + 1).toNat = strOfNums [48 + d] := by
  rcases (show d = 0 ∨ d = 1 ∨ d = 2 ∨ d = 3 ∨ d = 4 ∨ d = 5 ∨ d = 6 ∨ d = 7 ∨ d = 8 ∨ d = 9 from by omega) with rfl | rfl | rfl | rfl | rfl | rfl | rfl | rfl | rfl | rfl <;> decide +kernel
theorem digits_l0 (many : Int) (hm : many ≤ 10) : ∀ (d i : Nat) (n : Int) (out : ByteArray), (i : Int) + d = many → 0 ≤ n → n ≤ 9223372036854775807 → out.size = i → Ev (fun k => foliotref02_digits.l0 k n many out (i : Int)) (strOfNums (dg d n) ++ out)
  | 0, i, n, out, hi, h0, h1, hs => by
    refine Ev.end1 fun k => ?_
    rw [foliotref02_digits.l0, if_neg (by omega)]
    have e : strOfNums (dg 0 n) ++ out = out := by
      apply ByteArray.ext
      rw [ByteArray.data_append]
      simp [dg, strOfNums]
    rw [e]
  | d + 1, i, n, out, hi, h0, h1, hs => by
    have hx : (⟨#[48, 49, 50, 51, 52, 53, 54, 55, 56, 57]⟩ : ByteArray).extract (n % 10).toNat (n % 10 + 1).toNat = strOfNums [48 + n % 10] := digit_one (n % 10) (by omega)
    have h := digits_l0 many hm d (i + 1) (n / 10) (strOfNums [48 + n % 10] ++ out) (by omega) (by omega) (by omega) (by rw [ByteArray.size_append, son_size, hs]; simp; omega)
    refine Ev.two h fun k hk => ?_
    rw [foliotref02_digits.l0, if_pos (by omega), tm_eq h0, td_eq h0, w_in (n := n % 10 + 1) (by omega), w_in (n := n / 10) (by omega), w_in (n := (i : Int) + 1) (by omega), hx, if_pos (by omega), if_pos (by omega), if_pos (by omega), if_pos (by rw [son_size, hs]; simp; omega)]
    rw [show (i : Int) + 1 = ((i + 1 : Nat) : Int) from by omega, hk, dg, son_append]
    rw [ByteArray.append_assoc]
theorem digits_ev (n : Int) (many : Nat) (hm : many ≤ 10) (h0 : 0 ≤ n) (h1 : n ≤ 9223372036854775807) : Ev (fun k => foliotref02_digits.f k n (many : Int)) (strOfNums (dg many n)) := by
  have h := digits_l0 (many : Int) (by omega) many 0 n ⟨#[]⟩ (by omega) h0 h1 rfl
  have e : strOfNums (dg many n) ++ (⟨#[]⟩ : ByteArray) = strOfNums (dg many n) := by
    apply ByteArray.ext
    rw [ByteArray.data_append]
    simp
  rw [e] at h
  exact h
theorem put_l1 (base : List Int) : ∀ (j : Nat) (n : Int) (done : List Int), 0 ≤ n → n ≤ 9223372036854775807 → base.length + j + done.length ≤ 1000 →
    Ev (fun k => stamp_put.l1 k (base ++ (List.replicate j 48 ++ done)) n (base.length : Int) ((base.length : Int) + j - 1)) (base ++ (dg j n ++ done))
  | 0, n, done, h0, h1, hl => by
    refine Ev.end1 fun k => ?_
    rw [stamp_put.l1, if_neg (by omega)]
    rfl
  | j + 1, n, done, h0, h1, hl => by
    have h := put_l1 base j (n / 10) ((48 + n % 10) :: done) (by omega) (by omega) (by simp; omega)
    refine Ev.two h fun k hk => ?_
    rw [stamp_put.l1, if_pos (by omega), if_pos (by omega), if_pos (by simp; omega), tm_eq h0, td_eq h0, w_in (n := 48 + n % 10) (by omega), w_in (n := n / 10) (by omega), w_in (n := (base.length : Int) + ((j + 1 : Nat) : Int) - 1 - 1) (by omega), show (48 + n % 10) % 256 = 48 + n % 10 from by omega,
      show ((base.length : Int) + ((j + 1 : Nat) : Int) - 1).toNat = base.length + j from by omega, show (base.length : Int) + ((j + 1 : Nat) : Int) - 1 - 1 = (base.length : Int) + (j : Int) - 1 from by omega]
    have e : (base ++ (List.replicate (j + 1) 48 ++ done)).set (base.length + j) (48 + n % 10) = base ++ (List.replicate j 48 ++ ((48 + n % 10) :: done)) := by
      rw [List.set_append_right _ _ (by omega), show base.length + j - base.length = j from by omega, show List.replicate (j + 1) (48 : Int) = List.replicate j 48 ++ [48] from List.replicate_succ' .., List.append_assoc,
        List.set_append_right _ _ (by simp), List.length_replicate, Nat.sub_self]
      rfl
    rw [e, hk, dg, List.append_assoc]
    rfl
theorem put_l0 (base : List Int) (n : Int) (many : Nat) (hm : many ≤ 10) (hb : base.length ≤ 900) (r : List Int) (h : Ev (fun k => stamp_put.l1 k (base ++ List.replicate many 48) n (base.length : Int) ((base.length : Int) + many - 1)) r) :
    ∀ (d i : Nat), i + d = many → Ev (fun k => stamp_put.l0 k (base ++ List.replicate i 48) n (many : Int) (base.length : Int) (many : Int) (i : Int)) r
  | 0, i, hi => by
    obtain rfl : i = many := by omega
    refine Ev.two h fun k hk => ?_
    rw [stamp_put.l0, if_neg (by omega), w_in (n := (base.length : Int) + (i : Int)) (by omega), w_in (n := (base.length : Int) + (i : Int) - 1) (by omega)]
    exact hk
  | d + 1, i, hi => by
    refine Ev.two (put_l0 base n many hm hb r h d (i + 1) (by omega)) fun k hk => ?_
    rw [stamp_put.l0, if_pos (by omega), if_pos (by simp; omega), w_in (n := (i : Int) + 1) (by omega)]
    rw [List.replicate_succ', ← List.append_assoc] at hk
    exact hk
theorem put_ev (base : List Int) (n : Int) (many : Nat) (hm : many ≤ 10) (hb : base.length ≤ 900) (h0 : 0 ≤ n) (h1 : n ≤ 9223372036854775807) : Ev (fun k => stamp_put.f k base n (many : Int)) (base ++ dg many n) := by
  have h := put_l1 base many n [] h0 h1 (by simp; omega)
  rw [List.append_nil, List.append_nil] at h
  have g := put_l0 base n many hm hb _ h many 0 (by omega)
  simp only [List.replicate_zero, List.append_nil] at g
  exact g
end Go.Proofs.Ytbondhnhiinlbaa.Pr
end
section
set_option linter.unusedVariables false
set_option linter.unusedSimpArgs false
namespace Go.Proofs.Ytbondhnhiinlbaa.Pr
open Go.RowKit Go.Proofs.YtbondhnhiinlbaaW.PrintWords Go.Proofs.YtbondhnhiinlbaaW.PrintLast Go.Proofs.YtbondhnhiinlbaaW.PrintMore
def outOf (y m d h mi s n : Int) : List Int := dg 4 y ++ [45] ++ dg 2 m ++ [45] ++ dg 2 d ++ [32] ++ dg 2 h ++ [58] ++ dg 2 mi ++ [58] ++ dg 2 s ++ [46] ++ dg 6 n
theorem lit_one (c : Int) (u : UInt8) (h : UInt8.ofNat c.toNat = u) : (⟨#[u]⟩ : ByteArray) = strOfNums [c] := by
  subst h
  rfl
theorem print_ok (e a y m d h mi s fr : Int) (ho : stamp_OfDate.f e a = some (y, m, d, h, mi, s, fr, 0)) (hy : 0 ≤ y ∧ y ≤ 100000) (hm : 0 ≤ m ∧ m ≤ 100000) (hd : 0 ≤ d ∧ d ≤ 100000) (hh : 0 ≤ h ∧ h ≤ 100000) (hmi : 0 ≤ mi ∧ mi ≤ 100000) (hs : 0 ≤ s ∧ s ≤ 100000) (hf : 0 ≤ fr ∧ fr < 4294967296) :
    Ev (fun k => stamp_Print.f k e a) (strOfNums (outOf y m d h mi s (fr * 1000000 / 4294967296)), 0) := by
  have l0 : (dg 4 y).length = 4 := dg_length _ _
  have l1 : (dg 2 m).length = 2 := dg_length _ _
  have l2 : (dg 2 d).length = 2 := dg_length _ _
  have l3 : (dg 2 h).length = 2 := dg_length _ _
  have l4 : (dg 2 mi).length = 2 := dg_length _ _
  have l5 : (dg 2 s).length = 2 := dg_length _ _
  have l6 : (dg 6 (fr * 1000000 / 4294967296)).length = 6 := dg_length _ _
  have p0 := put_ev [] y 4 (by decide) (by simp) (by omega) (by omega)
  have p1 := put_ev (dg 4 y ++ [45]) m 2 (by decide) (by simp [l0]) (by omega) (by omega)
  have p2 := put_ev (dg 4 y ++ [45] ++ dg 2 m ++ [45]) d 2 (by decide) (by simp [l0, l1]) (by omega) (by omega)
  have p3 := put_ev (dg 4 y ++ [45] ++ dg 2 m ++ [45] ++ dg 2 d ++ [32]) h 2 (by decide) (by simp [l0, l1, l2]) (by omega) (by omega)
  have p4 := put_ev (dg 4 y ++ [45] ++ dg 2 m ++ [45] ++ dg 2 d ++ [32] ++ dg 2 h ++ [58]) mi 2 (by decide) (by simp [l0, l1, l2, l3]) (by omega) (by omega)
  have p5 := put_ev (dg 4 y ++ [45] ++ dg 2 m ++ [45] ++ dg 2 d ++ [32] ++ dg 2 h ++ [58] ++ dg 2 mi ++ [58]) s 2 (by decide) (by simp [l0, l1, l2, l3, l4]) (by omega) (by omega)
  have p6 := put_ev (dg 4 y ++ [45] ++ dg 2 m ++ [45] ++ dg 2 d ++ [32] ++ dg 2 h ++ [58] ++ dg 2 mi ++ [58] ++ dg 2 s ++ [46]) (fr * 1000000 / 4294967296) 6 (by decide) (by simp [l0, l1, l2, l3, l4, l5]) (by omega) (by omega)
  obtain ⟨K0, p0⟩ := p0
  obtain ⟨K1, p1⟩ := p1
  obtain ⟨K2, p2⟩ := p2
  obtain ⟨K3, p3⟩ := p3
  obtain ⟨K4, p4⟩ := p4
  obtain ⟨K5, p5⟩ := p5
  obtain ⟨K6, p6⟩ := p6
  refine ⟨K0 + K1 + K2 + K3 + K4 + K5 + K6, fun k hk => ?_⟩
  have p0 := p0 k (by omega)
  have p1 := p1 k (by omega)
  have p2 := p2 k (by omega)
  have p3 := p3 k (by omega)
  have p4 := p4 k (by omega)
  have p5 := p5 k (by omega)
  have p6 := p6 k (by omega)
  dsimp only at p0 p1 p2 p3 p4 p5 p6
  rw [show ((4 : Nat) : Int) = 4 from rfl, List.nil_append] at p0
  rw [show ((2 : Nat) : Int) = 2 from rfl] at p1 p2 p3 p4 p5
  rw [show ((6 : Nat) : Int) = 6 from rfl] at p6
  simp only [stamp_Print.f]
  rw [ho, Option.bind_some]
  dsimp only
  rw [if_pos rfl, p0, Option.bind_some, if_pos (by simp [l0]), p1, Option.bind_some, if_pos (by simp [l0, l1]), p2, Option.bind_some, if_pos (by simp [l0, l1, l2]), p3, Option.bind_some, if_pos (by simp [l0, l1, l2, l3]), p4, Option.bind_some, if_pos (by simp [l0, l1, l2, l3, l4]), p5, Option.bind_some, if_pos (by simp [l0, l1, l2, l3, l4, l5]),
    w_in (n := fr) (by omega), w_in (n := fr * 1000000) (by omega), p6, Option.bind_some]
  rfl
theorem print_err (e a x : Int) (hx : x ≠ 0) (ho : stamp_OfDate.f e a = some (0, 0, 0, 0, 0, 0, 0, x)) (k : Nat) : stamp_Print.f k e a = some (⟨#[]⟩, x) := by
  simp only [stamp_Print.f]
  rw [ho, Option.bind_some]
  dsimp only
  rw [if_neg hx]
end Go.Proofs.Ytbondhnhiinlbaa.Pr
end
section
set_option linter.unusedVariables false
set_option linter.unusedSimpArgs false
namespace Go.Proofs.Ytbondhnhiinlbaa.Pr
open Go.RowKit Go.Proofs.YtbondhnhiinlbaaW.PrintWords Go.Proofs.YtbondhnhiinlbaaW.PrintLast Go.Proofs.YtbondhnhiinlbaaW.PrintMore
theorem refprint_err (e a x : Int) (hx : x ≠ 0) (k : Nat) (ho : foliotref02_OfDate.f k e a = some (0, 0, 0, 0, 0, 0, 0, x)) : foliotref02_Print.f k e a = some (⟨#[]⟩, x) := by
  simp only [foliotref02_Print.f]
  rw [ho, Option.bind_some]
  dsimp only
  rw [if_neg hx]
theorem refprint_ok (e a y m d h mi s fr : Int) (ho : Ev (fun k => foliotref02_OfDate.f k e a) (y, m, d, h, mi, s, fr, 0)) (hy : 0 ≤ y ∧ y ≤ 100000) (hm : 0 ≤ m ∧ m ≤ 100000) (hd : 0 ≤ d ∧ d ≤ 100000) (hh : 0 ≤ h ∧ h ≤ 100000) (hmi : 0 ≤ mi ∧ mi ≤ 100000) (hs : 0 ≤ s ∧ s ≤ 100000) (hf : 0 ≤ fr ∧ fr < 4294967296) :
    Ev (fun k => foliotref02_Print.f k e a) (strOfNums (outOf y m d h mi s (fr * 1000000 / 4294967296)), 0) := by
  have l0 : (dg 4 y).length = 4 := dg_length _ _
  have l1 : (dg 2 m).length = 2 := dg_length _ _
  have l2 : (dg 2 d).length = 2 := dg_length _ _
  have l3 : (dg 2 h).length = 2 := dg_length _ _
  have l4 : (dg 2 mi).length = 2 := dg_length _ _
  have l5 : (dg 2 s).length = 2 := dg_length _ _
  have l6 : (dg 6 (fr * 1000000 / 4294967296)).length = 6 := dg_length _ _
  have p0 := digits_ev y 4 (by decide) (by omega) (by omega)
  have p1 := digits_ev m 2 (by decide) (by omega) (by omega)
  have p2 := digits_ev d 2 (by decide) (by omega) (by omega)
  have p3 := digits_ev h 2 (by decide) (by omega) (by omega)
  have p4 := digits_ev mi 2 (by decide) (by omega) (by omega)
  have p5 := digits_ev s 2 (by decide) (by omega) (by omega)
  have p6 := digits_ev (fr * 1000000 / 4294967296) 6 (by decide) (by omega) (by omega)
  obtain ⟨K, ho⟩ := ho
  obtain ⟨K0, p0⟩ := p0
  obtain ⟨K1, p1⟩ := p1
  obtain ⟨K2, p2⟩ := p2
  obtain ⟨K3, p3⟩ := p3
  obtain ⟨K4, p4⟩ := p4
  obtain ⟨K5, p5⟩ := p5
  obtain ⟨K6, p6⟩ := p6
  refine ⟨K + K0 + K1 + K2 + K3 + K4 + K5 + K6, fun k hk => ?_⟩
  have ho := ho k (by omega)
  have p0 := p0 k (by omega)
  have p1 := p1 k (by omega)
  have p2 := p2 k (by omega)
  have p3 := p3 k (by omega)
  have p4 := p4 k (by omega)
  have p5 := p5 k (by omega)
  have p6 := p6 k (by omega)
  dsimp only at ho p0 p1 p2 p3 p4 p5 p6
  rw [show ((4 : Nat) : Int) = 4 from rfl] at p0
  rw [show ((2 : Nat) : Int) = 2 from rfl] at p1 p2 p3 p4 p5
  rw [show ((6 : Nat) : Int) = 6 from rfl] at p6
  have c45 : (⟨#[45]⟩ : ByteArray) = strOfNums [45] := rfl
  have c32 : (⟨#[32]⟩ : ByteArray) = strOfNums [32] := rfl
  have c58 : (⟨#[58]⟩ : ByteArray) = strOfNums [58] := rfl
  have c46 : (⟨#[46]⟩ : ByteArray) = strOfNums [46] := rfl
  simp only [foliotref02_Print.f]
  rw [ho, Option.bind_some]
  dsimp only
  rw [if_pos rfl, c45, c32, c58, c46, w_in (n := fr) (by omega), w_in (n := fr * 1000000) (by omega), p0, Option.bind_some, p1, Option.bind_some, p2, Option.bind_some, p3, Option.bind_some, p4, Option.bind_some, p5, Option.bind_some, p6, Option.bind_some]
  simp only [← son_append, son_size, List.length_append, l0, l1, l2, l3, l4, l5, l6, List.length_cons, List.length_nil]
  rfl
end Go.Proofs.Ytbondhnhiinlbaa.Pr
end
section
set_option linter.unusedVariables false
set_option linter.unusedSimpArgs false
namespace Go.Proofs.Ytbondhnhiinlbaa.Pr
open Go.RowKit Go.Proofs.YtbondhnhiinlbaaW.PrintWords Go.Proofs.YtbondhnhiinlbaaW.PrintLast Go.Proofs.YtbondhnhiinlbaaW.PrintMore
def dl : Nat → Int → List Int → Option (Int × List Int)
  | 0, n, L => some (n, L)
  | _ + 1, _, [] => none
  | m + 1, n, c :: L => if 48 ≤ c ∧ c ≤ 57 then dl m (n * 10 + (c - 48)) L else none
def fl : List (Nat × Nat) → List Int → Option (List Int)
  | [], _ => some []
  | (m, g) :: l, L => (dl m 0 L).bind fun p => if g = 0 then (if p.2 = [] then (fl l []).bind fun r => some (p.1 :: r) else none) else
      match p.2 with
      | [] => none
      | c :: R => if c = (g : Int) then (fl l R).bind fun r => some (p.1 :: r) else none
theorem dl_drop : ∀ (m : Nat) (n : Int) (L : List Int) (v : Int) (R : List Int), dl m n L = some (v, R) → m ≤ L.length ∧ R = L.drop m
  | 0, n, L, v, R, h => by
    simp only [dl, Option.some.injEq, Prod.mk.injEq] at h
    exact ⟨Nat.zero_le _, h.2.symm⟩
  | m + 1, n, [], v, R, h => by simp [dl] at h
  | m + 1, n, c :: L, v, R, h => by
    rw [dl] at h
    by_cases hc : 48 ≤ c ∧ c ≤ 57
    · rw [if_pos hc] at h
      have g := dl_drop m _ L v R h
      exact ⟨by simp only [List.length_cons]; omega, by rw [List.drop_succ_cons]; exact g.2⟩
    · rw [if_neg hc] at h
      cases h
theorem bnums_drop (s : ByteArray) (i : Nat) (h : i < s.size) : (bnums s).drop i = (s[i].toNat : Int) :: (bnums s).drop (i + 1) := by
  have hl : i < (bnums s).length := by rw [bnums_length]; exact h
  rw [List.drop_eq_getElem_cons hl]
  congr 1
  simp [bnums]
  rfl
theorem bnums_extract (s : ByteArray) (a : Nat) : bnums (s.extract a s.size) = (bnums s).drop a := by
  unfold bnums
  rw [ByteArray.data_extract, Array.toList_extract, ← List.map_drop]
  congr 1
  simp only [List.extract_eq_take_drop]
  exact List.take_of_length_le (by rw [List.length_drop]; exact Nat.le_refl _)
theorem digs_eq (s : ByteArray) : ∀ (m i : Nat) (n : Int), digs s m i n = (dl m n ((bnums s).drop i)).map (·.1)
  | 0, i, n => rfl
  | m + 1, i, n => by
    rw [digs]
    by_cases h : i < s.size
    · rw [dif_pos h, bnums_drop s i h, dl]
      by_cases hc : 48 ≤ s[i].toNat ∧ s[i].toNat ≤ 57
      · rw [if_pos hc, if_pos (by omega)]
        exact digs_eq s m (i + 1) _
      · rw [if_neg hc, if_neg (by omega)]
        rfl
    · rw [dif_neg h, List.drop_eq_nil_of_le (by rw [bnums_length]; omega)]
      rfl
theorem bnums_nil : bnums (⟨#[]⟩ : ByteArray) = [] := rfl
theorem fields_eq : ∀ (l : List (Nat × Nat)) (s : ByteArray), fields l s = fl l (bnums s)
  | [], s => rfl
  | (m, g) :: l, s => by
    rw [fields, number, fl, digs_eq, List.drop_zero]
    rcases hd : dl m 0 (bnums s) with _ | ⟨v, R⟩
    · rfl
    · obtain ⟨h1, rfl⟩ := dl_drop _ _ _ _ _ hd
      rw [bnums_length] at h1
      simp only [Option.map_some, Option.bind_some]
      by_cases hg : g = 0
      · rw [if_pos hg, if_pos hg]
        by_cases hsz : s.size = m
        · rw [if_pos hsz, if_pos (List.drop_eq_nil_of_le (by rw [bnums_length]; omega)), Option.bind_some]
          dsimp only
          rw [fields_eq l, bnums_nil]
        · rw [if_neg hsz, if_neg (by rw [bnums_drop s m (by omega)]; simp)]
          rfl
      · rw [if_neg hg, if_neg hg]
        by_cases hm : m < s.size
        · rw [dif_pos hm, bnums_drop s m hm]
          dsimp only
          by_cases hc : s[m].toNat = g
          · rw [if_pos hc, if_pos (by omega), Option.bind_some]
            dsimp only
            rw [fields_eq l, bnums_extract]
          · rw [if_neg hc, if_neg (by omega)]
            rfl
        · rw [dif_neg hm, List.drop_eq_nil_of_le (by rw [bnums_length]; omega)]
          rfl
end Go.Proofs.Ytbondhnhiinlbaa.Pr
end
section
set_option linter.unusedVariables false
set_option linter.unusedSimpArgs false
namespace Go.Proofs.Ytbondhnhiinlbaa.Pr
open Go.RowKit Go.Proofs.YtbondhnhiinlbaaW.PrintWords Go.Proofs.YtbondhnhiinlbaaW.PrintLast Go.Proofs.YtbondhnhiinlbaaW.PrintMore
/-! the reference's way -/
def FORM : ByteArray := ⟨#[100, 100, 100, 100, 45, 100, 100, 45, 100, 100, 32, 100, 100, 58, 100, 100, 58, 100, 100, 46, 100, 100, 100, 100, 100, 100]⟩
theorem form_size : FORM.size = 26 := rfl
theorem Ev.end2 {α : Type} {g : Nat → Option α} {r : α} (hs : ∀ k, g (k + 2) = some r) : Ev g r :=
  ⟨2, fun k hk => by obtain ⟨m, rfl⟩ : ∃ m, k = m + 2 := ⟨k - 2, by omega⟩; exact hs m⟩
theorem bt_eq (s : ByteArray) (i : Nat) (h : i < s.size) : bt s (i : Int) = (s[i].toNat : Int) := by
  unfold bt
  rw [dif_pos (by rw [Int.toNat_natCast]; exact h)]
  rfl
section
variable {s : ByteArray} (hs : s.size = 26)
include hs
theorem l0_bad (k i : Nat) (n : List Int) (hi : i < 26) (hf : bt FORM (i : Int) = 100) (hc : ¬ (48 ≤ bt s (i : Int) ∧ bt s (i : Int) ≤ 57)) : foliotref02_Parse.l0 (k + 2) s FORM n (i : Int) = some (0, 0, 21) := by
  rw [foliotref02_Parse.l0, if_pos (by omega), if_pos (by omega), if_pos (by rw [form_size]; omega), if_pos hf]
  by_cases h1 : bt s (i : Int) < 48
  · rw [if_pos h1, foliotref02_Parse.j1, if_pos rfl]
  · rw [if_neg h1, if_pos (by omega), foliotref02_Parse.j1, if_pos rfl]
theorem l0_first (k i : Nat) (n : List Int) (hi : i < 26) (hl : n.length ≤ 100) (hf : bt FORM (i : Int) = 100) (hp : i = 0 ∨ bt FORM ((i : Int) - 1) ≠ 100) (hc : 48 ≤ bt s (i : Int) ∧ bt s (i : Int) ≤ 57) :
    foliotref02_Parse.l0 (k + 2) s FORM n (i : Int) = foliotref02_Parse.l0 k s FORM (n ++ [bt s (i : Int) - 48]) ((i + 1 : Nat) : Int) := by
  have e : (bt s (i : Int) - 48) % 256 = bt s (i : Int) - 48 := by omega
  rw [foliotref02_Parse.l0, if_pos (by omega), if_pos (by omega), if_pos (by rw [form_size]; omega), if_pos hf, if_neg (by omega), if_neg (by omega), foliotref02_Parse.j1, if_neg (by decide), if_pos (by omega), if_pos (by rw [form_size]; omega), if_pos hf]
  by_cases h0 : (i : Int) = 0
  · rw [if_pos h0, if_pos (by omega), if_pos (by omega), w_in (n := (i : Int) + 1) (by omega), e]
    rfl
  · have hpp : ¬ bt FORM ((i : Int) - 1) = 100 := hp.resolve_left (by omega)
    rw [if_neg h0, w_in (n := (i : Int) - 1) (by omega), if_pos (by omega), if_pos (by rw [form_size]; omega), if_neg hpp, if_pos (by omega), if_pos (by omega), w_in (n := (i : Int) + 1) (by omega), e]
    rfl
theorem l0_next (k i : Nat) (n : List Int) (v : Int) (hi : i < 26) (h0 : 1 ≤ i) (hl : n.length ≤ 100) (hf : bt FORM (i : Int) = 100) (hp : bt FORM ((i : Int) - 1) = 100) (hc : 48 ≤ bt s (i : Int) ∧ bt s (i : Int) ≤ 57) (hv : 0 ≤ v ∧ v ≤ 10000000) :
    foliotref02_Parse.l0 (k + 2) s FORM (n ++ [v]) (i : Int) = foliotref02_Parse.l0 k s FORM (n ++ [v * 10 + (bt s (i : Int) - 48)]) ((i + 1 : Nat) : Int) := by
  have e : (bt s (i : Int) - 48) % 256 = bt s (i : Int) - 48 := by omega
  have el : (((n ++ [v]).length : Nat) : Int) - 1 = (n.length : Int) := by simp
  have er : rd (n ++ [v]) (n.length : Int) = v := by
    unfold rd
    rw [Int.toNat_natCast, List.getD_eq_getElem?_getD, List.getElem?_append_right (Nat.le_refl _), Nat.sub_self]
    rfl
  have es : ∀ u : Int, (n ++ [v]).set ((n.length : Int)).toNat u = n ++ [u] := fun u => by
    rw [Int.toNat_natCast, List.set_append_right _ _ (Nat.le_refl _), Nat.sub_self]
    rfl
  rw [foliotref02_Parse.l0, if_pos (by omega), if_pos (by omega), if_pos (by rw [form_size]; omega), if_pos hf, if_neg (by omega), if_neg (by omega), foliotref02_Parse.j1, if_neg (by decide), if_pos (by omega), if_pos (by rw [form_size]; omega), if_pos hf,
    if_neg (by omega), w_in (n := (i : Int) - 1) (by omega), if_pos (by omega), if_pos (by rw [form_size]; omega), if_pos hp, el, w_in (n := (n.length : Int)) (by omega), if_pos (by omega), if_pos (by simp; omega), if_pos (by omega), er, e,
    w_in (n := v * 10) (by omega), w_in (n := v * 10 + (bt s (i : Int) - 48)) (by omega), es, w_in (n := (i : Int) + 1) (by omega)]
  rfl
theorem l0_sign (k i : Nat) (n : List Int) (hi : i < 26) (hf : bt FORM (i : Int) ≠ 100) : foliotref02_Parse.l0 (k + 2) s FORM n (i : Int) = if bt s (i : Int) = bt FORM (i : Int) then foliotref02_Parse.l0 k s FORM n ((i + 1 : Nat) : Int) else some (0, 0, 21) := by
  rw [foliotref02_Parse.l0, if_pos (by omega), if_pos (by omega), if_pos (by rw [form_size]; omega), if_neg hf, foliotref02_Parse.j1]
  by_cases hc : bt s (i : Int) = bt FORM (i : Int)
  · rw [if_pos hc, hc, if_neg (by simp), if_pos (by omega), if_pos (by rw [form_size]; omega), if_neg hf, w_in (n := (i : Int) + 1) (by omega)]
    rfl
  · rw [if_neg hc, if_pos (by simp [hc])]
theorem ref_more (m p : Nat) (n : List Int) (hn : n.length ≤ 100) (hm : m ≤ 6) (hp : p + m ≤ 26) (hf : ∀ i, i < m → bt FORM ((p + i : Nat) : Int) = 100) (R : Int × Int × Int) : ∀ (d j : Nat) (v : Int), j + d = m → 1 ≤ j → 0 ≤ v → v < 10 ^ j →
    (match dl d v ((bnums s).drop (p + j)) with | none => R = (0, 0, 21) | some (u, _) => Ev (fun k => foliotref02_Parse.l0 k s FORM (n ++ [u]) ((p + m : Nat) : Int)) R) → Ev (fun k => foliotref02_Parse.l0 k s FORM (n ++ [v]) ((p + j : Nat) : Int)) R
  | 0, j, v, hj, h1, hv0, hv1, h => by
    obtain rfl : j = m := by omega
    exact h
  | d + 1, j, v, hj, h1, hv0, hv1, h => by
    have hlt : p + j < s.size := by omega
    have hb := bt_eq s (p + j) hlt
    rw [bnums_drop s (p + j) hlt, dl, ← hb] at h
    have h10 : (10 : Int) ^ j ≤ 1000000 := by
      rcases (show j = 1 ∨ j = 2 ∨ j = 3 ∨ j = 4 ∨ j = 5 ∨ j = 6 from by omega) with rfl | rfl | rfl | rfl | rfl | rfl <;> decide
    have hprev : bt FORM (((p + j : Nat) : Int) - 1) = 100 := by
      have := hf (j - 1) (by omega)
      rw [show ((p + (j - 1) : Nat) : Int) = ((p + j : Nat) : Int) - 1 from by omega] at this
      exact this
    by_cases hc : 48 ≤ bt s ((p + j : Nat) : Int) ∧ bt s ((p + j : Nat) : Int) ≤ 57
    · rw [if_pos hc] at h
      have g := ref_more m p n hn hm hp hf R d (j + 1) (v * 10 + (bt s ((p + j : Nat) : Int) - 48)) (by omega) (by omega) (by omega) (by rw [Int.pow_succ]; omega) h
      refine Ev.three g fun k hk => ?_
      rw [l0_next hs k (p + j) n v (by omega) (by omega) hn (hf j (by omega)) hprev hc (by omega)]
      exact hk
    · rw [if_neg hc] at h
      obtain rfl : R = (0, 0, 21) := h
      exact Ev.end2 fun k => l0_bad hs k (p + j) _ (by omega) (hf j (by omega)) hc
theorem ref_digits (m p : Nat) (n : List Int) (hn : n.length ≤ 100) (hm : m ≤ 6) (hm1 : 1 ≤ m) (hp : p + m ≤ 26) (hf : ∀ i, i < m → bt FORM ((p + i : Nat) : Int) = 100) (hprev : p = 0 ∨ bt FORM ((p : Int) - 1) ≠ 100) (R : Int × Int × Int)
    (h : match dl m 0 ((bnums s).drop p) with | none => R = (0, 0, 21) | some (u, _) => Ev (fun k => foliotref02_Parse.l0 k s FORM (n ++ [u]) ((p + m : Nat) : Int)) R) : Ev (fun k => foliotref02_Parse.l0 k s FORM n (p : Int)) R := by
  obtain ⟨d, rfl⟩ : ∃ d, m = d + 1 := ⟨m - 1, by omega⟩
  have hlt : p < s.size := by omega
  have hb := bt_eq s p hlt
  have hf0 : bt FORM (p : Int) = 100 := hf 0 (by omega)
  rw [bnums_drop s p hlt, dl, ← hb] at h
  by_cases hc : 48 ≤ bt s (p : Int) ∧ bt s (p : Int) ≤ 57
  · rw [if_pos hc, Int.zero_mul, Int.zero_add] at h
    have g := ref_more hs (d + 1) p n hn hm hp hf R d 1 (bt s (p : Int) - 48) (by omega) (by omega) (by omega) (by omega) h
    refine Ev.three g fun k hk => ?_
    rw [l0_first hs k p n (by omega) hn hf0 hprev hc]
    exact hk
  · rw [if_neg hc] at h
    obtain rfl : R = (0, 0, 21) := h
    exact Ev.end2 fun k => l0_bad hs k p _ (by omega) hf0 hc
/-- does the form hold these fields from a place on? -/
def fok : List (Nat × Nat) → Nat → Bool
  | [], p => p == 26
  | (m, g) :: l, p => decide (1 ≤ m) && decide (m ≤ 6) && decide (p + m ≤ 26) && (List.range m).all (fun i => bt FORM ((p + i : Nat) : Int) == 100) && (p == 0 || bt FORM ((p : Int) - 1) != 100) &&
      (if g = 0 then p + m == 26 && l.isEmpty else decide (p + m < 26) && bt FORM ((p + m : Nat) : Int) == (g : Int) && g != 100 && fok l (p + m + 1))
def res (v : List Int) : Option (Int × Int × Int) := stamp_ToDate.f (rd v 0) (rd v 1) (rd v 2) (rd v 3) (rd v 4) (rd v 5) ((wrap64 (Int.tdiv (wrap64 ((wrap64 ((rd v 6) * 4294967296)) + 999999)) 1000000)) % 4294967296)
theorem ref_end (n : List Int) (hn : n.length = 7) (R : Int × Int × Int) (h : res n = some R) : Ev (fun k => foliotref02_Parse.l0 k s FORM n ((26 : Nat) : Int)) R := by
  refine Ev.end1 fun k => ?_
  have h' : foliotref02_ToDate.f (rd n 0) (rd n 1) (rd n 2) (rd n 3) (rd n 4) (rd n 5) ((wrap64 (Int.tdiv (wrap64 ((wrap64 ((rd n 6) * 4294967296)) + 999999)) 1000000)) % 4294967296) = some R := h
  rw [foliotref02_Parse.l0, if_neg (by omega), if_pos (by omega), if_pos (by omega), if_pos (by omega), if_pos (by omega), if_pos (by omega), if_pos (by omega), if_pos (by omega), h', Option.bind_some]
theorem ref_chain (R : Int × Int × Int) : ∀ (l : List (Nat × Nat)) (p : Nat) (n : List Int), fok l p = true → n.length + l.length = 7 →
    (match fl l ((bnums s).drop p) with | none => R = (0, 0, 21) | some r => res (n ++ r) = some R) → Ev (fun k => foliotref02_Parse.l0 k s FORM n (p : Int)) R
  | [], p, n, hok, hl, h => by
    simp only [fok, beq_iff_eq] at hok
    subst hok
    simp only [fl, List.append_nil] at h
    exact ref_end hs n (by simpa using hl) R h
  | (m, g) :: l, p, n, hok, hl, h => by
    simp only [fok, Bool.and_eq_true, decide_eq_true_eq, List.all_eq_true, List.mem_range, beq_iff_eq, Bool.or_eq_true, bne_iff_ne, ne_eq] at hok
    obtain ⟨⟨⟨⟨⟨hm1, hm6⟩, hp⟩, hf⟩, hprev⟩, hrest⟩ := hok
    simp only [List.length_cons] at hl
    refine ref_digits hs m p n (by omega) hm6 hm1 hp hf hprev R ?_
    rw [fl] at h
    rcases hd : dl m 0 ((bnums s).drop p) with _ | ⟨v, rest⟩
    · rw [hd] at h
      exact h
    · rw [hd, Option.bind_some] at h
      dsimp only at h ⊢
      obtain ⟨_, hr⟩ := dl_drop _ _ _ _ _ hd
      rw [List.drop_drop] at hr
      by_cases hg : g = 0
      · rw [if_pos hg] at h hrest
        simp only [Bool.and_eq_true, beq_iff_eq, List.isEmpty_iff] at hrest
        obtain ⟨h26, rfl⟩ := hrest
        rw [if_pos (by rw [hr]; exact List.drop_eq_nil_of_le (by rw [bnums_length]; omega))] at h
        simp only [fl, Option.bind_some] at h
        rw [h26]
        exact ref_end hs (n ++ [v]) (by simp at hl ⊢; omega) R h
      · rw [if_neg hg] at h hrest
        simp only [Bool.and_eq_true, decide_eq_true_eq, beq_iff_eq, bne_iff_ne, ne_eq] at hrest
        obtain ⟨⟨⟨h26, hsg⟩, hg100⟩, hok⟩ := hrest
        have hlt : p + m < s.size := by omega
        have hb := bt_eq s (p + m) hlt
        rw [hr, bnums_drop s (p + m) hlt, ← hb] at h
        dsimp only at h
        have hstep := fun k => l0_sign hs k (p + m) (n ++ [v]) h26 (by rw [hsg]; omega)
        by_cases hc : bt s ((p + m : Nat) : Int) = (g : Int)
        · rw [if_pos hc] at h
          have g' : Ev (fun k => foliotref02_Parse.l0 k s FORM (n ++ [v]) ((p + m + 1 : Nat) : Int)) R := by
            refine ref_chain R l (p + m + 1) (n ++ [v]) hok (by simp; omega) ?_
            rcases hfl : fl l ((bnums s).drop (p + m + 1)) with _ | r
            · rw [hfl] at h
              exact h
            · rw [hfl] at h
              simp only [Option.bind_some] at h
              simp only [List.append_assoc, List.singleton_append]
              exact h
          refine Ev.three g' fun k hk => ?_
          rw [hstep k, hsg, if_pos hc]
          exact hk
        · rw [if_neg hc] at h
          obtain rfl : R = (0, 0, 21) := h
          exact Ev.end2 fun k => by rw [hstep k, hsg, if_neg hc]
end
end Go.Proofs.Ytbondhnhiinlbaa.Pr
end
section
set_option linter.unusedVariables false
set_option linter.unusedSimpArgs false
namespace Go.Proofs.Ytbondhnhiinlbaa.Pr
open Go.RowKit Go.Proofs.YtbondhnhiinlbaaW.PrintWords Go.Proofs.YtbondhnhiinlbaaW.PrintLast Go.Proofs.YtbondhnhiinlbaaW.PrintMore
theorem dl_split : ∀ (m : Nat) (n : Int) (L : List Int), dl (m + 1) n L = (dl m n L).bind fun p => dl 1 p.1 p.2
  | 0, n, L => rfl
  | m + 1, n, [] => rfl
  | m + 1, n, c :: L => by
    rw [dl]
    by_cases hc : 48 ≤ c ∧ c ≤ 57
    · rw [if_pos hc, dl_split m, dl, if_pos hc]
    · rw [if_neg hc, dl, if_neg hc]
      rfl
theorem dl_dg : ∀ (m : Nat) (n u : Int) (R : List Int), 0 ≤ u → u < 10 ^ m → dl m n (dg m u ++ R) = some (n * 10 ^ m + u, R)
  | 0, n, u, R, h0, h1 => by
    rw [Int.pow_zero] at h1 ⊢
    obtain rfl : u = 0 := by omega
    simp [dl, dg]
  | m + 1, n, u, R, h0, h1 => by
    rw [Int.pow_succ] at h1
    rw [dl_split, dg, List.append_assoc, dl_dg m n (u / 10) ([48 + u % 10] ++ R) (by omega) (by omega), Option.bind_some]
    show dl 1 (n * 10 ^ m + u / 10) ((48 + u % 10) :: R) = _
    rw [dl, if_pos (by omega), dl, Int.pow_succ, ← Int.mul_assoc]
    generalize n * 10 ^ m = N
    rw [show (N + u / 10) * 10 + (48 + u % 10 - 48) = N * 10 + u from by omega]
theorem dl_inv : ∀ (m : Nat) (n : Int) (L : List Int) (v : Int) (R : List Int), dl m n L = some (v, R) → ∃ u, 0 ≤ u ∧ u < 10 ^ m ∧ L = dg m u ++ R ∧ v = n * 10 ^ m + u
  | 0, n, L, v, R, h => by
    simp only [dl, Option.some.injEq, Prod.mk.injEq] at h
    obtain ⟨rfl, rfl⟩ := h
    exact ⟨0, by decide, by decide, rfl, by omega⟩
  | m + 1, n, L, v, R, h => by
    rw [dl_split, Option.bind_eq_some_iff] at h
    obtain ⟨⟨v', R'⟩, h1, h2⟩ := h
    obtain ⟨u, hu0, hu1, rfl, rfl⟩ := dl_inv m n L v' R' h1
    rcases R' with _ | ⟨c, R'⟩
    · simp [dl] at h2
    · simp only [dl] at h2
      by_cases hc : 48 ≤ c ∧ c ≤ 57
      · rw [if_pos hc] at h2
        simp only [Option.some.injEq, Prod.mk.injEq] at h2
        obtain ⟨rfl, rfl⟩ := h2
        refine ⟨u * 10 + (c - 48), by omega, by rw [Int.pow_succ]; omega, ?_, ?_⟩
        · rw [dg, show (u * 10 + (c - 48)) / 10 = u from by omega, show 48 + (u * 10 + (c - 48)) % 10 = c from by omega, List.append_assoc]
          rfl
        · rw [Int.pow_succ, ← Int.mul_assoc]
          generalize n * 10 ^ m = N
          omega
      · rw [if_neg hc] at h2
        cases h2
theorem fl_step_inv {m g : Nat} {l : List (Nat × Nat)} {L r : List Int} (hg : g ≠ 0) (h : fl ((m, g) :: l) L = some r) : ∃ v R r', 0 ≤ v ∧ v < 10 ^ m ∧ L = dg m v ++ [(g : Int)] ++ R ∧ fl l R = some r' ∧ r = v :: r' := by
  rw [fl, Option.bind_eq_some_iff] at h
  obtain ⟨⟨v, R⟩, h1, h⟩ := h
  obtain ⟨u, hu0, hu1, rfl, rfl⟩ := dl_inv m 0 L v R h1
  rw [if_neg hg] at h
  rcases R with _ | ⟨c, R⟩
  · cases h
  · dsimp only at h
    by_cases hc : c = (g : Int)
    · rw [if_pos hc, Option.bind_eq_some_iff] at h
      obtain ⟨r', h2, h3⟩ := h
      cases h3
      subst hc
      exact ⟨u, R, r', hu0, hu1, by simp, h2, by simp⟩
    · rw [if_neg hc] at h
      cases h
theorem fl_end_inv {m : Nat} {L r : List Int} (h : fl [(m, 0)] L = some r) : ∃ v, 0 ≤ v ∧ v < 10 ^ m ∧ L = dg m v ∧ r = [v] := by
  rw [fl, Option.bind_eq_some_iff] at h
  obtain ⟨⟨v, R⟩, h1, h⟩ := h
  obtain ⟨u, hu0, hu1, rfl, rfl⟩ := dl_inv m 0 L v R h1
  rw [if_pos rfl] at h
  dsimp only at h
  by_cases hR : R = []
  · rw [if_pos hR] at h
    subst hR
    simp only [fl, Option.bind_some, Option.some.injEq] at h
    exact ⟨u, hu0, hu1, by simp, by rw [← h]; simp⟩
  · rw [if_neg hR] at h
    cases h
theorem fl_step {m g : Nat} {l : List (Nat × Nat)} {R r : List Int} (v : Int) (hg : g ≠ 0) (h0 : 0 ≤ v) (h1 : v < 10 ^ m) (h : fl l R = some r) : fl ((m, g) :: l) (dg m v ++ [(g : Int)] ++ R) = some (v :: r) := by
  rw [fl, List.append_assoc, dl_dg m 0 v _ h0 h1, Option.bind_some, if_neg hg]
  simp [h]
theorem fl_end {m : Nat} (v : Int) (h0 : 0 ≤ v) (h1 : v < 10 ^ m) : fl [(m, 0)] (dg m v) = some [v] := by
  have e := dl_dg m 0 v [] h0 h1
  rw [List.append_nil] at e
  rw [fl, e, Option.bind_some, if_pos rfl]
  simp [fl]
structure InForm (y m d h mi s n : Int) : Prop where
  y : 0 ≤ y ∧ y < 10000
  m : 0 ≤ m ∧ m < 100
  d : 0 ≤ d ∧ d < 100
  h : 0 ≤ h ∧ h < 100
  mi : 0 ≤ mi ∧ mi < 100
  s : 0 ≤ s ∧ s < 100
  n : 0 ≤ n ∧ n < 1000000
theorem fl_inv {L r : List Int} (h : fl form7 L = some r) : ∃ y m d hh mi s n, InForm y m d hh mi s n ∧ r = [y, m, d, hh, mi, s, n] ∧ L = outOf y m d hh mi s n := by
  obtain ⟨y, R, r, y0, y1, rfl, g1, rfl⟩ := fl_step_inv (by decide) h
  obtain ⟨m, R, r, m0, m1, rfl, g2, rfl⟩ := fl_step_inv (by decide) g1
  obtain ⟨d, R, r, d0, d1, rfl, g3, rfl⟩ := fl_step_inv (by decide) g2
  obtain ⟨hh, R, r, h0, h1, rfl, g4, rfl⟩ := fl_step_inv (by decide) g3
  obtain ⟨mi, R, r, i0, i1, rfl, g5, rfl⟩ := fl_step_inv (by decide) g4
  obtain ⟨s, R, r, s0, s1, rfl, g6, rfl⟩ := fl_step_inv (by decide) g5
  obtain ⟨n, n0, n1, rfl, rfl⟩ := fl_end_inv g6
  exact ⟨y, m, d, hh, mi, s, n, ⟨⟨y0, y1⟩, ⟨m0, m1⟩, ⟨d0, d1⟩, ⟨h0, h1⟩, ⟨i0, i1⟩, ⟨s0, s1⟩, ⟨n0, n1⟩⟩, rfl, by simp [outOf]⟩
theorem fl_out {y m d h mi s n : Int} (q : InForm y m d h mi s n) : fl form7 (outOf y m d h mi s n) = some [y, m, d, h, mi, s, n] := by
  have e : outOf y m d h mi s n = dg 4 y ++ [((45 : Nat) : Int)] ++ (dg 2 m ++ [((45 : Nat) : Int)] ++ (dg 2 d ++ [((32 : Nat) : Int)] ++ (dg 2 h ++ [((58 : Nat) : Int)] ++ (dg 2 mi ++ [((58 : Nat) : Int)] ++ (dg 2 s ++ [((46 : Nat) : Int)] ++ dg 6 n))))) := by simp [outOf]
  rw [e]
  exact fl_step y (by decide) q.y.1 q.y.2 (fl_step m (by decide) q.m.1 q.m.2 (fl_step d (by decide) q.d.1 q.d.2 (fl_step h (by decide) q.h.1 q.h.2 (fl_step mi (by decide) q.mi.1 q.mi.2 (fl_step s (by decide) q.s.1 q.s.2 (fl_end n q.n.1 q.n.2))))))
theorem out_length (y m d h mi s n : Int) : (outOf y m d h mi s n).length = 26 := by simp [outOf, dg_length]
theorem out_range (y m d h mi s n : Int) : ∀ x ∈ outOf y m d h mi s n, 0 ≤ x ∧ x < 256 := by
  intro x hx
  simp only [outOf, List.mem_append, List.mem_singleton] at hx
  have g : ∀ k v, x ∈ dg k v → 0 ≤ x ∧ x < 256 := fun k v h => by have := dg_range k v x h; omega
  rcases hx with (((((((((((hx | hx) | hx) | hx) | hx) | hx) | hx) | hx) | hx) | hx) | hx) | hx) | hx <;> first | exact g _ _ hx | omega
def fracOf (n : Int) : Int := (n * 4294967296 + 999999) / 1000000
theorem frac_range {n : Int} (h : 0 ≤ n ∧ n < 1000000) : 0 ≤ fracOf n ∧ fracOf n < 4294967296 := by unfold fracOf; omega
theorem parse_none {s : ByteArray} (h : fl form7 (bnums s) = none) : stamp_Parse.f s = some (0, 0, 21) := by
  rw [stamp_Parse.f, fields_eq, h]
theorem parse_some {s : ByteArray} {y m d hh mi sc n : Int} (q : InForm y m d hh mi sc n) (h : fl form7 (bnums s) = some [y, m, d, hh, mi, sc, n]) : stamp_Parse.f s = stamp_ToDate.f y m d hh mi sc (fracOf n) := by
  rw [stamp_Parse.f, fields_eq, h]
  show stamp_ToDate.f y m d hh mi sc ((n * 4294967296 + 999999) / 1000000 % 4294967296) = _
  have := frac_range q.n
  unfold fracOf at this ⊢
  rw [show (n * 4294967296 + 999999) / 1000000 % 4294967296 = (n * 4294967296 + 999999) / 1000000 from by omega]
theorem todate_some (y m d h mi s fr : Int) (hf : 0 ≤ fr ∧ fr < 4294967296) : ∃ r, stamp_ToDate.f y m d h mi s fr = some r := by
  rcases todate_cases y m d h mi s fr hf with h1 | ⟨day, j, rfl, hc, hr⟩
  · exact ⟨_, h1⟩
  · exact ⟨_, date_good hc h mi s fr hr hf⟩
end Go.Proofs.Ytbondhnhiinlbaa.Pr
end
section
set_option linter.unusedVariables false
set_option linter.unusedSimpArgs false
namespace Go.Proofs.Ytbondhnhiinlbaa.Pr
open Go.RowKit Go.Proofs.YtbondhnhiinlbaaW.PrintWords Go.Proofs.YtbondhnhiinlbaaW.PrintLast Go.Proofs.YtbondhnhiinlbaaW.PrintMore
theorem refparse_ev (s : ByteArray) : ∃ R, stamp_Parse.f s = some R ∧ Ev (fun k => foliotref02_Parse.f k s) R := by
  by_cases hs : s.size = 26
  · rcases hfl : fl form7 (bnums s) with _ | r
    · refine ⟨(0, 0, 21), parse_none hfl, ?_⟩
      have h := ref_chain hs (0, 0, 21) form7 0 [] (by decide +kernel) rfl (by rw [List.drop_zero, hfl])
      refine Ev.zero h fun k hk => ?_
      rw [foliotref02_Parse.f, if_pos (by omega)]
      exact hk
    · obtain ⟨y, m, d, hh, mi, sc, n, q, rfl, _⟩ := fl_inv hfl
      obtain ⟨R, hR⟩ := todate_some y m d hh mi sc (fracOf n) (frac_range q.n)
      refine ⟨R, (parse_some q hfl).trans hR, ?_⟩
      have hn := q.n
      have e : (wrap64 (Int.tdiv (wrap64 ((wrap64 (n * 4294967296)) + 999999)) 1000000)) % 4294967296 = fracOf n := by
        rw [w_in (n := n * 4294967296) (by omega), w_in (n := n * 4294967296 + 999999) (by omega), td_eq (by omega), w_in (by omega)]
        have := frac_range q.n
        unfold fracOf at this ⊢
        omega
      have h := ref_chain hs R form7 0 [] (by decide +kernel) rfl (by
        rw [List.drop_zero, hfl]
        show stamp_ToDate.f y m d hh mi sc ((wrap64 (Int.tdiv (wrap64 ((wrap64 (n * 4294967296)) + 999999)) 1000000)) % 4294967296) = some R
        rw [e]
        exact hR)
      refine Ev.zero h fun k hk => ?_
      rw [foliotref02_Parse.f, if_pos (by omega)]
      exact hk
  · have hfl : fl form7 (bnums s) = none := by
      rcases hfl : fl form7 (bnums s) with _ | r
      · rfl
      · obtain ⟨y, m, d, hh, mi, sc, n, q, rfl, e⟩ := fl_inv hfl
        have := bnums_length s
        rw [e, out_length] at this
        exact absurd this.symm hs
    refine ⟨(0, 0, 21), parse_none hfl, Ev.all fun k => ?_⟩
    rw [foliotref02_Parse.f, if_neg (by omega)]
theorem bothprint_ev (e a : Int) (hA : 0 ≤ a ∧ a ≤ 18446744073709551615) : ∃ T, Ev (fun k => stamp_Print.f k e a) T ∧ Ev (fun k => foliotref02_Print.f k e a) T := by
  by_cases hg : good e a
  · obtain ⟨y, j, D, hc⟩ := Cal.exists (day := secs e a / 86400) (by have := hg.2.2.1; omega) hg.2.2.2
    have ho := ofdate_good e a hA hg hc
    have b := hc.bounds
    have y1 := hc.y1
    have y2 := hc.y2
    have j2 := hc.j2
    have d1 := hc.d1
    exact ⟨_, print_ok e a _ _ _ _ _ _ _ ho (by omega) (by omega) (by omega) (by omega) (by omega) (by omega) (by omega),
      refprint_ok e a _ _ _ _ _ _ _ ⟨6000, fun k hk => (refof_eq e a hA k hk).trans ho⟩ (by omega) (by omega) (by omega) (by omega) (by omega) (by omega) (by omega)⟩
  · have ho := ofdate_bad e a hA hg
    exact ⟨_, Ev.all fun k => print_err e a 20 (by decide) ho k, ⟨6000, fun k hk => refprint_err e a 20 (by decide) k ((refof_eq e a hA k hk).trans ho)⟩⟩
end Go.Proofs.Ytbondhnhiinlbaa.Pr
end
section
namespace Go.Proofs.Ytbondhnhiinlbaa.Pr
open Go.RowKit Go.Proofs.YtbondhnhiinlbaaW.PrintWords Go.Proofs.YtbondhnhiinlbaaW.PrintLast Go.Proofs.YtbondhnhiinlbaaW.PrintMore
attribute [local go_sem] max2_int min2_int max_two min_two max_three min_three max_four min_four   -- for this text's walks alone
set_option linter.unusedVariables false
set_option linter.unusedSimpArgs false

attribute [local go_sem high] eqA36
def foliotlaw02_StampTexts.T7 : Bool × List (List Nat × List Nat) := (true, [([], []), ([0], [0]), ([], []), ([1, 2], [1, 2]), ([3, 1], [3]), ([4], [4]), ([4], [4]), ([5, 6, 4], [4, 5, 6]), ([4, 7], [4, 7]), ([8, 4], [8]), ([9], [9]), ([9], [9]), ([10, 11, 9], [9, 10, 11]), ([9, 12], [9, 12]), ([13, 9], [13]), ([14], [14]), ([14], [14]), ([15, 16, 14], [14, 15, 16]), ([14, 17], [14, 17]), ([18, 14, 0, 1, 2, 3, 4, 5, 6, 7, 8, 9, 10, 11, 12, 13, 14, 15, 16, 17, 18], [18])])
def foliotlaw02_StampTexts.B7 : List Nat := [0, 1, 0, 7, 15, 31, 31, 127, 255, 511, 1023, 1023, 4095, 8191, 16383, 32767, 32767, 131071, 262143, 524287]
theorem foliotlaw02_StampTexts.tab7 : rtab .any (opsOf Try.f6 7) = foliotlaw02_StampTexts.T7 := by kernel_rfl
theorem foliotlaw02_StampTexts.bits7 : waitsOk foliotlaw02_StampTexts.T7.2 foliotlaw02_StampTexts.B7 = true := by kernel_rfl
set_option maxHeartbeats 8000000 in
set_option maxRecDepth 100000 in
theorem STexts_calls (k : Nat) (a0 : ByteArray) (a1_0 a1_1 t315 t316 t317 t324 : Int) (t323 : ByteArray) (w : World)
    (A3 : Aside0 (foliotlaw02_shown.f k = some true)) (A5 : Aside0 (stamp_Parse.f a0 = some (t315, t316, t317))) (A6 : Aside0 (foliotref02_Parse.f k a0 = some (t315, t316, t317))) (A7 : Aside0 (stamp_Print.f k a1_0 a1_1 = some (t323, t324)))
    (A8 : Aside0 (foliotlaw02_date.f a1_0 a1_1 = some (a1_0, a1_1))) (A9 : Aside0 (foliotref02_Print.f k a1_0 a1_1 = some (t323, t324))) (A10 : Aside0 (foliotlaw02_date.f t315 t316 = some (t315, t316))) :
    Calls Try.prog 6 #[.string a0, .agg #[.int .i64 a1_0, .int .u64 a1_1]] w fun e w' => e = .returned (.bool true) ∧ Below w.heap.size w w' := by
  have hu25 := Try.underlying25
  have hu36 := Try.underlying36
  have HB := Aside0.mk (Below.refl w.heap.size w)
  go_enter Try.func6, Try.ntmps6
  try go_wp2_with (first | ((with_reducible refine gate_dst (N := 3) rfl ?_); refine box_event ?hg (N := 3) ?hd (cs := #[.int .i64 a1_0, .int .u64 a1_1]) (t := 25) ?hr ?_; (case hd => rfl); (case hg => rfl); (case hr => first | (go_simp; done) | (go_simp; rfl)); intro gb313 hg w14 hbox hb; have n0_ := Aside0.mk (below_step (by repeat (first | (with_reducible first | exact HB.out | apply below_alloc | apply pw_below_drewN | apply below_drew1) | exact HB.out)) hb); have n1_ := Aside0.mk (hbox); have n2_ := Aside0.mk ((by rw [hg]; exact (below_size (by repeat (first | (with_reducible first | exact HB.out | apply below_alloc | apply pw_below_drewN | apply below_drew1) | exact HB.out))) : w.heap.size ≤ gb313)); have n3_ := Aside0.mk ((by rw [hg]; exact (below_size (by repeat (first | (with_reducible first | exact HB.out | apply below_alloc | apply pw_below_drewN | apply below_drew1) | exact HB.out))) : w.heap.size ≤ gb313)); clear HB; have HB := n0_; have BK313 := n1_; have GW313 := n2_; have GE313 := n3_; clear n0_ n1_ n2_ n3_; clear hb hbox hg) | ((with_reducible refine gate_callee (f := 13) rfl ?_); refine goesL_ (some 13) rfl rfl Try.func13 (by kernel_rfl) rfl #[] rfl (by (try simp only [List.map_toArray, List.map_cons, List.map_nil]); first | done | rfl | (simp only [List.length_drop, List.length_take]; rfl)) ?_; (with_reducible refine (foliotlaw02_shown.calls k  true _ A3.out).mono ?_); rintro e w15 ⟨rfl, hb⟩; refine ⟨_, rfl, ?_⟩; have n0_ := Aside0.mk (blk_below (g := gb313) (o := .cells #[.int .i64 a1_0, .int .u64 a1_1] 25 (0, 0)) (by (with_reducible repeat (first | refine blk_drewN ?_ _ | refine blk_drew ?_ | refine blk_alloc ?_ _)); exact BK313.out) hb); have n1_ := Aside0.mk (below_step (by repeat (first | (with_reducible first | exact HB.out | apply below_alloc | apply pw_below_drewN | apply below_drew1 | refine below_set ?_ GE313.out) | exact HB.out)) hb); clear BK313; clear HB; have BK313 := n0_; have HB := n1_; clear n0_ n1_; (try clear hb); (try clear hb2); (try clear hk); (try clear hi)) | ((with_reducible refine gate_callee (f := 19) rfl ?_); refine goesL_ (some 17) rfl rfl Try.func19 (by kernel_rfl) rfl #[.string a0] rfl (by (try simp only [List.map_toArray, List.map_cons, List.map_nil]); first | done | rfl | (simp only [List.length_drop, List.length_take]; rfl)) ?_; (with_reducible refine (stamp_Parse.calls a0 t315 t316 t317 _ A5.out).mono ?_); rintro e w16 ⟨rfl, hb⟩; refine ⟨_, rfl, ?_⟩; have n0_ := Aside0.mk (blk_below (g := gb313) (o := .cells #[.int .i64 a1_0, .int .u64 a1_1] 25 (0, 0)) (by (with_reducible repeat (first | refine blk_drewN ?_ _ | refine blk_drew ?_ | refine blk_alloc ?_ _)); exact BK313.out) hb); have n1_ := Aside0.mk (below_step (by repeat (first | (with_reducible first | exact HB.out | apply below_alloc | apply pw_below_drewN | apply below_drew1 | refine below_set ?_ GE313.out) | exact HB.out)) hb); clear BK313; clear HB; have BK313 := n0_; have HB := n1_; clear n0_ n1_; (try clear hb); (try clear hb2); (try clear hk); (try clear hi)) | ((with_reducible refine gate_dst (N := 5) rfl ?_); refine box_event ?hg (N := 5) ?hd (cs := #[.int .i64 0, .int .u64 0]) (t := 25) ?hr ?_; (case hd => rfl); (case hg => rfl); (case hr => first | (go_simp; done) | (go_simp; rfl)); intro gb318 hg w17 hbox hb; have n0_ := Aside0.mk (blk_below (g := gb313) (o := .cells #[.int .i64 a1_0, .int .u64 a1_1] 25 (0, 0)) (by (with_reducible repeat (first | refine blk_drewN ?_ _ | refine blk_drew ?_ | refine blk_alloc ?_ _)); exact BK313.out) hb); have n1_ := Aside0.mk (below_step (by repeat (first | (with_reducible first | exact HB.out | apply below_alloc | apply pw_below_drewN | apply below_drew1 | refine below_set ?_ GE313.out) | exact HB.out)) hb); have n2_ := Aside0.mk (hbox); have n3_ := Aside0.mk ((by rw [hg]; exact (below_size (by repeat (first | (with_reducible first | exact HB.out | apply below_alloc | apply pw_below_drewN | apply below_drew1 | refine below_set ?_ GE313.out) | exact HB.out))) : w.heap.size ≤ gb318)); have n4_ := Aside0.mk ((by rw [hg]; exact (below_size (by repeat (first | (with_reducible first | exact HB.out | apply below_alloc | apply pw_below_drewN | apply below_drew1 | refine below_set ?_ GE313.out) | exact HB.out))) : w.heap.size ≤ gb318)); have n5_ := Aside0.mk ((by rw [hg]; exact Nat.ne_of_lt (blk_lt (g := gb313) (o := .cells #[.int .i64 a1_0, .int .u64 a1_1] 25 (0, 0)) (by (with_reducible repeat (first | refine blk_drewN ?_ _ | refine blk_drew ?_ | refine blk_alloc ?_ _)); exact BK313.out)) : gb313 ≠ gb318)); have n6_ := Aside0.mk ((by rw [hg]; exact Nat.ne_of_gt (blk_lt (g := gb313) (o := .cells #[.int .i64 a1_0, .int .u64 a1_1] 25 (0, 0)) (by (with_reducible repeat (first | refine blk_drewN ?_ _ | refine blk_drew ?_ | refine blk_alloc ?_ _)); exact BK313.out)) : gb318 ≠ gb313)); clear BK313; clear HB; have BK313 := n0_; have HB := n1_; have BK318 := n2_; have GW318 := n3_; have GE318 := n4_; have NB313_318 := n5_; have NB318_313 := n6_; clear n0_ n1_ n2_ n3_ n4_ n5_ n6_; clear hb hbox hg; have hnb18 := NB318_313.out; have hnc18 := NB313_318.out; have hcz19_0 : w17.cell? ⟨gb318, 0, none⟩ = some (.int .i64 0) := (blk_cell BK318.out 0).trans rfl; have hcz19_1 : w17.cell? ⟨gb318, 1, none⟩ = some (.int .u64 0) := (blk_cell BK318.out 1).trans rfl; have hfz19_0 := blk_frozen BK318.out 0; have hfz19_1 := blk_frozen BK318.out 1) | ((with_reducible refine gate_callee (f := 20) rfl ?_); refine goesL_ (some 22) rfl rfl Try.func20 (by kernel_rfl) rfl #[.string a0] rfl (by (try simp only [List.map_toArray, List.map_cons, List.map_nil]); first | done | rfl | (simp only [List.length_drop, List.length_take]; rfl)) ?_; (with_reducible refine (foliotref02_Parse.calls k a0 t315 t316 t317 _ A6.out).mono ?_); rintro e w20 ⟨rfl, hb⟩; refine ⟨_, rfl, ?_⟩; have n0_ := Aside0.mk (blk_below (g := gb313) (o := .cells #[.int .i64 a1_0, .int .u64 a1_1] 25 (0, 0)) (by (with_reducible repeat (first | refine blk_drewN ?_ _ | refine blk_drew ?_ | refine blk_alloc ?_ _)); refine blk_far ?_ NB313_318.out _; (with_reducible repeat (first | refine blk_drewN ?_ _ | refine blk_drew ?_ | refine blk_alloc ?_ _)); refine blk_far ?_ NB313_318.out _; (with_reducible repeat (first | refine blk_drewN ?_ _ | refine blk_drew ?_ | refine blk_alloc ?_ _)); exact BK313.out) hb); have n1_ := Aside0.mk (blk_below (g := gb318) (o := .cells #[.int .i64 t315, .int .u64 t316] 25 (0, 0)) (by (with_reducible repeat (first | refine blk_drewN ?_ _ | refine blk_drew ?_ | refine blk_alloc ?_ _)); refine blk_put (cs := #[.int .i64 t315, .int .u64 0]) ?_ 1 _ rfl; (with_reducible repeat (first | refine blk_drewN ?_ _ | refine blk_drew ?_ | refine blk_alloc ?_ _)); refine blk_put (cs := #[.int .i64 0, .int .u64 0]) ?_ 0 _ rfl; (with_reducible repeat (first | refine blk_drewN ?_ _ | refine blk_drew ?_ | refine blk_alloc ?_ _)); exact BK318.out) hb); have n2_ := Aside0.mk (below_step (by repeat (first | (with_reducible first | exact HB.out | apply below_alloc | apply pw_below_drewN | apply below_drew1 | refine below_set ?_ GE313.out | refine below_set ?_ GE318.out) | exact HB.out)) hb); clear BK313; clear BK318; clear HB; have BK313 := n0_; have BK318 := n1_; have HB := n2_; clear n0_ n1_ n2_; (try clear hb); (try clear hb2); (try clear hk); (try clear hi)) | ((with_reducible refine gate_dst (N := 7) rfl ?_); refine box_event ?hg (N := 7) ?hd (cs := #[.int .i64 0, .int .u64 0]) (t := 36) ?hr ?_; (case hd => rfl); (case hg => rfl); (case hr => first | (go_simp; done) | (go_simp; rfl)); intro gb322 hg w21 hbox hb; have n0_ := Aside0.mk (blk_below (g := gb313) (o := .cells #[.int .i64 a1_0, .int .u64 a1_1] 25 (0, 0)) (by (with_reducible repeat (first | refine blk_drewN ?_ _ | refine blk_drew ?_ | refine blk_alloc ?_ _)); exact BK313.out) hb); have n1_ := Aside0.mk (blk_below (g := gb318) (o := .cells #[.int .i64 t315, .int .u64 t316] 25 (0, 0)) (by (with_reducible repeat (first | refine blk_drewN ?_ _ | refine blk_drew ?_ | refine blk_alloc ?_ _)); exact BK318.out) hb); have n2_ := Aside0.mk (below_step (by repeat (first | (with_reducible first | exact HB.out | apply below_alloc | apply pw_below_drewN | apply below_drew1 | refine below_set ?_ GE313.out | refine below_set ?_ GE318.out) | exact HB.out)) hb); have n3_ := Aside0.mk (hbox); have n4_ := Aside0.mk ((by rw [hg]; exact (below_size (by repeat (first | (with_reducible first | exact HB.out | apply below_alloc | apply pw_below_drewN | apply below_drew1 | refine below_set ?_ GE313.out | refine below_set ?_ GE318.out) | exact HB.out))) : w.heap.size ≤ gb322)); have n5_ := Aside0.mk ((by rw [hg]; exact (below_size (by repeat (first | (with_reducible first | exact HB.out | apply below_alloc | apply pw_below_drewN | apply below_drew1 | refine below_set ?_ GE313.out | refine below_set ?_ GE318.out) | exact HB.out))) : w.heap.size ≤ gb322)); have n6_ := Aside0.mk ((by rw [hg]; exact Nat.ne_of_lt (blk_lt (g := gb313) (o := .cells #[.int .i64 a1_0, .int .u64 a1_1] 25 (0, 0)) (by (with_reducible repeat (first | refine blk_drewN ?_ _ | refine blk_drew ?_ | refine blk_alloc ?_ _)); exact BK313.out)) : gb313 ≠ gb322)); have n7_ := Aside0.mk ((by rw [hg]; exact Nat.ne_of_gt (blk_lt (g := gb313) (o := .cells #[.int .i64 a1_0, .int .u64 a1_1] 25 (0, 0)) (by (with_reducible repeat (first | refine blk_drewN ?_ _ | refine blk_drew ?_ | refine blk_alloc ?_ _)); exact BK313.out)) : gb322 ≠ gb313)); have n8_ := Aside0.mk ((by rw [hg]; exact Nat.ne_of_lt (blk_lt (g := gb318) (o := .cells #[.int .i64 t315, .int .u64 t316] 25 (0, 0)) (by (with_reducible repeat (first | refine blk_drewN ?_ _ | refine blk_drew ?_ | refine blk_alloc ?_ _)); exact BK318.out)) : gb318 ≠ gb322)); have n9_ := Aside0.mk ((by rw [hg]; exact Nat.ne_of_gt (blk_lt (g := gb318) (o := .cells #[.int .i64 t315, .int .u64 t316] 25 (0, 0)) (by (with_reducible repeat (first | refine blk_drewN ?_ _ | refine blk_drew ?_ | refine blk_alloc ?_ _)); exact BK318.out)) : gb322 ≠ gb318)); clear BK313; clear BK318; clear HB; have BK313 := n0_; have BK318 := n1_; have HB := n2_; have BK322 := n3_; have GW322 := n4_; have GE322 := n5_; have NB313_322 := n6_; have NB322_313 := n7_; have NB318_322 := n8_; have NB322_318 := n9_; clear n0_ n1_ n2_ n3_ n4_ n5_ n6_ n7_ n8_ n9_; clear hb hbox hg; have hnb22 := NB322_313.out; have hnc22 := NB313_322.out; have hnb23 := NB322_318.out; have hnc23 := NB318_322.out; have hcz24_0 : w21.cell? ⟨gb322, 0, none⟩ = some (.int .i64 0) := (blk_cell BK322.out 0).trans rfl; have hcz24_1 : w21.cell? ⟨gb322, 1, none⟩ = some (.int .u64 0) := (blk_cell BK322.out 1).trans rfl; have hfz24_0 := blk_frozen BK322.out 0; have hfz24_1 := blk_frozen BK322.out 1; have hcz25_0 : w21.cell? ⟨gb313, 0, none⟩ = some (.int .i64 a1_0) := (blk_cell BK313.out 0).trans rfl; have hcz25_1 : w21.cell? ⟨gb313, 1, none⟩ = some (.int .u64 a1_1) := (blk_cell BK313.out 1).trans rfl; have hfz25_0 := blk_frozen BK313.out 0; have hfz25_1 := blk_frozen BK313.out 1) | ((with_reducible refine gate_callee (f := 21) rfl ?_); refine goesL_ (some 27) rfl rfl Try.func21 (by kernel_rfl) rfl #[.agg #[.int .i64 a1_0, .int .u64 a1_1]] rfl (by (try simp only [List.map_toArray, List.map_cons, List.map_nil]); first | done | rfl | (simp only [List.length_drop, List.length_take]; rfl)) ?_; (with_reducible refine (stamp_Print.calls k a1_0 a1_1 t323 t324 _ A7.out).mono ?_); rintro e w26 ⟨rfl, hb⟩; refine ⟨_, rfl, ?_⟩; have n0_ := Aside0.mk (blk_below (g := gb313) (o := .cells #[.int .i64 a1_0, .int .u64 a1_1] 25 (0, 0)) (by (with_reducible repeat (first | refine blk_drewN ?_ _ | refine blk_drew ?_ | refine blk_alloc ?_ _)); refine blk_far ?_ NB313_322.out _; (with_reducible repeat (first | refine blk_drewN ?_ _ | refine blk_drew ?_ | refine blk_alloc ?_ _)); refine blk_far ?_ NB313_322.out _; (with_reducible repeat (first | refine blk_drewN ?_ _ | refine blk_drew ?_ | refine blk_alloc ?_ _)); exact BK313.out) hb); have n1_ := Aside0.mk (blk_below (g := gb318) (o := .cells #[.int .i64 t315, .int .u64 t316] 25 (0, 0)) (by (with_reducible repeat (first | refine blk_drewN ?_ _ | refine blk_drew ?_ | refine blk_alloc ?_ _)); refine blk_far ?_ NB318_322.out _; (with_reducible repeat (first | refine blk_drewN ?_ _ | refine blk_drew ?_ | refine blk_alloc ?_ _)); refine blk_far ?_ NB318_322.out _; (with_reducible repeat (first | refine blk_drewN ?_ _ | refine blk_drew ?_ | refine blk_alloc ?_ _)); exact BK318.out) hb); have n2_ := Aside0.mk (blk_below (g := gb322) (o := .cells #[.int .i64 t315, .int .u64 t316] 36 (0, 0)) (by (with_reducible repeat (first | refine blk_drewN ?_ _ | refine blk_drew ?_ | refine blk_alloc ?_ _)); refine blk_put (cs := #[.int .i64 t315, .int .u64 0]) ?_ 1 _ rfl; (with_reducible repeat (first | refine blk_drewN ?_ _ | refine blk_drew ?_ | refine blk_alloc ?_ _)); refine blk_put (cs := #[.int .i64 0, .int .u64 0]) ?_ 0 _ rfl; (with_reducible repeat (first | refine blk_drewN ?_ _ | refine blk_drew ?_ | refine blk_alloc ?_ _)); exact BK322.out) hb); have n3_ := Aside0.mk (below_step (by repeat (first | (with_reducible first | exact HB.out | apply below_alloc | apply pw_below_drewN | apply below_drew1 | refine below_set ?_ GE313.out | refine below_set ?_ GE318.out | refine below_set ?_ GE322.out) | exact HB.out)) hb); clear BK313; clear BK318; clear BK322; clear HB; have BK313 := n0_; have BK318 := n1_; have BK322 := n2_; have HB := n3_; clear n0_ n1_ n2_ n3_; (try clear hb); (try clear hb2); (try clear hk); (try clear hi); have hcz27_0 : w26.cell? ⟨gb313, 0, none⟩ = some (.int .i64 a1_0) := (blk_cell BK313.out 0).trans rfl; have hcz27_1 : w26.cell? ⟨gb313, 1, none⟩ = some (.int .u64 a1_1) := (blk_cell BK313.out 1).trans rfl; have hfz27_0 := blk_frozen BK313.out 0; have hfz27_1 := blk_frozen BK313.out 1) | ((with_reducible refine gate_callee (f := 16) rfl ?_); refine goesL_ (some 32) rfl rfl Try.func16 (by kernel_rfl) rfl #[.agg #[.int .i64 a1_0, .int .u64 a1_1]] rfl (by (try simp only [List.map_toArray, List.map_cons, List.map_nil]); first | done | rfl | (simp only [List.length_drop, List.length_take]; rfl)) ?_; (with_reducible refine (foliotlaw02_date.calls a1_0 a1_1 a1_0 a1_1 _ A8.out).mono ?_); rintro e w28 ⟨rfl, hb⟩; refine ⟨_, rfl, ?_⟩; have n0_ := Aside0.mk (blk_below (g := gb313) (o := .cells #[.int .i64 a1_0, .int .u64 a1_1] 25 (0, 0)) (by (with_reducible repeat (first | refine blk_drewN ?_ _ | refine blk_drew ?_ | refine blk_alloc ?_ _)); exact BK313.out) hb); have n1_ := Aside0.mk (blk_below (g := gb318) (o := .cells #[.int .i64 t315, .int .u64 t316] 25 (0, 0)) (by (with_reducible repeat (first | refine blk_drewN ?_ _ | refine blk_drew ?_ | refine blk_alloc ?_ _)); exact BK318.out) hb); have n2_ := Aside0.mk (blk_below (g := gb322) (o := .cells #[.int .i64 t315, .int .u64 t316] 36 (0, 0)) (by (with_reducible repeat (first | refine blk_drewN ?_ _ | refine blk_drew ?_ | refine blk_alloc ?_ _)); exact BK322.out) hb); have n3_ := Aside0.mk (below_step (by repeat (first | (with_reducible first | exact HB.out | apply below_alloc | apply pw_below_drewN | apply below_drew1 | refine below_set ?_ GE313.out | refine below_set ?_ GE318.out | refine below_set ?_ GE322.out) | exact HB.out)) hb); clear BK313; clear BK318; clear BK322; clear HB; have BK313 := n0_; have BK318 := n1_; have BK322 := n2_; have HB := n3_; clear n0_ n1_ n2_ n3_; (try clear hb); (try clear hb2); (try clear hk); (try clear hi)) | ((with_reducible refine gate_callee (f := 22) rfl ?_); refine goesL_ (some 33) rfl rfl Try.func22 (by kernel_rfl) rfl #[.agg #[.int .i64 a1_0, .int .u64 a1_1]] rfl (by (try simp only [List.map_toArray, List.map_cons, List.map_nil]); first | done | rfl | (simp only [List.length_drop, List.length_take]; rfl)) ?_; (with_reducible refine (foliotref02_Print.calls k a1_0 a1_1 t323 t324 _ A9.out).mono ?_); rintro e w29 ⟨rfl, hb⟩; refine ⟨_, rfl, ?_⟩; have n0_ := Aside0.mk (blk_below (g := gb313) (o := .cells #[.int .i64 a1_0, .int .u64 a1_1] 25 (0, 0)) (by (with_reducible repeat (first | refine blk_drewN ?_ _ | refine blk_drew ?_ | refine blk_alloc ?_ _)); exact BK313.out) hb); have n1_ := Aside0.mk (blk_below (g := gb318) (o := .cells #[.int .i64 t315, .int .u64 t316] 25 (0, 0)) (by (with_reducible repeat (first | refine blk_drewN ?_ _ | refine blk_drew ?_ | refine blk_alloc ?_ _)); exact BK318.out) hb); have n2_ := Aside0.mk (blk_below (g := gb322) (o := .cells #[.int .i64 t315, .int .u64 t316] 36 (0, 0)) (by (with_reducible repeat (first | refine blk_drewN ?_ _ | refine blk_drew ?_ | refine blk_alloc ?_ _)); exact BK322.out) hb); have n3_ := Aside0.mk (below_step (by repeat (first | (with_reducible first | exact HB.out | apply below_alloc | apply pw_below_drewN | apply below_drew1 | refine below_set ?_ GE313.out | refine below_set ?_ GE318.out | refine below_set ?_ GE322.out) | exact HB.out)) hb); clear BK313; clear BK318; clear BK322; clear HB; have BK313 := n0_; have BK318 := n1_; have BK322 := n2_; have HB := n3_; clear n0_ n1_ n2_ n3_; (try clear hb); (try clear hb2); (try clear hk); (try clear hi)))
  have n0_ := Aside0.mk (blk_drew BK313.out)
  have n1_ := Aside0.mk (blk_drew BK318.out)
  have n2_ := Aside0.mk (blk_drew BK322.out)
  have n3_ := Aside0.mk (below_drew1 HB.out)
  clear BK313
  clear BK318
  clear BK322
  clear HB
  have BK313 := n0_
  have BK318 := n1_
  have BK322 := n2_
  have HB := n3_
  clear n0_ n1_ n2_ n3_
  refine start_ (n := 20) (S := fun w' => w'.cell? ⟨gb318, 0, none⟩ = some (.int .i64 t315) ∧ w'.cell? ⟨gb318, 1, none⟩ = some (.int .u64 t316) ∧ w'.cell? ⟨gb322, 0, none⟩ = some (.int .i64 t315) ∧ w'.cell? ⟨gb322, 1, none⟩ = some (.int .u64 t316)) (ds := []) #[false, false, false, false, false, false, false, false, false, false, false, false, false, false, false, false, false, false, false, false] (by kernel_rfl) rfl rfl ⟨(blk_cell BK318.out 0).trans rfl, (blk_cell BK318.out 1).trans rfl, (blk_cell BK322.out 0).trans rfl, (blk_cell BK322.out 1).trans rfl⟩ (fun hHeld => ?_); refine with_tabW foliotlaw02_StampTexts.tab7 foliotlaw02_StampTexts.bits7 (fun HT_ HW_ => ?_)
  generalize w29.drew = w30 at BK313 BK318 BK322 HB hHeld ⊢
  refine take_ (i := 0) (N := some 36) (v := ?_) (a' := ?_) #[true, false, false, false, false, false, false, false, false, false, false, false, false, false, false, false, false, false, false, false] rfl rfl (take_ofW HT_.out HW_.out (by kernel_rfl)) (fun _ _ _ h => h) (Or.inl ⟨by rfl, ?_⟩) hHeld ?_ ?_
  rotate_left
  · rintro w' ⟨s0, s1, s2, s3⟩
    go_simp
    with_reducible rfl
  rotate_left
  · simp only [Act.put, List.setIfInBounds_toArray, List.set_cons_zero, List.set_cons_succ, i64_w, i32_w]
    rfl
  refine take_ (i := 2) (N := some 38) (v := ?_) (a' := ?_) #[true, false, true, false, false, false, false, false, false, false, false, false, false, false, false, false, false, false, false, false] rfl rfl (take_ofW HT_.out HW_.out (by kernel_rfl)) (fun _ _ _ h => h) (Or.inl ⟨by rfl, ?_⟩) hHeld ?_ ?_
  rotate_left
  · rintro w' ⟨s0, s1, s2, s3⟩
    go_simp
    with_reducible rfl
  rotate_left
  · simp only [Act.put, List.setIfInBounds_toArray, List.set_cons_zero, List.set_cons_succ, i64_w, i32_w]
    rfl
  refine one_ (i := 1) (N := some 37) #[true, true, true, false, false, false, false, false, false, false, false, false, false, false, false, false, false, false, false, false] rfl rfl (one_of HT_.out (by kernel_rfl)) (by decide) (fun K hK => ?_)
  refine goes_ Try.func16 (by kernel_rfl) rfl #[.agg #[.int .i64 t315, .int .u64 t316]] (by rfl) rfl rfl (by (try simp only [List.map_toArray, List.map_cons, List.map_nil]); first | done | rfl | (simp only [List.length_drop, List.length_take]; rfl)) ?_
  with_reducible refine (foliotlaw02_date.calls t315 t316 t315 t316 _ A10.out).mono ?_
  rintro e w31 ⟨rfl, hb⟩
  refine ⟨_, rfl, ?_⟩
  have n0_ := Aside0.mk (blk_below (g := gb313) (o := .cells #[.int .i64 a1_0, .int .u64 a1_1] 25 (0, 0)) (by (with_reducible repeat (first | refine blk_drewN ?_ _ | refine blk_drew ?_ | refine blk_alloc ?_ _)); exact BK313.out) hb)
  have n1_ := Aside0.mk (blk_below (g := gb318) (o := .cells #[.int .i64 t315, .int .u64 t316] 25 (0, 0)) (by (with_reducible repeat (first | refine blk_drewN ?_ _ | refine blk_drew ?_ | refine blk_alloc ?_ _)); exact BK318.out) hb)
  have n2_ := Aside0.mk (blk_below (g := gb322) (o := .cells #[.int .i64 t315, .int .u64 t316] 36 (0, 0)) (by (with_reducible repeat (first | refine blk_drewN ?_ _ | refine blk_drew ?_ | refine blk_alloc ?_ _)); exact BK322.out) hb)
  have n3_ := Aside0.mk (below_step (by repeat (first | (with_reducible first | exact HB.out | apply below_alloc | apply pw_below_drewN | apply below_drew1 | refine below_set ?_ GE313.out | refine below_set ?_ GE318.out | refine below_set ?_ GE322.out) | exact HB.out)) hb)
  clear BK313
  clear BK318
  clear BK322
  clear HB
  have BK313 := n0_
  have BK318 := n1_
  have BK322 := n2_
  have HB := n3_
  clear n0_ n1_ n2_ n3_
  (try clear hb)
  (try clear hb2)
  (try clear hk)
  (try clear hi)
  refine hK.out _ _ ⟨(blk_cell BK318.out 0).trans rfl, (blk_cell BK318.out 1).trans rfl, (blk_cell BK322.out 0).trans rfl, (blk_cell BK322.out 1).trans rfl⟩ (fun hHeld => ?_)
  clear hK K
  refine norm_ (a' := ?_) ?_ ?_
  rotate_left
  · show Act.put _ (some 37) _ = _
    simp only [Act.put, List.setIfInBounds_toArray, List.set_cons_zero, List.set_cons_succ, i64_w, i32_w]
    rfl
  refine pure_ (i := 3) (N := some 39) (v := ?_) (a' := ?_) #[true, true, true, true, false, false, false, false, false, false, false, false, false, false, false, false, false, false, false, false] rfl rfl (any_of HT_.out (by kernel_rfl)) (fun _ _ _ h => h) (Or.inl ⟨by rfl, ?_⟩) ?_ ?_
  rotate_left
  · intro w'
    go_simp
    with_reducible rfl
  rotate_left
  · simp only [Act.put, List.setIfInBounds_toArray, List.set_cons_zero, List.set_cons_succ, i64_w, i32_w]
    rfl
  refine pure_ (i := 4) (N := some 40) (v := ?_) (a' := ?_) #[true, true, true, true, true, false, false, false, false, false, false, false, false, false, false, false, false, false, false, false] rfl rfl (any_of HT_.out (by kernel_rfl)) (fun _ _ _ h => h) (Or.inl ⟨by rfl, ?_⟩) ?_ ?_
  rotate_left
  · intro w'
    go_simp
    with_reducible rfl
  rotate_left
  · simp only [Act.put, List.setIfInBounds_toArray, List.set_cons_zero, List.set_cons_succ, i64_w, i32_w]
    rfl
  refine pure_ (i := 5) (N := some 41) (v := ?_) (a' := ?_) #[true, true, true, true, true, true, false, false, false, false, false, false, false, false, false, false, false, false, false, false] rfl rfl (any_of HT_.out (by kernel_rfl)) (fun _ _ _ h => h) (Or.inl ⟨by rfl, ?_⟩) ?_ ?_
  rotate_left
  · intro w'
    go_simp
    with_reducible rfl
  rotate_left
  · simp only [Act.put, List.setIfInBounds_toArray, List.set_cons_zero, List.set_cons_succ, i64_w, i32_w]
    rfl
  refine pure_ (i := 6) (N := some 42) (v := ?_) (a' := ?_) #[true, true, true, true, true, true, true, false, false, false, false, false, false, false, false, false, false, false, false, false] rfl rfl (any_of HT_.out (by kernel_rfl)) (fun _ _ _ h => h) (Or.inl ⟨by rfl, ?_⟩) ?_ ?_
  rotate_left
  · intro w'
    go_simp
    with_reducible rfl
  rotate_left
  · simp only [Act.put, List.setIfInBounds_toArray, List.set_cons_zero, List.set_cons_succ, i64_w, i32_w]
    rfl
  refine pure_ (i := 7) (N := some 43) (v := ?_) (a' := ?_) #[true, true, true, true, true, true, true, true, false, false, false, false, false, false, false, false, false, false, false, false] rfl rfl (any_of HT_.out (by kernel_rfl)) (fun _ _ _ h => h) (Or.inl ⟨by rfl, ?_⟩) ?_ ?_
  rotate_left
  · intro w'
    go_simp
    with_reducible rfl
  rotate_left
  · simp only [Act.put, List.setIfInBounds_toArray, List.set_cons_zero, List.set_cons_succ, i64_w, i32_w]
    rfl
  refine pure_ (i := 8) (N := some 44) (v := ?_) (a' := ?_) #[true, true, true, true, true, true, true, true, true, false, false, false, false, false, false, false, false, false, false, false] rfl rfl (any_of HT_.out (by kernel_rfl)) (fun _ _ _ h => h) (Or.inl ⟨by rfl, ?_⟩) ?_ ?_
  rotate_left
  · intro w'
    go_simp
    with_reducible rfl
  rotate_left
  · simp only [Act.put, List.setIfInBounds_toArray, List.set_cons_zero, List.set_cons_succ, i64_w, i32_w]
    rfl
  refine pure_ (i := 9) (N := some 45) (v := ?_) (a' := ?_) #[true, true, true, true, true, true, true, true, true, true, false, false, false, false, false, false, false, false, false, false] rfl rfl (any_of HT_.out (by kernel_rfl)) (fun _ _ _ h => h) (Or.inl ⟨by rfl, ?_⟩) ?_ ?_
  rotate_left
  · intro w'
    go_simp
    with_reducible rfl
  rotate_left
  · simp only [Act.put, List.setIfInBounds_toArray, List.set_cons_zero, List.set_cons_succ, i64_w, i32_w]
    rfl
  refine pure_ (i := 10) (N := some 46) (v := ?_) (a' := ?_) #[true, true, true, true, true, true, true, true, true, true, true, false, false, false, false, false, false, false, false, false] rfl rfl (any_of HT_.out (by kernel_rfl)) (fun _ _ _ h => h) (Or.inl ⟨by rfl, ?_⟩) ?_ ?_
  rotate_left
  · intro w'
    go_simp
    with_reducible rfl
  rotate_left
  · simp only [Act.put, List.setIfInBounds_toArray, List.set_cons_zero, List.set_cons_succ, i64_w, i32_w]
    rfl
  refine pure_ (i := 11) (N := some 47) (v := ?_) (a' := ?_) #[true, true, true, true, true, true, true, true, true, true, true, true, false, false, false, false, false, false, false, false] rfl rfl (any_of HT_.out (by kernel_rfl)) (fun _ _ _ h => h) (Or.inl ⟨by rfl, ?_⟩) ?_ ?_
  rotate_left
  · intro w'
    go_simp
    with_reducible rfl
  rotate_left
  · simp only [Act.put, List.setIfInBounds_toArray, List.set_cons_zero, List.set_cons_succ, i64_w, i32_w]
    rfl
  refine pure_ (i := 12) (N := some 48) (v := ?_) (a' := ?_) #[true, true, true, true, true, true, true, true, true, true, true, true, true, false, false, false, false, false, false, false] rfl rfl (any_of HT_.out (by kernel_rfl)) (fun _ _ _ h => h) (Or.inl ⟨by rfl, ?_⟩) ?_ ?_
  rotate_left
  · intro w'
    go_simp
    with_reducible rfl
  rotate_left
  · simp only [Act.put, List.setIfInBounds_toArray, List.set_cons_zero, List.set_cons_succ, i64_w, i32_w]
    rfl
  refine pure_ (i := 13) (N := some 49) (v := ?_) (a' := ?_) #[true, true, true, true, true, true, true, true, true, true, true, true, true, true, false, false, false, false, false, false] rfl rfl (any_of HT_.out (by kernel_rfl)) (fun _ _ _ h => h) (Or.inl ⟨by rfl, ?_⟩) ?_ ?_
  rotate_left
  · intro w'
    go_simp
    with_reducible rfl
  rotate_left
  · simp only [Act.put, List.setIfInBounds_toArray, List.set_cons_zero, List.set_cons_succ, i64_w, i32_w]
    rfl
  refine pure_ (i := 14) (N := some 50) (v := ?_) (a' := ?_) #[true, true, true, true, true, true, true, true, true, true, true, true, true, true, true, false, false, false, false, false] rfl rfl (any_of HT_.out (by kernel_rfl)) (fun _ _ _ h => h) (Or.inl ⟨by rfl, ?_⟩) ?_ ?_
  rotate_left
  · intro w'
    go_simp
    with_reducible rfl
  rotate_left
  · simp only [Act.put, List.setIfInBounds_toArray, List.set_cons_zero, List.set_cons_succ, i64_w, i32_w]
    rfl
  refine pure_ (i := 15) (N := some 51) (v := ?_) (a' := ?_) #[true, true, true, true, true, true, true, true, true, true, true, true, true, true, true, true, false, false, false, false] rfl rfl (any_of HT_.out (by kernel_rfl)) (fun _ _ _ h => h) (Or.inl ⟨by rfl, ?_⟩) ?_ ?_
  rotate_left
  · intro w'
    go_simp
    with_reducible rfl
  rotate_left
  · simp only [Act.put, List.setIfInBounds_toArray, List.set_cons_zero, List.set_cons_succ, i64_w, i32_w]
    rfl
  refine pure_ (i := 16) (N := some 52) (v := ?_) (a' := ?_) #[true, true, true, true, true, true, true, true, true, true, true, true, true, true, true, true, true, false, false, false] rfl rfl (any_of HT_.out (by kernel_rfl)) (fun _ _ _ h => h) (Or.inl ⟨by rfl, ?_⟩) ?_ ?_
  rotate_left
  · intro w'
    go_simp
    with_reducible rfl
  rotate_left
  · simp only [Act.put, List.setIfInBounds_toArray, List.set_cons_zero, List.set_cons_succ, i64_w, i32_w]
    rfl
  refine pure_ (i := 17) (N := some 53) (v := ?_) (a' := ?_) #[true, true, true, true, true, true, true, true, true, true, true, true, true, true, true, true, true, true, false, false] rfl rfl (any_of HT_.out (by kernel_rfl)) (fun _ _ _ h => h) (Or.inl ⟨by rfl, ?_⟩) ?_ ?_
  rotate_left
  · intro w'
    go_simp
    with_reducible rfl
  rotate_left
  · simp only [Act.put, List.setIfInBounds_toArray, List.set_cons_zero, List.set_cons_succ, i64_w, i32_w]
    rfl
  refine pure_ (i := 18) (N := some 54) (v := ?_) (a' := ?_) #[true, true, true, true, true, true, true, true, true, true, true, true, true, true, true, true, true, true, true, false] rfl rfl (any_of HT_.out (by kernel_rfl)) (fun _ _ _ h => h) (Or.inl ⟨by rfl, ?_⟩) ?_ ?_
  rotate_left
  · intro w'
    go_simp
    with_reducible rfl
  rotate_left
  · simp only [Act.put, List.setIfInBounds_toArray, List.set_cons_zero, List.set_cons_succ, i64_w, i32_w]
    rfl
  refine pure_ (i := 19) (N := some 4) (v := ?_) (a' := ?_) #[true, true, true, true, true, true, true, true, true, true, true, true, true, true, true, true, true, true, true, true] rfl rfl (any_of HT_.out (by kernel_rfl)) (fun _ _ _ h => h) (Or.inl ⟨by rfl, ?_⟩) ?_ ?_
  rotate_left
  · intro w'
    go_simp
    with_reducible rfl
  rotate_left
  · simp only [Act.put, List.setIfInBounds_toArray, List.set_cons_zero, List.set_cons_succ, i64_w, i32_w]
    rfl
  refine done_ (done_of HT_.out (by kernel_rfl)) ?_
  try go_wp2
  go_ret
  exact ⟨by first | rfl | (simp [errW_none, errW_some] <;> rfl) | (simp [*, errW_none, errW_some] <;> rfl), by repeat (first | (with_reducible first | exact HB.out | apply below_alloc | apply pw_below_drewN | apply below_drew1 | refine below_set ?_ GE313.out | refine below_set ?_ GE318.out | refine below_set ?_ GE322.out) | exact HB.out)⟩
end Go.Proofs.Ytbondhnhiinlbaa.Pr
end
section
set_option linter.unusedVariables false
set_option linter.unusedSimpArgs false
namespace Go.Proofs.Ytbondhnhiinlbaa.Pr
open Go.ChangeShapes Go.WideShapes Go.RowKit Go.Proofs.YtbondhnhiinlbaaW.PrintWords Go.Proofs.YtbondhnhiinlbaaW.PrintLast Go.Proofs.YtbondhnhiinlbaaW.PrintMore
theorem pure_StampTexts (s : ByteArray) (e a : Int) (he : (Lit.int .i64 e).wf = true) (ha : (Lit.int .u64 a).wf = true) (w : World) :
    Calls Try.prog 6 #[.string s, .agg #[.int .i64 e, .int .u64 a]] w fun e w' => e = .returned (.bool true) ∧ Below w.heap.size w w' := by
  have hA := bounds_u64 ha
  obtain ⟨K, hK⟩ := shown_ev
  obtain ⟨⟨r1, r2, r3⟩, hp, K1, h1⟩ := refparse_ev s
  obtain ⟨⟨t1, t2⟩, ⟨K2, h2⟩, K3, h3⟩ := bothprint_ev e a hA
  exact STexts_calls (K + K1 + K2 + K3) s e a r1 r2 r3 t2 t1 w ⟨hK _ (by omega)⟩ ⟨hp⟩ ⟨h1 _ (by omega)⟩ ⟨h2 _ (by omega)⟩ ⟨rfl⟩ ⟨h3 _ (by omega)⟩ ⟨rfl⟩
end Go.Proofs.Ytbondhnhiinlbaa.Pr
end
