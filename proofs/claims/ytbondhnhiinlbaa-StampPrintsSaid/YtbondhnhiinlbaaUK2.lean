/- The document's examples hold. Digits: how the program and the reference write them. How the program writes a date. How a text is read by the program, over lists of bytes. Texts: what the program reads, and what it writes. -/
import Derived.Test.YtbondhnhiinlbaaUPrx21
import Derived.Test.YtbondhnhiinlbaaUK0
import Derived.Laws.Bits64
import Derived.Test.YtbondhnhiinlbaaUPrx12
section
section
set_option linter.unusedVariables false
set_option linter.unusedSimpArgs false
namespace Go.Proofs.Ytbondhnhiinlbaa.Pr
open Go.RowKit Go.Proofs.YtbondhnhiinlbaaW.PrintWords Go.Proofs.YtbondhnhiinlbaaW.PrintLast Go.Proofs.YtbondhnhiinlbaaW.PrintMore
theorem Ev.two {α β : Type} {g : Nat → Option α} {f : Nat → Option β} {r : α} {q : β} (h : Ev f q) (hs : ∀ k, f k = some q → g (k + 1) = some r) : Ev g r := by
  obtain ⟨K, hK⟩ := h
  refine ⟨K + 1, fun k hk => ?_⟩
  obtain ⟨m, rfl⟩ : ∃ m, k = m + 1 := ⟨k - 1, by omega⟩
  exact hs m (hK m (by omega))
theorem Ev.three {α β : Type} {g : Nat → Option α} {f : Nat → Option β} {r : α} {q : β} (h : Ev f q) (hs : ∀ k, f k = some q → g (k + 2) = some r) : Ev g r := by
  obtain ⟨K, hK⟩ := h
  refine ⟨K + 2, fun k hk => ?_⟩
  obtain ⟨m, rfl⟩ : ∃ m, k = m + 2 := ⟨k - 2, by omega⟩
  exact hs m (hK m (by omega))
theorem Ev.zero {α β : Type} {g : Nat → Option α} {f : Nat → Option β} {r : α} {q : β} (h : Ev f q) (hs : ∀ k, f k = some q → g k = some r) : Ev g r := by
  obtain ⟨K, hK⟩ := h
  exact ⟨K, fun k hk => hs k (hK k hk)⟩
theorem Ev.end1 {α : Type} {g : Nat → Option α} {r : α} (hs : ∀ k, g (k + 1) = some r) : Ev g r :=
  ⟨1, fun k hk => by obtain ⟨m, rfl⟩ : ∃ m, k = m + 1 := ⟨k - 1, by omega⟩; exact hs m⟩
theorem Ev.all {α : Type} {g : Nat → Option α} {r : α} (hs : ∀ k, g k = some r) : Ev g r := ⟨0, fun k _ => hs k⟩
theorem Ev.of_mono {α : Type} {g : Nat → Option α} {r : α} (K : Nat) (h : g K = some r) (hm : ∀ k, LeO (g k) (g (k + 1))) : Ev g r := by
  refine ⟨K, fun k hk => ?_⟩
  induction k with
  | zero => rw [show K = 0 from by omega] at h; exact h
  | succ k ih =>
    by_cases hk' : K ≤ k
    · exact hm k _ (ih hk')
    · rw [show K = k + 1 from by omega] at h
      exact h
theorem shown_20 : foliotlaw02_shown.f 20 = some true := by decide +kernel
theorem shown_ev : Ev (fun k => foliotlaw02_shown.f k) true := Ev.of_mono 20 shown_20 (fun k => foliotlaw02_shown.mono k)
end Go.Proofs.Ytbondhnhiinlbaa.Pr
end
section
set_option linter.unusedVariables false
set_option linter.unusedSimpArgs false
namespace Go.Proofs.Ytbondhnhiinlbaa.Pr
open Go.RowKit Go.Proofs.YtbondhnhiinlbaaW.PrintWords Go.Proofs.YtbondhnhiinlbaaW.PrintLast Go.Proofs.YtbondhnhiinlbaaW.PrintMore
theorem u64_mod (n : Int) : IntKind.u64.wrap n = n % 18446744073709551616 := IntKind.wrap_u64 n
theorem add_zero_eq (k : Nat) (v : Int) (h0 : -4611686018427387904 ≤ v) (h1 : v ≤ 4611686018427387904) : fixed_Add.f (k + 1) v 0 = some v := by
  unfold fixed_Add.f fixed_sum.f
  rw [if_pos ⟨⟨by omega, by omega⟩, by decide, by decide⟩, Int.add_zero]
  by_cases hv : v < 0
  · rw [if_pos hv, Option.bind_some]
    rw [show -v / 18446744073709551616 = 0 from by omega, show -v % 18446744073709551616 = -v from by omega]
    unfold fixed_whole_span.f fixed_whole_cut.f
    dsimp only
    rw [if_pos rfl]
    by_cases hl : -v < 4611686018427387904
    · rw [decide_eq_true (by rw [u64_mod]; omega)]
      simp only [fixed_whole_cut.j0, if_true, Option.bind_some]
      congr 1
      unfold wrap64
      omega
    · rw [decide_eq_false (by rw [u64_mod]; omega)]
      simp only [fixed_whole_cut.j0, if_true, Option.bind_some]
      rw [if_neg (by decide)]
      simp only [Option.bind_some]
      congr 1
      unfold wrap64
      omega
  · rw [if_neg hv, Option.bind_some]
    unfold fixed_whole_span.f fixed_whole_cut.f
    dsimp only
    rw [if_pos rfl]
    by_cases hl : v < 4611686018427387904
    · rw [decide_eq_true (by rw [u64_mod]; omega)]
      simp only [fixed_whole_cut.j0, if_true, Option.bind_some]
      rw [if_neg (by decide)]
      simp only [Option.bind_some]
      congr 1
      unfold wrap64
      omega
    · rw [decide_eq_false (by rw [u64_mod]; omega)]
      simp only [fixed_whole_cut.j0, Option.bind_some]
      rw [if_neg (by decide), if_neg (by decide)]
      simp only [Option.bind_some]
      congr 1
      omega
theorem clamp_eq (k : Nat) (a : Int) : fixed_Clamp.f (k + 1) a 4611686018427387904 = some (mx (-4611686018427387904) (mn a 4611686018427387904)) := by
  unfold fixed_Clamp.f
  rw [if_neg (by decide)]
  have e : mx (mn a 4611686018427387904) (wrap64 (-4611686018427387904)) = mx (-4611686018427387904) (mn a 4611686018427387904) := by
    unfold mx mn wrap64
    repeat' split
    all_goals omega
  rw [e, add_zero_eq k _ (by unfold mx mn; repeat' split
                             all_goals omega) (by unfold mx mn; repeat' split
                                                  all_goals omega)]
  rfl
theorem since_eq (k : Nat) (a b : Int) : stamp_Since.f (k + 1) a b = some (mx (-4611686018427387904) (mn (wrap64 (IntKind.u64.wrap (a - b))) 4611686018427387904)) := by
  unfold stamp_Since.f
  rw [clamp_eq]
  rfl
theorem refsince_eq (a b : Int) : foliotref02_Since.f a b = some (mx (-4611686018427387904) (mn (wrap64 (IntKind.u64.wrap (a - b))) 4611686018427387904)) := by
  unfold foliotref02_Since.f foliotref02_Cut.f
  rfl
theorem since_cut (k : Nat) (a b d : Int) (hd : wrap64 (IntKind.u64.wrap (a - b)) = d) (h0 : -4611686018427387904 ≤ d) (h1 : d ≤ 4611686018427387904) : stamp_Since.f (k + 1) a b = some d := by
  rw [since_eq, hd]
  congr 1
  unfold mx mn
  repeat' split
  all_goals omega
end Go.Proofs.Ytbondhnhiinlbaa.Pr
end
end
section
set_option linter.unusedVariables false
set_option linter.unusedSimpArgs false
namespace Go.Proofs.Ytbondhnhiinlbaa.Pr
open Go.RowKit Go.Proofs.YtbondhnhiinlbaaW.PrintWords Go.Proofs.YtbondhnhiinlbaaW.PrintLast Go.Proofs.YtbondhnhiinlbaaW.PrintMore
theorem son_append (a b : List Int) : strOfNums (a ++ b) = strOfNums a ++ strOfNums b := by
  apply ByteArray.ext
  rw [ByteArray.data_append]
  simp [strOfNums]
theorem son_size (a : List Int) : (strOfNums a).size = a.length := by
  show (strOfNums a).data.size = _
  simp [strOfNums]
def bnums (s : ByteArray) : List Int := s.data.toList.map fun b => (b.toNat : Int)
theorem son_bnums (s : ByteArray) : strOfNums (bnums s) = s := by
  apply ByteArray.ext
  apply Array.ext'
  simp only [strOfNums, bnums, List.map_map]
  rw [List.map_congr_left (g := id) (fun b _ => by simp), List.map_id]
theorem bnums_son (l : List Int) (h : ∀ x ∈ l, 0 ≤ x ∧ x < 256) : bnums (strOfNums l) = l := by
  simp only [strOfNums, bnums, List.map_map]
  rw [List.map_congr_left (g := id) (fun x hx => ?_), List.map_id]
  have := h x hx
  simp only [Function.comp_apply, UInt8.toNat_ofNat', id]
  omega
theorem bnums_length (s : ByteArray) : (bnums s).length = s.size := by simp [bnums]
/-- so many digits of a number -/
def dg : Nat → Int → List Int
  | 0, _ => []
  | m + 1, n => dg m (n / 10) ++ [48 + n % 10]
theorem dg_length : ∀ (m : Nat) (n : Int), (dg m n).length = m
  | 0, _ => rfl
  | m + 1, n => by rw [dg, List.length_append, dg_length m]; rfl
theorem dg_range : ∀ (m : Nat) (n : Int), ∀ x ∈ dg m n, 48 ≤ x ∧ x ≤ 57
  | 0, _, x, hx => by simp [dg] at hx
  | m + 1, n, x, hx => by
    rw [dg, List.mem_append, List.mem_singleton] at hx
    rcases hx with hx | rfl
    · exact dg_range m _ x hx
    · omega
theorem digit_one (d : Int) (h : 0 ≤ d ∧ d < 10) : (⟨#[48, 49, 50, 51, 52, 53, 54, 55, 56, 57]⟩ : ByteArray).extract d.toNat (d + 1).toNat = strOfNums [48 + d] := by
  rcases (show d = 0 ∨ d = 1 ∨ d = 2 ∨ d = 3 ∨ d = 4 ∨ d = 5 ∨ d = 6 ∨ d = 7 ∨ d = 8 ∨ d = 9 from by omega) with rfl | rfl | rfl | rfl | rfl | rfl | rfl | rfl | rfl | rfl <;> decide +kernel
theorem digits_l0 (many : Int) (hm : many ≤ 10) : ∀ (d i : Nat) (n : Int) (out : ByteArray), (i : Int) + d = many → 0 ≤ n → n ≤ 9223372036854775807 → out.size = i → Ev (fun k => foliotref02_digits.l0 k n many out (i : Int)) (strOfNums (dg d n) ++ out)
  | 0, i, n, out, hi, h0, h1, hs => by
    refine Ev.end1 fun k => ?_
    rw [foliotref02_digits.l0, if_neg (by omega)]
    have e : strOfNums (dg 0 n) ++ out = out := by
      apply ByteArray.ext
      rw [ByteArray.data_append]
      simp [dg, strOfNums]
    rw [e]
  | d + 1, i, n, out, hi, h0, h1, hs => by
    have hx : (⟨#[48, 49, 50, 51, 52, 53, 54, 55, 56, 57]⟩ : ByteArray).extract (n % 10).toNat (n % 10 + 1).toNat = strOfNums [48 + n % 10] := digit_one (n % 10) (by omega)
    have h := digits_l0 many hm d (i + 1) (n / 10) (strOfNums [48 + n % 10] ++ out) (by omega) (by omega) (by omega) (by rw [ByteArray.size_append, son_size, hs]; simp; omega)
    refine Ev.two h fun k hk => ?_
    rw [foliotref02_digits.l0, if_pos (by omega), tm_eq h0, td_eq h0, w_in (n := n % 10 + 1) (by omega), w_in (n := n / 10) (by omega), w_in (n := (i : Int) + 1) (by omega), hx, if_pos (by omega), if_pos (by omega), if_pos (by omega), if_pos (by rw [son_size, hs]; simp; omega)]
    rw [show (i : Int) + 1 = ((i + 1 : Nat) : Int) from by omega, hk, dg, son_append]
    rw [ByteArray.append_assoc]
theorem digits_ev (n : Int) (many : Nat) (hm : many ≤ 10) (h0 : 0 ≤ n) (h1 : n ≤ 9223372036854775807) : Ev (fun k => foliotref02_digits.f k n (many : Int)) (strOfNums (dg many n)) := by
  have h := digits_l0 (many : Int) (by omega) many 0 n ⟨#[]⟩ (by omega) h0 h1 rfl
  have e : strOfNums (dg many n) ++ (⟨#[]⟩ : ByteArray) = strOfNums (dg many n) := by
    apply ByteArray.ext
    rw [ByteArray.data_append]
    simp
  rw [e] at h
  exact h
theorem put_l1 (base : List Int) : ∀ (j : Nat) (n : Int) (done : List Int), 0 ≤ n → n ≤ 9223372036854775807 → base.length + j + done.length ≤ 1000 →
    Ev (fun k => stamp_put.l1 k (base ++ (List.replicate j 48 ++ done)) n (base.length : Int) ((base.length : Int) + j - 1)) (base ++ (dg j n ++ done))
  | 0, n, done, h0, h1, hl => by
    refine Ev.end1 fun k => ?_
    rw [stamp_put.l1, if_neg (by omega)]
    rfl
  | j + 1, n, done, h0, h1, hl => by
    have h := put_l1 base j (n / 10) ((48 + n % 10) :: done) (by omega) (by omega) (by simp; omega)
    refine Ev.two h fun k hk => ?_
    rw [stamp_put.l1, if_pos (by omega), if_pos (by omega), if_pos (by simp; omega), tm_eq h0, td_eq h0, w_in (n := 48 + n % 10) (by omega), w_in (n := n / 10) (by omega), w_in (n := (base.length : Int) + ((j + 1 : Nat) : Int) - 1 - 1) (by omega), show (48 + n % 10) % 256 = 48 + n % 10 from by omega,
      show ((base.length : Int) + ((j + 1 : Nat) : Int) - 1).toNat = base.length + j from by omega, show (base.length : Int) + ((j + 1 : Nat) : Int) - 1 - 1 = (base.length : Int) + (j : Int) - 1 from by omega]
    have e : (base ++ (List.replicate (j + 1) 48 ++ done)).set (base.length + j) (48 + n % 10) = base ++ (List.replicate j 48 ++ ((48 + n % 10) :: done)) := by
      rw [List.set_append_right _ _ (by omega), show base.length + j - base.length = j from by omega, show List.replicate (j + 1) (48 : Int) = List.replicate j 48 ++ [48] from List.replicate_succ' .., List.append_assoc,
        List.set_append_right _ _ (by simp), List.length_replicate, Nat.sub_self]
      rfl
    rw [e, hk, dg, List.append_assoc]
    rfl
theorem put_l0 (base : List Int) (n : Int) (many : Nat) (hm : many ≤ 10) (hb : base.length ≤ 900) (r : List Int) (h : Ev (fun k => stamp_put.l1 k (base ++ List.replicate many 48) n (base.length : Int) ((base.length : Int) + many - 1)) r) :
    ∀ (d i : Nat), i + d = many → Ev (fun k => stamp_put.l0 k (base ++ List.replicate i 48) n (many : Int) (base.length : Int) (many : Int) (i : Int)) r
  | 0, i, hi => by
    obtain rfl : i = many := by omega
    refine Ev.two h fun k hk => ?_
    rw [stamp_put.l0, if_neg (by omega), w_in (n := (base.length : Int) + (i : Int)) (by omega), w_in (n := (base.length : Int) + (i : Int) - 1) (by omega)]
    exact hk
  | d + 1, i, hi => by
    refine Ev.two (put_l0 base n many hm hb r h d (i + 1) (by omega)) fun k hk => ?_
    rw [stamp_put.l0, if_pos (by omega), if_pos (by simp; omega), w_in (n := (i : Int) + 1) (by omega)]
    rw [List.replicate_succ', ← List.append_assoc] at hk
    exact hk
theorem put_ev (base : List Int) (n : Int) (many : Nat) (hm : many ≤ 10) (hb : base.length ≤ 900) (h0 : 0 ≤ n) (h1 : n ≤ 9223372036854775807) : Ev (fun k => stamp_put.f k base n (many : Int)) (base ++ dg many n) := by
  have h := put_l1 base many n [] h0 h1 (by simp; omega)
  rw [List.append_nil, List.append_nil] at h
  have g := put_l0 base n many hm hb _ h many 0 (by omega)
  simp only [List.replicate_zero, List.append_nil] at g
  exact g
end Go.Proofs.Ytbondhnhiinlbaa.Pr
end
section
set_option linter.unusedVariables false
set_option linter.unusedSimpArgs false
namespace Go.Proofs.Ytbondhnhiinlbaa.Pr
open Go.RowKit Go.Proofs.YtbondhnhiinlbaaW.PrintWords Go.Proofs.YtbondhnhiinlbaaW.PrintLast Go.Proofs.YtbondhnhiinlbaaW.PrintMore
def outOf (y m d h mi s n : Int) : List Int := dg 4 y ++ [45] ++ dg 2 m ++ [45] ++ dg 2 d ++ [32] ++ dg 2 h ++ [58] ++ dg 2 mi ++ [58] ++ dg 2 s ++ [46] ++ dg 6 n
theorem lit_one (c : Int) (u : UInt8) (h : UInt8.ofNat c.toNat = u) : (⟨#[u]⟩ : ByteArray) = strOfNums [c] := by
  subst h
  rfl
theorem print_ok (e a y m d h mi s fr : Int) (ho : stamp_OfDate.f e a = some (y, m, d, h, mi, s, fr, 0)) (hy : 0 ≤ y ∧ y ≤ 100000) (hm : 0 ≤ m ∧ m ≤ 100000) (hd : 0 ≤ d ∧ d ≤ 100000) (hh : 0 ≤ h ∧ h ≤ 100000) (hmi : 0 ≤ mi ∧ mi ≤ 100000) (hs : 0 ≤ s ∧ s ≤ 100000) (hf : 0 ≤ fr ∧ fr < 4294967296) :
    Ev (fun k => stamp_Print.f k e a) (strOfNums (outOf y m d h mi s (fr * 1000000 / 4294967296)), 0) := by
  have l0 : (dg 4 y).length = 4 := dg_length _ _
  have l1 : (dg 2 m).length = 2 := dg_length _ _
  have l2 : (dg 2 d).length = 2 := dg_length _ _
  have l3 : (dg 2 h).length = 2 := dg_length _ _
  have l4 : (dg 2 mi).length = 2 := dg_length _ _
  have l5 : (dg 2 s).length = 2 := dg_length _ _
  have l6 : (dg 6 (fr * 1000000 / 4294967296)).length = 6 := dg_length _ _
  have p0 := put_ev [] y 4 (by decide) (by simp) (by omega) (by omega)
  have p1 := put_ev (dg 4 y ++ [45]) m 2 (by decide) (by simp [l0]) (by omega) (by omega)
  have p2 := put_ev (dg 4 y ++ [45] ++ dg 2 m ++ [45]) d 2 (by decide) (by simp [l0, l1]) (by omega) (by omega)
  have p3 := put_ev (dg 4 y ++ [45] ++ dg 2 m ++ [45] ++ dg 2 d ++ [32]) h 2 (by decide) (by simp [l0, l1, l2]) (by omega) (by omega)
  have p4 := put_ev (dg 4 y ++ [45] ++ dg 2 m ++ [45] ++ dg 2 d ++ [32] ++ dg 2 h ++ [58]) mi 2 (by decide) (by simp [l0, l1, l2, l3]) (by omega) (by omega)
  have p5 := put_ev (dg 4 y ++ [45] ++ dg 2 m ++ [45] ++ dg 2 d ++ [32] ++ dg 2 h ++ [58] ++ dg 2 mi ++ [58]) s 2 (by decide) (by simp [l0, l1, l2, l3, l4]) (by omega) (by omega)
  have p6 := put_ev (dg 4 y ++ [45] ++ dg 2 m ++ [45] ++ dg 2 d ++ [32] ++ dg 2 h ++ [58] ++ dg 2 mi ++ [58] ++ dg 2 s ++ [46]) (fr * 1000000 / 4294967296) 6 (by decide) (by simp [l0, l1, l2, l3, l4, l5]) (by omega) (by omega)
  obtain ⟨K0, p0⟩ := p0
  obtain ⟨K1, p1⟩ := p1
  obtain ⟨K2, p2⟩ := p2
  obtain ⟨K3, p3⟩ := p3
  obtain ⟨K4, p4⟩ := p4
  obtain ⟨K5, p5⟩ := p5
  obtain ⟨K6, p6⟩ := p6
  refine ⟨K0 + K1 + K2 + K3 + K4 + K5 + K6, fun k hk => ?_⟩
  have p0 := p0 k (by omega)
  have p1 := p1 k (by omega)
  have p2 := p2 k (by omega)
  have p3 := p3 k (by omega)
  have p4 := p4 k (by omega)
  have p5 := p5 k (by omega)
  have p6 := p6 k (by omega)
  dsimp only at p0 p1 p2 p3 p4 p5 p6
  rw [show ((4 : Nat) : Int) = 4 from rfl, List.nil_append] at p0
  rw [show ((2 : Nat) : Int) = 2 from rfl] at p1 p2 p3 p4 p5
  rw [show ((6 : Nat) : Int) = 6 from rfl] at p6
  simp only [stamp_Print.f]
  rw [ho, Option.bind_some]
  dsimp only
  rw [if_pos rfl, p0, Option.bind_some, if_pos (by simp [l0]), p1, Option.bind_some, if_pos (by simp [l0, l1]), p2, Option.bind_some, if_pos (by simp [l0, l1, l2]), p3, Option.bind_some, if_pos (by simp [l0, l1, l2, l3]), p4, Option.bind_some, if_pos (by simp [l0, l1, l2, l3, l4]), p5, Option.bind_some, if_pos (by simp [l0, l1, l2, l3, l4, l5]),
    w_in (n := fr) (by omega), w_in (n := fr * 1000000) (by omega), p6, Option.bind_some]
  rfl
theorem print_err (e a x : Int) (hx : x ≠ 0) (ho : stamp_OfDate.f e a = some (0, 0, 0, 0, 0, 0, 0, x)) (k : Nat) : stamp_Print.f k e a = some (⟨#[]⟩, x) := by
  simp only [stamp_Print.f]
  rw [ho, Option.bind_some]
  dsimp only
  rw [if_neg hx]
end Go.Proofs.Ytbondhnhiinlbaa.Pr
end
section
set_option linter.unusedVariables false
set_option linter.unusedSimpArgs false
namespace Go.Proofs.Ytbondhnhiinlbaa.Pr
open Go.RowKit Go.Proofs.YtbondhnhiinlbaaW.PrintWords Go.Proofs.YtbondhnhiinlbaaW.PrintLast Go.Proofs.YtbondhnhiinlbaaW.PrintMore
def dl : Nat → Int → List Int → Option (Int × List Int)
  | 0, n, L => some (n, L)
  | _ + 1, _, [] => none
  | m + 1, n, c :: L => if 48 ≤ c ∧ c ≤ 57 then dl m (n * 10 + (c - 48)) L else none
def fl : List (Nat × Nat) → List Int → Option (List Int)
  | [], _ => some []
  | (m, g) :: l, L => (dl m 0 L).bind fun p => if g = 0 then (if p.2 = [] then (fl l []).bind fun r => some (p.1 :: r) else none) else
      match p.2 with
      | [] => none
      | c :: R => if c = (g : Int) then (fl l R).bind fun r => some (p.1 :: r) else none
theorem dl_drop : ∀ (m : Nat) (n : Int) (L : List Int) (v : Int) (R : List Int), dl m n L = some (v, R) → m ≤ L.length ∧ R = L.drop m
  | 0, n, L, v, R, h => by
    simp only [dl, Option.some.injEq, Prod.mk.injEq] at h
    exact ⟨Nat.zero_le _, h.2.symm⟩
  | m + 1, n, [], v, R, h => by simp [dl] at h
  | m + 1, n, c :: L, v, R, h => by
    rw [dl] at h
    by_cases hc : 48 ≤ c ∧ c ≤ 57
    · rw [if_pos hc] at h
      have g := dl_drop m _ L v R h
      exact ⟨by simp only [List.length_cons]; omega, by rw [List.drop_succ_cons]; exact g.2⟩
    · rw [if_neg hc] at h
      cases h
theorem bnums_drop (s : ByteArray) (i : Nat) (h : i < s.size) : (bnums s).drop i = (s[i].toNat : Int) :: (bnums s).drop (i + 1) := by
  have hl : i < (bnums s).length := by rw [bnums_length]; exact h
  rw [List.drop_eq_getElem_cons hl]
  congr 1
  simp [bnums]
  rfl
theorem bnums_extract (s : ByteArray) (a : Nat) : bnums (s.extract a s.size) = (bnums s).drop a := by
  unfold bnums
  rw [ByteArray.data_extract, Array.toList_extract, ← List.map_drop]
  congr 1
  simp only [List.extract_eq_take_drop]
  exact List.take_of_length_le (by rw [List.length_drop]; exact Nat.le_refl _)
theorem digs_eq (s : ByteArray) : ∀ (m i : Nat) (n : Int), digs s m i n = (dl m n ((bnums s).drop i)).map (·.1)
  | 0, i, n => rfl
  | m + 1, i, n => by
    rw [digs]
    by_cases h : i < s.size
    · rw [dif_pos h, bnums_drop s i h, dl]
      by_cases hc : 48 ≤ s[i].toNat ∧ s[i].toNat ≤ 57
      · rw [if_pos hc, if_pos (by omega)]
        exact digs_eq s m (i + 1) _
      · rw [if_neg hc, if_neg (by omega)]
        rfl
    · rw [dif_neg h, List.drop_eq_nil_of_le (by rw [bnums_length]; omega)]
      rfl
theorem bnums_nil : bnums (⟨#[]⟩ : ByteArray) = [] := rfl
theorem fields_eq : ∀ (l : List (Nat × Nat)) (s : ByteArray), fields l s = fl l (bnums s)
  | [], s => rfl
  | (m, g) :: l, s => by
    rw [fields, number, fl, digs_eq, List.drop_zero]
    rcases hd : dl m 0 (bnums s) with _ | ⟨v, R⟩
    · rfl
    · obtain ⟨h1, rfl⟩ := dl_drop _ _ _ _ _ hd
      rw [bnums_length] at h1
      simp only [Option.map_some, Option.bind_some]
      by_cases hg : g = 0
      · rw [if_pos hg, if_pos hg]
        by_cases hsz : s.size = m
        · rw [if_pos hsz, if_pos (List.drop_eq_nil_of_le (by rw [bnums_length]; omega)), Option.bind_some]
          dsimp only
          rw [fields_eq l, bnums_nil]
        · rw [if_neg hsz, if_neg (by rw [bnums_drop s m (by omega)]; simp)]
          rfl
      · rw [if_neg hg, if_neg hg]
        by_cases hm : m < s.size
        · rw [dif_pos hm, bnums_drop s m hm]
          dsimp only
          by_cases hc : s[m].toNat = g
          · rw [if_pos hc, if_pos (by omega), Option.bind_some]
            dsimp only
            rw [fields_eq l, bnums_extract]
          · rw [if_neg hc, if_neg (by omega)]
            rfl
        · rw [dif_neg hm, List.drop_eq_nil_of_le (by rw [bnums_length]; omega)]
          rfl
end Go.Proofs.Ytbondhnhiinlbaa.Pr
end
section
set_option linter.unusedVariables false
set_option linter.unusedSimpArgs false
namespace Go.Proofs.Ytbondhnhiinlbaa.Pr
open Go.RowKit Go.Proofs.YtbondhnhiinlbaaW.PrintWords Go.Proofs.YtbondhnhiinlbaaW.PrintLast Go.Proofs.YtbondhnhiinlbaaW.PrintMore
theorem dl_split : ∀ (m : Nat) (n : Int) (L : List Int), dl (m + 1) n L = (dl m n L).bind fun p => dl 1 p.1 p.2
  | 0, n, L => rfl
  | m + 1, n, [] => rfl
  | m + 1, n, c :: L => by
    rw [dl]
    by_cases hc : 48 ≤ c ∧ c ≤ 57
    · rw [if_pos hc, dl_split m, dl, if_pos hc]
    · rw [if_neg hc, dl, if_neg hc]
      rfl
theorem dl_dg : ∀ (m : Nat) (n u : Int) (R : List Int), 0 ≤ u → u < 10 ^ m → dl m n (dg m u ++ R) = some (n * 10 ^ m + u, R)
  | 0, n, u, R, h0, h1 => by
    rw [Int.pow_zero] at h1 ⊢
    obtain rfl : u = 0 := by omega
    simp [dl, dg]
  | m + 1, n, u, R, h0, h1 => by
    rw [Int.pow_succ] at h1
    rw [dl_split, dg, List.append_assoc, dl_dg m n (u / 10) ([48 + u % 10] ++ R) (by omega) (by omega), Option.bind_some]
    show dl 1 (n * 10 ^ m + u / 10) ((48 + u % 10) :: R) = _
    rw [dl, if_pos (by omega), dl, Int.pow_succ, ← Int.mul_assoc]
    generalize n * 10 ^ m = N
    rw [show (N + u / 10) * 10 + (48 + u % 10 - 48) = N * 10 + u from by omega]
theorem dl_inv : ∀ (m : Nat) (n : Int) (L : List Int) (v : Int) (R : List Int), dl m n L = some (v, R) → ∃ u, 0 ≤ u ∧ u < 10 ^ m ∧ L = dg m u ++ R ∧ v = n * 10 ^ m + u
  | 0, n, L, v, R, h => by
    simp only [dl, Option.some.injEq, Prod.mk.injEq] at h
    obtain ⟨rfl, rfl⟩ := h
    exact ⟨0, by decide, by decide, rfl, by omega⟩
  | m + 1, n, L, v, R, h => by
    rw [dl_split, Option.bind_eq_some_iff] at h
    obtain ⟨⟨v', R'⟩, h1, h2⟩ := h
    obtain ⟨u, hu0, hu1, rfl, rfl⟩ := dl_inv m n L v' R' h1
    rcases R' with _ | ⟨c, R'⟩
    · simp [dl] at h2
    · simp only [dl] at h2
      by_cases hc : 48 ≤ c ∧ c ≤ 57
      · rw [if_pos hc] at h2
        simp only [Option.some.injEq, Prod.mk.injEq] at h2
        obtain ⟨rfl, rfl⟩ := h2
        refine ⟨u * 10 + (c - 48), by omega, by rw [Int.pow_succ]; omega, ?_, ?_⟩
        · rw [dg, show (u * 10 + (c - 48)) / 10 = u from by omega, show 48 + (u * 10 + (c - 48)) % 10 = c from by omega, List.append_assoc]
          rfl
        · rw [Int.pow_succ, ← Int.mul_assoc]
          generalize n * 10 ^ m = N
          omega
      · rw [if_neg hc] at h2
        cases h2
theorem fl_step_inv {m g : Nat} {l : List (Nat × Nat)} {L r : List Int} (hg : g ≠ 0) (h : fl ((m, g) :: l) L = some r) : ∃ v R r', 0 ≤ v ∧ v < 10 ^ m ∧ L = dg m v ++ [(g : Int)] ++ R ∧ fl l R = some r' ∧ r = v :: r' := by
  rw [fl, Option.bind_eq_some_iff] at h
  obtain ⟨⟨v, R⟩, h1, h⟩ := h
  obtain ⟨u, hu0, hu1, rfl, rfl⟩ := dl_inv m 0 L v R h1
  rw [if_neg hg] at h
  rcases R with _ | ⟨c, R⟩
  · cases h
  · dsimp only at h
    by_cases hc : c = (g : Int)
    · rw [if_pos hc, Option.bind_eq_some_iff] at h
      obtain ⟨r', h2, h3⟩ := h
      cases h3
      subst hc
      exact ⟨u, R, r', hu0, hu1, by simp, h2, by simp⟩
    · rw [if_neg hc] at h
      cases h
theorem fl_end_inv {m : Nat} {L r : List Int} (h : fl [(m, 0)] L = some r) : ∃ v, 0 ≤ v ∧ v < 10 ^ m ∧ L = dg m v ∧ r = [v] := by
  rw [fl, Option.bind_eq_some_iff] at h
  obtain ⟨⟨v, R⟩, h1, h⟩ := h
  obtain ⟨u, hu0, hu1, rfl, rfl⟩ := dl_inv m 0 L v R h1
  rw [if_pos rfl] at h
  dsimp only at h
  by_cases hR : R = []
  · rw [if_pos hR] at h
    subst hR
    simp only [fl, Option.bind_some, Option.some.injEq] at h
    exact ⟨u, hu0, hu1, by simp, by rw [← h]; simp⟩
  · rw [if_neg hR] at h
    cases h
theorem fl_step {m g : Nat} {l : List (Nat × Nat)} {R r : List Int} (v : Int) (hg : g ≠ 0) (h0 : 0 ≤ v) (h1 : v < 10 ^ m) (h : fl l R = some r) : fl ((m, g) :: l) (dg m v ++ [(g : Int)] ++ R) = some (v :: r) := by
  rw [fl, List.append_assoc, dl_dg m 0 v _ h0 h1, Option.bind_some, if_neg hg]
  simp [h]
theorem fl_end {m : Nat} (v : Int) (h0 : 0 ≤ v) (h1 : v < 10 ^ m) : fl [(m, 0)] (dg m v) = some [v] := by
  have e := dl_dg m 0 v [] h0 h1
  rw [List.append_nil] at e
  rw [fl, e, Option.bind_some, if_pos rfl]
  simp [fl]
structure InForm (y m d h mi s n : Int) : Prop where
  y : 0 ≤ y ∧ y < 10000
  m : 0 ≤ m ∧ m < 100
  d : 0 ≤ d ∧ d < 100
  h : 0 ≤ h ∧ h < 100
  mi : 0 ≤ mi ∧ mi < 100
  s : 0 ≤ s ∧ s < 100
  n : 0 ≤ n ∧ n < 1000000
theorem fl_inv {L r : List Int} (h : fl form7 L = some r) : ∃ y m d hh mi s n, InForm y m d hh mi s n ∧ r = [y, m, d, hh, mi, s, n] ∧ L = outOf y m d hh mi s n := by
  obtain ⟨y, R, r, y0, y1, rfl, g1, rfl⟩ := fl_step_inv (by decide) h
  obtain ⟨m, R, r, m0, m1, rfl, g2, rfl⟩ := fl_step_inv (by decide) g1
  obtain ⟨d, R, r, d0, d1, rfl, g3, rfl⟩ := fl_step_inv (by decide) g2
  obtain ⟨hh, R, r, h0, h1, rfl, g4, rfl⟩ := fl_step_inv (by decide) g3
  obtain ⟨mi, R, r, i0, i1, rfl, g5, rfl⟩ := fl_step_inv (by decide) g4
  obtain ⟨s, R, r, s0, s1, rfl, g6, rfl⟩ := fl_step_inv (by decide) g5
  obtain ⟨n, n0, n1, rfl, rfl⟩ := fl_end_inv g6
  exact ⟨y, m, d, hh, mi, s, n, ⟨⟨y0, y1⟩, ⟨m0, m1⟩, ⟨d0, d1⟩, ⟨h0, h1⟩, ⟨i0, i1⟩, ⟨s0, s1⟩, ⟨n0, n1⟩⟩, rfl, by simp [outOf]⟩
theorem fl_out {y m d h mi s n : Int} (q : InForm y m d h mi s n) : fl form7 (outOf y m d h mi s n) = some [y, m, d, h, mi, s, n] := by
  have e : outOf y m d h mi s n = dg 4 y ++ [((45 : Nat) : Int)] ++ (dg 2 m ++ [((45 : Nat) : Int)] ++ (dg 2 d ++ [((32 : Nat) : Int)] ++ (dg 2 h ++ [((58 : Nat) : Int)] ++ (dg 2 mi ++ [((58 : Nat) : Int)] ++ (dg 2 s ++ [((46 : Nat) : Int)] ++ dg 6 n))))) := by simp [outOf]
  rw [e]
  exact fl_step y (by decide) q.y.1 q.y.2 (fl_step m (by decide) q.m.1 q.m.2 (fl_step d (by decide) q.d.1 q.d.2 (fl_step h (by decide) q.h.1 q.h.2 (fl_step mi (by decide) q.mi.1 q.mi.2 (fl_step s (by decide) q.s.1 q.s.2 (fl_end n q.n.1 q.n.2))))))
theorem out_length (y m d h mi s n : Int) : (outOf y m d h mi s n).length = 26 := by simp [outOf, dg_length]
theorem out_range (y m d h mi s n : Int) : ∀ x ∈ outOf y m d h mi s n, 0 ≤ x ∧ x < 256 := by
  intro x hx
  simp only [outOf, List.mem_append, List.mem_singleton] at hx
  have g : ∀ k v, x ∈ dg k v → 0 ≤ x ∧ x < 256 := fun k v h => by have := dg_range k v x h; omega
  rcases hx with (((((((((((hx | hx) | hx) | hx) | hx) | hx) | hx) | hx) | hx) | hx) | hx) | hx) | hx <;> first | exact g _ _ hx | omega
def fracOf (n : Int) : Int := (n * 4294967296 + 999999) / 1000000
theorem frac_range {n : Int} (h : 0 ≤ n ∧ n < 1000000) : 0 ≤ fracOf n ∧ fracOf n < 4294967296 := by unfold fracOf; omega
theorem parse_none {s : ByteArray} (h : fl form7 (bnums s) = none) : stamp_Parse.f s = some (0, 0, 21) := by
  rw [stamp_Parse.f, fields_eq, h]
theorem parse_some {s : ByteArray} {y m d hh mi sc n : Int} (q : InForm y m d hh mi sc n) (h : fl form7 (bnums s) = some [y, m, d, hh, mi, sc, n]) : stamp_Parse.f s = stamp_ToDate.f y m d hh mi sc (fracOf n) := by
  rw [stamp_Parse.f, fields_eq, h]
  show stamp_ToDate.f y m d hh mi sc ((n * 4294967296 + 999999) / 1000000 % 4294967296) = _
  have := frac_range q.n
  unfold fracOf at this ⊢
  rw [show (n * 4294967296 + 999999) / 1000000 % 4294967296 = (n * 4294967296 + 999999) / 1000000 from by omega]
theorem todate_some (y m d h mi s fr : Int) (hf : 0 ≤ fr ∧ fr < 4294967296) : ∃ r, stamp_ToDate.f y m d h mi s fr = some r := by
  rcases todate_cases y m d h mi s fr hf with h1 | ⟨day, j, rfl, hc, hr⟩
  · exact ⟨_, h1⟩
  · exact ⟨_, date_good hc h mi s fr hr hf⟩
end Go.Proofs.Ytbondhnhiinlbaa.Pr
end
