/- The document's own functions of layer 13, told plainly: who counts, the ends in their order. -/
import Derived.Test.YtlhecfleanppmaaHf
import Derived.Test.YtlhecfleanppmaaPrx14
set_option linter.unusedVariables false
namespace Go.Proofs.Ytlhecfleanppmaa.Pr
open Go.RowKit Go.Proofs.YtlhecfleanppmaaW.PrintWords Go.Proofs.YtlhecfleanppmaaW.PrintLast Go.Proofs.YtlhecfleanppmaaW.PrintMore Go.Proofs.YFl

theorem Ev.two {α β : Type} {g : Nat → Option α} {f : Nat → Option β} {r : α} {q : β} (h : Ev f q) (hs : ∀ k, f k = some q → g (k + 1) = some r) : Ev g r := by
  obtain ⟨K, hK⟩ := h
  refine ⟨K + 1, fun k hk => ?_⟩
  obtain ⟨m, rfl⟩ : ∃ m, k = m + 1 := ⟨k - 1, by omega⟩
  exact hs m (hK m (by omega))
theorem Ev.three {α β : Type} {g : Nat → Option α} {f : Nat → Option β} {r : α} {q : β} (h : Ev f q) (hs : ∀ k, f k = some q → g (k + 2) = some r) : Ev g r := by
  obtain ⟨K, hK⟩ := h
  refine ⟨K + 2, fun k hk => ?_⟩
  obtain ⟨m, rfl⟩ : ∃ m, k = m + 2 := ⟨k - 2, by omega⟩
  exact hs m (hK m (by omega))
theorem Ev.zero {α β : Type} {g : Nat → Option α} {f : Nat → Option β} {r : α} {q : β} (h : Ev f q) (hs : ∀ k, f k = some q → g k = some r) : Ev g r := by
  obtain ⟨K, hK⟩ := h
  exact ⟨K, fun k hk => hs k (hK k hk)⟩
theorem Ev.end1 {α : Type} {g : Nat → Option α} {r : α} (hs : ∀ k, g (k + 1) = some r) : Ev g r :=
  ⟨1, fun k hk => by obtain ⟨m, rfl⟩ : ∃ m, k = m + 1 := ⟨k - 1, by omega⟩; exact hs m⟩
theorem Ev.end2 {α : Type} {g : Nat → Option α} {r : α} (hs : ∀ k, g (k + 2) = some r) : Ev g r :=
  ⟨2, fun k hk => by obtain ⟨m, rfl⟩ : ∃ m, k = m + 2 := ⟨k - 2, by omega⟩; exact hs m⟩

theorem refcounts_eq (x : S26) : foliotref13_counts.f x.f0 x.f1 x.f2 x.f3 x.f4 x.f5 x.f6 = some (cnt x) := counts_eq x
theorem that_ev (l : List S26) (hn : l.length ≤ 9223372036854775807) : Ev (fun k => choose_that.f k l) (thatOf l) := ⟨l.length + 1, fun k hk => that_eq l hn k (by omega)⟩

theorem those_loop (l : List S26) (hn : l.length ≤ 9223372036854775807) : ∀ (d i : Nat) (out : List S26), i + d = l.length → out.length ≤ 64 →
    Ev (fun k => foliotref13_those.l0 k l out (i : Int)) ((out ++ (l.drop i).filter cnt).take 64) := by
  intro d
  induction d with
  | zero =>
    intro i out hi ho
    refine Ev.end2 fun k => ?_
    simp only [foliotref13_those.l0]
    rw [if_neg (by omega)]
    simp only [foliotref13_those.j1]
    rw [if_neg (by decide), List.drop_eq_nil_of_le (by omega), List.filter_nil, List.append_nil, List.take_of_length_le ho]
  | succ d ih =>
    intro i out hi ho
    by_cases h64 : out.length < 64
    · by_cases hc : cnt (rd_T26 l (i : Int)) = true
      · rw [rd_drop l i (by omega), List.filter_cons_of_pos hc, List.append_cons]
        refine Ev.three (ih (i + 1) (out ++ [rd_T26 l (i : Int)]) (by omega) (by rw [List.length_append]; simp; omega)) fun k hk => ?_
        simp only [foliotref13_those.l0]
        rw [if_pos (by omega)]
        simp only [foliotref13_those.j1]
        rw [if_pos (by simp; omega), if_pos (by omega), if_pos (by omega), refcounts_eq]
        simp only [Option.bind_some, S26.eta]
        rw [wrap_succ i (by omega), if_pos hc, if_pos (by omega)]
        exact hk
      · rw [rd_drop l i (by omega), List.filter_cons_of_neg hc]
        refine Ev.three (ih (i + 1) out (by omega) ho) fun k hk => ?_
        simp only [foliotref13_those.l0]
        rw [if_pos (by omega)]
        simp only [foliotref13_those.j1]
        rw [if_pos (by simp; omega), if_pos (by omega), if_pos (by omega), refcounts_eq]
        simp only [Option.bind_some, S26.eta]
        rw [wrap_succ i (by omega), if_neg hc]
        exact hk
    · refine Ev.end2 fun k => ?_
      simp only [foliotref13_those.l0]
      rw [if_pos (by omega)]
      simp only [foliotref13_those.j1]
      rw [if_neg (by simp; omega), List.take_append_of_le_length (by omega), List.take_of_length_le ho]
theorem those_ev (l : List S26) (hn : l.length ≤ 9223372036854775807) : Ev (fun k => foliotref13_those.f k l) (thatOf l) := by
  have := those_loop l hn l.length 0 [] (by omega) (by simp)
  exact this

theorem down_eq (a : Int) (h : -9223372036854775808 ≤ a ∧ a ≤ 9223372036854775807) : foliotref13_down.f a = some (a / 65536) := by
  unfold foliotref13_down.f
  rw [Int.tmod_eq_emod, Int.tdiv_eq_ediv]
  by_cases hc : 0 ≤ a ∨ (65536 : Int) ∣ a
  · simp only [hc, if_true]
    rw [if_neg (by omega)]
    congr 1
    unfold wrap64
    omega
  · simp only [hc, if_false]
    have hs : Int.sign 65536 = 1 := by decide
    have hn : Int.natAbs 65536 = 65536 := by decide
    rw [hs, hn, if_pos (by omega)]
    congr 1
    unfold wrap64
    omega

/-- an end as the document has it -/
def to54 (x : Cx) : S54 := ⟨x.re, x.im⟩
theorem to54_rd (l : List Cx) (i : Nat) (h : i < l.length) : rd_T54 (l.map to54) (i : Int) = to54 (rdx l i) := by
  unfold rd_T54 rdx
  rw [Int.toNat_natCast, List.getD_eq_getElem?_getD, List.getElem?_map, List.getElem?_eq_getElem h, List.getD_eq_getElem?_getD, List.getElem?_eq_getElem h]
  rfl
/-- where an end is put: behind all that do not stand behind it -/
def place (x : Cx) : List Cx → List Cx
  | [] => [x]
  | y :: l => if aheadB x y = true then x :: y :: l else y :: place x l
theorem less_eq (x y : Cx) : foliotref13_less.f x.re x.im y.re y.im = some (aheadB x y) := by
  unfold foliotref13_less.f aheadB
  by_cases h1 : x.re < y.re
  · rw [if_pos h1]; simp [h1]
  · rw [if_neg h1]
    by_cases h2 : x.re = y.re
    · rw [if_pos h2]; simp [h2]
    · rw [if_neg h2]; simp [h1, h2]
theorem place_split (x : Cx) : ∀ (a b : List Cx), (∀ y ∈ a, aheadB x y = false) → place x (a ++ b) = a ++ place x b
  | [], b, _ => rfl
  | y :: a, b, h => by
    have h0 := h y (by simp)
    simp only [List.cons_append, place]
    rw [h0, if_neg (by decide), place_split x a b (fun z hz => h z (by simp [hz]))]

/-! ### the two ways to sort -/
def Sorted (l : List Cx) : Prop := l.Pairwise fun a b => aheadB b a = false
theorem ahead_false (a b : Cx) : aheadB a b = false ↔ (b.re < a.re ∨ (b.re = a.re ∧ b.im ≤ a.im)) := by
  unfold aheadB
  simp only [Bool.or_eq_false_iff, Bool.and_eq_false_iff, decide_eq_false_iff_not]
  omega
theorem ahead_true (a b : Cx) : aheadB a b = true ↔ (a.re < b.re ∨ (a.re = b.re ∧ a.im < b.im)) := by
  unfold aheadB
  simp only [Bool.or_eq_true, Bool.and_eq_true, decide_eq_true_eq]
theorem place_mem {x : Cx} : ∀ {l : List Cx} {y : Cx}, y ∈ place x l ↔ y = x ∨ y ∈ l
  | [], y => by simp [place]
  | z :: l, y => by
    unfold place
    split
    · simp
    · simp only [List.mem_cons, place_mem (l := l)]
      exact ⟨fun h => by rcases h with h | h | h <;> simp [h], fun h => by rcases h with h | h | h <;> simp [h]⟩
theorem place_length (x : Cx) : ∀ l : List Cx, (place x l).length = l.length + 1
  | [] => rfl
  | z :: l => by
    unfold place
    split
    · rfl
    · simp [place_length x l]
theorem place_sorted {x : Cx} : ∀ {l : List Cx}, Sorted l → Sorted (place x l)
  | [], _ => by simp [place, Sorted]
  | z :: l, h => by
    have h1 := List.pairwise_cons.1 h
    unfold place
    by_cases hc : aheadB x z = true
    · rw [if_pos hc]
      refine List.pairwise_cons.2 ⟨fun y hy => ?_, h⟩
      rcases List.mem_cons.1 hy with rfl | hy
      · rw [ahead_true] at hc
        rw [ahead_false]
        omega
      · have h2 := h1.1 y hy
        rw [ahead_true] at hc
        rw [ahead_false] at h2 ⊢
        omega
    · rw [if_neg hc]
      refine List.pairwise_cons.2 ⟨fun y hy => ?_, place_sorted h1.2⟩
      rcases place_mem.1 hy with rfl | hy
      · simpa using hc
      · exact h1.1 y hy
theorem place_last (x y : Cx) (h : aheadB x y = true) : ∀ p : List Cx, place x (p ++ [y]) = place x p ++ [y]
  | [] => by simp [place, h]
  | z :: p => by
    simp only [List.cons_append, place]
    by_cases hc : aheadB x z = true
    · rw [if_pos hc, if_pos hc]; rfl
    · rw [if_neg hc, if_neg hc, place_last x y h p]; rfl
theorem place_end (x : Cx) (l : List Cx) (h : ∀ y ∈ l, aheadB x y = false) : place x l = l ++ [x] := by
  have := place_split x l [] h
  simpa [place] using this
theorem getD_app (p r : List Cx) (x : Cx) : (p ++ x :: r).getD p.length zcx = x := by
  rw [List.getD_eq_getElem?_getD, List.getElem?_append_right (Nat.le_refl _)]
  simp
theorem insAt_place (x : Cx) : ∀ (k : Nat) (pre rest : List Cx), pre.length = k → Sorted pre → insAt k (pre ++ x :: rest) = place x pre ++ rest
  | 0, pre, rest, hl, _ => by
    obtain rfl := List.eq_nil_of_length_eq_zero hl
    rfl
  | k + 1, pre, rest, hl, hs => by
    obtain ⟨p, y, rfl⟩ : ∃ p y, pre = p ++ [y] := by
      rcases List.eq_nil_or_concat pre with rfl | ⟨p, y, h⟩
      · simp at hl
      · exact ⟨p, y, by simpa using h⟩
    have hk : p.length = k := by simpa using hl
    have e1 : (p ++ [y] ++ x :: rest).getD (k + 1) zcx = x := by
      have := getD_app (p ++ [y]) rest x
      rwa [hl] at this
    have e0 : (p ++ [y] ++ x :: rest).getD k zcx = y := by
      have := getD_app p (x :: rest) y
      rw [hk] at this
      simpa using this
    rw [insAt_succ, e1, e0]
    by_cases hc : aheadB x y = true
    · rw [if_pos hc, place_last x y hc]
      have hsw : swp (p ++ [y] ++ x :: rest) k = p ++ x :: (y :: rest) := by
        unfold swp
        rw [e1, e0]
        subst hk
        simp
      rw [hsw, insAt_place x k p (y :: rest) hk (List.pairwise_append.1 hs).1]
      simp
    · rw [if_neg hc]
      have hall : ∀ z ∈ p ++ [y], aheadB x z = false := by
        intro z hz
        have hc' : aheadB x y = false := by simpa using hc
        rcases List.mem_append.1 hz with hz | hz
        · have h2 := (List.pairwise_append.1 hs).2.2 z hz y (by simp)
          rw [ahead_false] at h2 hc' ⊢
          omega
        · rw [List.mem_singleton.1 hz]; exact hc'
      rw [place_end x _ hall]
      simp
def fold (l acc : List Cx) : List Cx := l.foldl (fun a y => place y a) acc
theorem srt_fold : ∀ (rest pre : List Cx), Sorted pre → srt rest.length pre.length (pre ++ rest) = fold rest pre
  | [], pre, _ => by simp [srt, fold]
  | x :: rest, pre, hs => by
    show srt rest.length (pre.length + 1) (insAt pre.length (pre ++ x :: rest)) = fold rest (place x pre)
    rw [insAt_place x pre.length pre rest rfl hs]
    have := srt_fold rest (place x pre) (place_sorted hs)
    rwa [place_length] at this
theorem ends_fold (l : List S26) : endsOf l = fold (rawEnds l) [] := by
  unfold endsOf
  rcases h : rawEnds l with _ | ⟨x, rest⟩
  · rfl
  · have := srt_fold rest [x] (by simp [Sorted])
    exact this
theorem fold_append (a b acc : List Cx) : fold (a ++ b) acc = fold b (fold a acc) := List.foldl_append
theorem fold_sorted : ∀ (l acc : List Cx), Sorted acc → Sorted (fold l acc)
  | [], _, h => h
  | x :: l, acc, h => fold_sorted l (place x acc) (place_sorted h)
theorem ends_sorted (l : List S26) : Sorted (endsOf l) := by
  rw [ends_fold]
  exact fold_sorted _ _ (by simp [Sorted])
theorem fold_length : ∀ (l acc : List Cx), (fold l acc).length = acc.length + l.length
  | [], _ => rfl
  | x :: l, acc => by
    show (fold l (place x acc)).length = _
    rw [fold_length l, place_length, List.length_cons]
    omega

/-! ### the document's loop -/
theorem map54_take (l : List Cx) (n : Nat) : (l.map to54).take n = (l.take n).map to54 := (List.map_take ..).symm
theorem all_l2 (x4 : List S26) (x5 : Int) (six : List S54) (t : Nat) (y : Cx) (hy : rd_T54 six (t : Int) = to54 y) (ht : t < six.length) (hsix : six.length ≤ 192) (r : List S54) :
    ∀ (b a : List Cx), (a ++ b).length ≤ 192 → (∀ z ∈ a, aheadB y z = false) →
      Ev (fun k => foliotref13_All.l1 k ((place y (a ++ b)).map to54) x4 x5 six ((t + 1 : Nat) : Int)) r →
      Ev (fun k => foliotref13_All.l2 k ((a ++ b).map to54) x4 x5 six (t : Int) (a.length : Int)) r
  | [], a, hl, ha, h => by
    refine Ev.two h fun k hk => ?_
    rw [List.append_nil] at hk hl ⊢
    rw [place_end y a ha] at hk
    simp only [foliotref13_All.l2]
    simp only [Option.bind_some, List.length_map]
    rw [if_neg (by omega), if_pos (by omega), if_pos (by omega), if_pos (by simp; omega), if_pos (by omega), if_pos (by omega), if_pos (by simp; omega), if_pos (by simp; omega), wrap_succ t (by omega), hy]
    rw [← hk]
    congr 1
    simp only [List.nil_append, Int.toNat_natCast, List.map_append, List.map_cons, List.map_nil, to54]
    rw [List.take_of_length_le (by simp), List.drop_eq_nil_of_le (by simp), List.append_nil]
  | z :: b, a, hl, ha, h => by
    have hrd : rd_T54 ((a ++ z :: b).map to54) (a.length : Int) = to54 z := by
      rw [to54_rd _ _ (by simp)]
      unfold rdx
      rw [getD_app]
    rw [List.length_append, List.length_cons] at hl
    by_cases hc : aheadB y z = true
    · refine Ev.two h fun k hk => ?_
      have e : place y (a ++ z :: b) = a ++ y :: z :: b := by
        rw [place_split y a (z :: b) ha]
        simp [place, hc]
      rw [e] at hk
      simp only [foliotref13_All.l2]
      rw [if_pos (by simp; omega), if_pos (by omega), if_pos (by omega), if_pos (by omega), hrd, hy]
      have hle : foliotref13_less.f (to54 y).f0 (to54 y).f1 (to54 z).f0 (to54 z).f1 = some true := by rw [← hc]; exact less_eq y z
      rw [hle]
      simp only [Option.bind_some]
      rw [if_pos trivial, if_pos (by simp; omega), if_pos (by simp; omega), if_pos (by simp; omega), if_pos (by simp; omega), wrap_succ t (by omega)]
      rw [← hk]
      congr 1
      simp [to54]
    · have hc' : aheadB y z = false := by simpa using hc
      have ih := all_l2 x4 x5 six t y hy ht hsix r b (a ++ [z]) (by simp; omega) (fun u hu => by
        rcases List.mem_append.1 hu with hu | hu
        · exact ha u hu
        · rw [List.mem_singleton.1 hu]; exact hc')
      rw [List.append_assoc] at ih
      refine Ev.two (ih h) fun k hk => ?_
      simp only [foliotref13_All.l2]
      rw [if_pos (by simp; omega), if_pos (by omega), if_pos (by omega), if_pos (by omega), hrd, hy]
      have hle : foliotref13_less.f (to54 y).f0 (to54 y).f1 (to54 z).f0 (to54 z).f1 = some false := by rw [← hc']; exact less_eq y z
      rw [hle]
      simp only [Option.bind_some]
      rw [if_neg (by decide), wrap_succ a.length (by omega)]
      rw [← hk]
      congr 1
      simp

theorem three54 (x : S26) (h : cnt x = true) : ∃ u v z, foliotref13_down.f (wrap64 (x.f1 - x.f2)) = some u ∧ foliotref13_down.f x.f1 = some v ∧ foliotref13_down.f (wrap64 (-(wrap64 (x.f1 + x.f2)))) = some z ∧
    ([(⟨u, (-1)⟩ : S54), (⟨v, 0⟩ : S54), (⟨wrap64 (-z), 1⟩ : S54)] : List S54) = (three x).map to54 := by
  obtain ⟨h1, h2, h3, h4⟩ := cnt_bounds h
  have e1 : wrap64 (x.f1 - x.f2) = x.f1 - x.f2 := by unfold wrap64; omega
  have e2 : wrap64 (x.f1 + x.f2) = x.f1 + x.f2 := by unfold wrap64; omega
  have e3 : wrap64 (-(x.f1 + x.f2)) = -(x.f1 + x.f2) := by unfold wrap64; omega
  have e4 : wrap64 (-(-(x.f1 + x.f2) / 65536)) = -(-(x.f1 + x.f2) / 65536) := by unfold wrap64; omega
  refine ⟨_, _, _, by rw [e1]; exact down_eq _ (by omega), down_eq _ (by omega), by rw [e2, e3]; exact down_eq _ (by omega), ?_⟩
  rw [e4]
  rfl
theorem rd_three (x : S26) : rd_T54 ((three x).map to54) ((0 : Nat) : Int) = to54 ⟨(x.f1 - x.f2) / 65536, -1⟩ ∧ rd_T54 ((three x).map to54) ((1 : Nat) : Int) = to54 ⟨x.f1 / 65536, 0⟩ ∧ rd_T54 ((three x).map to54) ((2 : Nat) : Int) = to54 ⟨-(-(x.f1 + x.f2) / 65536), 1⟩ := ⟨rfl, rfl, rfl⟩
theorem all_l1 (x4 : List S26) (i : Nat) (hi : i < 64) (x : S26) (r : List S54) (acc : List Cx) (hl : acc.length + 3 ≤ 192)
    (h : Ev (fun k => foliotref13_All.l0 k ((fold (three x) acc).map to54) x4 ((i + 1 : Nat) : Int)) r) :
    Ev (fun k => foliotref13_All.l1 k (acc.map to54) x4 (i : Int) ((three x).map to54) 0) r := by
  have hlen : ((three x).map to54).length = 3 := rfl
  obtain ⟨r0, r1, r2⟩ := rd_three x
  have e3 : Ev (fun k => foliotref13_All.l1 k ((fold (three x) acc).map to54) x4 (i : Int) ((three x).map to54) ((3 : Nat) : Int)) r := by
    refine Ev.two h fun k hk => ?_
    simp only [foliotref13_All.l1]
    rw [if_neg (by decide), wrap_succ i (by omega)]
    exact hk
  have step : ∀ (t : Nat) (y : Cx) (a : List Cx), rd_T54 ((three x).map to54) (t : Int) = to54 y → t < 3 → a.length ≤ 192 →
      Ev (fun k => foliotref13_All.l1 k ((place y a).map to54) x4 (i : Int) ((three x).map to54) ((t + 1 : Nat) : Int)) r →
      Ev (fun k => foliotref13_All.l1 k (a.map to54) x4 (i : Int) ((three x).map to54) (t : Int)) r := by
    intro t y a hy ht ha hh
    refine Ev.two (all_l2 x4 i _ t y hy (by omega) (by omega) r a [] ha (by simp) hh) fun k hk => ?_
    simp only [foliotref13_All.l1]
    rw [if_pos (by omega)]
    exact hk
  have s2 := step 2 _ _ r2 (by omega) (by rw [place_length, place_length]; omega) e3
  have s1 := step 1 _ _ r1 (by omega) (by rw [place_length]; omega) s2
  exact step 0 _ _ r0 (by omega) (by omega) s1
theorem all_l0 (x4 : List S26) (hn : x4.length ≤ 64) (hc : ∀ x ∈ x4, cnt x = true) : ∀ (d i : Nat) (acc : List Cx), i + d = x4.length → acc.length = 3 * i →
    Ev (fun k => foliotref13_All.l0 k (acc.map to54) x4 (i : Int)) ((fold ((x4.drop i).flatMap three) acc).map to54) := by
  intro d
  induction d with
  | zero =>
    intro i acc hi ha
    refine Ev.end1 fun k => ?_
    simp only [foliotref13_All.l0]
    rw [if_neg (by omega), List.drop_eq_nil_of_le (by omega)]
    rfl
  | succ d ih =>
    intro i acc hi ha
    have hmem : rd_T26 x4 (i : Int) ∈ x4 := by
      unfold rd_T26
      rw [Int.toNat_natCast, List.getD_eq_getElem?_getD, List.getElem?_eq_getElem (by omega)]
      exact List.getElem_mem _
    obtain ⟨u, v, z, h1, h2, h3, h4⟩ := three54 _ (hc _ hmem)
    rw [rd_drop x4 i (by omega), List.flatMap_cons, fold_append]
    refine Ev.two (all_l1 x4 i (by omega) (rd_T26 x4 (i : Int)) _ acc (by omega) (ih (i + 1) (fold (three (rd_T26 x4 (i : Int))) acc) (by omega) (by rw [fold_length, ha]; simp [three]; omega))) fun k hk => ?_
    simp only [foliotref13_All.l0]
    rw [if_pos (by omega), if_pos (by omega), h1, h2, h3]
    simp only [Option.bind_some]
    rw [h4]
    exact hk
theorem all_ev (l : List S26) (hn : l.length ≤ 9223372036854775807) : Ev (fun k => foliotref13_All.f k l) ((endsOf l).map to54) := by
  unfold foliotref13_All.f
  refine Ev.bind (those_ev l hn) ?_
  rw [ends_fold]
  exact all_l0 (thatOf l) (thatOf_length l) (thatOf_cnt l) (thatOf l).length 0 [] (by omega) rfl
end Go.Proofs.Ytlhecfleanppmaa.Pr
