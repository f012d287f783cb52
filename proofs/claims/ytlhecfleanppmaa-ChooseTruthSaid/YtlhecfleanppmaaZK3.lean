/- Which candidates count, told plainly; the machine's calls of choose.Ends and choose.Meet. The machine's call of choose.Meet. The machine's calls of choose.Ends and choose.Meet, in the form that the printed texts ask for. The document's own functions of layer 13, told plainly: who counts, the ends in their order. The document's Meet, told plainly: it finds what choose.Meet finds. Who survives, told plainly, of choose and of the document. Comparing lists of candidates, or of ends, with themselves; who counts, for the law. What the two points of Meet say of the intervals: how many hold them, and how many middles lie outside. What is found, said of the candidates: both points are held by nearly all; few middles lie outside. near, told plainly: a candidate whose interval holds the offset. -/
import Derived.Test.YtlhecfleanppmaaZHb
import Derived.Test.YtlhecfleanppmaaZHd
import Derived.Test.YtlhecfleanppmaaZK2
import Derived.Test.YtlhecfleanppmaaZK0
import Derived.Test.YtlhecfleanppmaaZK1
section
set_option linter.unusedVariables false
namespace Go.Proofs.Ytlhecfleanppmaa.Pr
open Go.RowKit Go.Proofs.YtlhecfleanppmaaW.PrintWords Go.Proofs.YtlhecfleanppmaaW.PrintLast Go.Proofs.YtlhecfleanppmaaW.PrintMore Go.Proofs.YFl

def cnt (x : S26) : Bool := decide (0 ≤ x.f2) && decide (x.f2 ≤ 4503599627370496) && decide (-1152921504606846976 ≤ x.f1) && decide (x.f1 ≤ 1152921504606846976)
theorem thatOf_eq (l : List S26) : thatOf l = (l.filter cnt).take 64 := rfl
theorem counts_eq (x : S26) : choose_counts.f x.f0 x.f1 x.f2 x.f3 x.f4 x.f5 x.f6 = some (cnt x) := by
  unfold choose_counts.f cnt
  by_cases h1 : x.f2 ≥ 0
  · by_cases h2 : x.f2 ≤ 4503599627370496
    · by_cases h3 : x.f1 ≥ -1152921504606846976
      · rw [if_pos h1, if_pos h2, if_pos h3]
        have h1' : 0 ≤ x.f2 := h1
        have h3' : -1152921504606846976 ≤ x.f1 := h3
        simp [h1', h2, h3']
      · rw [if_pos h1, if_pos h2, if_neg h3]
        have h3' : ¬ (-1152921504606846976 ≤ x.f1) := h3
        simp [h3']
    · rw [if_pos h1, if_neg h2]
      simp [h2]
  · rw [if_neg h1]
    have h1' : ¬ (0 ≤ x.f2) := h1
    simp [h1']
theorem S26.eta (x : S26) : (⟨x.f0, x.f1, x.f2, x.f3, x.f4, x.f5, x.f6⟩ : S26) = x := rfl
theorem rd_drop (l : List S26) (i : Nat) (h : i < l.length) : l.drop i = rd_T26 l (i : Int) :: l.drop (i + 1) := by
  rw [List.drop_eq_getElem_cons h]
  unfold rd_T26
  rw [Int.toNat_natCast, List.getD_eq_getElem?_getD, List.getElem?_eq_getElem h]
  rfl
theorem wrap_succ (i : Nat) (h : i < 9223372036854775807) : wrap64 ((i : Int) + 1) = ((i + 1 : Nat) : Int) := by
  unfold wrap64
  omega
theorem that_loop (l : List S26) (hn : l.length ≤ 9223372036854775807) : ∀ (d k i : Nat) (out : List S26), i + d = l.length → d < k → out.length ≤ 64 →
    choose_that.l0 k out l (l.length : Int) (i : Int) = some ((out ++ (l.drop i).filter cnt).take 64) := by
  intro d
  induction d with
  | zero =>
    intro k i out hi hk ho
    obtain ⟨k, rfl⟩ : ∃ m, k = m + 1 := ⟨k - 1, by omega⟩
    simp only [choose_that.l0]
    rw [if_neg (by omega), List.drop_eq_nil_of_le (by omega), List.filter_nil, List.append_nil, List.take_of_length_le ho]
  | succ d ih =>
    intro k i out hi hk ho
    obtain ⟨k, rfl⟩ : ∃ m, k = m + 1 := ⟨k - 1, by omega⟩
    simp only [choose_that.l0]
    rw [if_pos (by omega), if_pos (by omega), if_pos (by omega), counts_eq, rd_drop l i (by omega)]
    simp only [Option.bind_some, S26.eta]
    rw [wrap_succ i (by omega)]
    by_cases hc : cnt (rd_T26 l (i : Int)) = true
    · rw [if_pos hc, List.filter_cons_of_pos hc]
      by_cases h64 : out.length < 64
      · rw [if_pos (by omega), if_pos (by omega), ih k (i + 1) _ (by omega) (by omega) (by rw [List.length_append]; simp; omega)]
        simp
      · rw [if_neg (by omega), ih k (i + 1) _ (by omega) (by omega) ho]
        have e : out.length = 64 := by omega
        rw [List.take_append_of_le_length (by omega), List.take_append_of_le_length (by omega)]
    · rw [if_neg hc, List.filter_cons_of_neg hc, ih k (i + 1) _ (by omega) (by omega) ho]
theorem that_eq (l : List S26) (hn : l.length ≤ 9223372036854775807) (k : Nat) (hk : l.length < k) : choose_that.f k l = some (thatOf l) := by
  unfold choose_that.f
  have := that_loop l hn l.length k 0 [] (by omega) hk (by simp)
  simpa [thatOf_eq] using this

theorem thatOf_cnt (l : List S26) : ∀ x ∈ thatOf l, cnt x = true := by
  intro x hx
  rw [thatOf_eq] at hx
  exact (List.mem_filter.1 (List.mem_of_mem_take hx)).2
theorem cnt_bounds {x : S26} (h : cnt x = true) : 0 ≤ x.f2 ∧ x.f2 ≤ 4503599627370496 ∧ -1152921504606846976 ≤ x.f1 ∧ x.f1 ≤ 1152921504606846976 := by
  unfold cnt at h
  simp only [Bool.and_eq_true, decide_eq_true_eq] at h
  omega
theorem thatOf_length (l : List S26) : (thatOf l).length ≤ 64 := by rw [thatOf_eq, List.length_take]; omega
theorem flat_three_length (l : List S26) : (l.flatMap three).length = 3 * l.length := by
  induction l with
  | nil => rfl
  | cons a l ih => rw [List.flatMap_cons, List.length_append, ih]; simp [three]; omega
theorem three_small {x : S26} (h : cnt x = true) : ∀ y ∈ three x, Small y.re ∧ (y.im = -1 ∨ y.im = 0 ∨ y.im = 1) := by
  have hb := cnt_bounds h
  intro y hy
  simp only [three, List.mem_cons, List.not_mem_nil, or_false] at hy
  unfold Small
  rcases hy with rfl | rfl | rfl <;> refine ⟨⟨?_, ?_⟩, ?_⟩ <;> dsimp only <;> omega
theorem raw_kinds (l : List S26) : Kinds (rawEnds l) := by
  intro y hy
  obtain ⟨x, hx, hy⟩ := List.mem_flatMap.1 hy
  exact three_small (thatOf_cnt l x hx) y hy
theorem Kinds.small {xs : List Cx} (h : Kinds xs) : AllSmall xs := by
  intro x hx
  obtain ⟨h1, h2⟩ := h x hx
  exact ⟨h1, by unfold Small; omega⟩
/-- sorting hands back the same elements -/
theorem swp_perm (xs : List Cx) (m : Nat) (h : m + 1 < xs.length) : (swp xs m).Perm xs := by
  unfold swp
  have h0 : m < xs.length := by omega
  have e1 : xs.getD (m + 1) zcx = xs[m + 1] := by rw [List.getD_eq_getElem?_getD, List.getElem?_eq_getElem h]; rfl
  have e0 : xs.getD m zcx = xs[m] := by rw [List.getD_eq_getElem?_getD, List.getElem?_eq_getElem h0]; rfl
  rw [e1, e0]
  exact List.set_set_perm h0 h
theorem insAt_perm : ∀ (m : Nat) (xs : List Cx), m < xs.length ∨ m = 0 → (insAt m xs).Perm xs
  | 0, xs, _ => List.Perm.refl _
  | m + 1, xs, h => by
    have hl : m + 1 < xs.length := by omega
    rw [insAt_succ]
    by_cases hc : aheadB (xs.getD (m + 1) zcx) (xs.getD m zcx) = true
    · rw [if_pos hc]
      have h1 := swp_perm xs m hl
      exact (insAt_perm m (swp xs m) (.inl (by rw [h1.length_eq]; omega))).trans h1
    · rw [if_neg hc]
theorem srt_perm : ∀ (n i : Nat) (xs : List Cx), n + i ≤ xs.length ∨ n = 0 → (srt n i xs).Perm xs
  | 0, _, xs, _ => List.Perm.refl _
  | n + 1, i, xs, h => by
    have h1 := insAt_perm i xs (by omega)
    show (srt n (i + 1) (insAt i xs)).Perm xs
    exact (srt_perm n (i + 1) (insAt i xs) (by rw [h1.length_eq]; omega)).trans h1
theorem ends_perm (l : List S26) : (endsOf l).Perm (rawEnds l) := by
  unfold endsOf
  exact srt_perm _ _ _ (by omega)
theorem ends_kinds (l : List S26) : Kinds (endsOf l) := fun x hx => raw_kinds l x ((ends_perm l).mem_iff.1 hx)
theorem ends_length (l : List S26) : (endsOf l).length = 3 * (thatOf l).length := by
  rw [(ends_perm l).length_eq, rawEnds, flat_three_length]

def choose_Ends.f (l : List S26) : Option (List Cx) := some (endsOf l)
theorem choose_Ends.calls (A0 : Option Addr) (c0 : Nat) (l0 : List S26) (r : List Cx) (w : World) (hr0 : Kd.C k26 w A0 l0.length l0) (hc0 : l0.length ≤ c0) (h : choose_Ends.f l0 = some r) :
    Calls Try.prog 14 #[.slice A0 l0.length c0] w fun e w' => ∃ v0_ : Value, e = .returned (v0_) ∧ Kd.R kcx 51 w' w.heap.size (fun _ => True) v0_ r ∧ Below w.heap.size w w' := by
  obtain rfl : endsOf l0 = r := Option.some.inj h
  exact ends_walk A0 c0 l0 w hr0 hc0 (thatOf l0) (l0.length + 1) (that_eq l0 hr0.2.1 _ (by omega)) (thatOf_length l0) (raw_kinds l0).small
    (by rw [flat_three_length]; have := thatOf_length l0; omega) rfl (fun x hx => cnt_bounds (thatOf_cnt l0 x hx))
end Go.Proofs.Ytlhecfleanppmaa.Pr
end
section
set_option linter.unusedVariables false
namespace Go.Proofs.Ytlhecfleanppmaa.Pr
open Go.RowKit Go.Proofs.YtlhecfleanppmaaW.PrintWords Go.Proofs.YtlhecfleanppmaaW.PrintLast Go.Proofs.YtlhecfleanppmaaW.PrintMore Go.Proofs.YFl

def Near (n : Int) : Prop := -35184372088832 ≤ n ∧ n ≤ 35184372088832
theorem Near.small {n : Int} (h : Near n) : Small n := by unfold Near at h; unfold Small; omega
theorem three_near {x : S26} (h : cnt x = true) : ∀ y ∈ three x, Near y.re := by
  have hb := cnt_bounds h
  intro y hy
  simp only [three, List.mem_cons, List.not_mem_nil, or_false] at hy
  unfold Near
  rcases hy with rfl | rfl | rfl <;> refine ⟨?_, ?_⟩ <;> dsimp only <;> omega
theorem ends_near (l : List S26) : ∀ x ∈ endsOf l, Near x.re := by
  intro y hy
  obtain ⟨x, hx, hy⟩ := List.mem_flatMap.1 ((ends_perm l).mem_iff.1 hy)
  exact three_near (thatOf_cnt l x hx) y hy
theorem ptf_mem (side wanted : Int) : ∀ (l : List Cx) (c m a b : Int), ptf side wanted l c m = some (a, b) → (∃ x ∈ l, x.re = a) ∧ m ≤ b ∧ b ≤ m + l.length
  | [], c, m, a, b, h => by simp [ptf] at h
  | e :: l, c, m, a, b, h => by
    unfold ptf at h
    by_cases hc : c - side * e.im = wanted
    · rw [if_pos hc] at h
      simp only [Option.some.injEq, Prod.mk.injEq] at h
      refine ⟨⟨e, by simp, h.1⟩, ?_, ?_⟩
      · split at h <;> omega
      · rw [List.length_cons]
        split at h <;> omega
    · rw [if_neg hc] at h
      obtain ⟨⟨x, hx, h1⟩, h2, h3⟩ := ptf_mem side wanted l _ _ a b h
      refine ⟨⟨x, List.mem_cons_of_mem _ hx, h1⟩, ?_, ?_⟩
      · split at h2 <;> omega
      · rw [List.length_cons]
        split at h3 <;> omega
theorem ptRes_near {xs : List Cx} (hx : ∀ x ∈ xs, Near x.re) (side wanted : Int) : Near (ptRes (ptf side wanted xs 0 0)).1 ∧ 0 ≤ (ptRes (ptf side wanted xs 0 0)).2.1 ∧ (ptRes (ptf side wanted xs 0 0)).2.1 ≤ xs.length := by
  rcases h : ptf side wanted xs 0 0 with _ | ⟨a, b⟩
  · exact ⟨by unfold Near ptRes; simp, by unfold ptRes; simp, by unfold ptRes; simp⟩
  · obtain ⟨⟨x, hm, rfl⟩, h2, h3⟩ := ptf_mem side wanted xs 0 0 a b h
    exact ⟨hx x hm, h2, by show b ≤ _; omega⟩

def goodF (u v : Int × Int × Bool) (f : Int) : Bool := u.2.2 && (v.2.2 && (decide (u.2.1 + v.2.1 ≤ f) && decide (u.1 ≤ v.1)))
def meetL (e : List Cx) (n : Nat) : Nat → Nat → Int × Int × Bool
  | 0, _ => (0, 0, false)
  | d + 1, f => if 2 * f < n then
      if goodF (ptRes (ptf 1 ((n : Int) - f) e 0 0)) (ptRes (ptf (-1) ((n : Int) - f) e.reverse 0 0)) f = true then ((ptRes (ptf 1 ((n : Int) - f) e 0 0)).1 * 65536, (ptRes (ptf (-1) ((n : Int) - f) e.reverse 0 0)).1 * 65536, true)
      else meetL e n d (f + 1)
    else (0, 0, false)
def meetOf (l : List S26) : Int × Int × Bool := meetL (endsOf l) (thatOf l).length 65 0
def choose_Meet.f (l : List S26) : Option (Int × Int × Bool) := some (meetOf l)

set_option maxHeartbeats 2000000 in
theorem meet_walk (A0 : Option Addr) (c0 : Nat) (l0 : List S26) (w : World) (hr0 : Kd.C k26 w A0 l0.length l0) (hc0 : l0.length ≤ c0) (n : Nat) (hn : n ≤ 64) (hel : (endsOf l0).length = 3 * n) (e : List Cx) (he : endsOf l0 = e) (res : Int × Int × Bool) (hres : meetL e n 65 0 = res) (hke : Kinds e) (hne : ∀ x ∈ e, Near x.re) :
    Calls Try.prog 17 #[.slice A0 l0.length c0] w fun e w' => e = .returned (.tuple #[.int .i64 res.1, .int .i64 res.2.1, .bool res.2.2]) ∧ Below w.heap.size w w' := by
  have HR0 := Aside0.mk hr0
  have HC0 := Aside0.mk hc0
  have HEF : Aside0 (choose_Ends.f l0 = some e) := ⟨congrArg some he⟩
  rw [he] at hel
  have HEL := Aside0.mk hel
  have HRES := Aside0.mk hres
  have HKE := Aside0.mk hke
  have HNE := Aside0.mk hne
  clear hr0 hc0 he hel hres hke hne
  go_enter Try.func17, Try.ntmps17
  go_wp2_with (go_at_call 14; (with_reducible refine (choose_Ends.calls _ _ l0 e _ HR0.out HC0.out HEF.out).mono ?_); rintro e1 w1 ⟨v1, rfl, ho, hb⟩; obtain ⟨A1, c1, e1⟩ := Kd.R_slice ho; subst e1; have HO := Aside0.mk ho; have HB := Aside0.mk hb; have hle : e.length ≤ 192 := (by have := HEL.out; omega); clear ho hb)
  have hq : ((e.length : Int) / 3) = (n : Int) := by have := HEL.out; omega
  have HQ := Aside0.mk hq
  clear hq
  have HF1 : Aside0 (∀ (wn : Int) (W : World), 0 ≤ wn → wn ≤ 192 → Below w1.heap.size w1 W → Calls Try.prog 33 #[.slice A1 e.length c1, .int .i64 1, .int .i64 wn] W fun e' w' => e' = .returned (.tuple #[.float .f64 (fl (ptRes (ptf 1 wn e 0 0)).1), .int .i64 (ptRes (ptf 1 wn e 0 0)).2.1, .bool (ptRes (ptf 1 wn e 0 0)).2.2]) ∧ w' = W) :=
    ⟨fun wn W h0 h1 hb => point_up A1 c1 e wn W ((Kd.R_reads' (Kd.R_below HO.out hb)).2.2) (Kd.R_reads' HO.out).2.1 hle HKE.out ⟨h0, h1⟩ _ rfl⟩
  have HF2 : Aside0 (∀ (wn : Int) (W : World), 0 ≤ wn → wn ≤ 192 → Below w1.heap.size w1 W → Calls Try.prog 33 #[.slice A1 e.length c1, .int .i64 (-1), .int .i64 wn] W fun e' w' => e' = .returned (.tuple #[.float .f64 (fl (ptRes (ptf (-1) wn e.reverse 0 0)).1), .int .i64 (ptRes (ptf (-1) wn e.reverse 0 0)).2.1, .bool (ptRes (ptf (-1) wn e.reverse 0 0)).2.2]) ∧ w' = W) :=
    ⟨fun wn W h0 h1 hb => point_dn A1 c1 e wn W ((Kd.R_reads' (Kd.R_below HO.out hb)).2.2) (Kd.R_reads' HO.out).2.1 hle HKE.out ⟨h0, h1⟩ _ (by unfold leftDn; rw [List.take_length])⟩
  have HD : Aside0 (Drawn0 w1 w1) := ⟨Drawn0.refl _⟩
  go_wp2
  rw [HQ.out]
  go_loopg [7] 64 (fun kq v7 w' => ∃ (f : Nat), v7 = .int .i64 f ∧ Aside0 (f + kq = 64) ∧ Aside0 (meetL e n (kq + 1) f = res) ∧ w' = w1)
  case atStart => exact ⟨0, rfl, ⟨rfl⟩, HRES, rfl⟩
  case round =>
    clear HRES
    obtain ⟨f, rfl, HK, HM, hw⟩ := hrel
    subst hw
    have hm := HM.out
    unfold meetL at hm
    have hf64 : f ≤ 64 := by have := HK.out; omega
    by_cases hlt : 2 * f < n
    · rw [if_pos hlt] at hm
      have t1 : (0 : Int) ≤ (n : Int) - (f : Int) := by omega
      have t2 : (n : Int) - (f : Int) ≤ 192 := by omega
      have n1 := ptRes_near HNE.out 1 ((n : Int) - f)
      have n2 := ptRes_near (fun x hx => HNE.out x (List.mem_reverse.1 hx) : ∀ x ∈ e.reverse, Near x.re) (-1) ((n : Int) - f)
      rw [List.length_reverse] at n2
      have C1 := HF1.out _ wr t1 t2 (Below.refl _ _)
      have C2 := HF2.out _ wr t1 t2 (Below.refl _ _)
      generalize ptRes (ptf 1 ((n : Int) - f) e 0 0) = u at C1 n1 hm
      generalize ptRes (ptf (-1) ((n : Int) - f) e.reverse 0 0) = v at C2 n2 hm
      obtain ⟨u0, u1, u2⟩ := u
      obtain ⟨v0, v1, v2⟩ := v
      obtain ⟨s1, s2, s3⟩ := n1
      obtain ⟨r1, r2, r3⟩ := n2
      dsimp only at C1 C2 s1 s2 s3 r1 r2 r3 hm
      have HC1 := Aside0.mk C1
      have HC2 := Aside0.mk C2
      have HM1 := Aside0.mk hm
      clear C1 C2 hm HM
      have HNU := Aside0.mk s1
      have HNV := Aside0.mk r1
      unfold Near at s1 r1
      obtain ⟨s4, s5⟩ := s1
      obtain ⟨r4, r5⟩ := r1
      have hcu : ∀ W : World, (convert 52 23 (.float .f64 (fl u0))).run Try.prog W = .ok (.int .i64 u0) W := fun W => run_convert_float_int W 52 23 .f64 .i64 _ _ rfl Try.underlying23 (toInt_fl _ HNU.out.small)
      have hcv : ∀ W : World, (convert 52 23 (.float .f64 (fl v0))).run Try.prog W = .ok (.int .i64 v0) W := fun W => run_convert_float_int W 52 23 .f64 .i64 _ _ rfl Try.underlying23 (toInt_fl _ HNV.out.small)
      cases u2 with
      | false =>
        have HG : Aside0 (goodF (u0, u1, false) (v0, v1, v2) f = false) := ⟨rfl⟩
        go_wp2_with fail
        refine (HC1.out).mono ?_
        rintro e' w2 ⟨rfl, rfl⟩
        go_wp2_with fail
        refine (HC2.out).mono ?_
        rintro e' w3 ⟨rfl, rfl⟩
        go_wp2
        go_roundg (gk - 1)
        case measure => have := HK.out; omega
        case rel =>
          refine ⟨f + 1, by go_num, ⟨by have := HK.out; omega⟩, ⟨?_⟩, rfl⟩
          have h1 := HM1.out
          rw [HG.out, if_neg (by decide)] at h1
          rw [show gk - 1 + 1 = gk from by have := HK.out; omega]
          exact h1
      | true =>
        cases v2 with
        | false =>
          have HG : Aside0 (goodF (u0, u1, true) (v0, v1, false) f = false) := ⟨by unfold goodF; simp⟩
          go_wp2_with fail
          refine (HC1.out).mono ?_
          rintro e' w2 ⟨rfl, rfl⟩
          go_wp2_with fail
          refine (HC2.out).mono ?_
          rintro e' w3 ⟨rfl, rfl⟩
          go_wp2
          go_roundg (gk - 1)
          case measure => have := HK.out; omega
          case rel =>
            refine ⟨f + 1, by go_num, ⟨by have := HK.out; omega⟩, ⟨?_⟩, rfl⟩
            have h1 := HM1.out
            rw [HG.out, if_neg (by decide)] at h1
            rw [show gk - 1 + 1 = gk from by have := HK.out; omega]
            exact h1
        | true =>
          by_cases h1 : u1 + v1 ≤ (f : Int)
          · have hlq : (FloatKind.f64.format.order (fl u0) (fl v0) == some .lt || FloatKind.f64.format.order (fl u0) (fl v0) == some .eq) = decide (u0 ≤ v0) := by
              rw [lt_fl _ _ HNU.out.small HNV.out.small, eq_fl _ _ HNU.out.small HNV.out.small]
              by_cases g1 : u0 < v0
              · have : u0 ≤ v0 := by omega
                simp [g1, this]
              · by_cases g2 : u0 = v0
                · simp [g2]
                · have : ¬ (u0 ≤ v0) := by omega
                  simp [g1, g2, this]
            have hd1 : decide (u1 + v1 ≤ (f : Int)) = true := decide_eq_true h1
            by_cases h2 : u0 ≤ v0
            · rw [decide_eq_true h2] at hlq
              have HG : Aside0 (goodF (u0, u1, true) (v0, v1, true) f = true) := ⟨by unfold goodF; simp [h1, h2]⟩
              clear h1 h2
              go_wp2_with fail
              refine (HC1.out).mono ?_
              rintro e' w2 ⟨rfl, rfl⟩
              go_wp2_with fail
              refine (HC2.out).mono ?_
              rintro e' w3 ⟨rfl, rfl⟩
              go_wp2
              go_ret3
              have h1 := HM1.out
              rw [HG.out, if_pos rfl] at h1
              rw [← h1]
              exact ⟨rfl, HB.out⟩
            · rw [decide_eq_false h2] at hlq
              have HG : Aside0 (goodF (u0, u1, true) (v0, v1, true) f = false) := ⟨by unfold goodF; simp [h1, h2]⟩
              clear h1 h2
              go_wp2_with fail
              refine (HC1.out).mono ?_
              rintro e' w2 ⟨rfl, rfl⟩
              go_wp2_with fail
              refine (HC2.out).mono ?_
              rintro e' w3 ⟨rfl, rfl⟩
              go_wp2
              go_roundg (gk - 1)
              case measure => have := HK.out; omega
              case rel =>
                refine ⟨f + 1, by go_num, ⟨by have := HK.out; omega⟩, ⟨?_⟩, rfl⟩
                have h1 := HM1.out
                rw [HG.out, if_neg (by decide)] at h1
                rw [show gk - 1 + 1 = gk from by have := HK.out; omega]
                exact h1
          · have hd1 : decide (u1 + v1 ≤ (f : Int)) = false := decide_eq_false h1
            have HG : Aside0 (goodF (u0, u1, true) (v0, v1, true) f = false) := ⟨by unfold goodF; simp [h1]⟩
            clear h1
            go_wp2_with fail
            refine (HC1.out).mono ?_
            rintro e' w2 ⟨rfl, rfl⟩
            go_wp2_with fail
            refine (HC2.out).mono ?_
            rintro e' w3 ⟨rfl, rfl⟩
            go_wp2
            go_roundg (gk - 1)
            case measure => have := HK.out; omega
            case rel =>
              refine ⟨f + 1, by go_num, ⟨by have := HK.out; omega⟩, ⟨?_⟩, rfl⟩
              have h1 := HM1.out
              rw [HG.out, if_neg (by decide)] at h1
              rw [show gk - 1 + 1 = gk from by have := HK.out; omega]
              exact h1
    · rw [if_neg hlt] at hm
      have HM1 := Aside0.mk hm
      clear hm HM
      go_wp2
      go_ret3
      rw [← HM1.out]
      exact ⟨rfl, HB.out⟩
end Go.Proofs.Ytlhecfleanppmaa.Pr
end
section
namespace Go.Proofs.Ytlhecfleanppmaa.Pr
open Go.RowKit Go.Proofs.YtlhecfleanppmaaW.PrintWords Go.Proofs.YtlhecfleanppmaaW.PrintLast Go.Proofs.YtlhecfleanppmaaW.PrintMore Go.Proofs.YFl
theorem choose_Meet.calls (A0 : Option Addr) (c0 : Nat) (l0 : List S26) (r1 r2 : Int) (r3 : Bool) (w : World) (hr0 : Kd.C k26 w A0 l0.length l0) (hc0 : l0.length ≤ c0) (h : choose_Meet.f l0 = some (r1, r2, r3)) :
    Calls Try.prog 17 #[.slice A0 l0.length c0] w fun e w' => e = .returned (.tuple #[.int .i64 r1, .int .i64 r2, .bool r3]) ∧ Below w.heap.size w w' :=
  meet_walk A0 c0 l0 w hr0 hc0 (thatOf l0).length (thatOf_length l0) (ends_length l0) (endsOf l0) rfl (r1, r2, r3) (Option.some.inj h) (ends_kinds l0) (ends_near l0)
end Go.Proofs.Ytlhecfleanppmaa.Pr
end
section
namespace Go.Proofs.Ytlhecfleanppmaa.Pr
open Go.RowKit Go.Proofs.YtlhecfleanppmaaW.PrintWords Go.Proofs.YtlhecfleanppmaaW.PrintLast Go.Proofs.YtlhecfleanppmaaW.PrintMore
attribute [local go_sem] max2_int min2_int max_two min_two max_three min_three max_four min_four   -- for this text's walks alone
set_option linter.unusedVariables false
set_option linter.unusedSimpArgs false

/-! ### choose_Survivors: function 21 -/
def choose_Survivors.l0 : Nat → Int → Int → List (S26) → List (S26) → Int → Int → Option ((List (S26)))
  | 0, _, _, _, _, _, _ => none
  | k + 1, x3, x4, x6, x19, x20, x21 => if x21 < x20 then (if 0 ≤ x21 then (if x21 < (x19.length : Int) then (if x3 ≤ (wrap64 ((((rd_T26 x19 x21).f1) / 65536) * 65536)) then (if (wrap64 ((((rd_T26 x19 x21).f1) / 65536) * 65536)) ≤ x4 then (if x6.length < 2932031007402 then (choose_Survivors.l0 k x3 x4 (x6 ++ [(⟨(rd_T26 x19 x21).f0, (rd_T26 x19 x21).f1, (rd_T26 x19 x21).f2, (rd_T26 x19 x21).f3, (rd_T26 x19 x21).f4, (rd_T26 x19 x21).f5, (rd_T26 x19 x21).f6⟩ : S26)]) x19 x20 (wrap64 (x21 + 1))) else (none)) else (choose_Survivors.l0 k x3 x4 x6 x19 x20 (wrap64 (x21 + 1)))) else (choose_Survivors.l0 k x3 x4 x6 x19 x20 (wrap64 (x21 + 1)))) else (none)) else (none)) else (some x6)
def choose_Survivors.f (k : Nat) (l0 : List (S26)) : Option ((List (S26))) := (choose_Meet.f l0).bind fun bt234 => (if bt234.2.2 = true then ((choose_that.f k l0).bind fun t237 => (choose_Survivors.l0 k bt234.1 bt234.2.1 ([] : List (S26)) t237 (t237.length : Int) 0)) else (some ([] : List (S26))))
theorem choose_Survivors.mono_l : ∀ k, (∀ y0 y1 y2 y3 y4 y5, LeO (choose_Survivors.l0 k y0 y1 y2 y3 y4 y5) (choose_Survivors.l0 (k + 1) y0 y1 y2 y3 y4 y5))
  | 0 => fun _ _ _ _ _ _ r h => by simp [choose_Survivors.l0] at h
  | k + 1 => by
    have ih0 := choose_Survivors.mono_l k
    · intro y0 y1 y2 y3 y4 y5
      unfold choose_Survivors.l0
      repeat' first
      | (with_reducible exact ih0 _ _ _ _ _ _)
      | (with_reducible exact choose_that.mono _ _)
      | (with_reducible exact LeO.refl _)
      | (with_reducible exact LeO.none _)
      | (with_reducible refine LeO.ite ?_ ?_)
      | (with_reducible refine LeO.bind ?_ (fun _ => ?_))
      | exact ih0 _ _ _ _ _ _
      | exact choose_that.mono _ _
      | exact LeO.none _
      | refine LeO.ite ?_ ?_
      | refine LeO.bind ?_ (fun _ => ?_)
theorem choose_Survivors.mono : ∀ a0 k, LeO (choose_Survivors.f k a0) (choose_Survivors.f (k + 1) a0) := by
  intro a0 k
  have ih0 := choose_Survivors.mono_l k
  unfold choose_Survivors.f
  repeat' first
      | (with_reducible exact ih0 _ _ _ _ _ _)
      | (with_reducible exact choose_that.mono _ _)
      | (with_reducible exact LeO.refl _)
      | (with_reducible exact LeO.none _)
      | (with_reducible refine LeO.ite ?_ ?_)
      | (with_reducible refine LeO.bind ?_ (fun _ => ?_))
      | exact ih0 _ _ _ _ _ _
      | exact choose_that.mono _ _
      | exact LeO.none _
      | refine LeO.ite ?_ ?_
      | refine LeO.bind ?_ (fun _ => ?_)
set_option maxHeartbeats 8000000 in
set_option maxRecDepth 100000 in
theorem choose_Survivors.calls (k : Nat) (A0 : Option Addr) (c0 : Nat) (l0 : List (S26)) (r : List (S26)) (w : World) (hr0 : Kd.C k26 w A0 l0.length l0) (hc0 : l0.length ≤ c0) (h : choose_Survivors.f k l0 = some r) :
    Calls Try.prog 21 #[.slice A0 l0.length c0] w fun e w' => ∃ v0_ : Value, e = .returned (v0_) ∧ Kd.R k26 26 w' w.heap.size (fun _ => True) v0_ r ∧ Below w.heap.size w w' := by
  have hu26 := Try.underlying26
  have HR0 := Aside0.mk hr0
  have HC0 := Aside0.mk hc0
  clear hr0 hc0
  have HB := Aside0.mk (Below.refl w.heap.size w)
  have H : ((choose_Meet.f l0).bind fun bt234 => (if bt234.2.2 = true then ((choose_that.f k l0).bind fun t237 => (choose_Survivors.l0 k bt234.1 bt234.2.1 ([] : List (S26)) t237 (t237.length : Int) 0)) else (some ([] : List (S26))))) = some r := h
  clear h
  replace H := Option.bind_eq_some_iff.mp H
  obtain ⟨⟨t234, t235, t236⟩, A20, H⟩ := H
  replace H : (if t236 = true then ((choose_that.f k l0).bind fun t237 => (choose_Survivors.l0 k t234 t235 ([] : List (S26)) t237 (t237.length : Int) 0)) else (some ([] : List (S26)))) = some r := H
  have A2 := Aside0.mk A20
  clear A20
  by_cases c3 : t236 = true
  · subst c3
    have H1 : ((choose_that.f k l0).bind fun t237 => (choose_Survivors.l0 k t234 t235 ([] : List (S26)) t237 (t237.length : Int) 0)) = some r := by rw [if_pos rfl] at H; exact H
    clear H
    have H := H1
    clear H1
    replace H := Option.bind_eq_some_iff.mp H
    obtain ⟨t237, A40, H⟩ := H
    replace H : (choose_Survivors.l0 k t234 t235 ([] : List (S26)) t237 (t237.length : Int) 0) = some r := H
    have A4 := Aside0.mk A40
    clear A40
    have H' := Aside0.mk H
    clear H
    go_enter Try.func21, Try.ntmps21
    go_wp2_with (first | ((with_reducible refine gate_callee (f := 17) rfl ?_); refine goesL_ (some 12) rfl rfl Try.func17 (by kernel_rfl) rfl #[.slice A0 l0.length c0] rfl (by (try simp only [List.map_toArray, List.map_cons, List.map_nil]); first | done | rfl | (simp only [List.length_drop, List.length_take]; rfl)) ?_; (with_reducible refine (choose_Meet.calls _ _ l0 t234 t235 true _ ?side1 ?side2 A2.out).mono ?_); (case side1 => repeat (first | exact HR0.out | (with_reducible refine Kd.C_alloc ?_ _) | (with_reducible refine Kd.C_drewN ?_ _) | (with_reducible refine Kd.C_drew ?_))); (case side2 => exact HC0.out); rintro e w5 ⟨rfl, hb⟩; refine ⟨_, rfl, ?_⟩; have n0_ := Aside0.mk (below_step (by repeat (first | (with_reducible first | exact HB.out | apply below_alloc | apply pw_below_drewN | apply below_drew1) | exact HB.out)) hb); clear HB; have HB := n0_; clear n0_; (try clear hb); (try clear hb2); (try clear hk); (try clear hi)) | ((with_reducible refine gate_callee (f := 27) rfl ?_); refine goesL_ (some 19) rfl rfl Try.func27 (by kernel_rfl) rfl #[.slice A0 l0.length c0] rfl (by (try simp only [List.map_toArray, List.map_cons, List.map_nil]); first | done | rfl | (simp only [List.length_drop, List.length_take]; rfl)) ?_; (with_reducible refine (choose_that.calls k _ _ l0 t237 _ ?side1 ?side2 A4.out).mono ?_); (case side1 => repeat (first | exact (Kd.C_below HR0.out HB.out) | (with_reducible refine Kd.C_alloc ?_ _) | (with_reducible refine Kd.C_drewN ?_ _) | (with_reducible refine Kd.C_drew ?_))); (case side2 => exact HC0.out); rintro e w6 ⟨v238, rfl, ho0, hb⟩; refine ⟨_, rfl, ?_⟩; have n0_ := Aside0.mk (Kd.R_lower ho0 (below_size (by repeat (first | (with_reducible first | exact HB.out | apply below_alloc | apply pw_below_drewN | apply below_drew1) | exact HB.out)))); have n1_ := Aside0.mk (below_step (by repeat (first | (with_reducible first | exact HB.out | apply below_alloc | apply pw_below_drewN | apply below_drew1) | exact HB.out)) hb); clear HB; have HO239 := n0_; have HB := n1_; clear n0_ n1_; (try clear hb); (try clear hb2); (try clear hk); (try clear hi); (try clear ho0); obtain ⟨Ao7, co7, eo7⟩ := Kd.R_slice HO239.out; subst eo7))
    go_loopg [6, 21] k (fun kq v6 v21 w' => ∃ (x6_1 : List (S26)) (x21_1 : Int), v21 = .int .i64 x21_1 ∧ Aside0 (choose_Survivors.l0 kq t234 t235 x6_1 t237 (t237.length : Int) x21_1 = some r) ∧ Aside0 (kq ≤ k) ∧ Aside0 (Kd.R k26 26 w' w.heap.size (fun k_ => some k_ ≠ ((.slice Ao7 t237.length co7) : Value).ownBlock) v6 x6_1) ∧ Aside0 (Kd.R k26 26 w' w.heap.size (fun k_ => some k_ ≠ (v6 : Value).ownBlock) (.slice Ao7 t237.length co7) t237) ∧ Aside0 (Below w.heap.size w w'))
    case atStart => exact ⟨(([] : List (S26))), (0), (by first | rfl | (simp; done) | (simp [*]; done)), H', ⟨Nat.le_refl _⟩, ⟨by first | exact Kd.R_nil _ _ _ _ _ | exact Kd.N_nil _ _ _ _ _ | exact Kd.V_nil _ _ _ _ _ | exact Kd.Q_nil _ _ _ _ _ | exact Kd.S_nil _ _ _ _ _⟩, ⟨by (with_reducible repeat (first | apply Kd.R_alloc | apply Kd.R_drewN | apply Kd.R_drew)); exact Kd.R_mono HO239.out (fun _ hk => (by simp [Value.ownBlock]))⟩, ⟨by repeat (first | (with_reducible first | exact HB.out | apply below_alloc | apply pw_below_drewN | apply below_drew1) | exact HB.out)⟩⟩
    case round =>
      clear H'
      try clear c1
      try clear c2
      try clear p2
      try clear c3
      obtain ⟨x6_1, x21_1, rfl, HA, HK1, HO_6, HO_19, HB⟩ := hrel
      cases gk with
      | zero => exact absurd HA.out (by simp [choose_Survivors.l0])
      | succ k1 =>
        have H := HA.out
        clear HA
        simp only [choose_Survivors.l0] at H
        by_cases c8 : x21_1 < (t237.length : Int)
        · rw [if_pos c8] at H
          have c8b0 : decide (x21_1 < (t237.length : Int)) = true := decide_eq_true c8
          clear c8
          by_cases c9 : 0 ≤ x21_1
          · rw [if_pos c9] at H
            have c9b0 : decide (0 ≤ x21_1) = true := decide_eq_true c9
            clear c9
            by_cases c10 : x21_1 < (t237.length : Int)
            · rw [if_pos c10] at H
              have c10b0 : decide (x21_1 < (t237.length : Int)) = true := decide_eq_true c10
              clear c10
              by_cases c11 : t234 ≤ (wrap64 ((((rd_T26 t237 x21_1).f1) / 65536) * 65536))
              · rw [if_pos c11] at H
                have c11b0 : decide (t234 ≤ (wrap64 ((((rd_T26 t237 x21_1).f1) / 65536) * 65536))) = true := decide_eq_true c11
                clear c11
                by_cases c12 : (wrap64 ((((rd_T26 t237 x21_1).f1) / 65536) * 65536)) ≤ t235
                · rw [if_pos c12] at H
                  have c12b0 : decide ((wrap64 ((((rd_T26 t237 x21_1).f1) / 65536) * 65536)) ≤ t235) = true := decide_eq_true c12
                  clear c12
                  by_cases c13 : x6_1.length < 2932031007402
                  · rw [if_pos c13] at H
                    have LMc13 := Aside0.mk c13
                    clear c13
                    obtain ⟨y242, hy242⟩ : ∃ y_ : List (S26), y_ = (x6_1 ++ [(⟨(rd_T26 t237 x21_1).f0, (rd_T26 t237 x21_1).f1, (rd_T26 t237 x21_1).f2, (rd_T26 t237 x21_1).f3, (rd_T26 t237 x21_1).f4, (rd_T26 t237 x21_1).f5, (rd_T26 t237 x21_1).f6⟩ : S26)]) := ⟨_, rfl⟩
                    replace H : (choose_Survivors.l0 k1 t234 t235 y242 t237 (t237.length : Int) (wrap64 (x21_1 + 1))) = some r := by first | (rw [hy242]; with_reducible exact H) | (have H2_ := (Option.bind_some _ _).symm.trans H; rw [hy242]; with_reducible exact H2_) | (have H2_ := (Option.bind_some _ _).symm.trans H; with_reducible exact H2_) | with_reducible exact H | (rw [hy242]; exact H) | exact H
                    have Ny242 := Aside0.mk hy242
                    clear hy242
                    have H' := Aside0.mk H
                    clear H
                    have p240 : 0 ≤ (x21_1 : Int) := of_decide_eq_true (by first | (with_reducible assumption) | assumption)
                    have q240 : x21_1 < (t237.length : Int) := of_decide_eq_true (by first | (with_reducible assumption) | assumption)
                    obtain ⟨ad240, e240, hx240_0, hx240_1, hx240_2, hx240_3, hx240_4, hx240_5, hx240_6⟩ := at_T26 (Kd.R_reads' HO_19.out).2.2 x21_1 p240 q240
                    cases e240
                    replace p240 := eq_true p240
                    replace q240 := eq_true q240
                    go_wp2_with (first | ((with_reducible refine gate_dst (N := 8) rfl ?_); refine box_event ?hg (N := 8) ?hd (cs := #[.int .i64 0, .int .i64 0, .int .i64 0, .int .i64 0, .int .i64 0, .bool false, .bool false]) (t := 26) ?hr ?_; (case hd => rfl); (case hg => rfl); (case hr => first | (go_simp; done) | (go_simp; rfl)); intro gb241 hg w14 hbox hb; have n0_ := Aside0.mk (Kd.R_below (Kd.R_elderB (by (with_reducible repeat (first | apply Kd.R_alloc | apply Kd.R_drewN | apply Kd.R_drew)); exact HO_6.out) gb241 (Nat.le_of_eq hg.symm)) hb); have n1_ := Aside0.mk (Kd.R_below (Kd.R_elderB (by (with_reducible repeat (first | apply Kd.R_alloc | apply Kd.R_drewN | apply Kd.R_drew)); exact HO_19.out) gb241 (Nat.le_of_eq hg.symm)) hb); have n2_ := Aside0.mk (below_step (by repeat (first | (with_reducible first | exact HB.out | apply below_alloc | apply pw_below_drewN | apply below_drew1) | exact HB.out)) hb); have n3_ := Aside0.mk (hbox); have n4_ := Aside0.mk ((by rw [hg]; exact (below_size (by repeat (first | (with_reducible first | exact HB.out | apply below_alloc | apply pw_below_drewN | apply below_drew1) | exact HB.out))) : w.heap.size ≤ gb241)); have n5_ := Aside0.mk ((by rw [hg]; exact (below_size (by repeat (first | (with_reducible first | exact HB.out | apply below_alloc | apply pw_below_drewN | apply below_drew1) | exact HB.out))) : w.heap.size ≤ gb241)); clear HO_6; clear HO_19; clear HB; have HO_6 := n0_; have HO_19 := n1_; have HB := n2_; have BK241 := n3_; have GW241 := n4_; have GE241 := n5_; clear n0_ n1_ n2_ n3_ n4_ n5_; clear hb hbox hg; have hcz15_0 : w14.cell? ⟨gb241, 0, none⟩ = some (.int .i64 0) := (blk_cell BK241.out 0).trans rfl; have hcz15_1 : w14.cell? ⟨gb241, 1, none⟩ = some (.int .i64 0) := (blk_cell BK241.out 1).trans rfl; have hcz15_2 : w14.cell? ⟨gb241, 2, none⟩ = some (.int .i64 0) := (blk_cell BK241.out 2).trans rfl; have hcz15_3 : w14.cell? ⟨gb241, 3, none⟩ = some (.int .i64 0) := (blk_cell BK241.out 3).trans rfl; have hcz15_4 : w14.cell? ⟨gb241, 4, none⟩ = some (.int .i64 0) := (blk_cell BK241.out 4).trans rfl; have hcz15_5 : w14.cell? ⟨gb241, 5, none⟩ = some (.bool false) := (blk_cell BK241.out 5).trans rfl; have hcz15_6 : w14.cell? ⟨gb241, 6, none⟩ = some (.bool false) := (blk_cell BK241.out 6).trans rfl; have hfz15_0 := blk_frozen BK241.out 0; have hfz15_1 := blk_frozen BK241.out 1; have hfz15_2 := blk_frozen BK241.out 2; have hfz15_3 := blk_frozen BK241.out 3; have hfz15_4 := blk_frozen BK241.out 4; have hfz15_5 := blk_frozen BK241.out 5; have hfz15_6 := blk_frozen BK241.out 6) | ((with_reducible refine gate_builtin (b := .append) (xs := #[.tmp 37, .tmp 39]) rfl ?_); at_builtin; refine Kd.R_append k26 (w0 := w) w.heap.size rfl (.tmp 37) (.tmp 39) 22 26 (.agg #[(.int .i64 0), (.int .i64 0), (.int .i64 0), (.int .i64 0), (.int .i64 0), (.bool false), (.bool false)]) 48 rfl Try.underlying22 info26 rfl (by decide) (by omega) u6 x6_1 (⟨(rd_T26 t237 x21_1).f0, (rd_T26 t237 x21_1).f1, (rd_T26 t237 x21_1).f2, (rd_T26 t237 x21_1).f3, (rd_T26 t237 x21_1).f4, (rd_T26 t237 x21_1).f5, (rd_T26 t237 x21_1).f6⟩ : S26) [.int .i64 ((rd_T26 t237 x21_1).f0), .int .i64 ((rd_T26 t237 x21_1).f1), .int .i64 ((rd_T26 t237 x21_1).f2), .int .i64 ((rd_T26 t237 x21_1).f3), .int .i64 ((rd_T26 t237 x21_1).f4), .bool ((rd_T26 t237 x21_1).f5), .bool ((rd_T26 t237 x21_1).f6)] (fun k_ => some k_ ≠ (.slice (some ad240) t237.length co7 : Value).ownBlock ∧ k_ ≠ gb241) (fun _ => False) rfl (by first | (go_simp; done) | (go_simp; rfl)) ?aP (fun _ hk => hk.elim) ?aF ?aO ?aB ?aS ?aL ?_; (case aP => exact k26_mkM _ _ _ (⟨(rd_T26 t237 x21_1).f0, (rd_T26 t237 x21_1).f1, (rd_T26 t237 x21_1).f2, (rd_T26 t237 x21_1).f3, (rd_T26 t237 x21_1).f4, (rd_T26 t237 x21_1).f5, (rd_T26 t237 x21_1).f6⟩ : S26)); (case aB => exact (by repeat (first | (with_reducible first | exact HB.out | apply below_alloc | apply pw_below_drewN | apply below_drew1 | refine below_set ?_ GE241.out) | exact HB.out))); (case aF => exact (fun k_ hk => ⟨Kd.fresh' (Kd.R_lt (by (with_reducible repeat (first | apply Kd.R_alloc | apply Kd.R_drewN | apply Kd.R_drew)); exact (Kd.R_mono (Kd.R_far (p := ⟨gb241, 6, none⟩) (Kd.R_far (p := ⟨gb241, 5, none⟩) (Kd.R_far (p := ⟨gb241, 4, none⟩) (Kd.R_far (p := ⟨gb241, 3, none⟩) (Kd.R_far (p := ⟨gb241, 2, none⟩) (Kd.R_far (p := ⟨gb241, 1, none⟩) (Kd.R_far (p := ⟨gb241, 0, none⟩) (Kd.R_mono HO_19.out (fun k_ hk => (⟨hk, hk.2⟩ : _ ∧ k_ ≠ gb241))) (fun _ hk => hk.2) (.int .i64 ((rd_T26 t237 x21_1).f0))) (fun _ hk => hk.2) (.int .i64 ((rd_T26 t237 x21_1).f1))) (fun _ hk => hk.2) (.int .i64 ((rd_T26 t237 x21_1).f2))) (fun _ hk => hk.2) (.int .i64 ((rd_T26 t237 x21_1).f3))) (fun _ hk => hk.2) (.int .i64 ((rd_T26 t237 x21_1).f4))) (fun _ hk => hk.2) (.bool ((rd_T26 t237 x21_1).f5))) (fun _ hk => hk.2) (.bool ((rd_T26 t237 x21_1).f6))) (fun _ h_ => h_.1)))) k_ hk, Kd.freshB (g := gb241) (o := .cells #[.int .i64 ((rd_T26 t237 x21_1).f0), .int .i64 ((rd_T26 t237 x21_1).f1), .int .i64 ((rd_T26 t237 x21_1).f2), .int .i64 ((rd_T26 t237 x21_1).f3), .int .i64 ((rd_T26 t237 x21_1).f4), .bool ((rd_T26 t237 x21_1).f5), .bool ((rd_T26 t237 x21_1).f6)] 26 (0, 0)) (by (with_reducible repeat (first | refine blk_drewN ?_ _ | refine blk_drew ?_ | refine blk_alloc ?_ _)); refine blk_put (cs := #[.int .i64 ((rd_T26 t237 x21_1).f0), .int .i64 ((rd_T26 t237 x21_1).f1), .int .i64 ((rd_T26 t237 x21_1).f2), .int .i64 ((rd_T26 t237 x21_1).f3), .int .i64 ((rd_T26 t237 x21_1).f4), .bool ((rd_T26 t237 x21_1).f5), .bool false]) ?_ 6 _ rfl; (with_reducible repeat (first | refine blk_drewN ?_ _ | refine blk_drew ?_ | refine blk_alloc ?_ _)); refine blk_put (cs := #[.int .i64 ((rd_T26 t237 x21_1).f0), .int .i64 ((rd_T26 t237 x21_1).f1), .int .i64 ((rd_T26 t237 x21_1).f2), .int .i64 ((rd_T26 t237 x21_1).f3), .int .i64 ((rd_T26 t237 x21_1).f4), .bool false, .bool false]) ?_ 5 _ rfl; (with_reducible repeat (first | refine blk_drewN ?_ _ | refine blk_drew ?_ | refine blk_alloc ?_ _)); refine blk_put (cs := #[.int .i64 ((rd_T26 t237 x21_1).f0), .int .i64 ((rd_T26 t237 x21_1).f1), .int .i64 ((rd_T26 t237 x21_1).f2), .int .i64 ((rd_T26 t237 x21_1).f3), .int .i64 0, .bool false, .bool false]) ?_ 4 _ rfl; (with_reducible repeat (first | refine blk_drewN ?_ _ | refine blk_drew ?_ | refine blk_alloc ?_ _)); refine blk_put (cs := #[.int .i64 ((rd_T26 t237 x21_1).f0), .int .i64 ((rd_T26 t237 x21_1).f1), .int .i64 ((rd_T26 t237 x21_1).f2), .int .i64 0, .int .i64 0, .bool false, .bool false]) ?_ 3 _ rfl; (with_reducible repeat (first | refine blk_drewN ?_ _ | refine blk_drew ?_ | refine blk_alloc ?_ _)); refine blk_put (cs := #[.int .i64 ((rd_T26 t237 x21_1).f0), .int .i64 ((rd_T26 t237 x21_1).f1), .int .i64 0, .int .i64 0, .int .i64 0, .bool false, .bool false]) ?_ 2 _ rfl; (with_reducible repeat (first | refine blk_drewN ?_ _ | refine blk_drew ?_ | refine blk_alloc ?_ _)); refine blk_put (cs := #[.int .i64 ((rd_T26 t237 x21_1).f0), .int .i64 0, .int .i64 0, .int .i64 0, .int .i64 0, .bool false, .bool false]) ?_ 1 _ rfl; (with_reducible repeat (first | refine blk_drewN ?_ _ | refine blk_drew ?_ | refine blk_alloc ?_ _)); refine blk_put (cs := #[.int .i64 0, .int .i64 0, .int .i64 0, .int .i64 0, .int .i64 0, .bool false, .bool false]) ?_ 0 _ rfl; (with_reducible repeat (first | refine blk_drewN ?_ _ | refine blk_drew ?_ | refine blk_alloc ?_ _)); exact BK241.out) k_ hk⟩)); (case aO => exact (by (with_reducible repeat (first | apply Kd.R_alloc | apply Kd.R_drewN | apply Kd.R_drew)); exact Kd.R_mono (Kd.R_far (p := ⟨gb241, 6, none⟩) (Kd.R_far (p := ⟨gb241, 5, none⟩) (Kd.R_far (p := ⟨gb241, 4, none⟩) (Kd.R_far (p := ⟨gb241, 3, none⟩) (Kd.R_far (p := ⟨gb241, 2, none⟩) (Kd.R_far (p := ⟨gb241, 1, none⟩) (Kd.R_far (p := ⟨gb241, 0, none⟩) (Kd.R_mono HO_6.out (fun k_ hk => (⟨hk, hk.2⟩ : _ ∧ k_ ≠ gb241))) (fun _ hk => hk.2) (.int .i64 ((rd_T26 t237 x21_1).f0))) (fun _ hk => hk.2) (.int .i64 ((rd_T26 t237 x21_1).f1))) (fun _ hk => hk.2) (.int .i64 ((rd_T26 t237 x21_1).f2))) (fun _ hk => hk.2) (.int .i64 ((rd_T26 t237 x21_1).f3))) (fun _ hk => hk.2) (.int .i64 ((rd_T26 t237 x21_1).f4))) (fun _ hk => hk.2) (.bool ((rd_T26 t237 x21_1).f5))) (fun _ hk => hk.2) (.bool ((rd_T26 t237 x21_1).f6))) (fun _ hk => ⟨hk.1.1, hk.1.2⟩))); (case aS => exact (below_size (by repeat (first | (with_reducible first | exact HB.out | apply below_alloc | apply pw_below_drewN | apply below_drew1 | refine below_set ?_ GE241.out) | exact HB.out)))); (case aL => have := LMc13.out; omega); intro v243 w16 ho hb hg hat; rw [← Ny242.out] at ho; have n0_ := Aside0.mk (Kd.R_after (ok := (fun k_ => k_ ≠ gb241)) (by (with_reducible repeat (first | apply Kd.R_alloc | apply Kd.R_drewN | apply Kd.R_drew)); exact Kd.R_mono (Kd.R_far (p := ⟨gb241, 6, none⟩) (Kd.R_far (p := ⟨gb241, 5, none⟩) (Kd.R_far (p := ⟨gb241, 4, none⟩) (Kd.R_far (p := ⟨gb241, 3, none⟩) (Kd.R_far (p := ⟨gb241, 2, none⟩) (Kd.R_far (p := ⟨gb241, 1, none⟩) (Kd.R_far (p := ⟨gb241, 0, none⟩) (Kd.R_mono HO_19.out (fun k_ hk => (⟨hk, hk.2⟩ : _ ∧ k_ ≠ gb241))) (fun _ hk => hk.2) (.int .i64 ((rd_T26 t237 x21_1).f0))) (fun _ hk => hk.2) (.int .i64 ((rd_T26 t237 x21_1).f1))) (fun _ hk => hk.2) (.int .i64 ((rd_T26 t237 x21_1).f2))) (fun _ hk => hk.2) (.int .i64 ((rd_T26 t237 x21_1).f3))) (fun _ hk => hk.2) (.int .i64 ((rd_T26 t237 x21_1).f4))) (fun _ hk => hk.2) (.bool ((rd_T26 t237 x21_1).f5))) (fun _ hk => hk.2) (.bool ((rd_T26 t237 x21_1).f6))) (fun _ hk => ⟨hk.1.2, hk.1.1⟩)) hg hat); have n1_ := Aside0.mk (blk_grown (g := gb241) (o := .cells #[.int .i64 ((rd_T26 t237 x21_1).f0), .int .i64 ((rd_T26 t237 x21_1).f1), .int .i64 ((rd_T26 t237 x21_1).f2), .int .i64 ((rd_T26 t237 x21_1).f3), .int .i64 ((rd_T26 t237 x21_1).f4), .bool ((rd_T26 t237 x21_1).f5), .bool ((rd_T26 t237 x21_1).f6)] 26 (0, 0)) (by (with_reducible repeat (first | refine blk_drewN ?_ _ | refine blk_drew ?_ | refine blk_alloc ?_ _)); refine blk_put (cs := #[.int .i64 ((rd_T26 t237 x21_1).f0), .int .i64 ((rd_T26 t237 x21_1).f1), .int .i64 ((rd_T26 t237 x21_1).f2), .int .i64 ((rd_T26 t237 x21_1).f3), .int .i64 ((rd_T26 t237 x21_1).f4), .bool ((rd_T26 t237 x21_1).f5), .bool false]) ?_ 6 _ rfl; (with_reducible repeat (first | refine blk_drewN ?_ _ | refine blk_drew ?_ | refine blk_alloc ?_ _)); refine blk_put (cs := #[.int .i64 ((rd_T26 t237 x21_1).f0), .int .i64 ((rd_T26 t237 x21_1).f1), .int .i64 ((rd_T26 t237 x21_1).f2), .int .i64 ((rd_T26 t237 x21_1).f3), .int .i64 ((rd_T26 t237 x21_1).f4), .bool false, .bool false]) ?_ 5 _ rfl; (with_reducible repeat (first | refine blk_drewN ?_ _ | refine blk_drew ?_ | refine blk_alloc ?_ _)); refine blk_put (cs := #[.int .i64 ((rd_T26 t237 x21_1).f0), .int .i64 ((rd_T26 t237 x21_1).f1), .int .i64 ((rd_T26 t237 x21_1).f2), .int .i64 ((rd_T26 t237 x21_1).f3), .int .i64 0, .bool false, .bool false]) ?_ 4 _ rfl; (with_reducible repeat (first | refine blk_drewN ?_ _ | refine blk_drew ?_ | refine blk_alloc ?_ _)); refine blk_put (cs := #[.int .i64 ((rd_T26 t237 x21_1).f0), .int .i64 ((rd_T26 t237 x21_1).f1), .int .i64 ((rd_T26 t237 x21_1).f2), .int .i64 0, .int .i64 0, .bool false, .bool false]) ?_ 3 _ rfl; (with_reducible repeat (first | refine blk_drewN ?_ _ | refine blk_drew ?_ | refine blk_alloc ?_ _)); refine blk_put (cs := #[.int .i64 ((rd_T26 t237 x21_1).f0), .int .i64 ((rd_T26 t237 x21_1).f1), .int .i64 0, .int .i64 0, .int .i64 0, .bool false, .bool false]) ?_ 2 _ rfl; (with_reducible repeat (first | refine blk_drewN ?_ _ | refine blk_drew ?_ | refine blk_alloc ?_ _)); refine blk_put (cs := #[.int .i64 ((rd_T26 t237 x21_1).f0), .int .i64 0, .int .i64 0, .int .i64 0, .int .i64 0, .bool false, .bool false]) ?_ 1 _ rfl; (with_reducible repeat (first | refine blk_drewN ?_ _ | refine blk_drew ?_ | refine blk_alloc ?_ _)); refine blk_put (cs := #[.int .i64 0, .int .i64 0, .int .i64 0, .int .i64 0, .int .i64 0, .bool false, .bool false]) ?_ 0 _ rfl; (with_reducible repeat (first | refine blk_drewN ?_ _ | refine blk_drew ?_ | refine blk_alloc ?_ _)); exact BK241.out) hg (Kd.R_away HO_6.out (fun _ hk => hk.2))); have n2_ := Aside0.mk (hb); have n3_ := Aside0.mk (ho); clear HO_19; clear BK241; clear HB; clear HO_6; have HO_19 := n0_; have BK241 := n1_; have HB := n2_; have HO244 := n3_; clear n0_ n1_ n2_ n3_; clear ho hb hg hat))
                    go_roundg k1
                    case measure => have := HK1.out; omega
                    case rel => exact ⟨(y242), (wrap64 (x21_1 + 1)), (by first | rfl | (simp; done) | (simp [*]; done)), H', ⟨by have := HK1.out; omega⟩, ⟨by (with_reducible repeat (first | apply Kd.R_alloc | apply Kd.R_drewN | apply Kd.R_drew)); exact Kd.R_mono HO244.out (fun _ hk => hk.1)⟩, ⟨by (with_reducible repeat (first | apply Kd.R_alloc | apply Kd.R_drewN | apply Kd.R_drew)); exact Kd.R_mono HO_19.out (fun _ hk => hk.2)⟩, ⟨by repeat (first | (with_reducible first | exact HB.out | apply below_alloc | apply pw_below_drewN | apply below_drew1 | refine below_set ?_ GE241.out) | exact HB.out)⟩⟩
                  · rw [if_neg c13] at H
                    exact absurd H (by simp)
                · rw [if_neg c12] at H
                  have c12b0 : decide ((wrap64 ((((rd_T26 t237 x21_1).f1) / 65536) * 65536)) ≤ t235) = false := decide_eq_false c12
                  clear c12
                  have H' := Aside0.mk H
                  clear H
                  have p240 : 0 ≤ (x21_1 : Int) := of_decide_eq_true (by first | (with_reducible assumption) | assumption)
                  have q240 : x21_1 < (t237.length : Int) := of_decide_eq_true (by first | (with_reducible assumption) | assumption)
                  obtain ⟨ad240, e240, hx240_0, hx240_1, hx240_2, hx240_3, hx240_4, hx240_5, hx240_6⟩ := at_T26 (Kd.R_reads' HO_19.out).2.2 x21_1 p240 q240
                  cases e240
                  replace p240 := eq_true p240
                  replace q240 := eq_true q240
                  go_wp2_with (first | ((with_reducible refine gate_dst (N := 8) rfl ?_); refine box_event ?hg (N := 8) ?hd (cs := #[.int .i64 0, .int .i64 0, .int .i64 0, .int .i64 0, .int .i64 0, .bool false, .bool false]) (t := 26) ?hr ?_; (case hd => rfl); (case hg => rfl); (case hr => first | (go_simp; done) | (go_simp; rfl)); intro gb241 hg w17 hbox hb; have n0_ := Aside0.mk (Kd.R_below (Kd.R_elderB (by (with_reducible repeat (first | apply Kd.R_alloc | apply Kd.R_drewN | apply Kd.R_drew)); exact HO_6.out) gb241 (Nat.le_of_eq hg.symm)) hb); have n1_ := Aside0.mk (Kd.R_below (Kd.R_elderB (by (with_reducible repeat (first | apply Kd.R_alloc | apply Kd.R_drewN | apply Kd.R_drew)); exact HO_19.out) gb241 (Nat.le_of_eq hg.symm)) hb); have n2_ := Aside0.mk (below_step (by repeat (first | (with_reducible first | exact HB.out | apply below_alloc | apply pw_below_drewN | apply below_drew1) | exact HB.out)) hb); have n3_ := Aside0.mk (hbox); have n4_ := Aside0.mk ((by rw [hg]; exact (below_size (by repeat (first | (with_reducible first | exact HB.out | apply below_alloc | apply pw_below_drewN | apply below_drew1) | exact HB.out))) : w.heap.size ≤ gb241)); have n5_ := Aside0.mk ((by rw [hg]; exact (below_size (by repeat (first | (with_reducible first | exact HB.out | apply below_alloc | apply pw_below_drewN | apply below_drew1) | exact HB.out))) : w.heap.size ≤ gb241)); clear HO_6; clear HO_19; clear HB; have HO_6 := n0_; have HO_19 := n1_; have HB := n2_; have BK241 := n3_; have GW241 := n4_; have GE241 := n5_; clear n0_ n1_ n2_ n3_ n4_ n5_; clear hb hbox hg; have hcz18_0 : w17.cell? ⟨gb241, 0, none⟩ = some (.int .i64 0) := (blk_cell BK241.out 0).trans rfl; have hcz18_1 : w17.cell? ⟨gb241, 1, none⟩ = some (.int .i64 0) := (blk_cell BK241.out 1).trans rfl; have hcz18_2 : w17.cell? ⟨gb241, 2, none⟩ = some (.int .i64 0) := (blk_cell BK241.out 2).trans rfl; have hcz18_3 : w17.cell? ⟨gb241, 3, none⟩ = some (.int .i64 0) := (blk_cell BK241.out 3).trans rfl; have hcz18_4 : w17.cell? ⟨gb241, 4, none⟩ = some (.int .i64 0) := (blk_cell BK241.out 4).trans rfl; have hcz18_5 : w17.cell? ⟨gb241, 5, none⟩ = some (.bool false) := (blk_cell BK241.out 5).trans rfl; have hcz18_6 : w17.cell? ⟨gb241, 6, none⟩ = some (.bool false) := (blk_cell BK241.out 6).trans rfl; have hfz18_0 := blk_frozen BK241.out 0; have hfz18_1 := blk_frozen BK241.out 1; have hfz18_2 := blk_frozen BK241.out 2; have hfz18_3 := blk_frozen BK241.out 3; have hfz18_4 := blk_frozen BK241.out 4; have hfz18_5 := blk_frozen BK241.out 5; have hfz18_6 := blk_frozen BK241.out 6))
                  go_roundg k1
                  case measure => have := HK1.out; omega
                  case rel => exact ⟨(x6_1), (wrap64 (x21_1 + 1)), (by first | rfl | (simp; done) | (simp [*]; done)), H', ⟨by have := HK1.out; omega⟩, ⟨by (with_reducible repeat (first | apply Kd.R_alloc | apply Kd.R_drewN | apply Kd.R_drew)); exact Kd.R_mono (Kd.R_far (p := ⟨gb241, 6, none⟩) (Kd.R_far (p := ⟨gb241, 5, none⟩) (Kd.R_far (p := ⟨gb241, 4, none⟩) (Kd.R_far (p := ⟨gb241, 3, none⟩) (Kd.R_far (p := ⟨gb241, 2, none⟩) (Kd.R_far (p := ⟨gb241, 1, none⟩) (Kd.R_far (p := ⟨gb241, 0, none⟩) (Kd.R_mono HO_6.out (fun k_ hk => (⟨hk, hk.2⟩ : _ ∧ k_ ≠ gb241))) (fun _ hk => hk.2) (.int .i64 ((rd_T26 t237 x21_1).f0))) (fun _ hk => hk.2) (.int .i64 ((rd_T26 t237 x21_1).f1))) (fun _ hk => hk.2) (.int .i64 ((rd_T26 t237 x21_1).f2))) (fun _ hk => hk.2) (.int .i64 ((rd_T26 t237 x21_1).f3))) (fun _ hk => hk.2) (.int .i64 ((rd_T26 t237 x21_1).f4))) (fun _ hk => hk.2) (.bool ((rd_T26 t237 x21_1).f5))) (fun _ hk => hk.2) (.bool ((rd_T26 t237 x21_1).f6))) (fun _ hk => hk.1.1)⟩, ⟨by (with_reducible repeat (first | apply Kd.R_alloc | apply Kd.R_drewN | apply Kd.R_drew)); exact Kd.R_mono (Kd.R_far (p := ⟨gb241, 6, none⟩) (Kd.R_far (p := ⟨gb241, 5, none⟩) (Kd.R_far (p := ⟨gb241, 4, none⟩) (Kd.R_far (p := ⟨gb241, 3, none⟩) (Kd.R_far (p := ⟨gb241, 2, none⟩) (Kd.R_far (p := ⟨gb241, 1, none⟩) (Kd.R_far (p := ⟨gb241, 0, none⟩) (Kd.R_mono HO_19.out (fun k_ hk => (⟨hk, hk.2⟩ : _ ∧ k_ ≠ gb241))) (fun _ hk => hk.2) (.int .i64 ((rd_T26 t237 x21_1).f0))) (fun _ hk => hk.2) (.int .i64 ((rd_T26 t237 x21_1).f1))) (fun _ hk => hk.2) (.int .i64 ((rd_T26 t237 x21_1).f2))) (fun _ hk => hk.2) (.int .i64 ((rd_T26 t237 x21_1).f3))) (fun _ hk => hk.2) (.int .i64 ((rd_T26 t237 x21_1).f4))) (fun _ hk => hk.2) (.bool ((rd_T26 t237 x21_1).f5))) (fun _ hk => hk.2) (.bool ((rd_T26 t237 x21_1).f6))) (fun _ hk => hk.1.1)⟩, ⟨by repeat (first | (with_reducible first | exact HB.out | apply below_alloc | apply pw_below_drewN | apply below_drew1 | refine below_set ?_ GE241.out) | exact HB.out)⟩⟩
              · rw [if_neg c11] at H
                have c11b0 : decide (t234 ≤ (wrap64 ((((rd_T26 t237 x21_1).f1) / 65536) * 65536))) = false := decide_eq_false c11
                clear c11
                have H' := Aside0.mk H
                clear H
                have p240 : 0 ≤ (x21_1 : Int) := of_decide_eq_true (by first | (with_reducible assumption) | assumption)
                have q240 : x21_1 < (t237.length : Int) := of_decide_eq_true (by first | (with_reducible assumption) | assumption)
                obtain ⟨ad240, e240, hx240_0, hx240_1, hx240_2, hx240_3, hx240_4, hx240_5, hx240_6⟩ := at_T26 (Kd.R_reads' HO_19.out).2.2 x21_1 p240 q240
                cases e240
                replace p240 := eq_true p240
                replace q240 := eq_true q240
                go_wp2_with (first | ((with_reducible refine gate_dst (N := 8) rfl ?_); refine box_event ?hg (N := 8) ?hd (cs := #[.int .i64 0, .int .i64 0, .int .i64 0, .int .i64 0, .int .i64 0, .bool false, .bool false]) (t := 26) ?hr ?_; (case hd => rfl); (case hg => rfl); (case hr => first | (go_simp; done) | (go_simp; rfl)); intro gb241 hg w19 hbox hb; have n0_ := Aside0.mk (Kd.R_below (Kd.R_elderB (by (with_reducible repeat (first | apply Kd.R_alloc | apply Kd.R_drewN | apply Kd.R_drew)); exact HO_6.out) gb241 (Nat.le_of_eq hg.symm)) hb); have n1_ := Aside0.mk (Kd.R_below (Kd.R_elderB (by (with_reducible repeat (first | apply Kd.R_alloc | apply Kd.R_drewN | apply Kd.R_drew)); exact HO_19.out) gb241 (Nat.le_of_eq hg.symm)) hb); have n2_ := Aside0.mk (below_step (by repeat (first | (with_reducible first | exact HB.out | apply below_alloc | apply pw_below_drewN | apply below_drew1) | exact HB.out)) hb); have n3_ := Aside0.mk (hbox); have n4_ := Aside0.mk ((by rw [hg]; exact (below_size (by repeat (first | (with_reducible first | exact HB.out | apply below_alloc | apply pw_below_drewN | apply below_drew1) | exact HB.out))) : w.heap.size ≤ gb241)); have n5_ := Aside0.mk ((by rw [hg]; exact (below_size (by repeat (first | (with_reducible first | exact HB.out | apply below_alloc | apply pw_below_drewN | apply below_drew1) | exact HB.out))) : w.heap.size ≤ gb241)); clear HO_6; clear HO_19; clear HB; have HO_6 := n0_; have HO_19 := n1_; have HB := n2_; have BK241 := n3_; have GW241 := n4_; have GE241 := n5_; clear n0_ n1_ n2_ n3_ n4_ n5_; clear hb hbox hg; have hcz20_0 : w19.cell? ⟨gb241, 0, none⟩ = some (.int .i64 0) := (blk_cell BK241.out 0).trans rfl; have hcz20_1 : w19.cell? ⟨gb241, 1, none⟩ = some (.int .i64 0) := (blk_cell BK241.out 1).trans rfl; have hcz20_2 : w19.cell? ⟨gb241, 2, none⟩ = some (.int .i64 0) := (blk_cell BK241.out 2).trans rfl; have hcz20_3 : w19.cell? ⟨gb241, 3, none⟩ = some (.int .i64 0) := (blk_cell BK241.out 3).trans rfl; have hcz20_4 : w19.cell? ⟨gb241, 4, none⟩ = some (.int .i64 0) := (blk_cell BK241.out 4).trans rfl; have hcz20_5 : w19.cell? ⟨gb241, 5, none⟩ = some (.bool false) := (blk_cell BK241.out 5).trans rfl; have hcz20_6 : w19.cell? ⟨gb241, 6, none⟩ = some (.bool false) := (blk_cell BK241.out 6).trans rfl; have hfz20_0 := blk_frozen BK241.out 0; have hfz20_1 := blk_frozen BK241.out 1; have hfz20_2 := blk_frozen BK241.out 2; have hfz20_3 := blk_frozen BK241.out 3; have hfz20_4 := blk_frozen BK241.out 4; have hfz20_5 := blk_frozen BK241.out 5; have hfz20_6 := blk_frozen BK241.out 6))
                go_roundg k1
                case measure => have := HK1.out; omega
                case rel => exact ⟨(x6_1), (wrap64 (x21_1 + 1)), (by first | rfl | (simp; done) | (simp [*]; done)), H', ⟨by have := HK1.out; omega⟩, ⟨by (with_reducible repeat (first | apply Kd.R_alloc | apply Kd.R_drewN | apply Kd.R_drew)); exact Kd.R_mono (Kd.R_far (p := ⟨gb241, 6, none⟩) (Kd.R_far (p := ⟨gb241, 5, none⟩) (Kd.R_far (p := ⟨gb241, 4, none⟩) (Kd.R_far (p := ⟨gb241, 3, none⟩) (Kd.R_far (p := ⟨gb241, 2, none⟩) (Kd.R_far (p := ⟨gb241, 1, none⟩) (Kd.R_far (p := ⟨gb241, 0, none⟩) (Kd.R_mono HO_6.out (fun k_ hk => (⟨hk, hk.2⟩ : _ ∧ k_ ≠ gb241))) (fun _ hk => hk.2) (.int .i64 ((rd_T26 t237 x21_1).f0))) (fun _ hk => hk.2) (.int .i64 ((rd_T26 t237 x21_1).f1))) (fun _ hk => hk.2) (.int .i64 ((rd_T26 t237 x21_1).f2))) (fun _ hk => hk.2) (.int .i64 ((rd_T26 t237 x21_1).f3))) (fun _ hk => hk.2) (.int .i64 ((rd_T26 t237 x21_1).f4))) (fun _ hk => hk.2) (.bool ((rd_T26 t237 x21_1).f5))) (fun _ hk => hk.2) (.bool ((rd_T26 t237 x21_1).f6))) (fun _ hk => hk.1.1)⟩, ⟨by (with_reducible repeat (first | apply Kd.R_alloc | apply Kd.R_drewN | apply Kd.R_drew)); exact Kd.R_mono (Kd.R_far (p := ⟨gb241, 6, none⟩) (Kd.R_far (p := ⟨gb241, 5, none⟩) (Kd.R_far (p := ⟨gb241, 4, none⟩) (Kd.R_far (p := ⟨gb241, 3, none⟩) (Kd.R_far (p := ⟨gb241, 2, none⟩) (Kd.R_far (p := ⟨gb241, 1, none⟩) (Kd.R_far (p := ⟨gb241, 0, none⟩) (Kd.R_mono HO_19.out (fun k_ hk => (⟨hk, hk.2⟩ : _ ∧ k_ ≠ gb241))) (fun _ hk => hk.2) (.int .i64 ((rd_T26 t237 x21_1).f0))) (fun _ hk => hk.2) (.int .i64 ((rd_T26 t237 x21_1).f1))) (fun _ hk => hk.2) (.int .i64 ((rd_T26 t237 x21_1).f2))) (fun _ hk => hk.2) (.int .i64 ((rd_T26 t237 x21_1).f3))) (fun _ hk => hk.2) (.int .i64 ((rd_T26 t237 x21_1).f4))) (fun _ hk => hk.2) (.bool ((rd_T26 t237 x21_1).f5))) (fun _ hk => hk.2) (.bool ((rd_T26 t237 x21_1).f6))) (fun _ hk => hk.1.1)⟩, ⟨by repeat (first | (with_reducible first | exact HB.out | apply below_alloc | apply pw_below_drewN | apply below_drew1 | refine below_set ?_ GE241.out) | exact HB.out)⟩⟩
            · rw [if_neg c10] at H
              exact absurd H (by simp)
          · rw [if_neg c9] at H
            exact absurd H (by simp)
        · rw [if_neg c8] at H
          have c8b0 : decide (x21_1 < (t237.length : Int)) = false := decide_eq_false c8
          clear c8
          obtain rfl := Option.some.inj H
          go_wp2
          go_ret
          exact ⟨_, by first | rfl | (simp [errW_none, errW_some] <;> rfl) | (simp [*, errW_none, errW_some] <;> rfl), by (with_reducible repeat (first | apply Kd.R_alloc | apply Kd.R_drewN | apply Kd.R_drew)); exact Kd.R_mono HO_6.out (fun _ hk => trivial), by repeat (first | (with_reducible first | exact HB.out | apply below_alloc | apply pw_below_drewN | apply below_drew1) | exact HB.out)⟩
  · replace c3 := Bool.eq_false_iff.mpr c3
    subst c3
    have H1 : (some ([] : List (S26))) = some r := by rw [if_neg (show ¬ (false = true) by decide)] at H; exact H
    clear H
    have H := H1
    clear H1
    obtain rfl := Option.some.inj H
    go_enter Try.func21, Try.ntmps21
    go_wp2_with (first | ((with_reducible refine gate_callee (f := 17) rfl ?_); refine goesL_ (some 12) rfl rfl Try.func17 (by kernel_rfl) rfl #[.slice A0 l0.length c0] rfl (by (try simp only [List.map_toArray, List.map_cons, List.map_nil]); first | done | rfl | (simp only [List.length_drop, List.length_take]; rfl)) ?_; (with_reducible refine (choose_Meet.calls _ _ l0 t234 t235 false _ ?side1 ?side2 A2.out).mono ?_); (case side1 => repeat (first | exact HR0.out | (with_reducible refine Kd.C_alloc ?_ _) | (with_reducible refine Kd.C_drewN ?_ _) | (with_reducible refine Kd.C_drew ?_))); (case side2 => exact HC0.out); rintro e w21 ⟨rfl, hb⟩; refine ⟨_, rfl, ?_⟩; have n0_ := Aside0.mk (below_step (by repeat (first | (with_reducible first | exact HB.out | apply below_alloc | apply pw_below_drewN | apply below_drew1) | exact HB.out)) hb); clear HB; have HB := n0_; clear n0_; (try clear hb); (try clear hb2); (try clear hk); (try clear hi)))
    go_ret
    exact ⟨_, by first | rfl | (simp [errW_none, errW_some] <;> rfl) | (simp [*, errW_none, errW_some] <;> rfl), by first | exact Kd.R_nil _ _ _ _ _ | exact Kd.N_nil _ _ _ _ _ | exact Kd.V_nil _ _ _ _ _ | exact Kd.Q_nil _ _ _ _ _ | exact Kd.S_nil _ _ _ _ _, by repeat (first | (with_reducible first | exact HB.out | apply below_alloc | apply pw_below_drewN | apply below_drew1) | exact HB.out)⟩

end Go.Proofs.Ytlhecfleanppmaa.Pr
end
section
set_option linter.unusedVariables false
namespace Go.Proofs.Ytlhecfleanppmaa.Pr
open Go.RowKit Go.Proofs.YtlhecfleanppmaaW.PrintWords Go.Proofs.YtlhecfleanppmaaW.PrintLast Go.Proofs.YtlhecfleanppmaaW.PrintMore Go.Proofs.YFl

theorem Ev.two {α β : Type} {g : Nat → Option α} {f : Nat → Option β} {r : α} {q : β} (h : Ev f q) (hs : ∀ k, f k = some q → g (k + 1) = some r) : Ev g r := by
  obtain ⟨K, hK⟩ := h
  refine ⟨K + 1, fun k hk => ?_⟩
  obtain ⟨m, rfl⟩ : ∃ m, k = m + 1 := ⟨k - 1, by omega⟩
  exact hs m (hK m (by omega))
theorem Ev.three {α β : Type} {g : Nat → Option α} {f : Nat → Option β} {r : α} {q : β} (h : Ev f q) (hs : ∀ k, f k = some q → g (k + 2) = some r) : Ev g r := by
  obtain ⟨K, hK⟩ := h
  refine ⟨K + 2, fun k hk => ?_⟩
  obtain ⟨m, rfl⟩ : ∃ m, k = m + 2 := ⟨k - 2, by omega⟩
  exact hs m (hK m (by omega))
theorem Ev.zero {α β : Type} {g : Nat → Option α} {f : Nat → Option β} {r : α} {q : β} (h : Ev f q) (hs : ∀ k, f k = some q → g k = some r) : Ev g r := by
  obtain ⟨K, hK⟩ := h
  exact ⟨K, fun k hk => hs k (hK k hk)⟩
theorem Ev.end1 {α : Type} {g : Nat → Option α} {r : α} (hs : ∀ k, g (k + 1) = some r) : Ev g r :=
  ⟨1, fun k hk => by obtain ⟨m, rfl⟩ : ∃ m, k = m + 1 := ⟨k - 1, by omega⟩; exact hs m⟩
theorem Ev.end2 {α : Type} {g : Nat → Option α} {r : α} (hs : ∀ k, g (k + 2) = some r) : Ev g r :=
  ⟨2, fun k hk => by obtain ⟨m, rfl⟩ : ∃ m, k = m + 2 := ⟨k - 2, by omega⟩; exact hs m⟩

theorem refcounts_eq (x : S26) : foliotref13_counts.f x.f0 x.f1 x.f2 x.f3 x.f4 x.f5 x.f6 = some (cnt x) := counts_eq x
theorem that_ev (l : List S26) (hn : l.length ≤ 9223372036854775807) : Ev (fun k => choose_that.f k l) (thatOf l) := ⟨l.length + 1, fun k hk => that_eq l hn k (by omega)⟩

theorem those_loop (l : List S26) (hn : l.length ≤ 9223372036854775807) : ∀ (d i : Nat) (out : List S26), i + d = l.length → out.length ≤ 64 →
    Ev (fun k => foliotref13_those.l0 k l out (i : Int)) ((out ++ (l.drop i).filter cnt).take 64) := by
  intro d
  induction d with
  | zero =>
    intro i out hi ho
    refine Ev.end2 fun k => ?_
    simp only [foliotref13_those.l0]
    rw [if_neg (by omega)]
    simp only [foliotref13_those.j1]
    rw [if_neg (by decide), List.drop_eq_nil_of_le (by omega), List.filter_nil, List.append_nil, List.take_of_length_le ho]
  | succ d ih =>
    intro i out hi ho
    by_cases h64 : out.length < 64
    · by_cases hc : cnt (rd_T26 l (i : Int)) = true
      · rw [rd_drop l i (by omega), List.filter_cons_of_pos hc, List.append_cons]
        refine Ev.three (ih (i + 1) (out ++ [rd_T26 l (i : Int)]) (by omega) (by rw [List.length_append]; simp; omega)) fun k hk => ?_
        simp only [foliotref13_those.l0]
        rw [if_pos (by omega)]
        simp only [foliotref13_those.j1]
        rw [if_pos (by simp; omega), if_pos (by omega), if_pos (by omega), refcounts_eq]
        simp only [Option.bind_some, S26.eta]
        rw [wrap_succ i (by omega), if_pos hc, if_pos (by omega)]
        exact hk
      · rw [rd_drop l i (by omega), List.filter_cons_of_neg hc]
        refine Ev.three (ih (i + 1) out (by omega) ho) fun k hk => ?_
        simp only [foliotref13_those.l0]
        rw [if_pos (by omega)]
        simp only [foliotref13_those.j1]
        rw [if_pos (by simp; omega), if_pos (by omega), if_pos (by omega), refcounts_eq]
        simp only [Option.bind_some, S26.eta]
        rw [wrap_succ i (by omega), if_neg hc]
        exact hk
    · refine Ev.end2 fun k => ?_
      simp only [foliotref13_those.l0]
      rw [if_pos (by omega)]
      simp only [foliotref13_those.j1]
      rw [if_neg (by simp; omega), List.take_append_of_le_length (by omega), List.take_of_length_le ho]
theorem those_ev (l : List S26) (hn : l.length ≤ 9223372036854775807) : Ev (fun k => foliotref13_those.f k l) (thatOf l) := by
  have := those_loop l hn l.length 0 [] (by omega) (by simp)
  exact this

theorem down_eq (a : Int) (h : -9223372036854775808 ≤ a ∧ a ≤ 9223372036854775807) : foliotref13_down.f a = some (a / 65536) := by
  unfold foliotref13_down.f
  rw [Int.tmod_eq_emod, Int.tdiv_eq_ediv]
  by_cases hc : 0 ≤ a ∨ (65536 : Int) ∣ a
  · simp only [hc, if_true]
    rw [if_neg (by omega)]
    congr 1
    unfold wrap64
    omega
  · simp only [hc, if_false]
    have hs : Int.sign 65536 = 1 := by decide
    have hn : Int.natAbs 65536 = 65536 := by decide
    rw [hs, hn, if_pos (by omega)]
    congr 1
    unfold wrap64
    omega

/-- an end as the document has it -/
def to54 (x : Cx) : S54 := ⟨x.re, x.im⟩
theorem to54_rd (l : List Cx) (i : Nat) (h : i < l.length) : rd_T54 (l.map to54) (i : Int) = to54 (rdx l i) := by
  unfold rd_T54 rdx
  rw [Int.toNat_natCast, List.getD_eq_getElem?_getD, List.getElem?_map, List.getElem?_eq_getElem h, List.getD_eq_getElem?_getD, List.getElem?_eq_getElem h]
  rfl
/-- where an end is put: behind all that do not stand behind it -/
def place (x : Cx) : List Cx → List Cx
  | [] => [x]
  | y :: l => if aheadB x y = true then x :: y :: l else y :: place x l
theorem less_eq (x y : Cx) : foliotref13_less.f x.re x.im y.re y.im = some (aheadB x y) := by
  unfold foliotref13_less.f aheadB
  by_cases h1 : x.re < y.re
  · rw [if_pos h1]; simp [h1]
  · rw [if_neg h1]
    by_cases h2 : x.re = y.re
    · rw [if_pos h2]; simp [h2]
    · rw [if_neg h2]; simp [h1, h2]
theorem place_split (x : Cx) : ∀ (a b : List Cx), (∀ y ∈ a, aheadB x y = false) → place x (a ++ b) = a ++ place x b
  | [], b, _ => rfl
  | y :: a, b, h => by
    have h0 := h y (by simp)
    simp only [List.cons_append, place]
    rw [h0, if_neg (by decide), place_split x a b (fun z hz => h z (by simp [hz]))]

/-! ### the two ways to sort -/
def Sorted (l : List Cx) : Prop := l.Pairwise fun a b => aheadB b a = false
theorem ahead_false (a b : Cx) : aheadB a b = false ↔ (b.re < a.re ∨ (b.re = a.re ∧ b.im ≤ a.im)) := by
  unfold aheadB
  simp only [Bool.or_eq_false_iff, Bool.and_eq_false_iff, decide_eq_false_iff_not]
  omega
theorem ahead_true (a b : Cx) : aheadB a b = true ↔ (a.re < b.re ∨ (a.re = b.re ∧ a.im < b.im)) := by
  unfold aheadB
  simp only [Bool.or_eq_true, Bool.and_eq_true, decide_eq_true_eq]
theorem place_mem {x : Cx} : ∀ {l : List Cx} {y : Cx}, y ∈ place x l ↔ y = x ∨ y ∈ l
  | [], y => by simp [place]
  | z :: l, y => by
    unfold place
    split
    · simp
    · simp only [List.mem_cons, place_mem (l := l)]
      exact ⟨fun h => by rcases h with h | h | h <;> simp [h], fun h => by rcases h with h | h | h <;> simp [h]⟩
theorem place_length (x : Cx) : ∀ l : List Cx, (place x l).length = l.length + 1
  | [] => rfl
  | z :: l => by
    unfold place
    split
    · rfl
    · simp [place_length x l]
theorem place_sorted {x : Cx} : ∀ {l : List Cx}, Sorted l → Sorted (place x l)
  | [], _ => by simp [place, Sorted]
  | z :: l, h => by
    have h1 := List.pairwise_cons.1 h
    unfold place
    by_cases hc : aheadB x z = true
    · rw [if_pos hc]
      refine List.pairwise_cons.2 ⟨fun y hy => ?_, h⟩
      rcases List.mem_cons.1 hy with rfl | hy
      · rw [ahead_true] at hc
        rw [ahead_false]
        omega
      · have h2 := h1.1 y hy
        rw [ahead_true] at hc
        rw [ahead_false] at h2 ⊢
        omega
    · rw [if_neg hc]
      refine List.pairwise_cons.2 ⟨fun y hy => ?_, place_sorted h1.2⟩
      rcases place_mem.1 hy with rfl | hy
      · simpa using hc
      · exact h1.1 y hy
theorem place_last (x y : Cx) (h : aheadB x y = true) : ∀ p : List Cx, place x (p ++ [y]) = place x p ++ [y]
  | [] => by simp [place, h]
  | z :: p => by
    simp only [List.cons_append, place]
    by_cases hc : aheadB x z = true
    · rw [if_pos hc, if_pos hc]; rfl
    · rw [if_neg hc, if_neg hc, place_last x y h p]; rfl
theorem place_end (x : Cx) (l : List Cx) (h : ∀ y ∈ l, aheadB x y = false) : place x l = l ++ [x] := by
  have := place_split x l [] h
  simpa [place] using this
theorem getD_app (p r : List Cx) (x : Cx) : (p ++ x :: r).getD p.length zcx = x := by
  rw [List.getD_eq_getElem?_getD, List.getElem?_append_right (Nat.le_refl _)]
  simp
theorem insAt_place (x : Cx) : ∀ (k : Nat) (pre rest : List Cx), pre.length = k → Sorted pre → insAt k (pre ++ x :: rest) = place x pre ++ rest
  | 0, pre, rest, hl, _ => by
    obtain rfl := List.eq_nil_of_length_eq_zero hl
    rfl
  | k + 1, pre, rest, hl, hs => by
    obtain ⟨p, y, rfl⟩ : ∃ p y, pre = p ++ [y] := by
      rcases List.eq_nil_or_concat pre with rfl | ⟨p, y, h⟩
      · simp at hl
      · exact ⟨p, y, by simpa using h⟩
    have hk : p.length = k := by simpa using hl
    have e1 : (p ++ [y] ++ x :: rest).getD (k + 1) zcx = x := by
      have := getD_app (p ++ [y]) rest x
      rwa [hl] at this
    have e0 : (p ++ [y] ++ x :: rest).getD k zcx = y := by
      have := getD_app p (x :: rest) y
      rw [hk] at this
      simpa using this
    rw [insAt_succ, e1, e0]
    by_cases hc : aheadB x y = true
    · rw [if_pos hc, place_last x y hc]
      have hsw : swp (p ++ [y] ++ x :: rest) k = p ++ x :: (y :: rest) := by
        unfold swp
        rw [e1, e0]
        subst hk
        simp
      rw [hsw, insAt_place x k p (y :: rest) hk (List.pairwise_append.1 hs).1]
      simp
    · rw [if_neg hc]
      have hall : ∀ z ∈ p ++ [y], aheadB x z = false := by
        intro z hz
        have hc' : aheadB x y = false := by simpa using hc
        rcases List.mem_append.1 hz with hz | hz
        · have h2 := (List.pairwise_append.1 hs).2.2 z hz y (by simp)
          rw [ahead_false] at h2 hc' ⊢
          omega
        · rw [List.mem_singleton.1 hz]; exact hc'
      rw [place_end x _ hall]
      simp
def fold (l acc : List Cx) : List Cx := l.foldl (fun a y => place y a) acc
theorem srt_fold : ∀ (rest pre : List Cx), Sorted pre → srt rest.length pre.length (pre ++ rest) = fold rest pre
  | [], pre, _ => by simp [srt, fold]
  | x :: rest, pre, hs => by
    show srt rest.length (pre.length + 1) (insAt pre.length (pre ++ x :: rest)) = fold rest (place x pre)
    rw [insAt_place x pre.length pre rest rfl hs]
    have := srt_fold rest (place x pre) (place_sorted hs)
    rwa [place_length] at this
theorem ends_fold (l : List S26) : endsOf l = fold (rawEnds l) [] := by
  unfold endsOf
  rcases h : rawEnds l with _ | ⟨x, rest⟩
  · rfl
  · have := srt_fold rest [x] (by simp [Sorted])
    exact this
theorem fold_append (a b acc : List Cx) : fold (a ++ b) acc = fold b (fold a acc) := List.foldl_append
theorem fold_sorted : ∀ (l acc : List Cx), Sorted acc → Sorted (fold l acc)
  | [], _, h => h
  | x :: l, acc, h => fold_sorted l (place x acc) (place_sorted h)
theorem ends_sorted (l : List S26) : Sorted (endsOf l) := by
  rw [ends_fold]
  exact fold_sorted _ _ (by simp [Sorted])
theorem fold_length : ∀ (l acc : List Cx), (fold l acc).length = acc.length + l.length
  | [], _ => rfl
  | x :: l, acc => by
    show (fold l (place x acc)).length = _
    rw [fold_length l, place_length, List.length_cons]
    omega

/-! ### the document's loop -/
theorem map54_take (l : List Cx) (n : Nat) : (l.map to54).take n = (l.take n).map to54 := (List.map_take ..).symm
theorem all_l2 (x4 : List S26) (x5 : Int) (six : List S54) (t : Nat) (y : Cx) (hy : rd_T54 six (t : Int) = to54 y) (ht : t < six.length) (hsix : six.length ≤ 192) (r : List S54) :
    ∀ (b a : List Cx), (a ++ b).length ≤ 192 → (∀ z ∈ a, aheadB y z = false) →
      Ev (fun k => foliotref13_All.l1 k ((place y (a ++ b)).map to54) x4 x5 six ((t + 1 : Nat) : Int)) r →
      Ev (fun k => foliotref13_All.l2 k ((a ++ b).map to54) x4 x5 six (t : Int) (a.length : Int)) r
  | [], a, hl, ha, h => by
    refine Ev.two h fun k hk => ?_
    rw [List.append_nil] at hk hl ⊢
    rw [place_end y a ha] at hk
    simp only [foliotref13_All.l2]
    simp only [Option.bind_some, List.length_map]
    rw [if_neg (by omega), if_pos (by omega), if_pos (by omega), if_pos (by simp; omega), if_pos (by omega), if_pos (by omega), if_pos (by simp; omega), if_pos (by simp; omega), wrap_succ t (by omega), hy]
    rw [← hk]
    congr 1
    simp only [List.nil_append, Int.toNat_natCast, List.map_append, List.map_cons, List.map_nil, to54]
    rw [List.take_of_length_le (by simp), List.drop_eq_nil_of_le (by simp), List.append_nil]
  | z :: b, a, hl, ha, h => by
    have hrd : rd_T54 ((a ++ z :: b).map to54) (a.length : Int) = to54 z := by
      rw [to54_rd _ _ (by simp)]
      unfold rdx
      rw [getD_app]
    rw [List.length_append, List.length_cons] at hl
    by_cases hc : aheadB y z = true
    · refine Ev.two h fun k hk => ?_
      have e : place y (a ++ z :: b) = a ++ y :: z :: b := by
        rw [place_split y a (z :: b) ha]
        simp [place, hc]
      rw [e] at hk
      simp only [foliotref13_All.l2]
      rw [if_pos (by simp; omega), if_pos (by omega), if_pos (by omega), if_pos (by omega), hrd, hy]
      have hle : foliotref13_less.f (to54 y).f0 (to54 y).f1 (to54 z).f0 (to54 z).f1 = some true := by rw [← hc]; exact less_eq y z
      rw [hle]
      simp only [Option.bind_some]
      rw [if_pos trivial, if_pos (by simp; omega), if_pos (by simp; omega), if_pos (by simp; omega), if_pos (by simp; omega), wrap_succ t (by omega)]
      rw [← hk]
      congr 1
      simp [to54]
    · have hc' : aheadB y z = false := by simpa using hc
      have ih := all_l2 x4 x5 six t y hy ht hsix r b (a ++ [z]) (by simp; omega) (fun u hu => by
        rcases List.mem_append.1 hu with hu | hu
        · exact ha u hu
        · rw [List.mem_singleton.1 hu]; exact hc')
      rw [List.append_assoc] at ih
      refine Ev.two (ih h) fun k hk => ?_
      simp only [foliotref13_All.l2]
      rw [if_pos (by simp; omega), if_pos (by omega), if_pos (by omega), if_pos (by omega), hrd, hy]
      have hle : foliotref13_less.f (to54 y).f0 (to54 y).f1 (to54 z).f0 (to54 z).f1 = some false := by rw [← hc']; exact less_eq y z
      rw [hle]
      simp only [Option.bind_some]
      rw [if_neg (by decide), wrap_succ a.length (by omega)]
      rw [← hk]
      congr 1
      simp

theorem three54 (x : S26) (h : cnt x = true) : ∃ u v z, foliotref13_down.f (wrap64 (x.f1 - x.f2)) = some u ∧ foliotref13_down.f x.f1 = some v ∧ foliotref13_down.f (wrap64 (-(wrap64 (x.f1 + x.f2)))) = some z ∧
    ([(⟨u, (-1)⟩ : S54), (⟨v, 0⟩ : S54), (⟨wrap64 (-z), 1⟩ : S54)] : List S54) = (three x).map to54 := by
  obtain ⟨h1, h2, h3, h4⟩ := cnt_bounds h
  have e1 : wrap64 (x.f1 - x.f2) = x.f1 - x.f2 := by unfold wrap64; omega
  have e2 : wrap64 (x.f1 + x.f2) = x.f1 + x.f2 := by unfold wrap64; omega
  have e3 : wrap64 (-(x.f1 + x.f2)) = -(x.f1 + x.f2) := by unfold wrap64; omega
  have e4 : wrap64 (-(-(x.f1 + x.f2) / 65536)) = -(-(x.f1 + x.f2) / 65536) := by unfold wrap64; omega
  refine ⟨_, _, _, by rw [e1]; exact down_eq _ (by omega), down_eq _ (by omega), by rw [e2, e3]; exact down_eq _ (by omega), ?_⟩
  rw [e4]
  rfl
theorem rd_three (x : S26) : rd_T54 ((three x).map to54) ((0 : Nat) : Int) = to54 ⟨(x.f1 - x.f2) / 65536, -1⟩ ∧ rd_T54 ((three x).map to54) ((1 : Nat) : Int) = to54 ⟨x.f1 / 65536, 0⟩ ∧ rd_T54 ((three x).map to54) ((2 : Nat) : Int) = to54 ⟨-(-(x.f1 + x.f2) / 65536), 1⟩ := ⟨rfl, rfl, rfl⟩
theorem all_l1 (x4 : List S26) (i : Nat) (hi : i < 64) (x : S26) (r : List S54) (acc : List Cx) (hl : acc.length + 3 ≤ 192)
    (h : Ev (fun k => foliotref13_All.l0 k ((fold (three x) acc).map to54) x4 ((i + 1 : Nat) : Int)) r) :
    Ev (fun k => foliotref13_All.l1 k (acc.map to54) x4 (i : Int) ((three x).map to54) 0) r := by
  have hlen : ((three x).map to54).length = 3 := rfl
  obtain ⟨r0, r1, r2⟩ := rd_three x
  have e3 : Ev (fun k => foliotref13_All.l1 k ((fold (three x) acc).map to54) x4 (i : Int) ((three x).map to54) ((3 : Nat) : Int)) r := by
    refine Ev.two h fun k hk => ?_
    simp only [foliotref13_All.l1]
    rw [if_neg (by decide), wrap_succ i (by omega)]
    exact hk
  have step : ∀ (t : Nat) (y : Cx) (a : List Cx), rd_T54 ((three x).map to54) (t : Int) = to54 y → t < 3 → a.length ≤ 192 →
      Ev (fun k => foliotref13_All.l1 k ((place y a).map to54) x4 (i : Int) ((three x).map to54) ((t + 1 : Nat) : Int)) r →
      Ev (fun k => foliotref13_All.l1 k (a.map to54) x4 (i : Int) ((three x).map to54) (t : Int)) r := by
    intro t y a hy ht ha hh
    refine Ev.two (all_l2 x4 i _ t y hy (by omega) (by omega) r a [] ha (by simp) hh) fun k hk => ?_
    simp only [foliotref13_All.l1]
    rw [if_pos (by omega)]
    exact hk
  have s2 := step 2 _ _ r2 (by omega) (by rw [place_length, place_length]; omega) e3
  have s1 := step 1 _ _ r1 (by omega) (by rw [place_length]; omega) s2
  exact step 0 _ _ r0 (by omega) (by omega) s1
theorem all_l0 (x4 : List S26) (hn : x4.length ≤ 64) (hc : ∀ x ∈ x4, cnt x = true) : ∀ (d i : Nat) (acc : List Cx), i + d = x4.length → acc.length = 3 * i →
    Ev (fun k => foliotref13_All.l0 k (acc.map to54) x4 (i : Int)) ((fold ((x4.drop i).flatMap three) acc).map to54) := by
  intro d
  induction d with
  | zero =>
    intro i acc hi ha
    refine Ev.end1 fun k => ?_
    simp only [foliotref13_All.l0]
    rw [if_neg (by omega), List.drop_eq_nil_of_le (by omega)]
    rfl
  | succ d ih =>
    intro i acc hi ha
    have hmem : rd_T26 x4 (i : Int) ∈ x4 := by
      unfold rd_T26
      rw [Int.toNat_natCast, List.getD_eq_getElem?_getD, List.getElem?_eq_getElem (by omega)]
      exact List.getElem_mem _
    obtain ⟨u, v, z, h1, h2, h3, h4⟩ := three54 _ (hc _ hmem)
    rw [rd_drop x4 i (by omega), List.flatMap_cons, fold_append]
    refine Ev.two (all_l1 x4 i (by omega) (rd_T26 x4 (i : Int)) _ acc (by omega) (ih (i + 1) (fold (three (rd_T26 x4 (i : Int))) acc) (by omega) (by rw [fold_length, ha]; simp [three]; omega))) fun k hk => ?_
    simp only [foliotref13_All.l0]
    rw [if_pos (by omega), if_pos (by omega), h1, h2, h3]
    simp only [Option.bind_some]
    rw [h4]
    exact hk
theorem all_ev (l : List S26) (hn : l.length ≤ 9223372036854775807) : Ev (fun k => foliotref13_All.f k l) ((endsOf l).map to54) := by
  unfold foliotref13_All.f
  refine Ev.bind (those_ev l hn) ?_
  rw [ends_fold]
  exact all_l0 (thatOf l) (thatOf_length l) (thatOf_cnt l) (thatOf l).length 0 [] (by omega) rfl
end Go.Proofs.Ytlhecfleanppmaa.Pr
end
section
set_option linter.unusedVariables false
namespace Go.Proofs.Ytlhecfleanppmaa.Pr
open Go.RowKit Go.Proofs.YtlhecfleanppmaaW.PrintWords Go.Proofs.YtlhecfleanppmaaW.PrintLast Go.Proofs.YtlhecfleanppmaaW.PrintMore Go.Proofs.YFl

theorem wrap_small {n : Int} (h : -9223372036854775808 ≤ n ∧ n ≤ 9223372036854775807) : wrap64 n = n := by unfold wrap64; omega
theorem drop_cons (e : List Cx) (i : Nat) (h : i < e.length) : e.drop i = rdx e i :: e.drop (i + 1) := leftUp_cons e i h
theorem rev_cons (e : List Cx) (i : Nat) (h : i < e.length) : (e.take (i + 1)).reverse = rdx e i :: (e.take i).reverse := leftDn_cons e i h
theorem ptf_shift (side W : Int) : ∀ (l : List Cx) (c m : Int), ptf side W l c m = (ptf side W l c 0).map fun p => (p.1, p.2 + m)
  | [], c, m => rfl
  | e :: l, c, m => by
    unfold ptf
    by_cases h : c - side * e.im = W
    · rw [if_pos h, if_pos h]
      simp only [Option.map_some, Option.some.injEq, Prod.mk.injEq, true_and]
      split <;> omega
    · rw [if_neg h, if_neg h, ptf_shift side W l _ (if e.im = 0 then m + 1 else m), ptf_shift side W l _ (if e.im = 0 then (0 : Int) + 1 else 0), Option.map_map]
      congr 1
      funext p
      simp only [Function.comp_apply, Prod.mk.injEq, true_and]
      split <;> omega

section
variable (e : List Cx) (n f : Nat)
theorem fwd_none (hk : Kinds e) (hl : e.length ≤ 192) (hn : n ≤ 64) (hf : f ≤ 65) (r : Int × Int × Bool) (h : Ev (fun k => foliotref13_Meet.l0 k (e.map to54) (n : Int) ((f + 1 : Nat) : Int)) r) : ∀ (d i : Nat) (c m : Int), i + d = e.length → -(i : Int) ≤ c → c ≤ i → 0 ≤ m → m ≤ i →
    ptf 1 ((n : Int) - f) (e.drop i) c m = none → Ev (fun k => foliotref13_Meet.l1 k (e.map to54) (n : Int) (f : Int) m (-1) c (i : Int)) r := by
  intro d
  induction d with
  | zero =>
    intro i c m hi h1 h2 h3 h4 hp
    refine Ev.three h fun k hk => ?_
    simp only [foliotref13_Meet.l1]
    rw [if_neg (by simp; omega)]
    simp only [foliotref13_Meet.j2]
    rw [if_neg (by decide), if_pos (by decide), wrap_succ f (by omega)]
    exact hk
  | succ d ih =>
    intro i c m hi h1 h2 h3 h4 hp
    have hx := (hk.rd i).2
    rw [drop_cons e i (by omega)] at hp
    unfold ptf at hp
    by_cases hc : c - 1 * (rdx e i).im = (n : Int) - f
    · rw [if_pos hc] at hp; cases hp
    · rw [if_neg hc] at hp
      have g := ih (i + 1) _ _ (by omega) (by omega) (by omega) (by split <;> omega) (by split <;> omega) hp
      refine Ev.three g fun k hk => ?_
      simp only [foliotref13_Meet.l1]
      rw [if_pos (by simp; omega)]
      simp only [foliotref13_Meet.j2]
      rw [if_pos (by decide), if_pos (by omega), if_pos (by simp; omega), to54_rd e i (by omega), wrap_small (n := (n : Int) - f) (by omega), wrap_succ i (by omega), wrap_small (n := c - (to54 (rdx e i)).f1) (by show _ ∧ _; simp only [to54]; omega)]
      have e1 : c - (to54 (rdx e i)).f1 = c - 1 * (rdx e i).im := by simp only [to54]; omega
      rw [e1, if_neg hc, if_neg hc]
      by_cases hz : (rdx e i).im = 0
      · rw [if_pos hz] at hk
        rw [if_pos (show (to54 (rdx e i)).f1 = 0 from hz), wrap_small (by omega)]
        exact hk
      · rw [if_neg hz] at hk
        rw [if_neg (show ¬ (to54 (rdx e i)).f1 = 0 from hz)]
        exact hk
theorem fwd_some (hk : Kinds e) (hl : e.length ≤ 192) (hn : n ≤ 64) (hf : f ≤ 65) (r : Int × Int × Bool) (a b : Int) : ∀ (d i : Nat) (c m : Int), i + d = e.length → -(i : Int) ≤ c → c ≤ i → 0 ≤ m → m ≤ i →
    ptf 1 ((n : Int) - f) (e.drop i) c m = some (a, b) → ∃ low : Nat, low < e.length ∧ (rdx e low).re = a ∧ 0 ≤ b ∧ b ≤ 192 ∧
      (Ev (fun k => foliotref13_Meet.l2 k (e.map to54) (n : Int) (f : Int) b (low : Int) 0 (-1) ((e.length : Int) - 1)) r → Ev (fun k => foliotref13_Meet.l1 k (e.map to54) (n : Int) (f : Int) m (-1) c (i : Int)) r) := by
  intro d
  induction d with
  | zero =>
    intro i c m hi h1 h2 h3 h4 hp
    rw [List.drop_eq_nil_of_le (by omega)] at hp
    cases hp
  | succ d ih =>
    intro i c m hi h1 h2 h3 h4 hp
    have hx := (hk.rd i).2
    rw [drop_cons e i (by omega)] at hp
    unfold ptf at hp
    have e1 : c - (to54 (rdx e i)).f1 = c - 1 * (rdx e i).im := by simp only [to54]; omega
    by_cases hc : c - 1 * (rdx e i).im = (n : Int) - f
    · rw [if_pos hc] at hp
      simp only [Option.some.injEq, Prod.mk.injEq] at hp
      refine ⟨i, by omega, hp.1, by rw [← hp.2]; split <;> omega, by rw [← hp.2]; split <;> omega, fun g => ?_⟩
      have g2 : Ev (fun k => foliotref13_Meet.l1 k (e.map to54) (n : Int) (f : Int) b (i : Int) ((n : Int) - f) ((i + 1 : Nat) : Int)) r := by
        refine Ev.three g fun k hk => ?_
        simp only [foliotref13_Meet.l1]
        by_cases hlt : ((i + 1 : Nat) : Int) < ((e.map to54).length : Int)
        · rw [if_pos hlt]
          simp only [foliotref13_Meet.j2]
          rw [if_neg (by simp), if_neg (by omega), List.length_map, wrap_small (by omega)]
          exact hk
        · rw [if_neg hlt]
          simp only [foliotref13_Meet.j2]
          rw [if_neg (by decide), if_neg (by omega), List.length_map, wrap_small (by omega)]
          exact hk
      refine Ev.three g2 fun k hk => ?_
      simp only [foliotref13_Meet.l1]
      rw [if_pos (by simp; omega)]
      simp only [foliotref13_Meet.j2]
      rw [if_pos (by decide), if_pos (by omega), if_pos (by simp; omega), to54_rd e i (by omega), wrap_small (n := (n : Int) - f) (by omega), wrap_succ i (by omega), wrap_small (n := c - (to54 (rdx e i)).f1) (by simp only [to54]; omega)]
      rw [e1, if_pos hc, if_pos hc, hc]
      by_cases hz : (rdx e i).im = 0
      · rw [if_pos (show (to54 (rdx e i)).f1 = 0 from hz), wrap_small (by omega)]
        rw [if_pos hz] at hp
        rw [hp.2]
        exact hk
      · rw [if_neg (show ¬ (to54 (rdx e i)).f1 = 0 from hz)]
        rw [if_neg hz] at hp
        rw [hp.2]
        exact hk
    · rw [if_neg hc] at hp
      obtain ⟨low, g1, g2, g3, g4, g5⟩ := ih (i + 1) _ _ (by omega) (by omega) (by omega) (by split <;> omega) (by split <;> omega) hp
      refine ⟨low, g1, g2, g3, g4, fun g => ?_⟩
      refine Ev.three (g5 g) fun k hk => ?_
      simp only [foliotref13_Meet.l1]
      rw [if_pos (by simp; omega)]
      simp only [foliotref13_Meet.j2]
      rw [if_pos (by decide), if_pos (by omega), if_pos (by simp; omega), to54_rd e i (by omega), wrap_small (n := (n : Int) - f) (by omega), wrap_succ i (by omega), wrap_small (n := c - (to54 (rdx e i)).f1) (by simp only [to54]; omega)]
      rw [e1, if_neg hc, if_neg hc]
      by_cases hz : (rdx e i).im = 0
      · rw [if_pos hz] at hk
        rw [if_pos (show (to54 (rdx e i)).f1 = 0 from hz), wrap_small (by omega)]
        exact hk
      · rw [if_neg hz] at hk
        rw [if_neg (show ¬ (to54 (rdx e i)).f1 = 0 from hz)]
        exact hk
theorem bwd_none (hk : Kinds e) (hl : e.length ≤ 192) (hn : n ≤ 64) (hf : f ≤ 65) (low : Nat) (r : Int × Int × Bool) (h : Ev (fun k => foliotref13_Meet.l0 k (e.map to54) (n : Int) ((f + 1 : Nat) : Int)) r) : ∀ (j : Nat) (c m : Int), j ≤ e.length → (j : Int) - 192 ≤ c → c ≤ 192 - (j : Int) → 0 ≤ m → m ≤ 400 - (j : Int) →
    ptf (-1) ((n : Int) - f) (e.take j).reverse c m = none → Ev (fun k => foliotref13_Meet.l2 k (e.map to54) (n : Int) (f : Int) m (low : Int) c (-1) ((j : Int) - 1)) r := by
  intro j
  induction j with
  | zero =>
    intro c m hi h1 h2 h3 h4 hp
    refine Ev.three h fun k hk => ?_
    simp only [foliotref13_Meet.l2]
    rw [if_neg (by omega)]
    simp only [foliotref13_Meet.j4]
    rw [if_neg (by decide), if_neg (by decide), wrap_succ f (by omega)]
    exact hk
  | succ j ih =>
    intro c m hi h1 h2 h3 h4 hp
    have hx := (hk.rd j).2
    have hj : (((j + 1 : Nat) : Int) - 1) = (j : Int) := by omega
    rw [rev_cons e j (by omega)] at hp
    unfold ptf at hp
    have e1 : c + (to54 (rdx e j)).f1 = c - (-1) * (rdx e j).im := by simp only [to54]; omega
    by_cases hc : c - (-1) * (rdx e j).im = (n : Int) - f
    · rw [if_pos hc] at hp; cases hp
    · rw [if_neg hc] at hp
      have g := ih _ _ (by omega) (by omega) (by omega) (by split <;> omega) (by split <;> omega) hp
      refine Ev.three g fun k hk => ?_
      simp only [foliotref13_Meet.l2]
      rw [if_pos (by omega)]
      simp only [foliotref13_Meet.j4]
      rw [if_pos (by decide), if_pos (by omega), if_pos (by simp; omega), hj, to54_rd e j (by omega), wrap_small (n := (n : Int) - f) (by omega), wrap_small (n := (j : Int) - 1) (by omega), wrap_small (n := c + (to54 (rdx e j)).f1) (by simp only [to54]; omega)]
      rw [e1, if_neg hc, if_neg hc]
      by_cases hz : (rdx e j).im = 0
      · rw [if_pos hz] at hk
        rw [if_pos (show (to54 (rdx e j)).f1 = 0 from hz), wrap_small (by omega)]
        exact hk
      · rw [if_neg hz] at hk
        rw [if_neg (show ¬ (to54 (rdx e j)).f1 = 0 from hz)]
        exact hk
theorem bwd_some (hk : Kinds e) (hl : e.length ≤ 192) (hn : n ≤ 64) (hf : f ≤ 65) (hne : ∀ x ∈ e, Near x.re) (low : Nat) (hlow : low < e.length) (r : Int × Int × Bool) (a b : Int) : ∀ (j : Nat) (c m : Int), j ≤ e.length → (j : Int) - 192 ≤ c → c ≤ 192 - (j : Int) → 0 ≤ m → m ≤ 400 - (j : Int) →
    ptf (-1) ((n : Int) - f) (e.take j).reverse c m = some (a, b) →
      ((b ≤ f ∧ (rdx e low).re ≤ a) → r = ((rdx e low).re * 65536, a * 65536, true)) → (¬ (b ≤ f ∧ (rdx e low).re ≤ a) → Ev (fun k => foliotref13_Meet.l0 k (e.map to54) (n : Int) ((f + 1 : Nat) : Int)) r) →
      Ev (fun k => foliotref13_Meet.l2 k (e.map to54) (n : Int) (f : Int) m (low : Int) c (-1) ((j : Int) - 1)) r := by
  intro j
  induction j with
  | zero =>
    intro c m hi h1 h2 h3 h4 hp
    cases hp
  | succ j ih =>
    intro c m hi h1 h2 h3 h4 hp hyes hno
    have hx := (hk.rd j).2
    have hj : (((j + 1 : Nat) : Int) - 1) = (j : Int) := by omega
    rw [rev_cons e j (by omega)] at hp
    unfold ptf at hp
    have e1 : c + (to54 (rdx e j)).f1 = c - (-1) * (rdx e j).im := by simp only [to54]; omega
    by_cases hc : c - (-1) * (rdx e j).im = (n : Int) - f
    · rw [if_pos hc] at hp
      simp only [Option.some.injEq, Prod.mk.injEq] at hp
      have near : ∀ i, i < e.length → Near (rdx e i).re := fun i hi => by
        refine hne _ ?_
        unfold rdx
        rw [List.getD_eq_getElem?_getD, List.getElem?_eq_getElem hi]
        exact List.getElem_mem hi
      have nl := near low hlow
      have nj := near j (by omega)
      unfold Near at nl nj
      have fin : Ev (fun k => foliotref13_Meet.l2 k (e.map to54) (n : Int) (f : Int) b (low : Int) ((n : Int) - f) (j : Int) ((j : Int) - 1)) r := by
        have two : ∀ (k : Nat), (∀ q, foliotref13_Meet.l2 (k + 2) (e.map to54) (n : Int) (f : Int) b (low : Int) ((n : Int) - f) (j : Int) ((j : Int) - 1) = some q ↔ foliotref13_Meet.j4 (k + 1) (e.map to54) (n : Int) (f : Int) b (low : Int) ((n : Int) - f) (j : Int) ((j : Int) - 1) false = some q) := fun k q => by
          simp only [foliotref13_Meet.l2]
          by_cases h0 : (j : Int) - 1 ≥ 0
          · rw [if_pos h0, decide_eq_false (by omega)]
          · rw [if_neg h0]
        by_cases hg : b ≤ f ∧ (rdx e low).re ≤ a
        · have hr := hyes hg
          refine Ev.end2 fun k => ?_
          rw [two]
          simp only [foliotref13_Meet.j4]
          rw [if_neg (by decide), if_pos (by omega), if_pos hg.1, if_pos (by omega), if_pos (by simp; omega), if_pos (by omega), if_pos (by simp; omega), to54_rd e low hlow, to54_rd e j (by omega)]
          rw [if_pos (show (to54 (rdx e low)).f0 ≤ (to54 (rdx e j)).f0 from by rw [← hp.1] at hg; exact hg.2), hr, ← hp.1]
          simp only [to54]
          rw [wrap_small (by omega), wrap_small (by omega)]
        · refine Ev.three (hno hg) fun k hk => ?_
          rw [two]
          simp only [foliotref13_Meet.j4]
          rw [if_neg (by decide), if_pos (by omega), wrap_succ f (by omega)]
          by_cases hb : b ≤ f
          · rw [if_pos hb, if_pos (by omega), if_pos (by simp; omega), if_pos (by omega), if_pos (by simp; omega), to54_rd e low hlow, to54_rd e j (by omega), if_neg (show ¬ ((to54 (rdx e low)).f0 ≤ (to54 (rdx e j)).f0) from fun h => hg ⟨hb, by rw [← hp.1]; exact h⟩)]
            exact hk
          · rw [if_neg hb]
            exact hk
      refine Ev.three fin fun k hk => ?_
      simp only [foliotref13_Meet.l2]
      rw [if_pos (by omega)]
      simp only [foliotref13_Meet.j4]
      rw [if_pos (by decide), if_pos (by omega), if_pos (by simp; omega), hj, to54_rd e j (by omega), wrap_small (n := (n : Int) - f) (by omega), wrap_small (n := (j : Int) - 1) (by omega), wrap_small (n := c + (to54 (rdx e j)).f1) (by simp only [to54]; omega)]
      rw [e1, if_pos hc, if_pos hc, hc]
      by_cases hz : (rdx e j).im = 0
      · rw [if_pos (show (to54 (rdx e j)).f1 = 0 from hz), wrap_small (by omega)]
        rw [if_pos hz] at hp
        rw [hp.2]
        exact hk
      · rw [if_neg (show ¬ (to54 (rdx e j)).f1 = 0 from hz)]
        rw [if_neg hz] at hp
        rw [hp.2]
        exact hk
    · rw [if_neg hc] at hp
      have g := ih _ _ (by omega) (by omega) (by omega) (by split <;> omega) (by split <;> omega) hp hyes hno
      refine Ev.three g fun k hk => ?_
      simp only [foliotref13_Meet.l2]
      rw [if_pos (by omega)]
      simp only [foliotref13_Meet.j4]
      rw [if_pos (by decide), if_pos (by omega), if_pos (by simp; omega), hj, to54_rd e j (by omega), wrap_small (n := (n : Int) - f) (by omega), wrap_small (n := (j : Int) - 1) (by omega), wrap_small (n := c + (to54 (rdx e j)).f1) (by simp only [to54]; omega)]
      rw [e1, if_neg hc, if_neg hc]
      by_cases hz : (rdx e j).im = 0
      · rw [if_pos hz] at hk
        rw [if_pos (show (to54 (rdx e j)).f1 = 0 from hz), wrap_small (by omega)]
        exact hk
      · rw [if_neg hz] at hk
        rw [if_neg (show ¬ (to54 (rdx e j)).f1 = 0 from hz)]
        exact hk
theorem meet_loop (hk : Kinds e) (hl : e.length ≤ 192) (hn : n ≤ 64) (hne : ∀ x ∈ e, Near x.re) : ∀ (d f : Nat), f + d = 65 → Ev (fun k => foliotref13_Meet.l0 k (e.map to54) (n : Int) (f : Int)) (meetL e n d f) := by
  intro d
  induction d with
  | zero =>
    intro f hf
    refine Ev.end1 fun k => ?_
    simp only [foliotref13_Meet.l0]
    rw [wrap_small (by omega), if_neg (by omega)]
    rfl
  | succ d ih =>
    intro f hf
    have next := ih (f + 1) (by omega)
    by_cases h2 : 2 * f < n
    · have start : Ev (fun k => foliotref13_Meet.l1 k (e.map to54) (n : Int) (f : Int) 0 (-1) 0 0) (meetL e n (d + 1) f) := by
        show Ev _ (if 2 * f < n then _ else _)
        rw [if_pos h2]
        rcases hp : ptf 1 ((n : Int) - f) e 0 0 with _ | ⟨a, b⟩
        · have hg : goodF (ptRes none) (ptRes (ptf (-1) ((n : Int) - f) e.reverse 0 0)) f = false := rfl
          rw [hg, if_neg (by decide)]
          exact fwd_none e n f hk hl hn (by omega) _ next e.length 0 0 0 (by omega) (by omega) (by omega) (by omega) (by omega) hp
        · have key : ∀ r, _ := fun r => fwd_some e n f hk hl hn (by omega) r a b e.length 0 0 0 (by omega) (by omega) (by omega) (by omega) (by omega) hp
          rcases hq : ptf (-1) ((n : Int) - f) e.reverse 0 0 with _ | ⟨a2, b2⟩
          · have hg : goodF (ptRes (some (a, b))) (ptRes none) f = false := rfl
            rw [hg, if_neg (by decide)]
            obtain ⟨low, g1, g2, g3, g4, g5⟩ := key (meetL e n d (f + 1))
            refine g5 (bwd_none e n f hk hl hn (by omega) low _ next e.length 0 b (by omega) (by omega) (by omega) g3 (by omega) ?_)
            rw [List.take_length, ptf_shift, hq]
            rfl
          · obtain ⟨low, g1, g2, g3, g4, g5⟩ := key (if goodF (ptRes (some (a, b))) (ptRes (some (a2, b2))) f = true then ((ptRes (some (a, b))).1 * 65536, (ptRes (some (a2, b2))).1 * 65536, true) else meetL e n d (f + 1))
            have hgood : goodF (ptRes (some (a, b))) (ptRes (some (a2, b2))) f = (decide (b + b2 ≤ (f : Int)) && decide (a ≤ a2)) := rfl
            refine g5 (bwd_some e n f hk hl hn (by omega) hne low g1 _ a2 (b2 + b) e.length 0 b (by omega) (by omega) (by omega) g3 (by omega) ?_ ?_ ?_)
            · rw [List.take_length, ptf_shift, hq]
              rfl
            · intro hh
              rw [g2] at hh ⊢
              rw [hgood, decide_eq_true (show b + b2 ≤ (f : Int) by omega), decide_eq_true hh.2]
              rfl
            · intro hh
              rw [g2] at hh
              have : (decide (b + b2 ≤ (f : Int)) && decide (a ≤ a2)) = false := by
                rw [Bool.and_eq_false_iff]
                by_cases h1 : b + b2 ≤ (f : Int)
                · exact .inr (decide_eq_false fun h => hh ⟨by omega, h⟩)
                · exact .inl (decide_eq_false h1)
              rw [hgood, this, if_neg (by decide)]
              exact next
      refine Ev.two start fun k hk => ?_
      simp only [foliotref13_Meet.l0]
      rw [wrap_small (by omega), if_pos (by omega)]
      exact hk
    · refine Ev.end1 fun k => ?_
      simp only [foliotref13_Meet.l0]
      rw [wrap_small (by omega), if_neg (by omega)]
      show _ = some (if 2 * f < n then _ else _)
      rw [if_neg h2]
end
theorem refMeet_ev (l : List S26) (hn : l.length ≤ 9223372036854775807) : Ev (fun k => foliotref13_Meet.f k l) (meetOf l) := by
  unfold foliotref13_Meet.f
  refine Ev.bind (all_ev l hn) (Ev.bind (those_ev l hn) ?_)
  have hl := ends_length l
  have hn' := thatOf_length l
  exact meet_loop (endsOf l) (thatOf l).length (ends_kinds l) (by omega) hn' (ends_near l) 65 0 rfl
end Go.Proofs.Ytlhecfleanppmaa.Pr
end
section
set_option linter.unusedVariables false
namespace Go.Proofs.Ytlhecfleanppmaa.Pr
open Go.RowKit Go.Proofs.YtlhecfleanppmaaW.PrintWords Go.Proofs.YtlhecfleanppmaaW.PrintLast Go.Proofs.YtlhecfleanppmaaW.PrintMore Go.Proofs.YFl

/-- a candidate's middle, in whole units -/
def mid (x : S26) : Int := x.f1 / 65536 * 65536
def inB (lo hi : Int) (x : S26) : Bool := decide (lo ≤ mid x) && decide (mid x ≤ hi)
def survOf (l : List S26) : List S26 := if (meetOf l).2.2 = true then (thatOf l).filter (inB (meetOf l).1 (meetOf l).2.1) else []
theorem rd_mem (l : List S26) (i : Nat) (h : i < l.length) : rd_T26 l (i : Int) ∈ l := by
  unfold rd_T26
  rw [Int.toNat_natCast, List.getD_eq_getElem?_getD, List.getElem?_eq_getElem h]
  exact List.getElem_mem h
theorem surv_loop (c : List S26) (hl : c.length ≤ 64) (hc : ∀ x ∈ c, cnt x = true) (lo hi : Int) : ∀ (d i : Nat) (out : List S26), i + d = c.length → out.length ≤ i →
    Ev (fun k => choose_Survivors.l0 k lo hi out c (c.length : Int) (i : Int)) (out ++ (c.drop i).filter (inB lo hi)) := by
  intro d
  induction d with
  | zero =>
    intro i out hi' ho
    refine Ev.end1 fun k => ?_
    simp only [choose_Survivors.l0]
    rw [if_neg (by omega), List.drop_eq_nil_of_le (by omega), List.filter_nil, List.append_nil]
  | succ d ih =>
    intro i out hi' ho
    have hb := cnt_bounds (hc _ (rd_mem c i (by omega)))
    have hw : wrap64 ((rd_T26 c (i : Int)).f1 / 65536 * 65536) = mid (rd_T26 c (i : Int)) := wrap_small (by omega)
    rw [rd_drop c i (by omega)]
    by_cases h1 : lo ≤ mid (rd_T26 c (i : Int))
    · by_cases h2 : mid (rd_T26 c (i : Int)) ≤ hi
      · rw [List.filter_cons_of_pos (by simp [inB, h1, h2]), List.append_cons]
        refine Ev.two (ih (i + 1) (out ++ [rd_T26 c (i : Int)]) (by omega) (by simp; omega)) fun k hk => ?_
        simp only [choose_Survivors.l0]
        rw [if_pos (by omega), if_pos (by omega), if_pos (by omega), hw, if_pos h1, if_pos h2, if_pos (by omega), wrap_succ i (by omega), S26.eta]
        exact hk
      · rw [List.filter_cons_of_neg (by simp [inB, h2])]
        refine Ev.two (ih (i + 1) out (by omega) (by omega)) fun k hk => ?_
        simp only [choose_Survivors.l0]
        rw [if_pos (by omega), if_pos (by omega), if_pos (by omega), hw, if_pos h1, if_neg h2, wrap_succ i (by omega)]
        exact hk
    · rw [List.filter_cons_of_neg (by simp [inB, h1])]
      refine Ev.two (ih (i + 1) out (by omega) (by omega)) fun k hk => ?_
      simp only [choose_Survivors.l0]
      rw [if_pos (by omega), if_pos (by omega), if_pos (by omega), hw, if_neg h1, wrap_succ i (by omega)]
      exact hk
theorem surv_ev (l : List S26) (hn : l.length ≤ 9223372036854775807) : Ev (fun k => choose_Survivors.f k l) (survOf l) := by
  unfold choose_Survivors.f survOf
  have hm : choose_Meet.f l = some (meetOf l) := rfl
  rw [hm]
  simp only [Option.bind_some]
  by_cases hok : (meetOf l).2.2 = true
  · simp only [hok, if_true]
    refine Ev.bind (that_ev l hn) ?_
    exact surv_loop (thatOf l) (thatOf_length l) (thatOf_cnt l) _ _ (thatOf l).length 0 [] (by omega) (by simp)
  · simp only [hok, if_false, Bool.false_eq_true]
    exact Ev.now _
theorem refsurv_loop (c : List S26) (hl : c.length ≤ 64) (hc : ∀ x ∈ c, cnt x = true) (lo hi : Int) : ∀ (d i : Nat) (out : List S26), i + d = c.length → out.length ≤ i →
    Ev (fun k => foliotref13_Survivors.l0 k lo hi true out c (i : Int)) (out ++ (c.drop i).filter (inB lo hi)) := by
  intro d
  induction d with
  | zero =>
    intro i out hi' ho
    refine Ev.end2 fun k => ?_
    simp only [foliotref13_Survivors.l0]
    rw [if_neg (by omega)]
    simp only [foliotref13_Survivors.j1]
    rw [if_neg (by decide), List.drop_eq_nil_of_le (by omega), List.filter_nil, List.append_nil]
  | succ d ih =>
    intro i out hi' ho
    have hb := cnt_bounds (hc _ (rd_mem c i (by omega)))
    have hd : foliotref13_down.f (rd_T26 c (i : Int)).f1 = some ((rd_T26 c (i : Int)).f1 / 65536) := down_eq _ (by omega)
    have hw : wrap64 ((rd_T26 c (i : Int)).f1 / 65536 * 65536) = mid (rd_T26 c (i : Int)) := wrap_small (by omega)
    rw [rd_drop c i (by omega)]
    by_cases h1 : lo ≤ mid (rd_T26 c (i : Int))
    · by_cases h2 : mid (rd_T26 c (i : Int)) ≤ hi
      · rw [List.filter_cons_of_pos (by simp [inB, h1, h2]), List.append_cons]
        refine Ev.three (ih (i + 1) (out ++ [rd_T26 c (i : Int)]) (by omega) (by simp; omega)) fun k hk => ?_
        simp only [foliotref13_Survivors.l0]
        rw [if_pos (by omega)]
        simp only [foliotref13_Survivors.j1]
        rw [if_pos trivial, if_pos (by omega), if_pos (by omega), hd]
        simp only [Option.bind_some]
        rw [hw, if_pos (show mid (rd_T26 c (i : Int)) ≥ lo from h1), if_pos h2, if_pos (by omega), wrap_succ i (by omega), S26.eta]
        exact hk
      · rw [List.filter_cons_of_neg (by simp [inB, h2])]
        refine Ev.three (ih (i + 1) out (by omega) (by omega)) fun k hk => ?_
        simp only [foliotref13_Survivors.l0]
        rw [if_pos (by omega)]
        simp only [foliotref13_Survivors.j1]
        rw [if_pos trivial, if_pos (by omega), if_pos (by omega), hd]
        simp only [Option.bind_some]
        rw [hw, if_pos (show mid (rd_T26 c (i : Int)) ≥ lo from h1), if_neg h2, wrap_succ i (by omega)]
        exact hk
    · rw [List.filter_cons_of_neg (by simp [inB, h1])]
      refine Ev.three (ih (i + 1) out (by omega) (by omega)) fun k hk => ?_
      simp only [foliotref13_Survivors.l0]
      rw [if_pos (by omega)]
      simp only [foliotref13_Survivors.j1]
      rw [if_pos trivial, if_pos (by omega), if_pos (by omega), hd]
      simp only [Option.bind_some]
      rw [hw, if_neg (show ¬ (mid (rd_T26 c (i : Int)) ≥ lo) from h1), wrap_succ i (by omega)]
      exact hk
theorem refsurv_ev (l : List S26) (hn : l.length ≤ 9223372036854775807) : Ev (fun k => foliotref13_Survivors.f k l) (survOf l) := by
  unfold foliotref13_Survivors.f survOf
  refine Ev.bind (refMeet_ev l hn) (Ev.bind (those_ev l hn) ?_)
  by_cases hok : (meetOf l).2.2 = true
  · simp only [hok, if_true]
    exact refsurv_loop (thatOf l) (thatOf_length l) (thatOf_cnt l) _ _ (thatOf l).length 0 [] (by omega) (by simp)
  · have hok' : (meetOf l).2.2 = false := by simpa using hok
    simp only [hok', Bool.false_eq_true, if_false]
    refine Ev.end2 fun k => ?_
    simp only [foliotref13_Survivors.l0]
    split <;> simp only [foliotref13_Survivors.j1] <;> rw [if_neg (by decide)]
end Go.Proofs.Ytlhecfleanppmaa.Pr
end
section
set_option linter.unusedVariables false
namespace Go.Proofs.Ytlhecfleanppmaa.Pr
open Go.RowKit Go.Proofs.YtlhecfleanppmaaW.PrintWords Go.Proofs.YtlhecfleanppmaaW.PrintLast Go.Proofs.YtlhecfleanppmaaW.PrintMore Go.Proofs.YFl Go.Proofs.Ytlhecfleanppmaa.Rw

theorem sameCands_loop (a : List S26) (hn : a.length ≤ 9223372036854775807) : ∀ (d i : Nat), i + d = a.length → Ev (fun k => foliotlaw13_sameCands.l0 k a a (i : Int)) true := by
  intro d
  induction d with
  | zero =>
    intro i hi
    refine Ev.end1 fun k => ?_
    simp only [foliotlaw13_sameCands.l0]
    rw [if_neg (by omega)]
  | succ d ih =>
    intro i hi
    refine Ev.two (ih (i + 1) (by omega)) fun k hk => ?_
    simp only [foliotlaw13_sameCands.l0]
    rw [if_pos (by omega), if_pos (by omega), if_pos (by omega), if_neg (by simp), wrap_succ i (by omega)]
    exact hk
theorem sameCands_ev (a : List S26) (hn : a.length ≤ 9223372036854775807) : Ev (fun k => foliotlaw13_sameCands.f k a a) true := by
  unfold foliotlaw13_sameCands.f
  simp only [if_true]
  exact sameCands_loop a hn a.length 0 (by omega)
theorem same_self (a : List Cx) : ∀ (d i : Nat), sameFrom a a d i = true
  | 0, _ => rfl
  | d + 1, i => by unfold sameFrom; rw [same_self a d (i + 1)]; simp
theorem all_small {l : List Cx} (h : AllSmall l) : l.all smallCx = true := by
  rw [List.all_eq_true]
  intro x hx
  have := h x hx
  simp only [smallCx, Bool.and_eq_true, smallB_iff]
  exact this
theorem sameEnds_self (a : List Cx) (h : AllSmall a) : foliotlaw13_sameEnds.f a a = some true := by
  unfold foliotlaw13_sameEnds.f
  rw [all_small h]
  simp only [Bool.and_self, if_true]
  unfold same
  rw [same_self]
  simp
theorem surv_length (l : List S26) : (survOf l).length ≤ 64 := by
  unfold survOf
  split
  · exact Nat.le_trans (List.length_filter_le _ _) (thatOf_length l)
  · simp
end Go.Proofs.Ytlhecfleanppmaa.Pr
end
section
set_option linter.unusedVariables false
namespace Go.Proofs.Ytlhecfleanppmaa.Pr
open Go.RowKit Go.Proofs.YtlhecfleanppmaaW.PrintWords Go.Proofs.YtlhecfleanppmaaW.PrintLast Go.Proofs.YtlhecfleanppmaaW.PrintMore Go.Proofs.YFl

/-- how many lows, middles, highs -/
def nl (l : List Cx) : Nat := l.countP fun e => decide (e.im = -1)
def nm (l : List Cx) : Nat := l.countP fun e => decide (e.im = 0)
def nh (l : List Cx) : Nat := l.countP fun e => decide (e.im = 1)
def K3 (l : List Cx) : Prop := ∀ x ∈ l, x.im = -1 ∨ x.im = 0 ∨ x.im = 1
theorem K3.tail {x : Cx} {l : List Cx} (h : K3 (x :: l)) : K3 l := fun y hy => h y (List.mem_cons_of_mem _ hy)
theorem nl_cons (x : Cx) (l : List Cx) : nl (x :: l) = nl l + if x.im = -1 then 1 else 0 := by unfold nl; rw [List.countP_cons]; simp
theorem nm_cons (x : Cx) (l : List Cx) : nm (x :: l) = nm l + if x.im = 0 then 1 else 0 := by unfold nm; rw [List.countP_cons]; simp
theorem nh_cons (x : Cx) (l : List Cx) : nh (x :: l) = nh l + if x.im = 1 then 1 else 0 := by unfold nh; rw [List.countP_cons]; simp
theorem ptf_split (W : Int) : ∀ (R : List Cx) (c m a b : Int), K3 R → c < W → ptf 1 W R c m = some (a, b) →
    ∃ R1 e R2, R = R1 ++ e :: R2 ∧ e.re = a ∧ e.im = -1 ∧ c + (nl R1 : Int) - (nh R1 : Int) + 1 = W ∧ b = m + (nm R1 : Int)
  | [], c, m, a, b, _, _, h => by cases h
  | x :: R, c, m, a, b, hk, hc, h => by
    have hx := hk x (by simp)
    unfold ptf at h
    by_cases hw : c - 1 * x.im = W
    · rw [if_pos hw] at h
      simp only [Option.some.injEq, Prod.mk.injEq] at h
      have h1 : x.im = -1 := by omega
      refine ⟨[], x, R, rfl, h.1, h1, ?_, ?_⟩
      · show c + ((0 : Nat) : Int) - ((0 : Nat) : Int) + 1 = W
        omega
      · show b = m + ((0 : Nat) : Int)
        rw [if_neg (by omega)] at h
        omega
    · rw [if_neg hw] at h
      obtain ⟨R1, e, R2, g1, g2, g3, g4, g5⟩ := ptf_split W R _ _ a b hk.tail (by omega) h
      refine ⟨x :: R1, e, R2, by rw [g1]; rfl, g2, g3, ?_, ?_⟩
      · rw [nl_cons, nh_cons]
        rcases hx with h | h | h <;> simp [h] at g4 ⊢ <;> omega
      · rw [nm_cons, g5]
        rcases hx with h | h | h <;> simp [h] <;> omega
theorem ptf_none_all (W : Int) : ∀ (R : List Cx) (c m : Int), K3 R → c < W → ptf 1 W R c m = none → ∀ (R1 R2 : List Cx), R = R1 ++ R2 → c + (nl R1 : Int) - (nh R1 : Int) < W
  | R, c, m, _, hc, _, [], R2, _ => by
    show c + ((0 : Nat) : Int) - ((0 : Nat) : Int) < W
    omega
  | [], c, m, _, hc, _, y :: R1, R2, h => by simp at h
  | x :: R, c, m, hk, hc, h, y :: R1, R2, he => by
    have hx := hk x (by simp)
    rw [List.cons_append, List.cons.injEq] at he
    obtain ⟨rfl, he⟩ := he
    unfold ptf at h
    by_cases hw : c - 1 * x.im = W
    · rw [if_pos hw] at h; cases h
    · rw [if_neg hw] at h
      have g := ptf_none_all W R _ _ hk.tail (by omega) h R1 R2 he
      rw [nl_cons, nh_cons]
      rcases hx with h | h | h <;> simp [h] at g ⊢ <;> omega

/-! ### sorted ends -/
theorem Sorted.parts {a b : List Cx} (h : Sorted (a ++ b)) : Sorted a ∧ Sorted b ∧ ∀ x ∈ a, ∀ y ∈ b, aheadB y x = false := List.pairwise_append.1 h
theorem countP_none {p : Cx → Bool} {l : List Cx} (h : ∀ x ∈ l, p x = false) : l.countP p = 0 := by
  rw [List.countP_eq_zero]
  intro x hx
  rw [h x hx]
  decide
theorem countP_same {p q : Cx → Bool} {l : List Cx} (h : ∀ x ∈ l, p x = q x) : l.countP p = l.countP q := by
  induction l with
  | nil => rfl
  | cons a l ih =>
    rw [List.countP_cons, List.countP_cons, ih (fun x hx => h x (List.mem_cons_of_mem _ hx)), h a (by simp)]
def lowsTo (l : List Cx) (a : Int) : Nat := l.countP fun e => decide (e.im = -1) && decide (e.re ≤ a)
def highsTo (l : List Cx) (a : Int) : Nat := l.countP fun e => decide (e.im = 1) && decide (e.re < a)
def midsTo (l : List Cx) (a : Int) : Nat := l.countP fun e => decide (e.im = 0) && decide (e.re < a)
theorem low_point {E : List Cx} (hs : Sorted E) (hk : K3 E) {W a b : Int} (hW : 1 ≤ W) (h : ptf 1 W E 0 0 = some (a, b)) :
    (∃ e ∈ E, e.im = -1 ∧ e.re = a) ∧ b = (midsTo E a : Int) ∧ W ≤ (lowsTo E a : Int) - (highsTo E a : Int) := by
  obtain ⟨R1, e, R2, rfl, h2, h3, h4, h5⟩ := ptf_split W E 0 0 a b hk (by omega) h
  have hp := hs.parts
  have hR1 : ∀ x ∈ R1, x.re < a ∨ (x.re = a ∧ x.im ≤ -1) := fun x hx => by
    have := hp.2.2 x hx e (by simp)
    rw [ahead_false] at this
    omega
  have hR2 : ∀ x ∈ e :: R2, a < x.re ∨ (a = x.re ∧ -1 ≤ x.im) := fun x hx => by
    rcases List.mem_cons.1 hx with rfl | hx
    · omega
    · have := (List.pairwise_cons.1 hp.2.1).1 x hx
      rw [ahead_false] at this
      omega
  refine ⟨⟨e, by simp, h3, h2⟩, ?_, ?_⟩
  · rw [h5]
    unfold midsTo
    rw [List.countP_append, countP_none (l := e :: R2) (fun x hx => ?_), countP_same (l := R1) (q := fun e => decide (e.im = 0)) (fun x hx => ?_)]
    · show 0 + ((R1.countP fun e => decide (e.im = 0) : Nat) : Int) = _
      omega
    · have := hR1 x hx
      by_cases h0 : x.im = 0
      · simp [h0]; omega
      · simp [h0]
    · have := hR2 x hx
      by_cases h0 : x.im = 0
      · simp [h0]; omega
      · simp [h0]
  · have e1 : lowsTo (R1 ++ e :: R2) a ≥ nl R1 + 1 := by
      unfold lowsTo
      rw [List.countP_append, List.countP_cons, countP_same (l := R1) (q := fun e => decide (e.im = -1)) (fun x hx => ?_)]
      · have : (decide (e.im = -1) && decide (e.re ≤ a)) = true := by simp [h3, h2]
        rw [this]
        simp only [if_true]
        show (R1.countP fun e => decide (e.im = -1)) + _ ≥ nl R1 + 1
        unfold nl
        omega
      · have := hR1 x hx
        by_cases h0 : x.im = -1
        · simp [h0]; omega
        · simp [h0]
    have e2 : highsTo (R1 ++ e :: R2) a ≤ nh R1 := by
      unfold highsTo
      rw [List.countP_append, countP_none (l := e :: R2) (fun x hx => ?_)]
      · unfold nh
        rw [Nat.add_zero]
        exact List.countP_mono_left fun x _ hx => by simp only [Bool.and_eq_true] at hx; exact hx.1
      · have := hR2 x hx
        by_cases h0 : x.im = 1
        · simp [h0]; omega
        · simp [h0]
    omega
theorem filter_sorted {p : Cx → Bool} (hp : ∀ x y, aheadB y x = false → p y = true → p x = true) : ∀ {l : List Cx}, Sorted l → l = l.filter p ++ l.filter (fun x => !p x)
  | [], _ => rfl
  | x :: l, h => by
    have h1 := List.pairwise_cons.1 h
    by_cases hx : p x = true
    · rw [List.filter_cons_of_pos hx, List.filter_cons_of_neg (by simp [hx]), List.cons_append, ← filter_sorted hp h1.2]
    · have hall : ∀ y ∈ l, p y = false := fun y hy => by
        cases hy2 : p y
        · rfl
        · exact absurd (hp x y (h1.1 y hy) hy2) hx
      rw [List.filter_cons_of_neg hx, List.filter_cons_of_pos (by simpa using hx), List.filter_eq_nil_iff.2 (fun y hy => by rw [hall y hy]; decide), List.nil_append, List.filter_eq_self.2 (fun y hy => by rw [hall y hy]; rfl)]
theorem low_there {E : List Cx} (hs : Sorted E) (hk : K3 E) {W : Int} (hW : 1 ≤ W) (x : Int) (hx : W ≤ (lowsTo E x : Int) - (highsTo E x : Int)) : ptf 1 W E 0 0 ≠ none := by
  intro hnone
  have hsp := filter_sorted (p := fun e => decide (e.re < x) || (decide (e.re = x) && decide (e.im ≤ 0))) (fun u v huv hv => by
    rw [ahead_false] at huv
    simp only [Bool.or_eq_true, Bool.and_eq_true, decide_eq_true_eq] at hv ⊢
    omega) hs
  have h1 := ptf_none_all W E 0 0 hk (by omega) hnone _ _ hsp
  have e1 : nl (E.filter fun e => decide (e.re < x) || (decide (e.re = x) && decide (e.im ≤ 0))) = lowsTo E x := by
    unfold nl lowsTo
    rw [List.countP_filter]
    refine countP_same fun y hy => ?_
    by_cases h0 : y.im = -1
    · simp only [h0, decide_true, Bool.true_and]
      rw [Bool.eq_iff_iff]
      simp only [Bool.or_eq_true, Bool.and_eq_true, decide_eq_true_eq]
      omega
    · simp [h0]
  have e2 : nh (E.filter fun e => decide (e.re < x) || (decide (e.re = x) && decide (e.im ≤ 0))) = highsTo E x := by
    unfold nh highsTo
    rw [List.countP_filter]
    refine countP_same fun y hy => ?_
    by_cases h0 : y.im = 1
    · simp only [h0, decide_true, Bool.true_and]
      rw [Bool.eq_iff_iff]
      simp only [Bool.or_eq_true, Bool.and_eq_true, decide_eq_true_eq]
      omega
    · simp [h0]
  omega
/-! ### from above -/
def neg (e : Cx) : Cx := ⟨-e.re, -e.im⟩
theorem ptf_neg (W : Int) : ∀ (l : List Cx) (c m : Int), ptf (-1) W l c m = (ptf 1 W (l.map neg) c m).map fun p => (-p.1, p.2)
  | [], _, _ => rfl
  | e :: l, c, m => by
    rw [List.map_cons]
    unfold ptf
    have e1 : c - 1 * (neg e).im = c - -1 * e.im := by simp only [neg]; omega
    have e2 : ((neg e).im = 0) = (e.im = 0) := by simp only [neg]; exact propext ⟨fun h => by omega, fun h => by omega⟩
    rw [e1]
    simp only [e2]
    by_cases h : c - -1 * e.im = W
    · rw [if_pos h, if_pos h]
      simp [neg]
    · rw [if_neg h, if_neg h, ptf_neg W l]
theorem sorted_neg {E : List Cx} (hs : Sorted E) : Sorted (E.reverse.map neg) := by
  unfold Sorted
  rw [List.pairwise_map, List.pairwise_reverse]
  exact hs.imp fun {a b} h => by
    rw [ahead_false] at h ⊢
    simp only [neg]
    omega
theorem K3.neg {E : List Cx} (hk : K3 E) : K3 (E.reverse.map neg) := fun x hx => by
  obtain ⟨y, hy, rfl⟩ := List.mem_map.1 hx
  have := hk y (List.mem_reverse.1 hy)
  simp only [Pr.neg]
  omega
def highsFrom (l : List Cx) (a : Int) : Nat := l.countP fun e => decide (e.im = 1) && decide (a ≤ e.re)
def lowsFrom (l : List Cx) (a : Int) : Nat := l.countP fun e => decide (e.im = -1) && decide (a < e.re)
def midsFrom (l : List Cx) (a : Int) : Nat := l.countP fun e => decide (e.im = 0) && decide (a < e.re)
theorem neg_counts (E : List Cx) (a : Int) : lowsTo (E.reverse.map neg) (-a) = highsFrom E a ∧ highsTo (E.reverse.map neg) (-a) = lowsFrom E a ∧ midsTo (E.reverse.map neg) (-a) = midsFrom E a := by
  unfold lowsTo highsTo midsTo highsFrom lowsFrom midsFrom
  refine ⟨?_, ?_, ?_⟩ <;> rw [List.countP_map, List.countP_reverse] <;> refine countP_same fun y hy => ?_ <;> rw [Bool.eq_iff_iff] <;> simp only [Function.comp_apply, neg, Bool.and_eq_true, decide_eq_true_eq] <;> exact ⟨fun h => (fun h1 h2 => ⟨by omega, by omega⟩) (of_decide_eq_true h.1) (of_decide_eq_true h.2), fun h => ⟨decide_eq_true (by omega), decide_eq_true (by omega)⟩⟩
theorem high_point {E : List Cx} (hs : Sorted E) (hk : K3 E) {W a b : Int} (hW : 1 ≤ W) (h : ptf (-1) W E.reverse 0 0 = some (a, b)) :
    (∃ e ∈ E, e.im = 1 ∧ e.re = a) ∧ b = (midsFrom E a : Int) ∧ W ≤ (highsFrom E a : Int) - (lowsFrom E a : Int) := by
  rw [ptf_neg] at h
  rcases hq : ptf 1 W (E.reverse.map neg) 0 0 with _ | ⟨a', b'⟩
  · rw [hq] at h; cases h
  · rw [hq] at h
    simp only [Option.map_some, Option.some.injEq, Prod.mk.injEq] at h
    obtain ⟨ha, rfl⟩ := h
    obtain ⟨⟨e, he, h1, h2⟩, h3, h4⟩ := low_point (sorted_neg hs) hk.neg hW hq
    obtain ⟨y, hy, rfl⟩ := List.mem_map.1 he
    have hc := neg_counts E a
    rw [show a' = -a by omega] at h3 h4
    rw [hc.1, hc.2.1] at h4
    rw [hc.2.2] at h3
    simp only [neg] at h1 h2
    exact ⟨⟨y, List.mem_reverse.1 hy, by omega, by omega⟩, h3, h4⟩
theorem high_there {E : List Cx} (hs : Sorted E) (hk : K3 E) {W : Int} (hW : 1 ≤ W) (x : Int) (hx : W ≤ (highsFrom E x : Int) - (lowsFrom E x : Int)) : ptf (-1) W E.reverse 0 0 ≠ none := by
  rw [ptf_neg]
  have hc := neg_counts E x
  have := low_there (sorted_neg hs) hk.neg hW (-x) (by rw [hc.1, hc.2.1]; exact hx)
  intro h
  rw [Option.map_eq_none_iff] at h
  exact this h
end Go.Proofs.Ytlhecfleanppmaa.Pr
end
section
set_option linter.unusedVariables false
namespace Go.Proofs.Ytlhecfleanppmaa.Pr
open Go.RowKit Go.Proofs.YtlhecfleanppmaaW.PrintWords Go.Proofs.YtlhecfleanppmaaW.PrintLast Go.Proofs.YtlhecfleanppmaaW.PrintMore Go.Proofs.YFl

def lo (x : S26) : Int := (x.f1 - x.f2) / 65536
def md (x : S26) : Int := x.f1 / 65536
def hi (x : S26) : Int := -(-(x.f1 + x.f2) / 65536)
theorem lo_md_hi {x : S26} (h : 0 ≤ x.f2) : lo x ≤ md x ∧ md x ≤ hi x := by unfold lo md hi; omega
/-- how many intervals hold a place -/
def depth (C : List S26) (a : Int) : Nat := C.countP fun x => decide (lo x ≤ a) && decide (a ≤ hi x)
theorem count_three (p : Cx → Bool) : ∀ C : List S26, (C.flatMap three).countP p = C.countP (fun x => p ⟨lo x, -1⟩) + C.countP (fun x => p ⟨md x, 0⟩) + C.countP (fun x => p ⟨hi x, 1⟩)
  | [] => rfl
  | x :: C => by
    rw [List.flatMap_cons, List.countP_append, count_three p C, List.countP_cons, List.countP_cons, List.countP_cons]
    have e : (three x).countP p = (if p ⟨lo x, -1⟩ = true then 1 else 0) + (if p ⟨md x, 0⟩ = true then 1 else 0) + (if p ⟨hi x, 1⟩ = true then 1 else 0) := by
      show List.countP p [⟨lo x, -1⟩, ⟨md x, 0⟩, ⟨hi x, 1⟩] = _
      rw [List.countP_cons, List.countP_cons, List.countP_cons, List.countP_nil]
      omega
    rw [e]
    omega
theorem count_ends (p : Cx → Bool) (l : List S26) : (endsOf l).countP p = (thatOf l).countP (fun x => p ⟨lo x, -1⟩) + (thatOf l).countP (fun x => p ⟨md x, 0⟩) + (thatOf l).countP (fun x => p ⟨hi x, 1⟩) := by
  rw [(ends_perm l).countP_eq, rawEnds, count_three]
theorem countP_no {C : List S26} {p : S26 → Bool} (h : ∀ x, p x = false) : C.countP p = 0 := by
  rw [List.countP_eq_zero]
  intro x _
  rw [h x]
  decide
theorem countP_eq' {C : List S26} {p q : S26 → Bool} (h : ∀ x ∈ C, p x = q x) : C.countP p = C.countP q := by
  induction C with
  | nil => rfl
  | cons a C ih => rw [List.countP_cons, List.countP_cons, ih (fun x hx => h x (List.mem_cons_of_mem _ hx)), h a (by simp)]
theorem lowsTo_eq (l : List S26) (a : Int) : lowsTo (endsOf l) a = (thatOf l).countP fun x => decide (lo x ≤ a) := by
  unfold lowsTo
  rw [count_ends, countP_no (p := fun x => _ && decide (md x ≤ a)) (fun x => by simp), countP_no (p := fun x => _ && decide (hi x ≤ a)) (fun x => by simp)]
  simp
theorem highsTo_eq (l : List S26) (a : Int) : highsTo (endsOf l) a = (thatOf l).countP fun x => decide (hi x < a) := by
  unfold highsTo
  rw [count_ends, countP_no (p := fun x => _ && decide (md x < a)) (fun x => by simp), countP_no (p := fun x => _ && decide (lo x < a)) (fun x => by simp)]
  simp
theorem midsTo_eq (l : List S26) (a : Int) : midsTo (endsOf l) a = (thatOf l).countP fun x => decide (md x < a) := by
  unfold midsTo
  rw [count_ends, countP_no (p := fun x => _ && decide (lo x < a)) (fun x => by simp), countP_no (p := fun x => _ && decide (hi x < a)) (fun x => by simp)]
  simp
theorem highsFrom_eq (l : List S26) (a : Int) : highsFrom (endsOf l) a = (thatOf l).countP fun x => decide (a ≤ hi x) := by
  unfold highsFrom
  rw [count_ends, countP_no (p := fun x => _ && decide (a ≤ md x)) (fun x => by simp), countP_no (p := fun x => _ && decide (a ≤ lo x)) (fun x => by simp)]
  simp
theorem lowsFrom_eq (l : List S26) (a : Int) : lowsFrom (endsOf l) a = (thatOf l).countP fun x => decide (a < lo x) := by
  unfold lowsFrom
  rw [count_ends, countP_no (p := fun x => _ && decide (a < md x)) (fun x => by simp), countP_no (p := fun x => _ && decide (a < hi x)) (fun x => by simp)]
  simp
theorem midsFrom_eq (l : List S26) (a : Int) : midsFrom (endsOf l) a = (thatOf l).countP fun x => decide (a < md x) := by
  unfold midsFrom
  rw [count_ends, countP_no (p := fun x => _ && decide (a < lo x)) (fun x => by simp), countP_no (p := fun x => _ && decide (a < hi x)) (fun x => by simp)]
  simp
theorem cnt_f2 (l : List S26) : ∀ x ∈ thatOf l, 0 ≤ x.f2 := fun x hx => (cnt_bounds (thatOf_cnt l x hx)).1
theorem depth_low (C : List S26) (h : ∀ x ∈ C, 0 ≤ x.f2) (a : Int) : (C.countP fun x => decide (lo x ≤ a)) = depth C a + C.countP fun x => decide (hi x < a) := by
  unfold depth
  induction C with
  | nil => rfl
  | cons x C ih =>
    rw [List.countP_cons, List.countP_cons, List.countP_cons, ih (fun y hy => h y (List.mem_cons_of_mem _ hy))]
    have hx := lo_md_hi (h x (by simp))
    by_cases h1 : lo x ≤ a
    · by_cases h2 : a ≤ hi x
      · have h3 : ¬ hi x < a := by omega
        simp [h1, h2, h3]; omega
      · have h3 : hi x < a := by omega
        simp [h1, h2, h3]; omega
    · have h3 : ¬ hi x < a := by omega
      simp [h1, h3]
theorem depth_high (C : List S26) (h : ∀ x ∈ C, 0 ≤ x.f2) (a : Int) : (C.countP fun x => decide (a ≤ hi x)) = depth C a + C.countP fun x => decide (a < lo x) := by
  unfold depth
  induction C with
  | nil => rfl
  | cons x C ih =>
    rw [List.countP_cons, List.countP_cons, List.countP_cons, ih (fun y hy => h y (List.mem_cons_of_mem _ hy))]
    have hx := lo_md_hi (h x (by simp))
    by_cases h1 : a ≤ hi x
    · by_cases h2 : lo x ≤ a
      · have h3 : ¬ a < lo x := by omega
        simp [h1, h2, h3]; omega
      · have h3 : a < lo x := by omega
        simp [h1, h2, h3]; omega
    · have h3 : ¬ a < lo x := by omega
      simp [h1, h3]
theorem Kinds.k3 {xs : List Cx} (h : Kinds xs) : K3 xs := fun x hx => (h x hx).2
theorem ends_low {l : List S26} {e : Cx} (he : e ∈ endsOf l) (h : e.im = -1) : ∃ x ∈ thatOf l, lo x = e.re := by
  obtain ⟨x, hx, hy⟩ := List.mem_flatMap.1 ((ends_perm l).mem_iff.1 he)
  simp only [three, List.mem_cons, List.not_mem_nil, or_false] at hy
  rcases hy with rfl | rfl | rfl
  · exact ⟨x, hx, rfl⟩
  · simp at h
  · simp at h
theorem ends_high {l : List S26} {e : Cx} (he : e ∈ endsOf l) (h : e.im = 1) : ∃ x ∈ thatOf l, hi x = e.re := by
  obtain ⟨x, hx, hy⟩ := List.mem_flatMap.1 ((ends_perm l).mem_iff.1 he)
  simp only [three, List.mem_cons, List.not_mem_nil, or_false] at hy
  rcases hy with rfl | rfl | rfl
  · simp at h
  · simp at h
  · exact ⟨x, hx, rfl⟩
/-- the low point, of the candidates -/
theorem low_cand {l : List S26} {W a b : Int} (hW : 1 ≤ W) (h : ptf 1 W (endsOf l) 0 0 = some (a, b)) :
    (∃ x ∈ thatOf l, lo x = a) ∧ b = ((thatOf l).countP fun x => decide (md x < a) : Nat) ∧ W ≤ (depth (thatOf l) a : Int) := by
  obtain ⟨⟨e, he, h1, h2⟩, h3, h4⟩ := low_point (ends_sorted l) (ends_kinds l).k3 hW h
  rw [lowsTo_eq, highsTo_eq, depth_low _ (cnt_f2 l)] at h4
  rw [midsTo_eq] at h3
  obtain ⟨x, hx, hl⟩ := ends_low he h1
  exact ⟨⟨x, hx, by omega⟩, h3, by omega⟩
theorem high_cand {l : List S26} {W a b : Int} (hW : 1 ≤ W) (h : ptf (-1) W (endsOf l).reverse 0 0 = some (a, b)) :
    (∃ x ∈ thatOf l, hi x = a) ∧ b = ((thatOf l).countP fun x => decide (a < md x) : Nat) ∧ W ≤ (depth (thatOf l) a : Int) := by
  obtain ⟨⟨e, he, h1, h2⟩, h3, h4⟩ := high_point (ends_sorted l) (ends_kinds l).k3 hW h
  rw [lowsFrom_eq, highsFrom_eq, depth_high _ (cnt_f2 l)] at h4
  rw [midsFrom_eq] at h3
  obtain ⟨x, hx, hl⟩ := ends_high he h1
  exact ⟨⟨x, hx, by omega⟩, h3, by omega⟩
theorem low_exists {l : List S26} {W : Int} (hW : 1 ≤ W) (x : Int) (h : W ≤ (depth (thatOf l) x : Int)) : ptf 1 W (endsOf l) 0 0 ≠ none := by
  refine low_there (ends_sorted l) (ends_kinds l).k3 hW x ?_
  rw [lowsTo_eq, highsTo_eq, depth_low _ (cnt_f2 l)]
  omega
theorem high_exists {l : List S26} {W : Int} (hW : 1 ≤ W) (x : Int) (h : W ≤ (depth (thatOf l) x : Int)) : ptf (-1) W (endsOf l).reverse 0 0 ≠ none := by
  refine high_there (ends_sorted l) (ends_kinds l).k3 hW x ?_
  rw [lowsFrom_eq, highsFrom_eq, depth_high _ (cnt_f2 l)]
  omega
/-- what is found -/
structure Found (l : List S26) (f : Nat) (a b : Int) : Prop where
  few : 2 * f < (thatOf l).length
  le : a ≤ b
  mids : ((thatOf l).countP fun x => decide (md x < a)) + ((thatOf l).countP fun x => decide (b < md x)) ≤ f
  lowIn : (thatOf l).length ≤ depth (thatOf l) a + f
  highIn : (thatOf l).length ≤ depth (thatOf l) b + f
  isLow : ∃ x ∈ thatOf l, lo x = a
  isHigh : ∃ x ∈ thatOf l, hi x = b
theorem meetL_found (l : List S26) : ∀ (d f : Nat), (meetL (endsOf l) (thatOf l).length d f).2.2 = true → ∃ f' a b, Found l f' a b ∧ meetL (endsOf l) (thatOf l).length d f = (a * 65536, b * 65536, true)
  | 0, f, h => by simp [meetL] at h
  | d + 1, f, h => by
    unfold meetL at h ⊢
    by_cases h2 : 2 * f < (thatOf l).length
    · rw [if_pos h2] at h ⊢
      by_cases hg : goodF (ptRes (ptf 1 (((thatOf l).length : Int) - f) (endsOf l) 0 0)) (ptRes (ptf (-1) (((thatOf l).length : Int) - f) (endsOf l).reverse 0 0)) f = true
      · rw [if_pos hg]
        rcases hu : ptf 1 (((thatOf l).length : Int) - f) (endsOf l) 0 0 with _ | ⟨a, m1⟩
        · rw [hu] at hg; simp [goodF, ptRes] at hg
        · rcases hv : ptf (-1) (((thatOf l).length : Int) - f) (endsOf l).reverse 0 0 with _ | ⟨b, m2⟩
          · rw [hv] at hg; simp [goodF, ptRes] at hg
          · rw [hu, hv] at hg
            simp only [goodF, ptRes, Bool.true_and, Bool.and_eq_true] at hg
            have q1 := of_decide_eq_true hg.1
            have q2 := of_decide_eq_true hg.2
            obtain ⟨g1, g2, g3⟩ := low_cand (by omega) hu
            obtain ⟨k1, k2, k3⟩ := high_cand (by omega) hv
            exact ⟨f, a, b, ⟨h2, q2, by omega, by omega, by omega, g1, k1⟩, rfl⟩
      · rw [if_neg hg] at h ⊢
        exact meetL_found l d (f + 1) h
    · rw [if_neg h2] at h
      simp at h
theorem meet_found (l : List S26) (h : (meetOf l).2.2 = true) : ∃ f a b, Found l f a b ∧ meetOf l = (a * 65536, b * 65536, true) := meetL_found l 65 0 h
theorem meetL_false (e : List Cx) (n : Nat) : ∀ (d f : Nat), (meetL e n d f).2.2 = false → meetL e n d f = (0, 0, false)
  | 0, f, _ => rfl
  | d + 1, f, h => by
    unfold meetL at h ⊢
    split
    · rename_i h2
      rw [if_pos h2] at h
      split
      · rename_i h3
        rw [if_pos h3] at h
        simp at h
      · rename_i h3
        rw [if_neg h3] at h
        exact meetL_false e n d (f + 1) h
    · rfl
theorem meet_false (l : List S26) (h : (meetOf l).2.2 = false) : meetOf l = (0, 0, false) := meetL_false _ _ 65 0 h
/-- of those that survive -/
theorem surv_mem {l : List S26} {a b : Int} (hm : meetOf l = (a * 65536, b * 65536, true)) : survOf l = (thatOf l).filter fun x => decide (a ≤ md x) && decide (md x ≤ b) := by
  unfold survOf
  rw [hm]
  simp only [if_true]
  congr 1
  funext x
  unfold inB mid md
  rw [Bool.eq_iff_iff]
  simp only [Bool.and_eq_true, decide_eq_true_eq]
  omega
theorem surv_count {l : List S26} {f : Nat} {a b : Int} (hf : Found l f a b) (hm : meetOf l = (a * 65536, b * 65536, true)) : (thatOf l).length ≤ (survOf l).length + f := by
  rw [surv_mem hm, ← List.countP_eq_length_filter]
  have hle := hf.le
  have hmid := hf.mids
  have key : ∀ C : List S26, C.length ≤ (C.countP fun x => decide (a ≤ md x) && decide (md x ≤ b)) + ((C.countP fun x => decide (md x < a)) + (C.countP fun x => decide (b < md x))) := by
    intro C
    induction C with
    | nil => simp
    | cons x C ih =>
      rw [List.length_cons, List.countP_cons, List.countP_cons, List.countP_cons]
      by_cases h1 : a ≤ md x
      · by_cases h2 : md x ≤ b
        · simp [h1, h2]; omega
        · have h3 : b < md x := by omega
          simp [h3]; omega
      · have h3 : md x < a := by omega
        simp [h3]; omega
  have := key (thatOf l)
  omega
end Go.Proofs.Ytlhecfleanppmaa.Pr
end
section
set_option linter.unusedVariables false
namespace Go.Proofs.Ytlhecfleanppmaa.Pr
open Go.RowKit Go.Proofs.YtlhecfleanppmaaW.PrintWords Go.Proofs.YtlhecfleanppmaaW.PrintLast Go.Proofs.YtlhecfleanppmaaW.PrintMore Go.Proofs.YFl Go.Proofs.Ytlhecfleanppmaa.Rw

/-- an offset, or a distance, that was cut: below 2^40 either way -/
theorem tmod_bounds (a m : Int) (hm : 0 < m) : -m < Int.tmod a m ∧ Int.tmod a m < m := by
  refine ⟨?_, Int.tmod_lt_of_pos _ hm⟩
  have h1 := Int.natAbs_tmod a m
  have h2 : a.natAbs % m.natAbs < m.natAbs := Nat.mod_lt _ (by omega)
  rw [← h1] at h2
  omega
def absI (n : Int) : Int := if n < 0 then -n else n
def nearD (x : S26) (t : Int) : Int := mx (absI (Int.tmod x.f2 1099511627776)) (absI (Int.tmod x.f1 1099511627776 - t))
def nearOf (t : Int) (x : S26) : S26 := ⟨x.f0, Int.tmod x.f1 1099511627776, nearD x t, x.f3, x.f4, x.f5, x.f6⟩
theorem near_eq (x : S26) (t : Int) (ht : -2147483648 ≤ t ∧ t ≤ 2147483647) : foliotlaw13_near.f x.f0 x.f1 x.f2 x.f3 x.f4 x.f5 x.f6 t = some ((nearOf t x).f0, (nearOf t x).f1, (nearOf t x).f2, (nearOf t x).f3, (nearOf t x).f4, (nearOf t x).f5, (nearOf t x).f6) := by
  have b1 := tmod_bounds x.f1 1099511627776 (by omega)
  have b2 := tmod_bounds x.f2 1099511627776 (by omega)
  unfold foliotlaw13_near.f nearOf nearD absI
  rw [wrap_small (n := -Int.tmod x.f2 1099511627776) (by omega), wrap_small (n := Int.tmod x.f1 1099511627776 - t) (by omega), wrap_small (n := -(Int.tmod x.f1 1099511627776 - t)) (by omega)]
  by_cases h1 : Int.tmod x.f2 1099511627776 < 0
  · by_cases h2 : Int.tmod x.f1 1099511627776 - t < 0
    · simp only [h1, h2, if_true]
    · simp only [h1, h2, if_true, if_false]
  · by_cases h2 : Int.tmod x.f1 1099511627776 - t < 0
    · simp only [h1, h2, if_true, if_false]
    · simp only [h1, h2, if_false]
theorem near_bounds (x : S26) (t : Int) (ht : -2147483648 ≤ t ∧ t ≤ 2147483647) : 0 ≤ (nearOf t x).f2 ∧ (nearOf t x).f2 ≤ 1101659111424 ∧ -1099511627776 < (nearOf t x).f1 ∧ (nearOf t x).f1 < 1099511627776 ∧ (nearOf t x).f1 - t ≤ (nearOf t x).f2 ∧ t - (nearOf t x).f1 ≤ (nearOf t x).f2 := by
  have b1 := tmod_bounds x.f1 1099511627776 (by omega)
  have b2 := tmod_bounds x.f2 1099511627776 (by omega)
  simp only [nearOf, nearD]
  unfold mx absI
  split <;> split <;> split <;> omega
theorem near_cnt (x : S26) (t : Int) (ht : -2147483648 ≤ t ∧ t ≤ 2147483647) : cnt (nearOf t x) = true := by
  have := near_bounds x t ht
  unfold cnt
  simp only [Bool.and_eq_true, decide_eq_true_eq]
  omega
theorem thatOf_all {l : List S26} (hl : l.length ≤ 64) (h : ∀ x ∈ l, cnt x = true) : thatOf l = l := by
  rw [thatOf_eq, List.filter_eq_self.2 h, List.take_of_length_le hl]
theorem take_rd (l : List S26) (i : Nat) (h : i < l.length) : l.take (i + 1) = l.take i ++ [rd_T26 l (i : Int)] := by
  rw [List.take_succ_eq_append_getElem h]
  congr 2
  unfold rd_T26
  rw [Int.toNat_natCast, List.getD_eq_getElem?_getD, List.getElem?_eq_getElem h]
  rfl
end Go.Proofs.Ytlhecfleanppmaa.Pr
end
