/- What stamp.number's digits are. -/
import Derived.Test.YtbondhnhiinlbaaTK0
import Derived.Test.YtbondhnhiinlbaaTHd0
import Derived.Test.YtbondhnhiinlbaaTHc
import Derived.Lib.SlBytesConst
import Derived.Deep.RegionWith
section
set_option linter.unusedVariables false
set_option linter.unusedSimpArgs false
namespace Go.Proofs.Ytbondhnhiinlbaa.Pr
open Go.RowKit Go.Proofs.YtbondhnhiinlbaaW.PrintWords Go.Proofs.YtbondhnhiinlbaaW.PrintLast Go.Proofs.YtbondhnhiinlbaaW.PrintMore
theorem digs_bound (s : ByteArray) : ∀ (k i : Nat) (n m : Int), digs s k i n = some m → 0 ≤ n → 0 ≤ m ∧ m < (n + 1) * 10 ^ k
  | 0, i, n, m, h, h0 => by
    rw [digs] at h
    obtain rfl := Option.some.inj h
    rw [Int.pow_zero]
    omega
  | k + 1, i, n, m, h, h0 => by
    rw [digs] at h
    by_cases hi : i < s.size
    · rw [dif_pos hi] at h
      by_cases hc : 48 ≤ s[i].toNat ∧ s[i].toNat ≤ 57
      · rw [if_pos hc] at h
        obtain ⟨h1, h2⟩ := digs_bound s k (i + 1) _ m h (by omega)
        refine ⟨h1, Int.lt_of_lt_of_le h2 ?_⟩
        rw [Int.pow_succ, Int.mul_comm (10 ^ k) 10, ← Int.mul_assoc]
        refine Int.mul_le_mul_of_nonneg_right (by omega) ?_
        exact Int.le_of_lt (Int.pow_pos (by decide))
      · rw [if_neg hc] at h
        exact absurd h (by simp)
    · rw [dif_neg hi] at h
      exact absurd h (by simp)
theorem number_some {s : ByteArray} {many sign : Nat} {p : Int × ByteArray} (h : number s many sign = some p) : digs s many 0 0 = some p.1 := by
  unfold number at h
  rw [Option.bind_eq_some_iff] at h
  obtain ⟨n, hn, h⟩ := h
  by_cases hs : sign = 0
  · rw [if_pos hs] at h
    by_cases hl : s.size = many
    · rw [if_pos hl] at h
      rw [← Option.some.inj h]
      exact hn
    · rw [if_neg hl] at h
      exact absurd h (by simp)
  · rw [if_neg hs] at h
    by_cases hl : many < s.size
    · rw [dif_pos hl] at h
      by_cases hc : s[many].toNat = sign
      · rw [if_pos hc] at h
        rw [← Option.some.inj h]
        exact hn
      · rw [if_neg hc] at h
        exact absurd h (by simp)
    · rw [dif_neg hl] at h
      exact absurd h (by simp)
theorem number_bound {s : ByteArray} {many sign : Nat} {p : Int × ByteArray} (h : number s many sign = some p) (hm : many ≤ 6) : 0 ≤ p.1 ∧ p.1 < 1000000 := by
  obtain ⟨h1, h2⟩ := digs_bound s many 0 0 p.1 (number_some h) (Int.le_refl 0)
  refine ⟨h1, Int.lt_of_lt_of_le h2 ?_⟩
  rcases (show many = 0 ∨ many = 1 ∨ many = 2 ∨ many = 3 ∨ many = 4 ∨ many = 5 ∨ many = 6 from by omega) with rfl | rfl | rfl | rfl | rfl | rfl | rfl <;> decide
end Go.Proofs.Ytbondhnhiinlbaa.Pr
end
section
set_option linter.unusedVariables false
set_option linter.unusedSimpArgs false
namespace Go.Proofs.Ytbondhnhiinlbaa.Pr
open Go.RowKit Go.Proofs.YtbondhnhiinlbaaW.PrintWords Go.Proofs.YtbondhnhiinlbaaW.PrintLast Go.Proofs.YtbondhnhiinlbaaW.PrintMore
def finP (o : Option (List Int)) : Option (Int × Int × Int) :=
  match o with
  | none => some (0, 0, 21)
  | some l => stamp_ToDate.f (l.getD 0 0) (l.getD 1 0) (l.getD 2 0) (l.getD 3 0) (l.getD 4 0) (l.getD 5 0) ((l.getD 6 0 * 4294967296 + 999999) / 1000000 % 4294967296)
theorem numcall (s : ByteArray) (m g : Int) (mn gn : Nat) (em : m = mn) (eg : g = gn) (hm : mn ≤ 6) (hs : gn < 256) (v : Int) (s' : ByteArray) (h : endRes s mn gn (digs s mn 0 0) = (v, s')) (w : World) :
    Calls Try.prog 38 #[.string s, .int .i64 m, .int .u8 g] w fun e w' => e = .returned (.tuple #[.int .i64 v, .string s']) ∧ ∃ k, w' = w.drewN k := by
  subst em eg
  exact number_calls s mn gn hm hs w (v, s') h
theorem endRes_some {s : ByteArray} {m g : Nat} {p : Int × ByteArray} (h : number s m g = some p) : endRes s m g (digs s m 0 0) = (p.1, p.2) := by
  rw [← numRes_eq]
  unfold numRes
  rw [h]
theorem endRes_none {s : ByteArray} {m g : Nat} (h : number s m g = none) : endRes s m g (digs s m 0 0) = (-1, ⟨#[]⟩) := by
  rw [← numRes_eq]
  unfold numRes
  rw [h]
theorem len0 (l : List Int) (h : l.length = 0) : l = [] := by
  exact List.eq_nil_of_length_eq_zero h
theorem len1 (l : List Int) (h : l.length = 1) : ∃ x0, l = [x0] := by
  match l, h with
  | [x0], _ => exact ⟨x0, rfl⟩
theorem len2 (l : List Int) (h : l.length = 2) : ∃ x0 x1, l = [x0, x1] := by
  match l, h with
  | [x0, x1], _ => exact ⟨x0, x1, rfl⟩
theorem len3 (l : List Int) (h : l.length = 3) : ∃ x0 x1 x2, l = [x0, x1, x2] := by
  match l, h with
  | [x0, x1, x2], _ => exact ⟨x0, x1, x2, rfl⟩
theorem len4 (l : List Int) (h : l.length = 4) : ∃ x0 x1 x2 x3, l = [x0, x1, x2, x3] := by
  match l, h with
  | [x0, x1, x2, x3], _ => exact ⟨x0, x1, x2, x3, rfl⟩
theorem len5 (l : List Int) (h : l.length = 5) : ∃ x0 x1 x2 x3 x4, l = [x0, x1, x2, x3, x4] := by
  match l, h with
  | [x0, x1, x2, x3, x4], _ => exact ⟨x0, x1, x2, x3, x4, rfl⟩
theorem len6 (l : List Int) (h : l.length = 6) : ∃ x0 x1 x2 x3 x4 x5, l = [x0, x1, x2, x3, x4, x5] := by
  match l, h with
  | [x0, x1, x2, x3, x4, x5], _ => exact ⟨x0, x1, x2, x3, x4, x5, rfl⟩
theorem len7 (l : List Int) (h : l.length = 7) : ∃ x0 x1 x2 x3 x4 x5 x6, l = [x0, x1, x2, x3, x4, x5, x6] := by
  match l, h with
  | [x0, x1, x2, x3, x4, x5, x6], _ => exact ⟨x0, x1, x2, x3, x4, x5, x6, rfl⟩
set_option maxHeartbeats 8000000 in
set_option maxRecDepth 100000 in
theorem stamp_Parse.calls (a0 : ByteArray) (r1 : Int) (r2 : Int) (r3 : Int) (w : World) (h : stamp_Parse.f a0 = some (r1, r2, r3)) :
    Calls Try.prog 19 #[.string a0] w fun e w' => e = .returned (.tuple #[.agg #[.int .i64 r1, .int .u64 r2], .int .i64 r3]) ∧ Below w.heap.size w w' := by
  have hu25 := Try.underlying25
  have hu28 := Try.underlying28
  have hu68 := Try.underlying68
  have hu69 := Try.underlying69
  have kc : ∀ (W : World) (g : Nat) (C : Array Value) (n c : Nat), g = W.heap.size → (convert 69 69 (.slice (some ⟨g, 0, none⟩) n c)).run Try.prog (W.alloc (.cells C 5)) = .ok (.slice (some ⟨g, 0, none⟩) n c) (W.alloc (.cells C 5 (C.size, C.size + 1))) := fun W g C n c h => by
    subst h
    exact Lib.run_convert_bytes_const (P := Try.prog) W 69 5 C n c Try.underlying69 Try.underlying5
  have HH := Aside0.mk h
  clear h
  go_enter Try.func19, Try.ntmps19
  go_wp2
  clear kc
  have b2 : (((w.alloc (.cells #[.int .i64 0, .int .u64 0] 25)).alloc (.cells #[.int .i64 0, .int .i64 0, .int .i64 0, .int .i64 0, .int .i64 0, .int .i64 0, .int .i64 0] 68)).alloc (.cells #[.int .u8 45, .int .u8 45, .int .u8 32, .int .u8 58, .int .u8 58, .int .u8 46, .int .u8 0] 5 (7, 8))).heap[w.heap.size]? = some (.cells #[.int .i64 0, .int .u64 0] 25 (0, 0)) := blk_alloc (blk_alloc (blk_new w _) _) _
  have b4 : (((w.alloc (.cells #[.int .i64 0, .int .u64 0] 25)).alloc (.cells #[.int .i64 0, .int .i64 0, .int .i64 0, .int .i64 0, .int .i64 0, .int .i64 0, .int .i64 0] 68)).alloc (.cells #[.int .u8 45, .int .u8 45, .int .u8 32, .int .u8 58, .int .u8 58, .int .u8 46, .int .u8 0] 5 (7, 8))).heap[w.heap.size + 1]? = some (.cells #[.int .i64 0, .int .i64 0, .int .i64 0, .int .i64 0, .int .i64 0, .int .i64 0, .int .i64 0] 68 (0, 0)) := by
    have h := blk_new (w.alloc (.cells #[.int .i64 0, .int .u64 0] 25)) (.cells #[.int .i64 0, .int .i64 0, .int .i64 0, .int .i64 0, .int .i64 0, .int .i64 0, .int .i64 0] 68)
    rw [show (w.alloc (.cells #[.int .i64 0, .int .u64 0] 25)).heap.size = w.heap.size + 1 from by simp] at h
    exact blk_alloc h _
  have b8 : (((w.alloc (.cells #[.int .i64 0, .int .u64 0] 25)).alloc (.cells #[.int .i64 0, .int .i64 0, .int .i64 0, .int .i64 0, .int .i64 0, .int .i64 0, .int .i64 0] 68)).alloc (.cells #[.int .u8 45, .int .u8 45, .int .u8 32, .int .u8 58, .int .u8 58, .int .u8 46, .int .u8 0] 5 (7, 8))).heap[w.heap.size + 1 + 1]? = some (.cells #[.int .u8 45, .int .u8 45, .int .u8 32, .int .u8 58, .int .u8 58, .int .u8 46, .int .u8 0] 5 (7, 8)) := by
    have h := blk_new ((w.alloc (.cells #[.int .i64 0, .int .u64 0] 25)).alloc (.cells #[.int .i64 0, .int .i64 0, .int .i64 0, .int .i64 0, .int .i64 0, .int .i64 0, .int .i64 0] 68)) (.cells #[.int .u8 45, .int .u8 45, .int .u8 32, .int .u8 58, .int .u8 58, .int .u8 46, .int .u8 0] 5 (7, 8))
    rw [show ((w.alloc (.cells #[.int .i64 0, .int .u64 0] 25)).alloc (.cells #[.int .i64 0, .int .i64 0, .int .i64 0, .int .i64 0, .int .i64 0, .int .i64 0, .int .i64 0] 68)).heap.size = w.heap.size + 1 + 1 from by simp] at h
    exact h
  have hb : Below w.heap.size w (((w.alloc (.cells #[.int .i64 0, .int .u64 0] 25)).alloc (.cells #[.int .i64 0, .int .i64 0, .int .i64 0, .int .i64 0, .int .i64 0, .int .i64 0, .int .i64 0] 68)).alloc (.cells #[.int .u8 45, .int .u8 45, .int .u8 32, .int .u8 58, .int .u8 58, .int .u8 46, .int .u8 0] 5 (7, 8))) := below_alloc (below_alloc (below_alloc (Below.refl w.heap.size w) _) _) _
  generalize ((w.alloc _).alloc _).alloc _ = W at b2 b4 b8 hb ⊢
  obtain ⟨g2, hg2⟩ : ∃ g, g = w.heap.size := ⟨_, rfl⟩
  obtain ⟨g4, hg4⟩ : ∃ g, g = w.heap.size + 1 := ⟨_, rfl⟩
  obtain ⟨g8, hg8⟩ : ∃ g, g = w.heap.size + 1 + 1 := ⟨_, rfl⟩
  rw [← hg2] at b2
  rw [← hg4] at b4
  rw [← hg8] at b8
  simp only [← hg8]
  simp only [← hg4]
  simp only [← hg2]
  have B2 := Aside0.mk b2
  have B4 := Aside0.mk b4
  have B8 := Aside0.mk b8
  have HB := Aside0.mk hb
  have G2 := Aside0.mk (show w.heap.size ≤ g2 by omega)
  have G4 := Aside0.mk (show w.heap.size ≤ g4 by omega)
  have N24 := Aside0.mk (show g2 ≠ g4 by omega)
  have N84 := Aside0.mk (show g8 ≠ g4 by omega)
  clear b2 b4 b8 hb hg2 hg4 hg8
  -- THE LOOP
  replace HH : Aside0 (finP ((fields form7 a0).map (([] : List Int) ++ ·)) = some (r1, r2, r3)) := ⟨by
    have h := HH.out
    unfold stamp_Parse.f at h
    cases hf : fields form7 a0 with
    | none => rw [hf] at h; exact h
    | some l => rw [hf] at h; exact h⟩
  go_loopg [0, 11] 7 (fun kq v0 v11 w' => ∃ (iv : Int) (s : ByteArray) (acc : List Int), v0 = .string s ∧ v11 = .int .i64 iv ∧ Aside0 (acc.length + kq = 7) ∧ Aside0 (iv = (acc.length : Int)) ∧ Aside0 (∀ x ∈ acc, 0 ≤ x ∧ x < 1000000) ∧ Aside0 (finP ((fields (form7.drop acc.length) s).map (acc ++ ·)) = some (r1, r2, r3)) ∧ Aside0 (w'.heap[g4]? = some (.cells ((acc ++ List.replicate (7 - acc.length) 0).map (Value.int .i64)).toArray 68 (0, 0))) ∧ Aside0 (w'.heap[g2]? = some (.cells #[.int .i64 0, .int .u64 0] 25 (0, 0))) ∧ Aside0 (w'.heap[g8]? = some (.cells #[.int .u8 45, .int .u8 45, .int .u8 32, .int .u8 58, .int .u8 58, .int .u8 46, .int .u8 0] 5 (7, 8))) ∧ Aside0 (Below w.heap.size w w'))
  case atStart => exact ⟨0, a0, [], rfl, rfl, ⟨rfl⟩, ⟨rfl⟩, ⟨fun x hx => by simp at hx⟩, HH, ⟨B4.out⟩, B2, B8, HB⟩
  case round =>
    clear HH B4 B2 B8 HB
    obtain ⟨iv, s, acc, rfl, rfl, HL, HI, HA, HP, B4, B2, B8, HB⟩ := hrel
    have hlen := HL.out
    rcases (show gk = 7 ∨ gk = 6 ∨ gk = 5 ∨ gk = 4 ∨ gk = 3 ∨ gk = 2 ∨ gk = 1 ∨ gk = 0 from by omega) with rfl | rfl | rfl | rfl | rfl | rfl | rfl | rfl
    · -- round 0
      obtain rfl := len0 acc (by omega)
      have hi := HI.out
      obtain rfl : iv = 0 := hi
      have b4 : wr.heap[g4]? = some (.cells #[.int .i64 0, .int .i64 0, .int .i64 0, .int .i64 0, .int .i64 0, .int .i64 0, .int .i64 0] 68 (0, 0)) := B4.out
      have hh := HP.out
      have c8 : wr.cell? ⟨g8, 0, none⟩ = some (.int .u8 45) := (cell_of_row wr g8 0 _ 5 (7, 8) B8.out).trans rfl
      have c4 := (blk_cell b4 0).trans rfl
      have f4 := blk_frozen b4 0
      rw [show form7.drop ([] : List Int).length = (4, 45) :: form7.drop 1 from rfl, fields] at hh
      have BX := Aside0.mk b4
      clear b4 B4 HP hlen HL
      cases hn : number s 4 45 with
      | none =>
        rw [hn] at hh
        have hq : some ((0 : Int), (0 : Int), (21 : Int)) = some (r1, r2, r3) := hh
        simp only [Option.some.injEq, Prod.mk.injEq] at hq
        obtain ⟨rfl, rfl, rfl⟩ := hq
        have HC := Aside0.mk (endRes_none hn)
        clear hn hh
        have e0 := (blk_cell B2.out 0).trans rfl
        have e1 := (blk_cell B2.out 1).trans rfl
        have f0 := blk_frozen B2.out 0
        have f1 := blk_frozen B2.out 1
        have n24 := N24.out
        go_wp2_with (go_at_call 38; (with_reducible refine (numcall s 4 45 4 45 rfl rfl (by decide) (by decide) _ _ HC.out _).mono ?_); rintro e w' ⟨rfl, ⟨nd, rfl⟩⟩)
        refine bodyPost_ret (results_ct rfl _ _ g2 25 #[.int .i64 0, .int .u64 0] (0, 0) _ rfl (by (with_reducible repeat (first | refine blk_drewN ?_ _ | refine blk_drew ?_)); refine blk_put (cs := #[.int .i64 0, .int .u64 0]) ?_ 1 _ rfl; refine blk_put (cs := #[.int .i64 0, .int .u64 0]) ?_ 0 _ rfl; refine blk_far ?_ N24.out _; (with_reducible repeat (first | refine blk_drewN ?_ _ | refine blk_drew ?_)); exact B2.out) hu25 rfl (by kernel_rfl)) rfl ⟨rfl, by repeat (first | (with_reducible first | exact HB.out | apply pw_below_drewN | apply below_drew1 | refine below_set ?_ G2.out | refine below_set ?_ G4.out) | exact HB.out)⟩
      | some p =>
        rw [hn] at hh
        obtain ⟨pn, ps⟩ := p
        obtain ⟨hb0, hb1⟩ := number_bound hn (by decide)
        have HC := Aside0.mk (endRes_some hn)
        have HP : Aside0 (finP ((fields (form7.drop ([pn] : List Int).length) ps).map (([pn] : List Int) ++ ·)) = some (r1, r2, r3)) := ⟨by
          have h2 := hh
          show finP ((fields (form7.drop 1) ps).map _) = _
          simp only [Option.bind_some] at h2
          cases hf : fields (form7.drop 1) ps with
          | none => rw [hf] at h2; exact h2
          | some l => rw [hf] at h2; exact h2⟩
        clear hn hh
        have d0 : decide (pn < 0) = false := decide_eq_false (by simpa using hb0)
        go_wp2_with (go_at_call 38; (with_reducible refine (numcall s 4 45 4 45 rfl rfl (by decide) (by decide) _ _ HC.out _).mono ?_); rintro e w' ⟨rfl, ⟨nd, rfl⟩⟩)
        go_roundg 6
        case measure => decide
        case rel => exact ⟨1, ps, [pn], rfl, (by first | rfl | go_num), ⟨rfl⟩, ⟨rfl⟩, ⟨fun x hx => by simp only [List.mem_cons, List.not_mem_nil, or_false] at hx; subst hx; exact ⟨hb0, hb1⟩⟩, HP, ⟨by (with_reducible repeat (first | refine blk_drewN ?_ _ | refine blk_drew ?_)); refine blk_put (cs := #[.int .i64 0, .int .i64 0, .int .i64 0, .int .i64 0, .int .i64 0, .int .i64 0, .int .i64 0]) ?_ 0 _ rfl; (with_reducible repeat (first | refine blk_drewN ?_ _ | refine blk_drew ?_)); exact BX.out⟩, ⟨by (with_reducible repeat (first | refine blk_drewN ?_ _ | refine blk_drew ?_)); refine blk_far ?_ N24.out _; (with_reducible repeat (first | refine blk_drewN ?_ _ | refine blk_drew ?_)); exact B2.out⟩, ⟨by exact (Below.heap_setCell _ _ _ g8 N84.out).trans B8.out⟩, ⟨by repeat (first | (with_reducible first | exact HB.out | apply pw_below_drewN | apply below_drew1 | refine below_set ?_ G4.out) | exact HB.out)⟩⟩
    · -- round 1
      obtain ⟨x0, rfl⟩ := len1 acc (by omega)
      have hi := HI.out
      obtain rfl : iv = 1 := hi
      have b4 : wr.heap[g4]? = some (.cells #[.int .i64 x0, .int .i64 0, .int .i64 0, .int .i64 0, .int .i64 0, .int .i64 0, .int .i64 0] 68 (0, 0)) := B4.out
      have hh := HP.out
      have c8 : wr.cell? ⟨g8, 1, none⟩ = some (.int .u8 45) := (cell_of_row wr g8 1 _ 5 (7, 8) B8.out).trans rfl
      have c4 := (blk_cell b4 1).trans rfl
      have f4 := blk_frozen b4 1
      rw [show form7.drop ([x0] : List Int).length = (2, 45) :: form7.drop 2 from rfl, fields] at hh
      have BX := Aside0.mk b4
      clear b4 B4 HP hlen HL
      cases hn : number s 2 45 with
      | none =>
        rw [hn] at hh
        have hq : some ((0 : Int), (0 : Int), (21 : Int)) = some (r1, r2, r3) := hh
        simp only [Option.some.injEq, Prod.mk.injEq] at hq
        obtain ⟨rfl, rfl, rfl⟩ := hq
        have HC := Aside0.mk (endRes_none hn)
        clear hn hh
        have e0 := (blk_cell B2.out 0).trans rfl
        have e1 := (blk_cell B2.out 1).trans rfl
        have f0 := blk_frozen B2.out 0
        have f1 := blk_frozen B2.out 1
        have n24 := N24.out
        go_wp2_with (go_at_call 38; (with_reducible refine (numcall s 2 45 2 45 rfl rfl (by decide) (by decide) _ _ HC.out _).mono ?_); rintro e w' ⟨rfl, ⟨nd, rfl⟩⟩)
        refine bodyPost_ret (results_ct rfl _ _ g2 25 #[.int .i64 0, .int .u64 0] (0, 0) _ rfl (by (with_reducible repeat (first | refine blk_drewN ?_ _ | refine blk_drew ?_)); refine blk_put (cs := #[.int .i64 0, .int .u64 0]) ?_ 1 _ rfl; refine blk_put (cs := #[.int .i64 0, .int .u64 0]) ?_ 0 _ rfl; refine blk_far ?_ N24.out _; (with_reducible repeat (first | refine blk_drewN ?_ _ | refine blk_drew ?_)); exact B2.out) hu25 rfl (by kernel_rfl)) rfl ⟨rfl, by repeat (first | (with_reducible first | exact HB.out | apply pw_below_drewN | apply below_drew1 | refine below_set ?_ G2.out | refine below_set ?_ G4.out) | exact HB.out)⟩
      | some p =>
        rw [hn] at hh
        obtain ⟨pn, ps⟩ := p
        obtain ⟨hb0, hb1⟩ := number_bound hn (by decide)
        have HC := Aside0.mk (endRes_some hn)
        have HP : Aside0 (finP ((fields (form7.drop ([x0, pn] : List Int).length) ps).map (([x0, pn] : List Int) ++ ·)) = some (r1, r2, r3)) := ⟨by
          have h2 := hh
          show finP ((fields (form7.drop 2) ps).map _) = _
          simp only [Option.bind_some] at h2
          cases hf : fields (form7.drop 2) ps with
          | none => rw [hf] at h2; exact h2
          | some l => rw [hf] at h2; exact h2⟩
        clear hn hh
        have d0 : decide (pn < 0) = false := decide_eq_false (by simpa using hb0)
        go_wp2_with (go_at_call 38; (with_reducible refine (numcall s 2 45 2 45 rfl rfl (by decide) (by decide) _ _ HC.out _).mono ?_); rintro e w' ⟨rfl, ⟨nd, rfl⟩⟩)
        go_roundg 5
        case measure => decide
        case rel => exact ⟨2, ps, [x0, pn], rfl, (by first | rfl | go_num), ⟨rfl⟩, ⟨rfl⟩, ⟨fun x hx => by simp only [List.mem_cons, List.not_mem_nil, or_false] at hx; rcases hx with rfl | rfl <;> first | exact ⟨hb0, hb1⟩ | exact HA.out _ (by simp)⟩, HP, ⟨by (with_reducible repeat (first | refine blk_drewN ?_ _ | refine blk_drew ?_)); refine blk_put (cs := #[.int .i64 x0, .int .i64 0, .int .i64 0, .int .i64 0, .int .i64 0, .int .i64 0, .int .i64 0]) ?_ 1 _ rfl; (with_reducible repeat (first | refine blk_drewN ?_ _ | refine blk_drew ?_)); exact BX.out⟩, ⟨by (with_reducible repeat (first | refine blk_drewN ?_ _ | refine blk_drew ?_)); refine blk_far ?_ N24.out _; (with_reducible repeat (first | refine blk_drewN ?_ _ | refine blk_drew ?_)); exact B2.out⟩, ⟨by exact (Below.heap_setCell _ _ _ g8 N84.out).trans B8.out⟩, ⟨by repeat (first | (with_reducible first | exact HB.out | apply pw_below_drewN | apply below_drew1 | refine below_set ?_ G4.out) | exact HB.out)⟩⟩
    · -- round 2
      obtain ⟨x0, x1, rfl⟩ := len2 acc (by omega)
      have hi := HI.out
      obtain rfl : iv = 2 := hi
      have b4 : wr.heap[g4]? = some (.cells #[.int .i64 x0, .int .i64 x1, .int .i64 0, .int .i64 0, .int .i64 0, .int .i64 0, .int .i64 0] 68 (0, 0)) := B4.out
      have hh := HP.out
      have c8 : wr.cell? ⟨g8, 2, none⟩ = some (.int .u8 32) := (cell_of_row wr g8 2 _ 5 (7, 8) B8.out).trans rfl
      have c4 := (blk_cell b4 2).trans rfl
      have f4 := blk_frozen b4 2
      rw [show form7.drop ([x0, x1] : List Int).length = (2, 32) :: form7.drop 3 from rfl, fields] at hh
      have BX := Aside0.mk b4
      clear b4 B4 HP hlen HL
      cases hn : number s 2 32 with
      | none =>
        rw [hn] at hh
        have hq : some ((0 : Int), (0 : Int), (21 : Int)) = some (r1, r2, r3) := hh
        simp only [Option.some.injEq, Prod.mk.injEq] at hq
        obtain ⟨rfl, rfl, rfl⟩ := hq
        have HC := Aside0.mk (endRes_none hn)
        clear hn hh
        have e0 := (blk_cell B2.out 0).trans rfl
        have e1 := (blk_cell B2.out 1).trans rfl
        have f0 := blk_frozen B2.out 0
        have f1 := blk_frozen B2.out 1
        have n24 := N24.out
        go_wp2_with (go_at_call 38; (with_reducible refine (numcall s 2 32 2 32 rfl rfl (by decide) (by decide) _ _ HC.out _).mono ?_); rintro e w' ⟨rfl, ⟨nd, rfl⟩⟩)
        refine bodyPost_ret (results_ct rfl _ _ g2 25 #[.int .i64 0, .int .u64 0] (0, 0) _ rfl (by (with_reducible repeat (first | refine blk_drewN ?_ _ | refine blk_drew ?_)); refine blk_put (cs := #[.int .i64 0, .int .u64 0]) ?_ 1 _ rfl; refine blk_put (cs := #[.int .i64 0, .int .u64 0]) ?_ 0 _ rfl; refine blk_far ?_ N24.out _; (with_reducible repeat (first | refine blk_drewN ?_ _ | refine blk_drew ?_)); exact B2.out) hu25 rfl (by kernel_rfl)) rfl ⟨rfl, by repeat (first | (with_reducible first | exact HB.out | apply pw_below_drewN | apply below_drew1 | refine below_set ?_ G2.out | refine below_set ?_ G4.out) | exact HB.out)⟩
      | some p =>
        rw [hn] at hh
        obtain ⟨pn, ps⟩ := p
        obtain ⟨hb0, hb1⟩ := number_bound hn (by decide)
        have HC := Aside0.mk (endRes_some hn)
        have HP : Aside0 (finP ((fields (form7.drop ([x0, x1, pn] : List Int).length) ps).map (([x0, x1, pn] : List Int) ++ ·)) = some (r1, r2, r3)) := ⟨by
          have h2 := hh
          show finP ((fields (form7.drop 3) ps).map _) = _
          simp only [Option.bind_some] at h2
          cases hf : fields (form7.drop 3) ps with
          | none => rw [hf] at h2; exact h2
          | some l => rw [hf] at h2; exact h2⟩
        clear hn hh
        have d0 : decide (pn < 0) = false := decide_eq_false (by simpa using hb0)
        go_wp2_with (go_at_call 38; (with_reducible refine (numcall s 2 32 2 32 rfl rfl (by decide) (by decide) _ _ HC.out _).mono ?_); rintro e w' ⟨rfl, ⟨nd, rfl⟩⟩)
        go_roundg 4
        case measure => decide
        case rel => exact ⟨3, ps, [x0, x1, pn], rfl, (by first | rfl | go_num), ⟨rfl⟩, ⟨rfl⟩, ⟨fun x hx => by simp only [List.mem_cons, List.not_mem_nil, or_false] at hx; rcases hx with rfl | rfl | rfl <;> first | exact ⟨hb0, hb1⟩ | exact HA.out _ (by simp)⟩, HP, ⟨by (with_reducible repeat (first | refine blk_drewN ?_ _ | refine blk_drew ?_)); refine blk_put (cs := #[.int .i64 x0, .int .i64 x1, .int .i64 0, .int .i64 0, .int .i64 0, .int .i64 0, .int .i64 0]) ?_ 2 _ rfl; (with_reducible repeat (first | refine blk_drewN ?_ _ | refine blk_drew ?_)); exact BX.out⟩, ⟨by (with_reducible repeat (first | refine blk_drewN ?_ _ | refine blk_drew ?_)); refine blk_far ?_ N24.out _; (with_reducible repeat (first | refine blk_drewN ?_ _ | refine blk_drew ?_)); exact B2.out⟩, ⟨by exact (Below.heap_setCell _ _ _ g8 N84.out).trans B8.out⟩, ⟨by repeat (first | (with_reducible first | exact HB.out | apply pw_below_drewN | apply below_drew1 | refine below_set ?_ G4.out) | exact HB.out)⟩⟩
    · -- round 3
      obtain ⟨x0, x1, x2, rfl⟩ := len3 acc (by omega)
      have hi := HI.out
      obtain rfl : iv = 3 := hi
      have b4 : wr.heap[g4]? = some (.cells #[.int .i64 x0, .int .i64 x1, .int .i64 x2, .int .i64 0, .int .i64 0, .int .i64 0, .int .i64 0] 68 (0, 0)) := B4.out
      have hh := HP.out
      have c8 : wr.cell? ⟨g8, 3, none⟩ = some (.int .u8 58) := (cell_of_row wr g8 3 _ 5 (7, 8) B8.out).trans rfl
      have c4 := (blk_cell b4 3).trans rfl
      have f4 := blk_frozen b4 3
      rw [show form7.drop ([x0, x1, x2] : List Int).length = (2, 58) :: form7.drop 4 from rfl, fields] at hh
      have BX := Aside0.mk b4
      clear b4 B4 HP hlen HL
      cases hn : number s 2 58 with
      | none =>
        rw [hn] at hh
        have hq : some ((0 : Int), (0 : Int), (21 : Int)) = some (r1, r2, r3) := hh
        simp only [Option.some.injEq, Prod.mk.injEq] at hq
        obtain ⟨rfl, rfl, rfl⟩ := hq
        have HC := Aside0.mk (endRes_none hn)
        clear hn hh
        have e0 := (blk_cell B2.out 0).trans rfl
        have e1 := (blk_cell B2.out 1).trans rfl
        have f0 := blk_frozen B2.out 0
        have f1 := blk_frozen B2.out 1
        have n24 := N24.out
        go_wp2_with (go_at_call 38; (with_reducible refine (numcall s 2 58 2 58 rfl rfl (by decide) (by decide) _ _ HC.out _).mono ?_); rintro e w' ⟨rfl, ⟨nd, rfl⟩⟩)
        refine bodyPost_ret (results_ct rfl _ _ g2 25 #[.int .i64 0, .int .u64 0] (0, 0) _ rfl (by (with_reducible repeat (first | refine blk_drewN ?_ _ | refine blk_drew ?_)); refine blk_put (cs := #[.int .i64 0, .int .u64 0]) ?_ 1 _ rfl; refine blk_put (cs := #[.int .i64 0, .int .u64 0]) ?_ 0 _ rfl; refine blk_far ?_ N24.out _; (with_reducible repeat (first | refine blk_drewN ?_ _ | refine blk_drew ?_)); exact B2.out) hu25 rfl (by kernel_rfl)) rfl ⟨rfl, by repeat (first | (with_reducible first | exact HB.out | apply pw_below_drewN | apply below_drew1 | refine below_set ?_ G2.out | refine below_set ?_ G4.out) | exact HB.out)⟩
      | some p =>
        rw [hn] at hh
        obtain ⟨pn, ps⟩ := p
        obtain ⟨hb0, hb1⟩ := number_bound hn (by decide)
        have HC := Aside0.mk (endRes_some hn)
        have HP : Aside0 (finP ((fields (form7.drop ([x0, x1, x2, pn] : List Int).length) ps).map (([x0, x1, x2, pn] : List Int) ++ ·)) = some (r1, r2, r3)) := ⟨by
          have h2 := hh
          show finP ((fields (form7.drop 4) ps).map _) = _
          simp only [Option.bind_some] at h2
          cases hf : fields (form7.drop 4) ps with
          | none => rw [hf] at h2; exact h2
          | some l => rw [hf] at h2; exact h2⟩
        clear hn hh
        have d0 : decide (pn < 0) = false := decide_eq_false (by simpa using hb0)
        go_wp2_with (go_at_call 38; (with_reducible refine (numcall s 2 58 2 58 rfl rfl (by decide) (by decide) _ _ HC.out _).mono ?_); rintro e w' ⟨rfl, ⟨nd, rfl⟩⟩)
        go_roundg 3
        case measure => decide
        case rel => exact ⟨4, ps, [x0, x1, x2, pn], rfl, (by first | rfl | go_num), ⟨rfl⟩, ⟨rfl⟩, ⟨fun x hx => by simp only [List.mem_cons, List.not_mem_nil, or_false] at hx; rcases hx with rfl | rfl | rfl | rfl <;> first | exact ⟨hb0, hb1⟩ | exact HA.out _ (by simp)⟩, HP, ⟨by (with_reducible repeat (first | refine blk_drewN ?_ _ | refine blk_drew ?_)); refine blk_put (cs := #[.int .i64 x0, .int .i64 x1, .int .i64 x2, .int .i64 0, .int .i64 0, .int .i64 0, .int .i64 0]) ?_ 3 _ rfl; (with_reducible repeat (first | refine blk_drewN ?_ _ | refine blk_drew ?_)); exact BX.out⟩, ⟨by (with_reducible repeat (first | refine blk_drewN ?_ _ | refine blk_drew ?_)); refine blk_far ?_ N24.out _; (with_reducible repeat (first | refine blk_drewN ?_ _ | refine blk_drew ?_)); exact B2.out⟩, ⟨by exact (Below.heap_setCell _ _ _ g8 N84.out).trans B8.out⟩, ⟨by repeat (first | (with_reducible first | exact HB.out | apply pw_below_drewN | apply below_drew1 | refine below_set ?_ G4.out) | exact HB.out)⟩⟩
    · -- round 4
      obtain ⟨x0, x1, x2, x3, rfl⟩ := len4 acc (by omega)
      have hi := HI.out
      obtain rfl : iv = 4 := hi
      have b4 : wr.heap[g4]? = some (.cells #[.int .i64 x0, .int .i64 x1, .int .i64 x2, .int .i64 x3, .int .i64 0, .int .i64 0, .int .i64 0] 68 (0, 0)) := B4.out
      have hh := HP.out
      have c8 : wr.cell? ⟨g8, 4, none⟩ = some (.int .u8 58) := (cell_of_row wr g8 4 _ 5 (7, 8) B8.out).trans rfl
      have c4 := (blk_cell b4 4).trans rfl
      have f4 := blk_frozen b4 4
      rw [show form7.drop ([x0, x1, x2, x3] : List Int).length = (2, 58) :: form7.drop 5 from rfl, fields] at hh
      have BX := Aside0.mk b4
      clear b4 B4 HP hlen HL
      cases hn : number s 2 58 with
      | none =>
        rw [hn] at hh
        have hq : some ((0 : Int), (0 : Int), (21 : Int)) = some (r1, r2, r3) := hh
        simp only [Option.some.injEq, Prod.mk.injEq] at hq
        obtain ⟨rfl, rfl, rfl⟩ := hq
        have HC := Aside0.mk (endRes_none hn)
        clear hn hh
        have e0 := (blk_cell B2.out 0).trans rfl
        have e1 := (blk_cell B2.out 1).trans rfl
        have f0 := blk_frozen B2.out 0
        have f1 := blk_frozen B2.out 1
        have n24 := N24.out
        go_wp2_with (go_at_call 38; (with_reducible refine (numcall s 2 58 2 58 rfl rfl (by decide) (by decide) _ _ HC.out _).mono ?_); rintro e w' ⟨rfl, ⟨nd, rfl⟩⟩)
        refine bodyPost_ret (results_ct rfl _ _ g2 25 #[.int .i64 0, .int .u64 0] (0, 0) _ rfl (by (with_reducible repeat (first | refine blk_drewN ?_ _ | refine blk_drew ?_)); refine blk_put (cs := #[.int .i64 0, .int .u64 0]) ?_ 1 _ rfl; refine blk_put (cs := #[.int .i64 0, .int .u64 0]) ?_ 0 _ rfl; refine blk_far ?_ N24.out _; (with_reducible repeat (first | refine blk_drewN ?_ _ | refine blk_drew ?_)); exact B2.out) hu25 rfl (by kernel_rfl)) rfl ⟨rfl, by repeat (first | (with_reducible first | exact HB.out | apply pw_below_drewN | apply below_drew1 | refine below_set ?_ G2.out | refine below_set ?_ G4.out) | exact HB.out)⟩
      | some p =>
        rw [hn] at hh
        obtain ⟨pn, ps⟩ := p
        obtain ⟨hb0, hb1⟩ := number_bound hn (by decide)
        have HC := Aside0.mk (endRes_some hn)
        have HP : Aside0 (finP ((fields (form7.drop ([x0, x1, x2, x3, pn] : List Int).length) ps).map (([x0, x1, x2, x3, pn] : List Int) ++ ·)) = some (r1, r2, r3)) := ⟨by
          have h2 := hh
          show finP ((fields (form7.drop 5) ps).map _) = _
          simp only [Option.bind_some] at h2
          cases hf : fields (form7.drop 5) ps with
          | none => rw [hf] at h2; exact h2
          | some l => rw [hf] at h2; exact h2⟩
        clear hn hh
        have d0 : decide (pn < 0) = false := decide_eq_false (by simpa using hb0)
        go_wp2_with (go_at_call 38; (with_reducible refine (numcall s 2 58 2 58 rfl rfl (by decide) (by decide) _ _ HC.out _).mono ?_); rintro e w' ⟨rfl, ⟨nd, rfl⟩⟩)
        go_roundg 2
        case measure => decide
        case rel => exact ⟨5, ps, [x0, x1, x2, x3, pn], rfl, (by first | rfl | go_num), ⟨rfl⟩, ⟨rfl⟩, ⟨fun x hx => by simp only [List.mem_cons, List.not_mem_nil, or_false] at hx; rcases hx with rfl | rfl | rfl | rfl | rfl <;> first | exact ⟨hb0, hb1⟩ | exact HA.out _ (by simp)⟩, HP, ⟨by (with_reducible repeat (first | refine blk_drewN ?_ _ | refine blk_drew ?_)); refine blk_put (cs := #[.int .i64 x0, .int .i64 x1, .int .i64 x2, .int .i64 x3, .int .i64 0, .int .i64 0, .int .i64 0]) ?_ 4 _ rfl; (with_reducible repeat (first | refine blk_drewN ?_ _ | refine blk_drew ?_)); exact BX.out⟩, ⟨by (with_reducible repeat (first | refine blk_drewN ?_ _ | refine blk_drew ?_)); refine blk_far ?_ N24.out _; (with_reducible repeat (first | refine blk_drewN ?_ _ | refine blk_drew ?_)); exact B2.out⟩, ⟨by exact (Below.heap_setCell _ _ _ g8 N84.out).trans B8.out⟩, ⟨by repeat (first | (with_reducible first | exact HB.out | apply pw_below_drewN | apply below_drew1 | refine below_set ?_ G4.out) | exact HB.out)⟩⟩
    · -- round 5
      obtain ⟨x0, x1, x2, x3, x4, rfl⟩ := len5 acc (by omega)
      have hi := HI.out
      obtain rfl : iv = 5 := hi
      have b4 : wr.heap[g4]? = some (.cells #[.int .i64 x0, .int .i64 x1, .int .i64 x2, .int .i64 x3, .int .i64 x4, .int .i64 0, .int .i64 0] 68 (0, 0)) := B4.out
      have hh := HP.out
      have c8 : wr.cell? ⟨g8, 5, none⟩ = some (.int .u8 46) := (cell_of_row wr g8 5 _ 5 (7, 8) B8.out).trans rfl
      have c4 := (blk_cell b4 5).trans rfl
      have f4 := blk_frozen b4 5
      rw [show form7.drop ([x0, x1, x2, x3, x4] : List Int).length = (2, 46) :: form7.drop 6 from rfl, fields] at hh
      have BX := Aside0.mk b4
      clear b4 B4 HP hlen HL
      cases hn : number s 2 46 with
      | none =>
        rw [hn] at hh
        have hq : some ((0 : Int), (0 : Int), (21 : Int)) = some (r1, r2, r3) := hh
        simp only [Option.some.injEq, Prod.mk.injEq] at hq
        obtain ⟨rfl, rfl, rfl⟩ := hq
        have HC := Aside0.mk (endRes_none hn)
        clear hn hh
        have e0 := (blk_cell B2.out 0).trans rfl
        have e1 := (blk_cell B2.out 1).trans rfl
        have f0 := blk_frozen B2.out 0
        have f1 := blk_frozen B2.out 1
        have n24 := N24.out
        go_wp2_with (go_at_call 38; (with_reducible refine (numcall s 2 46 2 46 rfl rfl (by decide) (by decide) _ _ HC.out _).mono ?_); rintro e w' ⟨rfl, ⟨nd, rfl⟩⟩)
        refine bodyPost_ret (results_ct rfl _ _ g2 25 #[.int .i64 0, .int .u64 0] (0, 0) _ rfl (by (with_reducible repeat (first | refine blk_drewN ?_ _ | refine blk_drew ?_)); refine blk_put (cs := #[.int .i64 0, .int .u64 0]) ?_ 1 _ rfl; refine blk_put (cs := #[.int .i64 0, .int .u64 0]) ?_ 0 _ rfl; refine blk_far ?_ N24.out _; (with_reducible repeat (first | refine blk_drewN ?_ _ | refine blk_drew ?_)); exact B2.out) hu25 rfl (by kernel_rfl)) rfl ⟨rfl, by repeat (first | (with_reducible first | exact HB.out | apply pw_below_drewN | apply below_drew1 | refine below_set ?_ G2.out | refine below_set ?_ G4.out) | exact HB.out)⟩
      | some p =>
        rw [hn] at hh
        obtain ⟨pn, ps⟩ := p
        obtain ⟨hb0, hb1⟩ := number_bound hn (by decide)
        have HC := Aside0.mk (endRes_some hn)
        have HP : Aside0 (finP ((fields (form7.drop ([x0, x1, x2, x3, x4, pn] : List Int).length) ps).map (([x0, x1, x2, x3, x4, pn] : List Int) ++ ·)) = some (r1, r2, r3)) := ⟨by
          have h2 := hh
          show finP ((fields (form7.drop 6) ps).map _) = _
          simp only [Option.bind_some] at h2
          cases hf : fields (form7.drop 6) ps with
          | none => rw [hf] at h2; exact h2
          | some l => rw [hf] at h2; exact h2⟩
        clear hn hh
        have d0 : decide (pn < 0) = false := decide_eq_false (by simpa using hb0)
        go_wp2_with (go_at_call 38; (with_reducible refine (numcall s 2 46 2 46 rfl rfl (by decide) (by decide) _ _ HC.out _).mono ?_); rintro e w' ⟨rfl, ⟨nd, rfl⟩⟩)
        go_roundg 1
        case measure => decide
        case rel => exact ⟨6, ps, [x0, x1, x2, x3, x4, pn], rfl, (by first | rfl | go_num), ⟨rfl⟩, ⟨rfl⟩, ⟨fun x hx => by simp only [List.mem_cons, List.not_mem_nil, or_false] at hx; rcases hx with rfl | rfl | rfl | rfl | rfl | rfl <;> first | exact ⟨hb0, hb1⟩ | exact HA.out _ (by simp)⟩, HP, ⟨by (with_reducible repeat (first | refine blk_drewN ?_ _ | refine blk_drew ?_)); refine blk_put (cs := #[.int .i64 x0, .int .i64 x1, .int .i64 x2, .int .i64 x3, .int .i64 x4, .int .i64 0, .int .i64 0]) ?_ 5 _ rfl; (with_reducible repeat (first | refine blk_drewN ?_ _ | refine blk_drew ?_)); exact BX.out⟩, ⟨by (with_reducible repeat (first | refine blk_drewN ?_ _ | refine blk_drew ?_)); refine blk_far ?_ N24.out _; (with_reducible repeat (first | refine blk_drewN ?_ _ | refine blk_drew ?_)); exact B2.out⟩, ⟨by exact (Below.heap_setCell _ _ _ g8 N84.out).trans B8.out⟩, ⟨by repeat (first | (with_reducible first | exact HB.out | apply pw_below_drewN | apply below_drew1 | refine below_set ?_ G4.out) | exact HB.out)⟩⟩
    · -- round 6
      obtain ⟨x0, x1, x2, x3, x4, x5, rfl⟩ := len6 acc (by omega)
      have hi := HI.out
      obtain rfl : iv = 6 := hi
      have b4 : wr.heap[g4]? = some (.cells #[.int .i64 x0, .int .i64 x1, .int .i64 x2, .int .i64 x3, .int .i64 x4, .int .i64 x5, .int .i64 0] 68 (0, 0)) := B4.out
      have hh := HP.out
      have c8 : wr.cell? ⟨g8, 6, none⟩ = some (.int .u8 0) := (cell_of_row wr g8 6 _ 5 (7, 8) B8.out).trans rfl
      have c4 := (blk_cell b4 6).trans rfl
      have f4 := blk_frozen b4 6
      rw [show form7.drop ([x0, x1, x2, x3, x4, x5] : List Int).length = (6, 0) :: form7.drop 7 from rfl, fields] at hh
      have BX := Aside0.mk b4
      clear b4 B4 HP hlen HL
      cases hn : number s 6 0 with
      | none =>
        rw [hn] at hh
        have hq : some ((0 : Int), (0 : Int), (21 : Int)) = some (r1, r2, r3) := hh
        simp only [Option.some.injEq, Prod.mk.injEq] at hq
        obtain ⟨rfl, rfl, rfl⟩ := hq
        have HC := Aside0.mk (endRes_none hn)
        clear hn hh
        have e0 := (blk_cell B2.out 0).trans rfl
        have e1 := (blk_cell B2.out 1).trans rfl
        have f0 := blk_frozen B2.out 0
        have f1 := blk_frozen B2.out 1
        have n24 := N24.out
        go_wp2_with (go_at_call 38; (with_reducible refine (numcall s 6 0 6 0 rfl rfl (by decide) (by decide) _ _ HC.out _).mono ?_); rintro e w' ⟨rfl, ⟨nd, rfl⟩⟩)
        refine bodyPost_ret (results_ct rfl _ _ g2 25 #[.int .i64 0, .int .u64 0] (0, 0) _ rfl (by (with_reducible repeat (first | refine blk_drewN ?_ _ | refine blk_drew ?_)); refine blk_put (cs := #[.int .i64 0, .int .u64 0]) ?_ 1 _ rfl; refine blk_put (cs := #[.int .i64 0, .int .u64 0]) ?_ 0 _ rfl; refine blk_far ?_ N24.out _; (with_reducible repeat (first | refine blk_drewN ?_ _ | refine blk_drew ?_)); exact B2.out) hu25 rfl (by kernel_rfl)) rfl ⟨rfl, by repeat (first | (with_reducible first | exact HB.out | apply pw_below_drewN | apply below_drew1 | refine below_set ?_ G2.out | refine below_set ?_ G4.out) | exact HB.out)⟩
      | some p =>
        rw [hn] at hh
        obtain ⟨pn, ps⟩ := p
        obtain ⟨hb0, hb1⟩ := number_bound hn (by decide)
        have HC := Aside0.mk (endRes_some hn)
        have HP : Aside0 (finP ((fields (form7.drop ([x0, x1, x2, x3, x4, x5, pn] : List Int).length) ps).map (([x0, x1, x2, x3, x4, x5, pn] : List Int) ++ ·)) = some (r1, r2, r3)) := ⟨by
          have h2 := hh
          show finP ((fields (form7.drop 7) ps).map _) = _
          simp only [Option.bind_some] at h2
          cases hf : fields (form7.drop 7) ps with
          | none => rw [hf] at h2; exact h2
          | some l => rw [hf] at h2; exact h2⟩
        clear hn hh
        have d0 : decide (pn < 0) = false := decide_eq_false (by simpa using hb0)
        go_wp2_with (go_at_call 38; (with_reducible refine (numcall s 6 0 6 0 rfl rfl (by decide) (by decide) _ _ HC.out _).mono ?_); rintro e w' ⟨rfl, ⟨nd, rfl⟩⟩)
        go_roundg 0
        case measure => decide
        case rel => exact ⟨7, ps, [x0, x1, x2, x3, x4, x5, pn], rfl, (by first | rfl | go_num), ⟨rfl⟩, ⟨rfl⟩, ⟨fun x hx => by simp only [List.mem_cons, List.not_mem_nil, or_false] at hx; rcases hx with rfl | rfl | rfl | rfl | rfl | rfl | rfl <;> first | exact ⟨hb0, hb1⟩ | exact HA.out _ (by simp)⟩, HP, ⟨by (with_reducible repeat (first | refine blk_drewN ?_ _ | refine blk_drew ?_)); refine blk_put (cs := #[.int .i64 x0, .int .i64 x1, .int .i64 x2, .int .i64 x3, .int .i64 x4, .int .i64 x5, .int .i64 0]) ?_ 6 _ rfl; (with_reducible repeat (first | refine blk_drewN ?_ _ | refine blk_drew ?_)); exact BX.out⟩, ⟨by (with_reducible repeat (first | refine blk_drewN ?_ _ | refine blk_drew ?_)); refine blk_far ?_ N24.out _; (with_reducible repeat (first | refine blk_drewN ?_ _ | refine blk_drew ?_)); exact B2.out⟩, ⟨by exact (Below.heap_setCell _ _ _ g8 N84.out).trans B8.out⟩, ⟨by repeat (first | (with_reducible first | exact HB.out | apply pw_below_drewN | apply below_drew1 | refine below_set ?_ G4.out) | exact HB.out)⟩⟩
    · -- round 7
      obtain ⟨x0, x1, x2, x3, x4, x5, x6, rfl⟩ := len7 acc (by omega)
      have hi := HI.out
      obtain rfl : iv = 7 := hi
      have b4 : wr.heap[g4]? = some (.cells #[.int .i64 x0, .int .i64 x1, .int .i64 x2, .int .i64 x3, .int .i64 x4, .int .i64 x5, .int .i64 x6] 68 (0, 0)) := B4.out
      have hh := HP.out
      have hd : stamp_ToDate.f x0 x1 x2 x3 x4 x5 ((x6 * 4294967296 + 999999) / 1000000 % 4294967296) = some (r1, r2, r3) := hh
      have HD := Aside0.mk hd
      obtain ⟨y0, y1⟩ := HA.out x6 (by simp)
      have c0 := (blk_cell b4 0).trans rfl
      have c1 := (blk_cell b4 1).trans rfl
      have c2 := (blk_cell b4 2).trans rfl
      have c3 := (blk_cell b4 3).trans rfl
      have c4 := (blk_cell b4 4).trans rfl
      have c5 := (blk_cell b4 5).trans rfl
      have c6 := (blk_cell b4 6).trans rfl
      have q1 : IntKind.i64.wrap (x6 * 4294967296) = x6 * 4294967296 := IntWalk.i64_in _ (by omega)
      have q2 : IntKind.i64.wrap (x6 * 4294967296 + 999999) = x6 * 4294967296 + 999999 := IntWalk.i64_in _ (by omega)
      have q3 : Int.tdiv (x6 * 4294967296 + 999999) 1000000 = (x6 * 4294967296 + 999999) / 1000000 := Int.tdiv_eq_ediv_of_nonneg (by omega)
      have q4 : IntKind.i64.wrap ((x6 * 4294967296 + 999999) / 1000000) = (x6 * 4294967296 + 999999) / 1000000 := IntWalk.i64_in _ (by omega)
      have q5 : IntKind.u32.wrap ((x6 * 4294967296 + 999999) / 1000000) = (x6 * 4294967296 + 999999) / 1000000 % 4294967296 := by simp [IntKind.wrap, IntKind.bits, IntKind.signed]
      clear hd hh HP hlen HL HA b4
      go_wp2_with (go_at_call 17; (with_reducible refine (stamp_ToDate.calls _ _ _ _ _ _ _ r1 r2 r3 _ HD.out).mono ?_); rintro e w' ⟨rfl, hb⟩; have b2 := blk_below B2.out hb; have e0 := (blk_cell b2 0).trans rfl; have e1 := (blk_cell b2 1).trans rfl; have f0 := blk_frozen b2 0; have f1 := blk_frozen b2 1; have BB2 := Aside0.mk b2; have BB := Aside0.mk hb; clear b2 hb)
      refine bodyPost_ret (results_ct rfl _ _ g2 25 #[.int .i64 r1, .int .u64 r2] (0, 0) _ rfl (by refine blk_put (cs := #[.int .i64 r1, .int .u64 0]) ?_ 1 _ rfl; refine blk_put (cs := #[.int .i64 0, .int .u64 0]) ?_ 0 _ rfl; exact BB2.out) hu25 rfl (by kernel_rfl)) rfl ⟨rfl, below_set (below_set (below_then HB.out HB.out.size BB.out) G2.out) G2.out⟩
end Go.Proofs.Ytbondhnhiinlbaa.Pr
end
