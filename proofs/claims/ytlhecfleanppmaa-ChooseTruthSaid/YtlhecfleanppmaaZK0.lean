/- Whole numbers below 2^53 as floats of 64 bits: their order is the numbers' own, and they turn back into the same numbers. Complex numbers whose parts are whole numbers, as values of the machine. The machine's call of the law's near. How arguments that are slices of candidates, or a candidate, read as lists and numbers. -/
import Derived.Test.YtlhecfleanppmaaProg
import Derived.Below
import Derived.Deep.Draws
import Derived.Deep.AppendLies
import Derived.Maps.AppendAt
import Derived.OwnWalk
import Derived.Laws.BytesArg
import Derived.Laws.MakeOwn
import Derived.Laws.OwnMore
import Derived.Deep.OwnRows
import Derived.Tactics
import Derived.Lib.ConvBytes
import Derived.Laws.Slices
import Derived.WalkKit
import Derived.KernelRfl
import Derived.RowKit3
import Derived.Deep.LoopGhost
import Derived.Deep.QuietTactic
import Derived.BigQuiet
import Derived.WideLaws
import Derived.Deep.DeepCutAuto
import Derived.Deep.CutBlock
import Derived.Deep.RegionHeld3
import Derived.Laws.Rows
import Derived.Lib.AppendStr
import Derived.ArgAppend
import Derived.Laws.IdiomCopy
import Derived.OrdersHeld
import Derived.Laws.BitsLemmas
import Derived.RowKit
import Derived.Test.YtlhecfleanppmaaWWords
import Derived.Test.YtlhecfleanppmaaWLast
import Derived.Test.YtlhecfleanppmaaWTab
import Derived.Test.YtlhecfleanppmaaWFour
import Derived.Test.YtlhecfleanppmaaWQPut
import Derived.Test.YtlhecfleanppmaaWApart
import Derived.Test.YtlhecfleanppmaaWArr
import Derived.Test.YtlhecfleanppmaaWZeros
import Derived.Test.YtlhecfleanppmaaWFoot
import Derived.Test.YtlhecfleanppmaaWKept
import Derived.Test.YtlhecfleanppmaaWShare
import Derived.Test.YtlhecfleanppmaaWN
import Derived.Test.YtlhecfleanppmaaWFootNe
import Derived.Test.YtlhecfleanppmaaWAt
import Derived.Test.YtlhecfleanppmaaWEqStruct
import Derived.Test.YtlhecfleanppmaaWRepsOne
import Derived.Test.YtlhecfleanppmaaWInv
import Derived.Test.YtlhecfleanppmaaWInvWords
import Derived.Test.YtlhecfleanppmaaWGuard
import Derived.Test.YtlhecfleanppmaaWNEv
import Derived.Test.YtlhecfleanppmaaWMore
import Derived.WalkLawsBesides
import Derived.Outline
import Derived.Deep.Slices
import Derived.Deep.Fields
import Derived.ProofKit
import Derived.ChangeOld
import Derived.OpenShut
section
namespace Go.Proofs.Ytlhecfleanppmaa.Pr
open Go.RowKit Go.Proofs.YtlhecfleanppmaaW.PrintWords Go.Proofs.YtlhecfleanppmaaW.PrintLast Go.Proofs.YtlhecfleanppmaaW.PrintMore
attribute [local go_sem] max2_int min2_int max_two min_two max_three min_three max_four min_four   -- for this text's walks alone
set_option linter.unusedVariables false
set_option linter.unusedSimpArgs false



def errW : Option Int → Value
  | none => .nilIface
  | some c => .iface 0 (.int .i64 c)
theorem errW_none : errW none = .nilIface := rfl
theorem errW_some (c : Int) : errW (some c) = .iface 0 (.int .i64 c) := rfl

theorem info26 : (Try.prog.info? 26).map (fun i => (i.zero, i.size, i.bytes)) = some (some (.agg #[(.int .i64 0), (.int .i64 0), (.int .i64 0), (.int .i64 0), (.int .i64 0), (.bool false), (.bool false)]), 7, 48) := by kernel_rfl
theorem info54 : (Try.prog.info? 54).map (fun i => (i.zero, i.size, i.bytes)) = some (some (.agg #[(.int .i64 0), (.int .i64 0)]), 2, 16) := by kernel_rfl
-- the values' own types
/-! #### struct type 26 -/
structure S26 where
  f0 : Int
  f1 : Int
  f2 : Int
  f3 : Int
  f4 : Int
  f5 : Bool
  f6 : Bool
def z26 : S26 := ⟨(0 : Int), (0 : Int), (0 : Int), (0 : Int), (0 : Int), false, false⟩
def k26 : Kd S26 := Kd.iso (Kd.pair (Kd.int .i64) (Kd.pair (Kd.int .i64) (Kd.pair (Kd.int .i64) (Kd.pair (Kd.int .i64) (Kd.pair (Kd.int .i64) (Kd.pair Kd.bool Kd.bool)))))) (fun x : S26 => (x.f0, x.f1, x.f2, x.f3, x.f4, x.f5, x.f6))
theorem k26_open {w : World} {x : S26} {cs : List Value} (h : k26.K w x cs) : cs = [.int .i64 x.f0, .int .i64 x.f1, .int .i64 x.f2, .int .i64 x.f3, .int .i64 x.f4, .bool x.f5, .bool x.f6] := by
  obtain ⟨_, _, rfl, rfl, ⟨_, _, rfl, rfl, ⟨_, _, rfl, rfl, ⟨_, _, rfl, rfl, ⟨_, _, rfl, rfl, ⟨_, _, rfl, rfl, rfl⟩⟩⟩⟩⟩⟩ := h
  exact rfl
theorem k26_openM {w : World} {base : Nat} {ok : Nat → Prop} {x : S26} {cs : List Value} (h : k26.M w base ok x cs) : cs = [.int .i64 x.f0, .int .i64 x.f1, .int .i64 x.f2, .int .i64 x.f3, .int .i64 x.f4, .bool x.f5, .bool x.f6] := by
  obtain ⟨_, _, rfl, rfl, ⟨_, _, rfl, rfl, ⟨_, _, rfl, rfl, ⟨_, _, rfl, rfl, ⟨_, _, rfl, rfl, ⟨_, _, rfl, rfl, rfl⟩⟩⟩⟩⟩⟩ := h
  exact rfl
theorem k26_mk (w : World) (x : S26)  : k26.K w x [.int .i64 x.f0, .int .i64 x.f1, .int .i64 x.f2, .int .i64 x.f3, .int .i64 x.f4, .bool x.f5, .bool x.f6] := ⟨[.int .i64 x.f0], [.int .i64 x.f1, .int .i64 x.f2, .int .i64 x.f3, .int .i64 x.f4, .bool x.f5, .bool x.f6], rfl, rfl, ⟨[.int .i64 x.f1], [.int .i64 x.f2, .int .i64 x.f3, .int .i64 x.f4, .bool x.f5, .bool x.f6], rfl, rfl, ⟨[.int .i64 x.f2], [.int .i64 x.f3, .int .i64 x.f4, .bool x.f5, .bool x.f6], rfl, rfl, ⟨[.int .i64 x.f3], [.int .i64 x.f4, .bool x.f5, .bool x.f6], rfl, rfl, ⟨[.int .i64 x.f4], [.bool x.f5, .bool x.f6], rfl, rfl, ⟨[.bool x.f5], [.bool x.f6], rfl, rfl, rfl⟩⟩⟩⟩⟩⟩
theorem k26_mkM (w : World) (base : Nat) (ok : Nat → Prop) (x : S26)  : k26.M w base ok x [.int .i64 x.f0, .int .i64 x.f1, .int .i64 x.f2, .int .i64 x.f3, .int .i64 x.f4, .bool x.f5, .bool x.f6] := ⟨[.int .i64 x.f0], [.int .i64 x.f1, .int .i64 x.f2, .int .i64 x.f3, .int .i64 x.f4, .bool x.f5, .bool x.f6], rfl, rfl, ⟨[.int .i64 x.f1], [.int .i64 x.f2, .int .i64 x.f3, .int .i64 x.f4, .bool x.f5, .bool x.f6], rfl, rfl, ⟨[.int .i64 x.f2], [.int .i64 x.f3, .int .i64 x.f4, .bool x.f5, .bool x.f6], rfl, rfl, ⟨[.int .i64 x.f3], [.int .i64 x.f4, .bool x.f5, .bool x.f6], rfl, rfl, ⟨[.int .i64 x.f4], [.bool x.f5, .bool x.f6], rfl, rfl, ⟨[.bool x.f5], [.bool x.f6], rfl, rfl, rfl⟩⟩⟩⟩⟩⟩
def rd_T26 (xs : List S26) (i : Int) : S26 := xs.getD i.toNat z26
theorem at_T26 {w : World} {A : Option Addr} {n : Nat} {xs : List S26} (h : Kd.C k26 w A n xs) (i : Int) (h0 : 0 ≤ i) (h1 : i < n) : ∃ ad , A = some ad ∧ w.cell? (ad.add (i.toNat * 7)) = some (.int .i64 (rd_T26 xs i).f0) ∧ w.cell? ⟨(ad.add (i.toNat * 7)).block, (ad.add (i.toNat * 7)).off + 1, none⟩ = some (.int .i64 (rd_T26 xs i).f1) ∧ w.cell? ⟨(ad.add (i.toNat * 7)).block, (ad.add (i.toNat * 7)).off + 2, none⟩ = some (.int .i64 (rd_T26 xs i).f2) ∧ w.cell? ⟨(ad.add (i.toNat * 7)).block, (ad.add (i.toNat * 7)).off + 3, none⟩ = some (.int .i64 (rd_T26 xs i).f3) ∧ w.cell? ⟨(ad.add (i.toNat * 7)).block, (ad.add (i.toNat * 7)).off + 4, none⟩ = some (.int .i64 (rd_T26 xs i).f4) ∧ w.cell? ⟨(ad.add (i.toNat * 7)).block, (ad.add (i.toNat * 7)).off + 5, none⟩ = some (.bool (rd_T26 xs i).f5) ∧ w.cell? ⟨(ad.add (i.toNat * 7)).block, (ad.add (i.toNat * 7)).off + 6, none⟩ = some (.bool (rd_T26 xs i).f6) := by
  obtain ⟨ad, c, e, _, hK, hc0⟩ := Kd.C_get h z26 i h0 h1
  have hc : ∀ j u, c[j]? = some u → w.cell? (ad.add (i.toNat * 7 + j)) = some u := hc0
  obtain rfl := k26_open hK
  exact ⟨ad, e, hc 0 _ rfl, by rw [← add_field _ _ 1 (by omega)]; exact hc 1 _ rfl, by rw [← add_field _ _ 2 (by omega)]; exact hc 2 _ rfl, by rw [← add_field _ _ 3 (by omega)]; exact hc 3 _ rfl, by rw [← add_field _ _ 4 (by omega)]; exact hc 4 _ rfl, by rw [← add_field _ _ 5 (by omega)]; exact hc 5 _ rfl, by rw [← add_field _ _ 6 (by omega)]; exact hc 6 _ rfl⟩

/-! #### struct type 54 -/
structure S54 where
  f0 : Int
  f1 : Int
def z54 : S54 := ⟨(0 : Int), (0 : Int)⟩
def k54 : Kd S54 := Kd.iso (Kd.pair (Kd.int .i64) (Kd.int .i64)) (fun x : S54 => (x.f0, x.f1))
theorem k54_open {w : World} {x : S54} {cs : List Value} (h : k54.K w x cs) : cs = [.int .i64 x.f0, .int .i64 x.f1] := by
  obtain ⟨_, _, rfl, rfl, rfl⟩ := h
  exact rfl
theorem k54_openM {w : World} {base : Nat} {ok : Nat → Prop} {x : S54} {cs : List Value} (h : k54.M w base ok x cs) : cs = [.int .i64 x.f0, .int .i64 x.f1] := by
  obtain ⟨_, _, rfl, rfl, rfl⟩ := h
  exact rfl
theorem k54_mk (w : World) (x : S54)  : k54.K w x [.int .i64 x.f0, .int .i64 x.f1] := ⟨[.int .i64 x.f0], [.int .i64 x.f1], rfl, rfl, rfl⟩
theorem k54_mkM (w : World) (base : Nat) (ok : Nat → Prop) (x : S54)  : k54.M w base ok x [.int .i64 x.f0, .int .i64 x.f1] := ⟨[.int .i64 x.f0], [.int .i64 x.f1], rfl, rfl, rfl⟩
def rd_T54 (xs : List S54) (i : Int) : S54 := xs.getD i.toNat z54
theorem at_T54 {w : World} {A : Option Addr} {n : Nat} {xs : List S54} (h : Kd.C k54 w A n xs) (i : Int) (h0 : 0 ≤ i) (h1 : i < n) : ∃ ad , A = some ad ∧ w.cell? (ad.add (i.toNat * 2)) = some (.int .i64 (rd_T54 xs i).f0) ∧ w.cell? ⟨(ad.add (i.toNat * 2)).block, (ad.add (i.toNat * 2)).off + 1, none⟩ = some (.int .i64 (rd_T54 xs i).f1) := by
  obtain ⟨ad, c, e, _, hK, hc0⟩ := Kd.C_get h z54 i h0 h1
  have hc : ∀ j u, c[j]? = some u → w.cell? (ad.add (i.toNat * 2 + j)) = some u := hc0
  obtain rfl := k54_open hK
  exact ⟨ad, e, hc 0 _ rfl, by rw [← add_field _ _ 1 (by omega)]; exact hc 1 _ rfl⟩

end Go.Proofs.Ytlhecfleanppmaa.Pr
end
section
namespace Go.Proofs.Ytlhecfleanppmaa.Pr
open Go.RowKit Go.Proofs.YtlhecfleanppmaaW.PrintWords Go.Proofs.YtlhecfleanppmaaW.PrintLast Go.Proofs.YtlhecfleanppmaaW.PrintMore
attribute [local go_sem] max2_int min2_int max_two min_two max_three min_three max_four min_four   -- for this text's walks alone
set_option linter.unusedVariables false
set_option linter.unusedSimpArgs false

/-! ### foliotref13_counts: function 26 -/
def foliotref13_counts.f (a0_0 : Int) (a0_1 : Int) (a0_2 : Int) (a0_3 : Int) (a0_4 : Int) (a0_5 : Bool) (a0_6 : Bool) : Option (Bool) := if a0_2 ≥ 0 then (if a0_2 ≤ 4503599627370496 then (if a0_1 ≥ (-1152921504606846976) then (some (decide (a0_1 ≤ 1152921504606846976))) else (some false)) else (some false)) else (some false)
set_option maxHeartbeats 8000000 in
set_option maxRecDepth 100000 in
theorem foliotref13_counts.calls (a0_0 : Int) (a0_1 : Int) (a0_2 : Int) (a0_3 : Int) (a0_4 : Int) (a0_5 : Bool) (a0_6 : Bool) (r : Bool) (w : World) (h : foliotref13_counts.f a0_0 a0_1 a0_2 a0_3 a0_4 a0_5 a0_6 = some r) :
    Calls Try.prog 26 #[.agg #[.int .i64 a0_0, .int .i64 a0_1, .int .i64 a0_2, .int .i64 a0_3, .int .i64 a0_4, .bool a0_5, .bool a0_6]] w fun e w' => e = .returned (.bool r) ∧ Below w.heap.size w w' := by
  have hu26 := Try.underlying26
  have HB := Aside0.mk (Below.refl w.heap.size w)
  have H : (if a0_2 ≥ 0 then (if a0_2 ≤ 4503599627370496 then (if a0_1 ≥ (-1152921504606846976) then (some (decide (a0_1 ≤ 1152921504606846976))) else (some false)) else (some false)) else (some false)) = some r := h
  clear h
  by_cases c2 : a0_2 ≥ 0
  · rw [if_pos c2] at H
    have c2b0 : decide (0 ≤ a0_2) = true := decide_eq_true c2
    clear c2
    by_cases c3 : a0_2 ≤ 4503599627370496
    · rw [if_pos c3] at H
      have c3b0 : decide (a0_2 ≤ 4503599627370496) = true := decide_eq_true c3
      clear c3
      by_cases c4 : a0_1 ≥ (-1152921504606846976)
      · rw [if_pos c4] at H
        have c4b0 : decide ((-1152921504606846976) ≤ a0_1) = true := decide_eq_true c4
        clear c4
        obtain rfl := Option.some.inj H
        go_enter Try.func26, Try.ntmps26
        go_wp2_with (first | ((with_reducible refine gate_dst (N := 1) rfl ?_); refine box_event ?hg (N := 1) ?hd (cs := #[.int .i64 a0_0, .int .i64 a0_1, .int .i64 a0_2, .int .i64 a0_3, .int .i64 a0_4, .bool a0_5, .bool a0_6]) (t := 26) ?hr ?_; (case hd => rfl); (case hg => rfl); (case hr => first | (go_simp; done) | (go_simp; rfl)); intro gb104 hg w5 hbox hb; have n0_ := Aside0.mk (below_step (by repeat (first | (with_reducible first | exact HB.out | apply below_alloc | apply pw_below_drewN | apply below_drew1) | exact HB.out)) hb); have n1_ := Aside0.mk (hbox); have n2_ := Aside0.mk ((by rw [hg]; exact (below_size (by repeat (first | (with_reducible first | exact HB.out | apply below_alloc | apply pw_below_drewN | apply below_drew1) | exact HB.out))) : w.heap.size ≤ gb104)); have n3_ := Aside0.mk ((by rw [hg]; exact (below_size (by repeat (first | (with_reducible first | exact HB.out | apply below_alloc | apply pw_below_drewN | apply below_drew1) | exact HB.out))) : w.heap.size ≤ gb104)); clear HB; have HB := n0_; have BK104 := n1_; have GW104 := n2_; have GE104 := n3_; clear n0_ n1_ n2_ n3_; clear hb hbox hg; have hcz6_0 : w5.cell? ⟨gb104, 0, none⟩ = some (.int .i64 a0_0) := (blk_cell BK104.out 0).trans rfl; have hcz6_1 : w5.cell? ⟨gb104, 1, none⟩ = some (.int .i64 a0_1) := (blk_cell BK104.out 1).trans rfl; have hcz6_2 : w5.cell? ⟨gb104, 2, none⟩ = some (.int .i64 a0_2) := (blk_cell BK104.out 2).trans rfl; have hcz6_3 : w5.cell? ⟨gb104, 3, none⟩ = some (.int .i64 a0_3) := (blk_cell BK104.out 3).trans rfl; have hcz6_4 : w5.cell? ⟨gb104, 4, none⟩ = some (.int .i64 a0_4) := (blk_cell BK104.out 4).trans rfl; have hcz6_5 : w5.cell? ⟨gb104, 5, none⟩ = some (.bool a0_5) := (blk_cell BK104.out 5).trans rfl; have hcz6_6 : w5.cell? ⟨gb104, 6, none⟩ = some (.bool a0_6) := (blk_cell BK104.out 6).trans rfl; have hfz6_0 := blk_frozen BK104.out 0; have hfz6_1 := blk_frozen BK104.out 1; have hfz6_2 := blk_frozen BK104.out 2; have hfz6_3 := blk_frozen BK104.out 3; have hfz6_4 := blk_frozen BK104.out 4; have hfz6_5 := blk_frozen BK104.out 5; have hfz6_6 := blk_frozen BK104.out 6))
        go_ret
        exact ⟨by first | rfl | (simp [errW_none, errW_some] <;> rfl) | (simp [*, errW_none, errW_some] <;> rfl), by repeat (first | (with_reducible first | exact HB.out | apply below_alloc | apply pw_below_drewN | apply below_drew1 | refine below_set ?_ GE104.out) | exact HB.out)⟩
      · rw [if_neg c4] at H
        have c4b0 : decide ((-1152921504606846976) ≤ a0_1) = false := decide_eq_false c4
        clear c4
        obtain rfl := Option.some.inj H
        go_enter Try.func26, Try.ntmps26
        go_wp2_with (first | ((with_reducible refine gate_dst (N := 1) rfl ?_); refine box_event ?hg (N := 1) ?hd (cs := #[.int .i64 a0_0, .int .i64 a0_1, .int .i64 a0_2, .int .i64 a0_3, .int .i64 a0_4, .bool a0_5, .bool a0_6]) (t := 26) ?hr ?_; (case hd => rfl); (case hg => rfl); (case hr => first | (go_simp; done) | (go_simp; rfl)); intro gb104 hg w7 hbox hb; have n0_ := Aside0.mk (below_step (by repeat (first | (with_reducible first | exact HB.out | apply below_alloc | apply pw_below_drewN | apply below_drew1) | exact HB.out)) hb); have n1_ := Aside0.mk (hbox); have n2_ := Aside0.mk ((by rw [hg]; exact (below_size (by repeat (first | (with_reducible first | exact HB.out | apply below_alloc | apply pw_below_drewN | apply below_drew1) | exact HB.out))) : w.heap.size ≤ gb104)); have n3_ := Aside0.mk ((by rw [hg]; exact (below_size (by repeat (first | (with_reducible first | exact HB.out | apply below_alloc | apply pw_below_drewN | apply below_drew1) | exact HB.out))) : w.heap.size ≤ gb104)); clear HB; have HB := n0_; have BK104 := n1_; have GW104 := n2_; have GE104 := n3_; clear n0_ n1_ n2_ n3_; clear hb hbox hg; have hcz8_0 : w7.cell? ⟨gb104, 0, none⟩ = some (.int .i64 a0_0) := (blk_cell BK104.out 0).trans rfl; have hcz8_1 : w7.cell? ⟨gb104, 1, none⟩ = some (.int .i64 a0_1) := (blk_cell BK104.out 1).trans rfl; have hcz8_2 : w7.cell? ⟨gb104, 2, none⟩ = some (.int .i64 a0_2) := (blk_cell BK104.out 2).trans rfl; have hcz8_3 : w7.cell? ⟨gb104, 3, none⟩ = some (.int .i64 a0_3) := (blk_cell BK104.out 3).trans rfl; have hcz8_4 : w7.cell? ⟨gb104, 4, none⟩ = some (.int .i64 a0_4) := (blk_cell BK104.out 4).trans rfl; have hcz8_5 : w7.cell? ⟨gb104, 5, none⟩ = some (.bool a0_5) := (blk_cell BK104.out 5).trans rfl; have hcz8_6 : w7.cell? ⟨gb104, 6, none⟩ = some (.bool a0_6) := (blk_cell BK104.out 6).trans rfl; have hfz8_0 := blk_frozen BK104.out 0; have hfz8_1 := blk_frozen BK104.out 1; have hfz8_2 := blk_frozen BK104.out 2; have hfz8_3 := blk_frozen BK104.out 3; have hfz8_4 := blk_frozen BK104.out 4; have hfz8_5 := blk_frozen BK104.out 5; have hfz8_6 := blk_frozen BK104.out 6))
        go_ret
        exact ⟨by first | rfl | (simp [errW_none, errW_some] <;> rfl) | (simp [*, errW_none, errW_some] <;> rfl), by repeat (first | (with_reducible first | exact HB.out | apply below_alloc | apply pw_below_drewN | apply below_drew1 | refine below_set ?_ GE104.out) | exact HB.out)⟩
    · rw [if_neg c3] at H
      have c3b0 : decide (a0_2 ≤ 4503599627370496) = false := decide_eq_false c3
      clear c3
      obtain rfl := Option.some.inj H
      go_enter Try.func26, Try.ntmps26
      go_wp2_with (first | ((with_reducible refine gate_dst (N := 1) rfl ?_); refine box_event ?hg (N := 1) ?hd (cs := #[.int .i64 a0_0, .int .i64 a0_1, .int .i64 a0_2, .int .i64 a0_3, .int .i64 a0_4, .bool a0_5, .bool a0_6]) (t := 26) ?hr ?_; (case hd => rfl); (case hg => rfl); (case hr => first | (go_simp; done) | (go_simp; rfl)); intro gb104 hg w9 hbox hb; have n0_ := Aside0.mk (below_step (by repeat (first | (with_reducible first | exact HB.out | apply below_alloc | apply pw_below_drewN | apply below_drew1) | exact HB.out)) hb); have n1_ := Aside0.mk (hbox); have n2_ := Aside0.mk ((by rw [hg]; exact (below_size (by repeat (first | (with_reducible first | exact HB.out | apply below_alloc | apply pw_below_drewN | apply below_drew1) | exact HB.out))) : w.heap.size ≤ gb104)); have n3_ := Aside0.mk ((by rw [hg]; exact (below_size (by repeat (first | (with_reducible first | exact HB.out | apply below_alloc | apply pw_below_drewN | apply below_drew1) | exact HB.out))) : w.heap.size ≤ gb104)); clear HB; have HB := n0_; have BK104 := n1_; have GW104 := n2_; have GE104 := n3_; clear n0_ n1_ n2_ n3_; clear hb hbox hg; have hcz10_0 : w9.cell? ⟨gb104, 0, none⟩ = some (.int .i64 a0_0) := (blk_cell BK104.out 0).trans rfl; have hcz10_1 : w9.cell? ⟨gb104, 1, none⟩ = some (.int .i64 a0_1) := (blk_cell BK104.out 1).trans rfl; have hcz10_2 : w9.cell? ⟨gb104, 2, none⟩ = some (.int .i64 a0_2) := (blk_cell BK104.out 2).trans rfl; have hcz10_3 : w9.cell? ⟨gb104, 3, none⟩ = some (.int .i64 a0_3) := (blk_cell BK104.out 3).trans rfl; have hcz10_4 : w9.cell? ⟨gb104, 4, none⟩ = some (.int .i64 a0_4) := (blk_cell BK104.out 4).trans rfl; have hcz10_5 : w9.cell? ⟨gb104, 5, none⟩ = some (.bool a0_5) := (blk_cell BK104.out 5).trans rfl; have hcz10_6 : w9.cell? ⟨gb104, 6, none⟩ = some (.bool a0_6) := (blk_cell BK104.out 6).trans rfl; have hfz10_0 := blk_frozen BK104.out 0; have hfz10_1 := blk_frozen BK104.out 1; have hfz10_2 := blk_frozen BK104.out 2; have hfz10_3 := blk_frozen BK104.out 3; have hfz10_4 := blk_frozen BK104.out 4; have hfz10_5 := blk_frozen BK104.out 5; have hfz10_6 := blk_frozen BK104.out 6))
      go_ret
      exact ⟨by first | rfl | (simp [errW_none, errW_some] <;> rfl) | (simp [*, errW_none, errW_some] <;> rfl), by repeat (first | (with_reducible first | exact HB.out | apply below_alloc | apply pw_below_drewN | apply below_drew1 | refine below_set ?_ GE104.out) | exact HB.out)⟩
  · rw [if_neg c2] at H
    have c2b0 : decide (0 ≤ a0_2) = false := decide_eq_false c2
    clear c2
    obtain rfl := Option.some.inj H
    go_enter Try.func26, Try.ntmps26
    go_wp2_with (first | ((with_reducible refine gate_dst (N := 1) rfl ?_); refine box_event ?hg (N := 1) ?hd (cs := #[.int .i64 a0_0, .int .i64 a0_1, .int .i64 a0_2, .int .i64 a0_3, .int .i64 a0_4, .bool a0_5, .bool a0_6]) (t := 26) ?hr ?_; (case hd => rfl); (case hg => rfl); (case hr => first | (go_simp; done) | (go_simp; rfl)); intro gb104 hg w11 hbox hb; have n0_ := Aside0.mk (below_step (by repeat (first | (with_reducible first | exact HB.out | apply below_alloc | apply pw_below_drewN | apply below_drew1) | exact HB.out)) hb); have n1_ := Aside0.mk (hbox); have n2_ := Aside0.mk ((by rw [hg]; exact (below_size (by repeat (first | (with_reducible first | exact HB.out | apply below_alloc | apply pw_below_drewN | apply below_drew1) | exact HB.out))) : w.heap.size ≤ gb104)); have n3_ := Aside0.mk ((by rw [hg]; exact (below_size (by repeat (first | (with_reducible first | exact HB.out | apply below_alloc | apply pw_below_drewN | apply below_drew1) | exact HB.out))) : w.heap.size ≤ gb104)); clear HB; have HB := n0_; have BK104 := n1_; have GW104 := n2_; have GE104 := n3_; clear n0_ n1_ n2_ n3_; clear hb hbox hg; have hcz12_0 : w11.cell? ⟨gb104, 0, none⟩ = some (.int .i64 a0_0) := (blk_cell BK104.out 0).trans rfl; have hcz12_1 : w11.cell? ⟨gb104, 1, none⟩ = some (.int .i64 a0_1) := (blk_cell BK104.out 1).trans rfl; have hcz12_2 : w11.cell? ⟨gb104, 2, none⟩ = some (.int .i64 a0_2) := (blk_cell BK104.out 2).trans rfl; have hcz12_3 : w11.cell? ⟨gb104, 3, none⟩ = some (.int .i64 a0_3) := (blk_cell BK104.out 3).trans rfl; have hcz12_4 : w11.cell? ⟨gb104, 4, none⟩ = some (.int .i64 a0_4) := (blk_cell BK104.out 4).trans rfl; have hcz12_5 : w11.cell? ⟨gb104, 5, none⟩ = some (.bool a0_5) := (blk_cell BK104.out 5).trans rfl; have hcz12_6 : w11.cell? ⟨gb104, 6, none⟩ = some (.bool a0_6) := (blk_cell BK104.out 6).trans rfl; have hfz12_0 := blk_frozen BK104.out 0; have hfz12_1 := blk_frozen BK104.out 1; have hfz12_2 := blk_frozen BK104.out 2; have hfz12_3 := blk_frozen BK104.out 3; have hfz12_4 := blk_frozen BK104.out 4; have hfz12_5 := blk_frozen BK104.out 5; have hfz12_6 := blk_frozen BK104.out 6))
    go_ret
    exact ⟨by first | rfl | (simp [errW_none, errW_some] <;> rfl) | (simp [*, errW_none, errW_some] <;> rfl), by repeat (first | (with_reducible first | exact HB.out | apply below_alloc | apply pw_below_drewN | apply below_drew1 | refine below_set ?_ GE104.out) | exact HB.out)⟩

end Go.Proofs.Ytlhecfleanppmaa.Pr
end
section
namespace Go.Proofs.Ytlhecfleanppmaa.Pr
open Go.RowKit Go.Proofs.YtlhecfleanppmaaW.PrintWords Go.Proofs.YtlhecfleanppmaaW.PrintLast Go.Proofs.YtlhecfleanppmaaW.PrintMore
attribute [local go_sem] max2_int min2_int max_two min_two max_three min_three max_four min_four   -- for this text's walks alone
set_option linter.unusedVariables false
set_option linter.unusedSimpArgs false

/-! ### foliotref13_those: function 30 -/
mutual
def foliotref13_those.l0 : Nat → List (S26) → List (S26) → Int → Option ((List (S26)))
  | 0, _, _, _ => none
  | k + 1, x0, x3, x4 => if x4 < (x0.length : Int) then (foliotref13_those.j1 k x0 x3 x4 (decide ((x3.length : Int) < 64))) else (foliotref13_those.j1 k x0 x3 x4 false)
def foliotref13_those.j1 : Nat → List (S26) → List (S26) → Int → Bool → Option ((List (S26)))
  | 0, _, _, _, _ => none
  | k + 1, x0, x3, x4, x14 => if x14 = true then (if 0 ≤ x4 then (if x4 < (x0.length : Int) then ((foliotref13_counts.f ((rd_T26 x0 x4).f0) ((rd_T26 x0 x4).f1) ((rd_T26 x0 x4).f2) ((rd_T26 x0 x4).f3) ((rd_T26 x0 x4).f4) ((rd_T26 x0 x4).f5) ((rd_T26 x0 x4).f6)).bind fun t117 => (if t117 = true then (if x3.length < 2932031007402 then (foliotref13_those.l0 k x0 (x3 ++ [(⟨(rd_T26 x0 x4).f0, (rd_T26 x0 x4).f1, (rd_T26 x0 x4).f2, (rd_T26 x0 x4).f3, (rd_T26 x0 x4).f4, (rd_T26 x0 x4).f5, (rd_T26 x0 x4).f6⟩ : S26)]) (wrap64 (x4 + 1))) else (none)) else (foliotref13_those.l0 k x0 x3 (wrap64 (x4 + 1))))) else (none)) else (none)) else (some x3)
end
def foliotref13_those.f (k : Nat) (l0 : List (S26)) : Option ((List (S26))) := foliotref13_those.l0 k l0 (([] : List (S26))) 0
theorem foliotref13_those.mono_l : ∀ k, (∀ y0 y1 y2, LeO (foliotref13_those.l0 k y0 y1 y2) (foliotref13_those.l0 (k + 1) y0 y1 y2)) ∧ (∀ y0 y1 y2 y3, LeO (foliotref13_those.j1 k y0 y1 y2 y3) (foliotref13_those.j1 (k + 1) y0 y1 y2 y3))
  | 0 => ⟨fun _ _ _ r h => by simp [foliotref13_those.l0] at h, fun _ _ _ _ r h => by simp [foliotref13_those.j1] at h⟩
  | k + 1 => by
    obtain ⟨ih0, ih1⟩ := foliotref13_those.mono_l k
    refine ⟨?_, ?_⟩
    · intro y0 y1 y2
      unfold foliotref13_those.l0
      repeat' first
      | (with_reducible exact ih0 _ _ _)
      | (with_reducible exact ih1 _ _ _ _)
      | (with_reducible exact LeO.refl _)
      | (with_reducible exact LeO.none _)
      | (with_reducible refine LeO.ite ?_ ?_)
      | (with_reducible refine LeO.bind ?_ (fun _ => ?_))
      | exact ih0 _ _ _
      | exact ih1 _ _ _ _
      | exact LeO.none _
      | refine LeO.ite ?_ ?_
      | refine LeO.bind ?_ (fun _ => ?_)
    · intro y0 y1 y2 y3
      unfold foliotref13_those.j1
      repeat' first
      | (with_reducible exact ih0 _ _ _)
      | (with_reducible exact ih1 _ _ _ _)
      | (with_reducible exact LeO.refl _)
      | (with_reducible exact LeO.none _)
      | (with_reducible refine LeO.ite ?_ ?_)
      | (with_reducible refine LeO.bind ?_ (fun _ => ?_))
      | exact ih0 _ _ _
      | exact ih1 _ _ _ _
      | exact LeO.none _
      | refine LeO.ite ?_ ?_
      | refine LeO.bind ?_ (fun _ => ?_)
theorem foliotref13_those.mono : ∀ a0 k, LeO (foliotref13_those.f k a0) (foliotref13_those.f (k + 1) a0) := by
  intro a0 k
  obtain ⟨ih0, ih1⟩ := foliotref13_those.mono_l k
  unfold foliotref13_those.f
  repeat' first
      | (with_reducible exact ih0 _ _ _)
      | (with_reducible exact ih1 _ _ _ _)
      | (with_reducible exact LeO.refl _)
      | (with_reducible exact LeO.none _)
      | (with_reducible refine LeO.ite ?_ ?_)
      | (with_reducible refine LeO.bind ?_ (fun _ => ?_))
      | exact ih0 _ _ _
      | exact ih1 _ _ _ _
      | exact LeO.none _
      | refine LeO.ite ?_ ?_
      | refine LeO.bind ?_ (fun _ => ?_)
set_option maxHeartbeats 8000000 in
set_option maxRecDepth 100000 in
theorem foliotref13_those.calls (k : Nat) (A0 : Option Addr) (c0 : Nat) (l0 : List (S26)) (r : List (S26)) (w : World) (hr0 : Kd.C k26 w A0 l0.length l0) (hc0 : l0.length ≤ c0) (h : foliotref13_those.f k l0 = some r) :
    Calls Try.prog 30 #[.slice A0 l0.length c0] w fun e w' => ∃ v0_ : Value, e = .returned (v0_) ∧ Kd.R k26 26 w' w.heap.size (fun _ => True) v0_ r ∧ Below w.heap.size w w' := by
  have hu26 := Try.underlying26
  have HR0 := Aside0.mk hr0
  have HC0 := Aside0.mk hc0
  clear hr0 hc0
  have HB := Aside0.mk (Below.refl w.heap.size w)
  have H : (foliotref13_those.l0 k l0 (([] : List (S26))) 0) = some r := h
  clear h
  obtain ⟨y113, hy113⟩ : ∃ y_ : List (S26), y_ = (([] : List (S26))) := ⟨_, rfl⟩
  replace H : (foliotref13_those.l0 k l0 y113 0) = some r := by first | (rw [hy113]; with_reducible exact H) | (have H2_ := (Option.bind_some _ _).symm.trans H; rw [hy113]; with_reducible exact H2_) | (have H2_ := (Option.bind_some _ _).symm.trans H; with_reducible exact H2_) | with_reducible exact H | (rw [hy113]; exact H) | exact H
  have Ny113 := Aside0.mk hy113
  clear hy113
  have H' := Aside0.mk H
  clear H
  go_enter Try.func30, Try.ntmps30
  go_wp2_with (first | ((with_reducible refine gate_dst (N := 5) rfl ?_); (try (refine gate_guard (by rfl) ?_; dsimp only)); refine Kd.R_lit k26 _ 26 ?hg (N := 5) ?hd (xs := ([] : List (S26))) (inner := []) (ok := fun _ => True) (okp := fun _ => True) ?hr ?hp (fun _ hk => hk) trivial (Below.refl _ _) (Nat.le_refl _) (by simp) ?_; (case hd => rfl); (case hg => rfl); (case hr => first | (go_simp; done) | (go_simp; rfl)); (case hp => exact (Reps.none _ _)); intro v114 w2 ho3 hb hg_ hnew_; clear hg_ hnew_; (first | rw [← Ny113.out] at ho3 | (simp only [Int.reduceToNat] at ho3; rw [← Ny113.out] at ho3)); have n0_ := Aside0.mk (Kd.R_lower ho3 (below_size (by repeat (first | (with_reducible first | exact HB.out | apply below_alloc | apply pw_below_drewN | apply below_drew1) | exact HB.out)))); have n1_ := Aside0.mk (below_step (by repeat (first | (with_reducible first | exact HB.out | apply below_alloc | apply pw_below_drewN | apply below_drew1) | exact HB.out)) hb); clear HB; have HO115 := n0_; have HB := n1_; clear n0_ n1_; clear hb ho3))
  go_loopg [3, 4] k (fun kq v3 v4 w' => ∃ (x3_1 : List (S26)) (x4_1 : Int), v4 = .int .i64 x4_1 ∧ Aside0 (foliotref13_those.l0 kq l0 x3_1 x4_1 = some r) ∧ Aside0 (kq ≤ k) ∧ Aside0 (Kd.R k26 26 w' w.heap.size (fun _ => True) v3 x3_1) ∧ Aside0 (Below w.heap.size w w'))
  case atStart => exact ⟨(y113), (0), (by first | rfl | (simp; done) | (simp [*]; done)), H', ⟨Nat.le_refl _⟩, ⟨by (with_reducible repeat (first | apply Kd.R_alloc | apply Kd.R_drewN | apply Kd.R_drew)); exact HO115.out⟩, ⟨by repeat (first | (with_reducible first | exact HB.out | apply below_alloc | apply pw_below_drewN | apply below_drew1) | exact HB.out)⟩⟩
  case round =>
    clear H'
    try clear p2
    try clear c3
    obtain ⟨x3_1, x4_1, rfl, HA, HK1, HO_3, HB⟩ := hrel
    cases gk with
    | zero => exact absurd HA.out (by simp [foliotref13_those.l0])
    | succ k1 =>
      have H := HA.out
      clear HA
      simp only [foliotref13_those.l0] at H
      have HC4 := Aside0.mk H
      clear H
      go_upto_region 3 with (fail)
      go_cut [14] (fun v14 wc => ∃ (kq : Nat) (x14_3 : Bool), v14 = .bool x14_3 ∧ Aside0 (foliotref13_those.j1 kq l0 x3_1 x4_1 x14_3 = some r) ∧ Aside0 (kq ≤ k1) ∧ Aside0 (Kd.R k26 26 wc w.heap.size (fun _ => True) u3 x3_1) ∧ Aside0 (Below w.heap.size w wc))
      case first =>
        have H := HC4.out
        clear HC4
        by_cases c5 : x4_1 < (l0.length : Int)
        · rw [if_pos c5] at H
          have c5b0 : decide (x4_1 < (l0.length : Int)) = true := decide_eq_true c5
          clear c5
          (first | rw [c5b0] | (simp only [i64_w, i32_w]; rw [c5b0]) | skip)
          have H' := Aside0.mk H
          clear H
          obtain ⟨Ao6, co6, eo6⟩ := Kd.R_slice HO_3.out
          subst eo6
          go_wp2
          go_meet
          case rel => exact ⟨_, (decide ((x3_1.length : Int) < 64)), (by first | rfl | (simp; done) | (simp [*]; done)), H', ⟨by have := HK1.out; first | omega | exact Nat.le_refl _⟩, ⟨by (with_reducible repeat (first | apply Kd.R_alloc | apply Kd.R_drewN | apply Kd.R_drew)); exact HO_3.out⟩, ⟨by repeat (first | (with_reducible first | exact HB.out | apply below_alloc | apply pw_below_drewN | apply below_drew1) | exact HB.out)⟩⟩
        · rw [if_neg c5] at H
          have c5b0 : decide (x4_1 < (l0.length : Int)) = false := decide_eq_false c5
          clear c5
          (first | rw [c5b0] | (simp only [i64_w, i32_w]; rw [c5b0]) | skip)
          have H' := Aside0.mk H
          clear H
          go_wp2
          go_meet
          case rel => exact ⟨_, (false), (by first | rfl | (simp; done) | (simp [*]; done)), H', ⟨by have := HK1.out; first | omega | exact Nat.le_refl _⟩, ⟨by (with_reducible repeat (first | apply Kd.R_alloc | apply Kd.R_drewN | apply Kd.R_drew)); exact HO_3.out⟩, ⟨by repeat (first | (with_reducible first | exact HB.out | apply below_alloc | apply pw_below_drewN | apply below_drew1) | exact HB.out)⟩⟩
      case rest =>
        clear HC4
        try clear p2
        try clear c3
        try clear c5
        try clear c5b0
        try clear p2
        obtain ⟨kq, x14_3, rfl, HA, HJ3, HO_3, HB⟩ := hcut
        cases kq with
        | zero => exact absurd HA.out (by simp [foliotref13_those.j1])
        | succ kj3 =>
          have H := HA.out
          clear HA
          simp only [foliotref13_those.j1] at H
          by_cases c7 : x14_3 = true
          · subst c7
            have H1 : (if 0 ≤ x4_1 then (if x4_1 < (l0.length : Int) then ((foliotref13_counts.f ((rd_T26 l0 x4_1).f0) ((rd_T26 l0 x4_1).f1) ((rd_T26 l0 x4_1).f2) ((rd_T26 l0 x4_1).f3) ((rd_T26 l0 x4_1).f4) ((rd_T26 l0 x4_1).f5) ((rd_T26 l0 x4_1).f6)).bind fun t117 => (if t117 = true then (if x3_1.length < 2932031007402 then (foliotref13_those.l0 kj3 l0 (x3_1 ++ [(⟨(rd_T26 l0 x4_1).f0, (rd_T26 l0 x4_1).f1, (rd_T26 l0 x4_1).f2, (rd_T26 l0 x4_1).f3, (rd_T26 l0 x4_1).f4, (rd_T26 l0 x4_1).f5, (rd_T26 l0 x4_1).f6⟩ : S26)]) (wrap64 (x4_1 + 1))) else (none)) else (foliotref13_those.l0 kj3 l0 x3_1 (wrap64 (x4_1 + 1))))) else (none)) else (none)) = some r := by rw [if_pos rfl] at H; exact H
            clear H
            have H := H1
            clear H1
            by_cases c8 : 0 ≤ x4_1
            · rw [if_pos c8] at H
              have c8b0 : decide (0 ≤ x4_1) = true := decide_eq_true c8
              clear c8
              by_cases c9 : x4_1 < (l0.length : Int)
              · rw [if_pos c9] at H
                have c9b0 : decide (x4_1 < (l0.length : Int)) = true := decide_eq_true c9
                clear c9
                replace H := Option.bind_eq_some_iff.mp H
                obtain ⟨t117, A100, H⟩ := H
                replace H : (if t117 = true then (if x3_1.length < 2932031007402 then (foliotref13_those.l0 kj3 l0 (x3_1 ++ [(⟨(rd_T26 l0 x4_1).f0, (rd_T26 l0 x4_1).f1, (rd_T26 l0 x4_1).f2, (rd_T26 l0 x4_1).f3, (rd_T26 l0 x4_1).f4, (rd_T26 l0 x4_1).f5, (rd_T26 l0 x4_1).f6⟩ : S26)]) (wrap64 (x4_1 + 1))) else (none)) else (foliotref13_those.l0 kj3 l0 x3_1 (wrap64 (x4_1 + 1)))) = some r := H
                have A10 := Aside0.mk A100
                clear A100
                by_cases c11 : t117 = true
                · subst c11
                  have H1 : (if x3_1.length < 2932031007402 then (foliotref13_those.l0 kj3 l0 (x3_1 ++ [(⟨(rd_T26 l0 x4_1).f0, (rd_T26 l0 x4_1).f1, (rd_T26 l0 x4_1).f2, (rd_T26 l0 x4_1).f3, (rd_T26 l0 x4_1).f4, (rd_T26 l0 x4_1).f5, (rd_T26 l0 x4_1).f6⟩ : S26)]) (wrap64 (x4_1 + 1))) else (none)) = some r := by rw [if_pos rfl] at H; exact H
                  clear H
                  have H := H1
                  clear H1
                  by_cases c12 : x3_1.length < 2932031007402
                  · rw [if_pos c12] at H
                    have LMc12 := Aside0.mk c12
                    clear c12
                    obtain ⟨y119, hy119⟩ : ∃ y_ : List (S26), y_ = (x3_1 ++ [(⟨(rd_T26 l0 x4_1).f0, (rd_T26 l0 x4_1).f1, (rd_T26 l0 x4_1).f2, (rd_T26 l0 x4_1).f3, (rd_T26 l0 x4_1).f4, (rd_T26 l0 x4_1).f5, (rd_T26 l0 x4_1).f6⟩ : S26)]) := ⟨_, rfl⟩
                    replace H : (foliotref13_those.l0 kj3 l0 y119 (wrap64 (x4_1 + 1))) = some r := by first | (rw [hy119]; with_reducible exact H) | (have H2_ := (Option.bind_some _ _).symm.trans H; rw [hy119]; with_reducible exact H2_) | (have H2_ := (Option.bind_some _ _).symm.trans H; with_reducible exact H2_) | with_reducible exact H | (rw [hy119]; exact H) | exact H
                    have Ny119 := Aside0.mk hy119
                    clear hy119
                    have H' := Aside0.mk H
                    clear H
                    have p116 : 0 ≤ (x4_1 : Int) := of_decide_eq_true (by first | (with_reducible assumption) | assumption)
                    have q116 : x4_1 < (l0.length : Int) := of_decide_eq_true (by first | (with_reducible assumption) | assumption)
                    obtain ⟨ad116, e116, hx116_0, hx116_1, hx116_2, hx116_3, hx116_4, hx116_5, hx116_6⟩ := at_T26 HR0.out x4_1 p116 q116
                    cases e116
                    replace hx116_0 := (HB.out.cell (World.block_lt_of_cell? w _ hx116_0)).trans hx116_0
                    replace hx116_1 := (HB.out.cell (World.block_lt_of_cell? w _ hx116_1)).trans hx116_1
                    replace hx116_2 := (HB.out.cell (World.block_lt_of_cell? w _ hx116_2)).trans hx116_2
                    replace hx116_3 := (HB.out.cell (World.block_lt_of_cell? w _ hx116_3)).trans hx116_3
                    replace hx116_4 := (HB.out.cell (World.block_lt_of_cell? w _ hx116_4)).trans hx116_4
                    replace hx116_5 := (HB.out.cell (World.block_lt_of_cell? w _ hx116_5)).trans hx116_5
                    replace hx116_6 := (HB.out.cell (World.block_lt_of_cell? w _ hx116_6)).trans hx116_6
                    replace p116 := eq_true p116
                    replace q116 := eq_true q116
                    go_wp2_with (first | ((with_reducible refine gate_callee (f := 26) rfl ?_); refine goesL_ (some 21) rfl rfl Try.func26 (by kernel_rfl) rfl #[.agg #[.int .i64 ((rd_T26 l0 x4_1).f0), .int .i64 ((rd_T26 l0 x4_1).f1), .int .i64 ((rd_T26 l0 x4_1).f2), .int .i64 ((rd_T26 l0 x4_1).f3), .int .i64 ((rd_T26 l0 x4_1).f4), .bool ((rd_T26 l0 x4_1).f5), .bool ((rd_T26 l0 x4_1).f6)]] rfl (by (try simp only [List.map_toArray, List.map_cons, List.map_nil]); first | done | rfl | (simp only [List.length_drop, List.length_take]; rfl)) ?_; (with_reducible refine (foliotref13_counts.calls ((rd_T26 l0 x4_1).f0) ((rd_T26 l0 x4_1).f1) ((rd_T26 l0 x4_1).f2) ((rd_T26 l0 x4_1).f3) ((rd_T26 l0 x4_1).f4) ((rd_T26 l0 x4_1).f5) ((rd_T26 l0 x4_1).f6) true _ A10.out).mono ?_); rintro e w13 ⟨rfl, hb⟩; refine ⟨_, rfl, ?_⟩; have n0_ := Aside0.mk (Kd.R_below (by (with_reducible repeat (first | apply Kd.R_alloc | apply Kd.R_drewN | apply Kd.R_drew)); exact HO_3.out) hb); have n1_ := Aside0.mk (below_step (by repeat (first | (with_reducible first | exact HB.out | apply below_alloc | apply pw_below_drewN | apply below_drew1) | exact HB.out)) hb); clear HO_3; clear HB; have HO_3 := n0_; have HB := n1_; clear n0_ n1_; (try clear hb); (try clear hb2); (try clear hk); (try clear hi); have p118 : 0 ≤ (x4_1 : Int) := of_decide_eq_true (by first | (with_reducible assumption) | assumption); have q118 : x4_1 < (l0.length : Int) := of_decide_eq_true (by first | (with_reducible assumption) | assumption); obtain ⟨ad118, e118, hx118_0, hx118_1, hx118_2, hx118_3, hx118_4, hx118_5, hx118_6⟩ := at_T26 HR0.out x4_1 p118 q118; obtain rfl : ad116 = ad118 := (by injection e118); replace hx118_0 := (HB.out.cell (World.block_lt_of_cell? w _ hx118_0)).trans hx118_0; replace hx118_1 := (HB.out.cell (World.block_lt_of_cell? w _ hx118_1)).trans hx118_1; replace hx118_2 := (HB.out.cell (World.block_lt_of_cell? w _ hx118_2)).trans hx118_2; replace hx118_3 := (HB.out.cell (World.block_lt_of_cell? w _ hx118_3)).trans hx118_3; replace hx118_4 := (HB.out.cell (World.block_lt_of_cell? w _ hx118_4)).trans hx118_4; replace hx118_5 := (HB.out.cell (World.block_lt_of_cell? w _ hx118_5)).trans hx118_5; replace hx118_6 := (HB.out.cell (World.block_lt_of_cell? w _ hx118_6)).trans hx118_6; replace p118 := eq_true p118; replace q118 := eq_true q118) | ((with_reducible refine gate_builtin (b := .append) (xs := #[.tmp 22, .tmp 27]) rfl ?_); (try (refine gate_guard (by rfl) ?_; dsimp only)); at_builtin; refine Kd.R_append k26 (w0 := w) w.heap.size rfl (.tmp 22) (.tmp 27) 22 26 (.agg #[(.int .i64 0), (.int .i64 0), (.int .i64 0), (.int .i64 0), (.int .i64 0), (.bool false), (.bool false)]) 48 rfl Try.underlying22 info26 rfl (by decide) (by omega) u3 x3_1 (⟨(rd_T26 l0 x4_1).f0, (rd_T26 l0 x4_1).f1, (rd_T26 l0 x4_1).f2, (rd_T26 l0 x4_1).f3, (rd_T26 l0 x4_1).f4, (rd_T26 l0 x4_1).f5, (rd_T26 l0 x4_1).f6⟩ : S26) [.int .i64 ((rd_T26 l0 x4_1).f0), .int .i64 ((rd_T26 l0 x4_1).f1), .int .i64 ((rd_T26 l0 x4_1).f2), .int .i64 ((rd_T26 l0 x4_1).f3), .int .i64 ((rd_T26 l0 x4_1).f4), .bool ((rd_T26 l0 x4_1).f5), .bool ((rd_T26 l0 x4_1).f6)] (fun _ => True) (fun _ => False) rfl rfl ?aP (fun _ hk => hk.elim) ?aF ?aO ?aB ?aS ?aL ?_; (case aP => exact k26_mkM _ _ _ (⟨(rd_T26 l0 x4_1).f0, (rd_T26 l0 x4_1).f1, (rd_T26 l0 x4_1).f2, (rd_T26 l0 x4_1).f3, (rd_T26 l0 x4_1).f4, (rd_T26 l0 x4_1).f5, (rd_T26 l0 x4_1).f6⟩ : S26)); (case aB => exact (by repeat (first | (with_reducible first | exact HB.out | apply below_alloc | apply pw_below_drewN | apply below_drew1) | exact HB.out))); (case aF => exact (fun _ _ => trivial)); (case aO => exact (by (with_reducible repeat (first | apply Kd.R_alloc | apply Kd.R_drewN | apply Kd.R_drew)); exact HO_3.out)); (case aS => exact (below_size (by repeat (first | (with_reducible first | exact HB.out | apply below_alloc | apply pw_below_drewN | apply below_drew1) | exact HB.out)))); (case aL => have := LMc12.out; omega); intro v120 w14 ho hb hg hat; rw [← Ny119.out] at ho; have n0_ := Aside0.mk (hb); have n1_ := Aside0.mk (ho); clear HB; clear HO_3; have HB := n0_; have HO121 := n1_; clear n0_ n1_; clear ho hb hg hat))
                    go_roundg kj3
                    case measure => have := HK1.out; have := HJ3.out; omega
                    case rel => exact ⟨(y119), (wrap64 (x4_1 + 1)), (by first | rfl | (simp; done) | (simp [*]; done)), H', ⟨by have := HK1.out; have := HJ3.out; omega⟩, ⟨by (with_reducible repeat (first | apply Kd.R_alloc | apply Kd.R_drewN | apply Kd.R_drew)); exact HO121.out⟩, ⟨by repeat (first | (with_reducible first | exact HB.out | apply below_alloc | apply pw_below_drewN | apply below_drew1) | exact HB.out)⟩⟩
                  · rw [if_neg c12] at H
                    exact absurd H (by simp)
                · replace c11 := Bool.eq_false_iff.mpr c11
                  subst c11
                  have H1 : (foliotref13_those.l0 kj3 l0 x3_1 (wrap64 (x4_1 + 1))) = some r := by rw [if_neg (show ¬ (false = true) by decide)] at H; exact H
                  clear H
                  have H := H1
                  clear H1
                  have H' := Aside0.mk H
                  clear H
                  have p116 : 0 ≤ (x4_1 : Int) := of_decide_eq_true (by first | (with_reducible assumption) | assumption)
                  have q116 : x4_1 < (l0.length : Int) := of_decide_eq_true (by first | (with_reducible assumption) | assumption)
                  obtain ⟨ad116, e116, hx116_0, hx116_1, hx116_2, hx116_3, hx116_4, hx116_5, hx116_6⟩ := at_T26 HR0.out x4_1 p116 q116
                  cases e116
                  replace hx116_0 := (HB.out.cell (World.block_lt_of_cell? w _ hx116_0)).trans hx116_0
                  replace hx116_1 := (HB.out.cell (World.block_lt_of_cell? w _ hx116_1)).trans hx116_1
                  replace hx116_2 := (HB.out.cell (World.block_lt_of_cell? w _ hx116_2)).trans hx116_2
                  replace hx116_3 := (HB.out.cell (World.block_lt_of_cell? w _ hx116_3)).trans hx116_3
                  replace hx116_4 := (HB.out.cell (World.block_lt_of_cell? w _ hx116_4)).trans hx116_4
                  replace hx116_5 := (HB.out.cell (World.block_lt_of_cell? w _ hx116_5)).trans hx116_5
                  replace hx116_6 := (HB.out.cell (World.block_lt_of_cell? w _ hx116_6)).trans hx116_6
                  replace p116 := eq_true p116
                  replace q116 := eq_true q116
                  go_wp2_with (first | ((with_reducible refine gate_callee (f := 26) rfl ?_); refine goesL_ (some 21) rfl rfl Try.func26 (by kernel_rfl) rfl #[.agg #[.int .i64 ((rd_T26 l0 x4_1).f0), .int .i64 ((rd_T26 l0 x4_1).f1), .int .i64 ((rd_T26 l0 x4_1).f2), .int .i64 ((rd_T26 l0 x4_1).f3), .int .i64 ((rd_T26 l0 x4_1).f4), .bool ((rd_T26 l0 x4_1).f5), .bool ((rd_T26 l0 x4_1).f6)]] rfl (by (try simp only [List.map_toArray, List.map_cons, List.map_nil]); first | done | rfl | (simp only [List.length_drop, List.length_take]; rfl)) ?_; (with_reducible refine (foliotref13_counts.calls ((rd_T26 l0 x4_1).f0) ((rd_T26 l0 x4_1).f1) ((rd_T26 l0 x4_1).f2) ((rd_T26 l0 x4_1).f3) ((rd_T26 l0 x4_1).f4) ((rd_T26 l0 x4_1).f5) ((rd_T26 l0 x4_1).f6) false _ A10.out).mono ?_); rintro e w15 ⟨rfl, hb⟩; refine ⟨_, rfl, ?_⟩; have n0_ := Aside0.mk (Kd.R_below (by (with_reducible repeat (first | apply Kd.R_alloc | apply Kd.R_drewN | apply Kd.R_drew)); exact HO_3.out) hb); have n1_ := Aside0.mk (below_step (by repeat (first | (with_reducible first | exact HB.out | apply below_alloc | apply pw_below_drewN | apply below_drew1) | exact HB.out)) hb); clear HO_3; clear HB; have HO_3 := n0_; have HB := n1_; clear n0_ n1_; (try clear hb); (try clear hb2); (try clear hk); (try clear hi)))
                  go_roundg kj3
                  case measure => have := HK1.out; have := HJ3.out; omega
                  case rel => exact ⟨(x3_1), (wrap64 (x4_1 + 1)), (by first | rfl | (simp; done) | (simp [*]; done)), H', ⟨by have := HK1.out; have := HJ3.out; omega⟩, ⟨by (with_reducible repeat (first | apply Kd.R_alloc | apply Kd.R_drewN | apply Kd.R_drew)); exact HO_3.out⟩, ⟨by repeat (first | (with_reducible first | exact HB.out | apply below_alloc | apply pw_below_drewN | apply below_drew1) | exact HB.out)⟩⟩
              · rw [if_neg c9] at H
                exact absurd H (by simp)
            · rw [if_neg c8] at H
              exact absurd H (by simp)
          · replace c7 := Bool.eq_false_iff.mpr c7
            subst c7
            have H1 : (some x3_1) = some r := by rw [if_neg (show ¬ (false = true) by decide)] at H; exact H
            clear H
            have H := H1
            clear H1
            obtain rfl := Option.some.inj H
            go_wp2
            go_ret
            exact ⟨_, by first | rfl | (simp [errW_none, errW_some] <;> rfl) | (simp [*, errW_none, errW_some] <;> rfl), by (with_reducible repeat (first | apply Kd.R_alloc | apply Kd.R_drewN | apply Kd.R_drew)); exact HO_3.out, by repeat (first | (with_reducible first | exact HB.out | apply below_alloc | apply pw_below_drewN | apply below_drew1) | exact HB.out)⟩

end Go.Proofs.Ytlhecfleanppmaa.Pr
end
section
namespace Go.Proofs.Ytlhecfleanppmaa.Pr
open Go.RowKit Go.Proofs.YtlhecfleanppmaaW.PrintWords Go.Proofs.YtlhecfleanppmaaW.PrintLast Go.Proofs.YtlhecfleanppmaaW.PrintMore
attribute [local go_sem] max2_int min2_int max_two min_two max_three min_three max_four min_four   -- for this text's walks alone
set_option linter.unusedVariables false
set_option linter.unusedSimpArgs false

/-! ### foliotref13_less: function 32 -/
def foliotref13_less.f (a0_0 : Int) (a0_1 : Int) (a1_0 : Int) (a1_1 : Int) : Option (Bool) := if a0_0 < a1_0 then (some true) else (if a0_0 = a1_0 then (some (decide (a0_1 < a1_1))) else (some false))
set_option maxHeartbeats 8000000 in
set_option maxRecDepth 100000 in
theorem foliotref13_less.calls (a0_0 : Int) (a0_1 : Int) (a1_0 : Int) (a1_1 : Int) (r : Bool) (w : World) (h : foliotref13_less.f a0_0 a0_1 a1_0 a1_1 = some r) :
    Calls Try.prog 32 #[.agg #[.int .i64 a0_0, .int .i64 a0_1], .agg #[.int .i64 a1_0, .int .i64 a1_1]] w fun e w' => e = .returned (.bool r) ∧ Below w.heap.size w w' := by
  have hu54 := Try.underlying54
  have HB := Aside0.mk (Below.refl w.heap.size w)
  have H : (if a0_0 < a1_0 then (some true) else (if a0_0 = a1_0 then (some (decide (a0_1 < a1_1))) else (some false))) = some r := h
  clear h
  by_cases c3 : a0_0 < a1_0
  · rw [if_pos c3] at H
    have c3b0 : decide (a0_0 < a1_0) = true := decide_eq_true c3
    clear c3
    obtain rfl := Option.some.inj H
    go_enter Try.func32, Try.ntmps32
    go_wp2_with (first | ((with_reducible refine gate_dst (N := 2) rfl ?_); refine box_event ?hg (N := 2) ?hd (cs := #[.int .i64 a0_0, .int .i64 a0_1]) (t := 54) ?hr ?_; (case hd => rfl); (case hg => rfl); (case hr => first | (go_simp; done) | (go_simp; rfl)); intro gb122 hg w4 hbox hb; have n0_ := Aside0.mk (below_step (by repeat (first | (with_reducible first | exact HB.out | apply below_alloc | apply pw_below_drewN | apply below_drew1) | exact HB.out)) hb); have n1_ := Aside0.mk (hbox); have n2_ := Aside0.mk ((by rw [hg]; exact (below_size (by repeat (first | (with_reducible first | exact HB.out | apply below_alloc | apply pw_below_drewN | apply below_drew1) | exact HB.out))) : w.heap.size ≤ gb122)); have n3_ := Aside0.mk ((by rw [hg]; exact (below_size (by repeat (first | (with_reducible first | exact HB.out | apply below_alloc | apply pw_below_drewN | apply below_drew1) | exact HB.out))) : w.heap.size ≤ gb122)); clear HB; have HB := n0_; have BK122 := n1_; have GW122 := n2_; have GE122 := n3_; clear n0_ n1_ n2_ n3_; clear hb hbox hg) | ((with_reducible refine gate_dst (N := 3) rfl ?_); refine box_event ?hg (N := 3) ?hd (cs := #[.int .i64 a1_0, .int .i64 a1_1]) (t := 54) ?hr ?_; (case hd => rfl); (case hg => rfl); (case hr => first | (go_simp; done) | (go_simp; rfl)); intro gb123 hg w5 hbox hb; have n0_ := Aside0.mk (blk_below (g := gb122) (o := .cells #[.int .i64 a0_0, .int .i64 a0_1] 54 (0, 0)) (by (with_reducible repeat (first | refine blk_drewN ?_ _ | refine blk_drew ?_ | refine blk_alloc ?_ _)); exact BK122.out) hb); have n1_ := Aside0.mk (below_step (by repeat (first | (with_reducible first | exact HB.out | apply below_alloc | apply pw_below_drewN | apply below_drew1 | refine below_set ?_ GE122.out) | exact HB.out)) hb); have n2_ := Aside0.mk (hbox); have n3_ := Aside0.mk ((by rw [hg]; exact (below_size (by repeat (first | (with_reducible first | exact HB.out | apply below_alloc | apply pw_below_drewN | apply below_drew1 | refine below_set ?_ GE122.out) | exact HB.out))) : w.heap.size ≤ gb123)); have n4_ := Aside0.mk ((by rw [hg]; exact (below_size (by repeat (first | (with_reducible first | exact HB.out | apply below_alloc | apply pw_below_drewN | apply below_drew1 | refine below_set ?_ GE122.out) | exact HB.out))) : w.heap.size ≤ gb123)); have n5_ := Aside0.mk ((by rw [hg]; exact Nat.ne_of_lt (blk_lt (g := gb122) (o := .cells #[.int .i64 a0_0, .int .i64 a0_1] 54 (0, 0)) (by (with_reducible repeat (first | refine blk_drewN ?_ _ | refine blk_drew ?_ | refine blk_alloc ?_ _)); exact BK122.out)) : gb122 ≠ gb123)); have n6_ := Aside0.mk ((by rw [hg]; exact Nat.ne_of_gt (blk_lt (g := gb122) (o := .cells #[.int .i64 a0_0, .int .i64 a0_1] 54 (0, 0)) (by (with_reducible repeat (first | refine blk_drewN ?_ _ | refine blk_drew ?_ | refine blk_alloc ?_ _)); exact BK122.out)) : gb123 ≠ gb122)); clear BK122; clear HB; have BK122 := n0_; have HB := n1_; have BK123 := n2_; have GW123 := n3_; have GE123 := n4_; have NB122_123 := n5_; have NB123_122 := n6_; clear n0_ n1_ n2_ n3_ n4_ n5_ n6_; clear hb hbox hg; have hnb6 := NB122_123.out; have hnc6 := NB123_122.out; have hcz7_0 : w5.cell? ⟨gb122, 0, none⟩ = some (.int .i64 a0_0) := (blk_cell BK122.out 0).trans rfl; have hcz7_1 : w5.cell? ⟨gb122, 1, none⟩ = some (.int .i64 a0_1) := (blk_cell BK122.out 1).trans rfl; have hfz7_0 := blk_frozen BK122.out 0; have hfz7_1 := blk_frozen BK122.out 1; have hcz8_0 : w5.cell? ⟨gb123, 0, none⟩ = some (.int .i64 a1_0) := (blk_cell BK123.out 0).trans rfl; have hcz8_1 : w5.cell? ⟨gb123, 1, none⟩ = some (.int .i64 a1_1) := (blk_cell BK123.out 1).trans rfl; have hfz8_0 := blk_frozen BK123.out 0; have hfz8_1 := blk_frozen BK123.out 1))
    go_ret
    exact ⟨by first | rfl | (simp [errW_none, errW_some] <;> rfl) | (simp [*, errW_none, errW_some] <;> rfl), by repeat (first | (with_reducible first | exact HB.out | apply below_alloc | apply pw_below_drewN | apply below_drew1 | refine below_set ?_ GE122.out | refine below_set ?_ GE123.out) | exact HB.out)⟩
  · rw [if_neg c3] at H
    have c3b0 : decide (a0_0 < a1_0) = false := decide_eq_false c3
    clear c3
    by_cases c9 : a0_0 = a1_0
    · rw [if_pos c9] at H
      have c9b0 : (a0_0 == a1_0) = true := beq_iff_eq.mpr c9
      have c9b1 : (a0_0 != a1_0) = false := bne_eq_false_iff_eq.mpr c9
      clear c9
      obtain rfl := Option.some.inj H
      go_enter Try.func32, Try.ntmps32
      go_wp2_with (first | ((with_reducible refine gate_dst (N := 2) rfl ?_); refine box_event ?hg (N := 2) ?hd (cs := #[.int .i64 a0_0, .int .i64 a0_1]) (t := 54) ?hr ?_; (case hd => rfl); (case hg => rfl); (case hr => first | (go_simp; done) | (go_simp; rfl)); intro gb122 hg w10 hbox hb; have n0_ := Aside0.mk (below_step (by repeat (first | (with_reducible first | exact HB.out | apply below_alloc | apply pw_below_drewN | apply below_drew1) | exact HB.out)) hb); have n1_ := Aside0.mk (hbox); have n2_ := Aside0.mk ((by rw [hg]; exact (below_size (by repeat (first | (with_reducible first | exact HB.out | apply below_alloc | apply pw_below_drewN | apply below_drew1) | exact HB.out))) : w.heap.size ≤ gb122)); have n3_ := Aside0.mk ((by rw [hg]; exact (below_size (by repeat (first | (with_reducible first | exact HB.out | apply below_alloc | apply pw_below_drewN | apply below_drew1) | exact HB.out))) : w.heap.size ≤ gb122)); clear HB; have HB := n0_; have BK122 := n1_; have GW122 := n2_; have GE122 := n3_; clear n0_ n1_ n2_ n3_; clear hb hbox hg) | ((with_reducible refine gate_dst (N := 3) rfl ?_); refine box_event ?hg (N := 3) ?hd (cs := #[.int .i64 a1_0, .int .i64 a1_1]) (t := 54) ?hr ?_; (case hd => rfl); (case hg => rfl); (case hr => first | (go_simp; done) | (go_simp; rfl)); intro gb123 hg w11 hbox hb; have n0_ := Aside0.mk (blk_below (g := gb122) (o := .cells #[.int .i64 a0_0, .int .i64 a0_1] 54 (0, 0)) (by (with_reducible repeat (first | refine blk_drewN ?_ _ | refine blk_drew ?_ | refine blk_alloc ?_ _)); exact BK122.out) hb); have n1_ := Aside0.mk (below_step (by repeat (first | (with_reducible first | exact HB.out | apply below_alloc | apply pw_below_drewN | apply below_drew1 | refine below_set ?_ GE122.out) | exact HB.out)) hb); have n2_ := Aside0.mk (hbox); have n3_ := Aside0.mk ((by rw [hg]; exact (below_size (by repeat (first | (with_reducible first | exact HB.out | apply below_alloc | apply pw_below_drewN | apply below_drew1 | refine below_set ?_ GE122.out) | exact HB.out))) : w.heap.size ≤ gb123)); have n4_ := Aside0.mk ((by rw [hg]; exact (below_size (by repeat (first | (with_reducible first | exact HB.out | apply below_alloc | apply pw_below_drewN | apply below_drew1 | refine below_set ?_ GE122.out) | exact HB.out))) : w.heap.size ≤ gb123)); have n5_ := Aside0.mk ((by rw [hg]; exact Nat.ne_of_lt (blk_lt (g := gb122) (o := .cells #[.int .i64 a0_0, .int .i64 a0_1] 54 (0, 0)) (by (with_reducible repeat (first | refine blk_drewN ?_ _ | refine blk_drew ?_ | refine blk_alloc ?_ _)); exact BK122.out)) : gb122 ≠ gb123)); have n6_ := Aside0.mk ((by rw [hg]; exact Nat.ne_of_gt (blk_lt (g := gb122) (o := .cells #[.int .i64 a0_0, .int .i64 a0_1] 54 (0, 0)) (by (with_reducible repeat (first | refine blk_drewN ?_ _ | refine blk_drew ?_ | refine blk_alloc ?_ _)); exact BK122.out)) : gb123 ≠ gb122)); clear BK122; clear HB; have BK122 := n0_; have HB := n1_; have BK123 := n2_; have GW123 := n3_; have GE123 := n4_; have NB122_123 := n5_; have NB123_122 := n6_; clear n0_ n1_ n2_ n3_ n4_ n5_ n6_; clear hb hbox hg; have hnb12 := NB122_123.out; have hnc12 := NB123_122.out; have hcz13_0 : w11.cell? ⟨gb122, 0, none⟩ = some (.int .i64 a0_0) := (blk_cell BK122.out 0).trans rfl; have hcz13_1 : w11.cell? ⟨gb122, 1, none⟩ = some (.int .i64 a0_1) := (blk_cell BK122.out 1).trans rfl; have hfz13_0 := blk_frozen BK122.out 0; have hfz13_1 := blk_frozen BK122.out 1; have hcz14_0 : w11.cell? ⟨gb123, 0, none⟩ = some (.int .i64 a1_0) := (blk_cell BK123.out 0).trans rfl; have hcz14_1 : w11.cell? ⟨gb123, 1, none⟩ = some (.int .i64 a1_1) := (blk_cell BK123.out 1).trans rfl; have hfz14_0 := blk_frozen BK123.out 0; have hfz14_1 := blk_frozen BK123.out 1))
      go_ret
      exact ⟨by first | rfl | (simp [errW_none, errW_some] <;> rfl) | (simp [*, errW_none, errW_some] <;> rfl), by repeat (first | (with_reducible first | exact HB.out | apply below_alloc | apply pw_below_drewN | apply below_drew1 | refine below_set ?_ GE122.out | refine below_set ?_ GE123.out) | exact HB.out)⟩
    · rw [if_neg c9] at H
      have c9b0 : (a0_0 == a1_0) = false := beq_eq_false_iff_ne.mpr c9
      have c9b1 : (a0_0 != a1_0) = true := bne_iff_ne.mpr c9
      obtain rfl := Option.some.inj H
      go_enter Try.func32, Try.ntmps32
      go_wp2_with (first | ((with_reducible refine gate_dst (N := 2) rfl ?_); refine box_event ?hg (N := 2) ?hd (cs := #[.int .i64 a0_0, .int .i64 a0_1]) (t := 54) ?hr ?_; (case hd => rfl); (case hg => rfl); (case hr => first | (go_simp; done) | (go_simp; rfl)); intro gb122 hg w15 hbox hb; have n0_ := Aside0.mk (below_step (by repeat (first | (with_reducible first | exact HB.out | apply below_alloc | apply pw_below_drewN | apply below_drew1) | exact HB.out)) hb); have n1_ := Aside0.mk (hbox); have n2_ := Aside0.mk ((by rw [hg]; exact (below_size (by repeat (first | (with_reducible first | exact HB.out | apply below_alloc | apply pw_below_drewN | apply below_drew1) | exact HB.out))) : w.heap.size ≤ gb122)); have n3_ := Aside0.mk ((by rw [hg]; exact (below_size (by repeat (first | (with_reducible first | exact HB.out | apply below_alloc | apply pw_below_drewN | apply below_drew1) | exact HB.out))) : w.heap.size ≤ gb122)); clear HB; have HB := n0_; have BK122 := n1_; have GW122 := n2_; have GE122 := n3_; clear n0_ n1_ n2_ n3_; clear hb hbox hg) | ((with_reducible refine gate_dst (N := 3) rfl ?_); refine box_event ?hg (N := 3) ?hd (cs := #[.int .i64 a1_0, .int .i64 a1_1]) (t := 54) ?hr ?_; (case hd => rfl); (case hg => rfl); (case hr => first | (go_simp; done) | (go_simp; rfl)); intro gb123 hg w16 hbox hb; have n0_ := Aside0.mk (blk_below (g := gb122) (o := .cells #[.int .i64 a0_0, .int .i64 a0_1] 54 (0, 0)) (by (with_reducible repeat (first | refine blk_drewN ?_ _ | refine blk_drew ?_ | refine blk_alloc ?_ _)); exact BK122.out) hb); have n1_ := Aside0.mk (below_step (by repeat (first | (with_reducible first | exact HB.out | apply below_alloc | apply pw_below_drewN | apply below_drew1 | refine below_set ?_ GE122.out) | exact HB.out)) hb); have n2_ := Aside0.mk (hbox); have n3_ := Aside0.mk ((by rw [hg]; exact (below_size (by repeat (first | (with_reducible first | exact HB.out | apply below_alloc | apply pw_below_drewN | apply below_drew1 | refine below_set ?_ GE122.out) | exact HB.out))) : w.heap.size ≤ gb123)); have n4_ := Aside0.mk ((by rw [hg]; exact (below_size (by repeat (first | (with_reducible first | exact HB.out | apply below_alloc | apply pw_below_drewN | apply below_drew1 | refine below_set ?_ GE122.out) | exact HB.out))) : w.heap.size ≤ gb123)); have n5_ := Aside0.mk ((by rw [hg]; exact Nat.ne_of_lt (blk_lt (g := gb122) (o := .cells #[.int .i64 a0_0, .int .i64 a0_1] 54 (0, 0)) (by (with_reducible repeat (first | refine blk_drewN ?_ _ | refine blk_drew ?_ | refine blk_alloc ?_ _)); exact BK122.out)) : gb122 ≠ gb123)); have n6_ := Aside0.mk ((by rw [hg]; exact Nat.ne_of_gt (blk_lt (g := gb122) (o := .cells #[.int .i64 a0_0, .int .i64 a0_1] 54 (0, 0)) (by (with_reducible repeat (first | refine blk_drewN ?_ _ | refine blk_drew ?_ | refine blk_alloc ?_ _)); exact BK122.out)) : gb123 ≠ gb122)); clear BK122; clear HB; have BK122 := n0_; have HB := n1_; have BK123 := n2_; have GW123 := n3_; have GE123 := n4_; have NB122_123 := n5_; have NB123_122 := n6_; clear n0_ n1_ n2_ n3_ n4_ n5_ n6_; clear hb hbox hg; have hnb17 := NB122_123.out; have hnc17 := NB123_122.out; have hcz18_0 : w16.cell? ⟨gb122, 0, none⟩ = some (.int .i64 a0_0) := (blk_cell BK122.out 0).trans rfl; have hcz18_1 : w16.cell? ⟨gb122, 1, none⟩ = some (.int .i64 a0_1) := (blk_cell BK122.out 1).trans rfl; have hfz18_0 := blk_frozen BK122.out 0; have hfz18_1 := blk_frozen BK122.out 1; have hcz19_0 : w16.cell? ⟨gb123, 0, none⟩ = some (.int .i64 a1_0) := (blk_cell BK123.out 0).trans rfl; have hcz19_1 : w16.cell? ⟨gb123, 1, none⟩ = some (.int .i64 a1_1) := (blk_cell BK123.out 1).trans rfl; have hfz19_0 := blk_frozen BK123.out 0; have hfz19_1 := blk_frozen BK123.out 1))
      go_ret
      exact ⟨by first | rfl | (simp [errW_none, errW_some] <;> rfl) | (simp [*, errW_none, errW_some] <;> rfl), by repeat (first | (with_reducible first | exact HB.out | apply below_alloc | apply pw_below_drewN | apply below_drew1 | refine below_set ?_ GE122.out | refine below_set ?_ GE123.out) | exact HB.out)⟩

end Go.Proofs.Ytlhecfleanppmaa.Pr
end
section
namespace Go.Proofs.Ytlhecfleanppmaa.Pr
open Go.RowKit Go.Proofs.YtlhecfleanppmaaW.PrintWords Go.Proofs.YtlhecfleanppmaaW.PrintLast Go.Proofs.YtlhecfleanppmaaW.PrintMore
attribute [local go_sem] max2_int min2_int max_two min_two max_three min_three max_four min_four   -- for this text's walks alone
set_option linter.unusedVariables false
set_option linter.unusedSimpArgs false

/-! ### choose_counts: function 25 -/
def choose_counts.f (a0_0 : Int) (a0_1 : Int) (a0_2 : Int) (a0_3 : Int) (a0_4 : Int) (a0_5 : Bool) (a0_6 : Bool) : Option (Bool) := if a0_2 ≥ 0 then (if a0_2 ≤ 4503599627370496 then (if a0_1 ≥ (-1152921504606846976) then (some (decide (a0_1 ≤ 1152921504606846976))) else (some false)) else (some false)) else (some false)
set_option maxHeartbeats 8000000 in
set_option maxRecDepth 100000 in
theorem choose_counts.calls (a0_0 : Int) (a0_1 : Int) (a0_2 : Int) (a0_3 : Int) (a0_4 : Int) (a0_5 : Bool) (a0_6 : Bool) (r : Bool) (w : World) (h : choose_counts.f a0_0 a0_1 a0_2 a0_3 a0_4 a0_5 a0_6 = some r) :
    Calls Try.prog 25 #[.agg #[.int .i64 a0_0, .int .i64 a0_1, .int .i64 a0_2, .int .i64 a0_3, .int .i64 a0_4, .bool a0_5, .bool a0_6]] w fun e w' => e = .returned (.bool r) ∧ Below w.heap.size w w' := by
  have hu26 := Try.underlying26
  have HB := Aside0.mk (Below.refl w.heap.size w)
  have H : (if a0_2 ≥ 0 then (if a0_2 ≤ 4503599627370496 then (if a0_1 ≥ (-1152921504606846976) then (some (decide (a0_1 ≤ 1152921504606846976))) else (some false)) else (some false)) else (some false)) = some r := h
  clear h
  by_cases c2 : a0_2 ≥ 0
  · rw [if_pos c2] at H
    have c2b0 : decide (0 ≤ a0_2) = true := decide_eq_true c2
    clear c2
    by_cases c3 : a0_2 ≤ 4503599627370496
    · rw [if_pos c3] at H
      have c3b0 : decide (a0_2 ≤ 4503599627370496) = true := decide_eq_true c3
      clear c3
      by_cases c4 : a0_1 ≥ (-1152921504606846976)
      · rw [if_pos c4] at H
        have c4b0 : decide ((-1152921504606846976) ≤ a0_1) = true := decide_eq_true c4
        clear c4
        obtain rfl := Option.some.inj H
        go_enter Try.func25, Try.ntmps25
        go_wp2_with (first | ((with_reducible refine gate_dst (N := 1) rfl ?_); refine box_event ?hg (N := 1) ?hd (cs := #[.int .i64 a0_0, .int .i64 a0_1, .int .i64 a0_2, .int .i64 a0_3, .int .i64 a0_4, .bool a0_5, .bool a0_6]) (t := 26) ?hr ?_; (case hd => rfl); (case hg => rfl); (case hr => first | (go_simp; done) | (go_simp; rfl)); intro gb101 hg w5 hbox hb; have n0_ := Aside0.mk (below_step (by repeat (first | (with_reducible first | exact HB.out | apply below_alloc | apply pw_below_drewN | apply below_drew1) | exact HB.out)) hb); have n1_ := Aside0.mk (hbox); have n2_ := Aside0.mk ((by rw [hg]; exact (below_size (by repeat (first | (with_reducible first | exact HB.out | apply below_alloc | apply pw_below_drewN | apply below_drew1) | exact HB.out))) : w.heap.size ≤ gb101)); have n3_ := Aside0.mk ((by rw [hg]; exact (below_size (by repeat (first | (with_reducible first | exact HB.out | apply below_alloc | apply pw_below_drewN | apply below_drew1) | exact HB.out))) : w.heap.size ≤ gb101)); clear HB; have HB := n0_; have BK101 := n1_; have GW101 := n2_; have GE101 := n3_; clear n0_ n1_ n2_ n3_; clear hb hbox hg; have hcz6_0 : w5.cell? ⟨gb101, 0, none⟩ = some (.int .i64 a0_0) := (blk_cell BK101.out 0).trans rfl; have hcz6_1 : w5.cell? ⟨gb101, 1, none⟩ = some (.int .i64 a0_1) := (blk_cell BK101.out 1).trans rfl; have hcz6_2 : w5.cell? ⟨gb101, 2, none⟩ = some (.int .i64 a0_2) := (blk_cell BK101.out 2).trans rfl; have hcz6_3 : w5.cell? ⟨gb101, 3, none⟩ = some (.int .i64 a0_3) := (blk_cell BK101.out 3).trans rfl; have hcz6_4 : w5.cell? ⟨gb101, 4, none⟩ = some (.int .i64 a0_4) := (blk_cell BK101.out 4).trans rfl; have hcz6_5 : w5.cell? ⟨gb101, 5, none⟩ = some (.bool a0_5) := (blk_cell BK101.out 5).trans rfl; have hcz6_6 : w5.cell? ⟨gb101, 6, none⟩ = some (.bool a0_6) := (blk_cell BK101.out 6).trans rfl; have hfz6_0 := blk_frozen BK101.out 0; have hfz6_1 := blk_frozen BK101.out 1; have hfz6_2 := blk_frozen BK101.out 2; have hfz6_3 := blk_frozen BK101.out 3; have hfz6_4 := blk_frozen BK101.out 4; have hfz6_5 := blk_frozen BK101.out 5; have hfz6_6 := blk_frozen BK101.out 6))
        go_ret
        exact ⟨by first | rfl | (simp [errW_none, errW_some] <;> rfl) | (simp [*, errW_none, errW_some] <;> rfl), by repeat (first | (with_reducible first | exact HB.out | apply below_alloc | apply pw_below_drewN | apply below_drew1 | refine below_set ?_ GE101.out) | exact HB.out)⟩
      · rw [if_neg c4] at H
        have c4b0 : decide ((-1152921504606846976) ≤ a0_1) = false := decide_eq_false c4
        clear c4
        obtain rfl := Option.some.inj H
        go_enter Try.func25, Try.ntmps25
        go_wp2_with (first | ((with_reducible refine gate_dst (N := 1) rfl ?_); refine box_event ?hg (N := 1) ?hd (cs := #[.int .i64 a0_0, .int .i64 a0_1, .int .i64 a0_2, .int .i64 a0_3, .int .i64 a0_4, .bool a0_5, .bool a0_6]) (t := 26) ?hr ?_; (case hd => rfl); (case hg => rfl); (case hr => first | (go_simp; done) | (go_simp; rfl)); intro gb101 hg w7 hbox hb; have n0_ := Aside0.mk (below_step (by repeat (first | (with_reducible first | exact HB.out | apply below_alloc | apply pw_below_drewN | apply below_drew1) | exact HB.out)) hb); have n1_ := Aside0.mk (hbox); have n2_ := Aside0.mk ((by rw [hg]; exact (below_size (by repeat (first | (with_reducible first | exact HB.out | apply below_alloc | apply pw_below_drewN | apply below_drew1) | exact HB.out))) : w.heap.size ≤ gb101)); have n3_ := Aside0.mk ((by rw [hg]; exact (below_size (by repeat (first | (with_reducible first | exact HB.out | apply below_alloc | apply pw_below_drewN | apply below_drew1) | exact HB.out))) : w.heap.size ≤ gb101)); clear HB; have HB := n0_; have BK101 := n1_; have GW101 := n2_; have GE101 := n3_; clear n0_ n1_ n2_ n3_; clear hb hbox hg; have hcz8_0 : w7.cell? ⟨gb101, 0, none⟩ = some (.int .i64 a0_0) := (blk_cell BK101.out 0).trans rfl; have hcz8_1 : w7.cell? ⟨gb101, 1, none⟩ = some (.int .i64 a0_1) := (blk_cell BK101.out 1).trans rfl; have hcz8_2 : w7.cell? ⟨gb101, 2, none⟩ = some (.int .i64 a0_2) := (blk_cell BK101.out 2).trans rfl; have hcz8_3 : w7.cell? ⟨gb101, 3, none⟩ = some (.int .i64 a0_3) := (blk_cell BK101.out 3).trans rfl; have hcz8_4 : w7.cell? ⟨gb101, 4, none⟩ = some (.int .i64 a0_4) := (blk_cell BK101.out 4).trans rfl; have hcz8_5 : w7.cell? ⟨gb101, 5, none⟩ = some (.bool a0_5) := (blk_cell BK101.out 5).trans rfl; have hcz8_6 : w7.cell? ⟨gb101, 6, none⟩ = some (.bool a0_6) := (blk_cell BK101.out 6).trans rfl; have hfz8_0 := blk_frozen BK101.out 0; have hfz8_1 := blk_frozen BK101.out 1; have hfz8_2 := blk_frozen BK101.out 2; have hfz8_3 := blk_frozen BK101.out 3; have hfz8_4 := blk_frozen BK101.out 4; have hfz8_5 := blk_frozen BK101.out 5; have hfz8_6 := blk_frozen BK101.out 6))
        go_ret
        exact ⟨by first | rfl | (simp [errW_none, errW_some] <;> rfl) | (simp [*, errW_none, errW_some] <;> rfl), by repeat (first | (with_reducible first | exact HB.out | apply below_alloc | apply pw_below_drewN | apply below_drew1 | refine below_set ?_ GE101.out) | exact HB.out)⟩
    · rw [if_neg c3] at H
      have c3b0 : decide (a0_2 ≤ 4503599627370496) = false := decide_eq_false c3
      clear c3
      obtain rfl := Option.some.inj H
      go_enter Try.func25, Try.ntmps25
      go_wp2_with (first | ((with_reducible refine gate_dst (N := 1) rfl ?_); refine box_event ?hg (N := 1) ?hd (cs := #[.int .i64 a0_0, .int .i64 a0_1, .int .i64 a0_2, .int .i64 a0_3, .int .i64 a0_4, .bool a0_5, .bool a0_6]) (t := 26) ?hr ?_; (case hd => rfl); (case hg => rfl); (case hr => first | (go_simp; done) | (go_simp; rfl)); intro gb101 hg w9 hbox hb; have n0_ := Aside0.mk (below_step (by repeat (first | (with_reducible first | exact HB.out | apply below_alloc | apply pw_below_drewN | apply below_drew1) | exact HB.out)) hb); have n1_ := Aside0.mk (hbox); have n2_ := Aside0.mk ((by rw [hg]; exact (below_size (by repeat (first | (with_reducible first | exact HB.out | apply below_alloc | apply pw_below_drewN | apply below_drew1) | exact HB.out))) : w.heap.size ≤ gb101)); have n3_ := Aside0.mk ((by rw [hg]; exact (below_size (by repeat (first | (with_reducible first | exact HB.out | apply below_alloc | apply pw_below_drewN | apply below_drew1) | exact HB.out))) : w.heap.size ≤ gb101)); clear HB; have HB := n0_; have BK101 := n1_; have GW101 := n2_; have GE101 := n3_; clear n0_ n1_ n2_ n3_; clear hb hbox hg; have hcz10_0 : w9.cell? ⟨gb101, 0, none⟩ = some (.int .i64 a0_0) := (blk_cell BK101.out 0).trans rfl; have hcz10_1 : w9.cell? ⟨gb101, 1, none⟩ = some (.int .i64 a0_1) := (blk_cell BK101.out 1).trans rfl; have hcz10_2 : w9.cell? ⟨gb101, 2, none⟩ = some (.int .i64 a0_2) := (blk_cell BK101.out 2).trans rfl; have hcz10_3 : w9.cell? ⟨gb101, 3, none⟩ = some (.int .i64 a0_3) := (blk_cell BK101.out 3).trans rfl; have hcz10_4 : w9.cell? ⟨gb101, 4, none⟩ = some (.int .i64 a0_4) := (blk_cell BK101.out 4).trans rfl; have hcz10_5 : w9.cell? ⟨gb101, 5, none⟩ = some (.bool a0_5) := (blk_cell BK101.out 5).trans rfl; have hcz10_6 : w9.cell? ⟨gb101, 6, none⟩ = some (.bool a0_6) := (blk_cell BK101.out 6).trans rfl; have hfz10_0 := blk_frozen BK101.out 0; have hfz10_1 := blk_frozen BK101.out 1; have hfz10_2 := blk_frozen BK101.out 2; have hfz10_3 := blk_frozen BK101.out 3; have hfz10_4 := blk_frozen BK101.out 4; have hfz10_5 := blk_frozen BK101.out 5; have hfz10_6 := blk_frozen BK101.out 6))
      go_ret
      exact ⟨by first | rfl | (simp [errW_none, errW_some] <;> rfl) | (simp [*, errW_none, errW_some] <;> rfl), by repeat (first | (with_reducible first | exact HB.out | apply below_alloc | apply pw_below_drewN | apply below_drew1 | refine below_set ?_ GE101.out) | exact HB.out)⟩
  · rw [if_neg c2] at H
    have c2b0 : decide (0 ≤ a0_2) = false := decide_eq_false c2
    clear c2
    obtain rfl := Option.some.inj H
    go_enter Try.func25, Try.ntmps25
    go_wp2_with (first | ((with_reducible refine gate_dst (N := 1) rfl ?_); refine box_event ?hg (N := 1) ?hd (cs := #[.int .i64 a0_0, .int .i64 a0_1, .int .i64 a0_2, .int .i64 a0_3, .int .i64 a0_4, .bool a0_5, .bool a0_6]) (t := 26) ?hr ?_; (case hd => rfl); (case hg => rfl); (case hr => first | (go_simp; done) | (go_simp; rfl)); intro gb101 hg w11 hbox hb; have n0_ := Aside0.mk (below_step (by repeat (first | (with_reducible first | exact HB.out | apply below_alloc | apply pw_below_drewN | apply below_drew1) | exact HB.out)) hb); have n1_ := Aside0.mk (hbox); have n2_ := Aside0.mk ((by rw [hg]; exact (below_size (by repeat (first | (with_reducible first | exact HB.out | apply below_alloc | apply pw_below_drewN | apply below_drew1) | exact HB.out))) : w.heap.size ≤ gb101)); have n3_ := Aside0.mk ((by rw [hg]; exact (below_size (by repeat (first | (with_reducible first | exact HB.out | apply below_alloc | apply pw_below_drewN | apply below_drew1) | exact HB.out))) : w.heap.size ≤ gb101)); clear HB; have HB := n0_; have BK101 := n1_; have GW101 := n2_; have GE101 := n3_; clear n0_ n1_ n2_ n3_; clear hb hbox hg; have hcz12_0 : w11.cell? ⟨gb101, 0, none⟩ = some (.int .i64 a0_0) := (blk_cell BK101.out 0).trans rfl; have hcz12_1 : w11.cell? ⟨gb101, 1, none⟩ = some (.int .i64 a0_1) := (blk_cell BK101.out 1).trans rfl; have hcz12_2 : w11.cell? ⟨gb101, 2, none⟩ = some (.int .i64 a0_2) := (blk_cell BK101.out 2).trans rfl; have hcz12_3 : w11.cell? ⟨gb101, 3, none⟩ = some (.int .i64 a0_3) := (blk_cell BK101.out 3).trans rfl; have hcz12_4 : w11.cell? ⟨gb101, 4, none⟩ = some (.int .i64 a0_4) := (blk_cell BK101.out 4).trans rfl; have hcz12_5 : w11.cell? ⟨gb101, 5, none⟩ = some (.bool a0_5) := (blk_cell BK101.out 5).trans rfl; have hcz12_6 : w11.cell? ⟨gb101, 6, none⟩ = some (.bool a0_6) := (blk_cell BK101.out 6).trans rfl; have hfz12_0 := blk_frozen BK101.out 0; have hfz12_1 := blk_frozen BK101.out 1; have hfz12_2 := blk_frozen BK101.out 2; have hfz12_3 := blk_frozen BK101.out 3; have hfz12_4 := blk_frozen BK101.out 4; have hfz12_5 := blk_frozen BK101.out 5; have hfz12_6 := blk_frozen BK101.out 6))
    go_ret
    exact ⟨by first | rfl | (simp [errW_none, errW_some] <;> rfl) | (simp [*, errW_none, errW_some] <;> rfl), by repeat (first | (with_reducible first | exact HB.out | apply below_alloc | apply pw_below_drewN | apply below_drew1 | refine below_set ?_ GE101.out) | exact HB.out)⟩

end Go.Proofs.Ytlhecfleanppmaa.Pr
end
section
namespace Go.Proofs.Ytlhecfleanppmaa.Pr
open Go.RowKit Go.Proofs.YtlhecfleanppmaaW.PrintWords Go.Proofs.YtlhecfleanppmaaW.PrintLast Go.Proofs.YtlhecfleanppmaaW.PrintMore
attribute [local go_sem] max2_int min2_int max_two min_two max_three min_three max_four min_four   -- for this text's walks alone
set_option linter.unusedVariables false
set_option linter.unusedSimpArgs false

/-! ### choose_that: function 27 -/
def choose_that.l0 : Nat → List (S26) → List (S26) → Int → Int → Option ((List (S26)))
  | 0, _, _, _, _ => none
  | k + 1, x3, x6, x7, x8 => if x8 < x7 then (if 0 ≤ x8 then (if x8 < (x6.length : Int) then ((choose_counts.f ((rd_T26 x6 x8).f0) ((rd_T26 x6 x8).f1) ((rd_T26 x6 x8).f2) ((rd_T26 x6 x8).f3) ((rd_T26 x6 x8).f4) ((rd_T26 x6 x8).f5) ((rd_T26 x6 x8).f6)).bind fun t109 => (if t109 = true then (if (x3.length : Int) < 64 then (if x3.length < 2932031007402 then (choose_that.l0 k (x3 ++ [(⟨(rd_T26 x6 x8).f0, (rd_T26 x6 x8).f1, (rd_T26 x6 x8).f2, (rd_T26 x6 x8).f3, (rd_T26 x6 x8).f4, (rd_T26 x6 x8).f5, (rd_T26 x6 x8).f6⟩ : S26)]) x6 x7 (wrap64 (x8 + 1))) else (none)) else (choose_that.l0 k x3 x6 x7 (wrap64 (x8 + 1)))) else (choose_that.l0 k x3 x6 x7 (wrap64 (x8 + 1))))) else (none)) else (none)) else (some x3)
def choose_that.f (k : Nat) (l0 : List (S26)) : Option ((List (S26))) := choose_that.l0 k ([] : List (S26)) l0 (l0.length : Int) 0
theorem choose_that.mono_l : ∀ k, (∀ y0 y1 y2 y3, LeO (choose_that.l0 k y0 y1 y2 y3) (choose_that.l0 (k + 1) y0 y1 y2 y3))
  | 0 => fun _ _ _ _ r h => by simp [choose_that.l0] at h
  | k + 1 => by
    have ih0 := choose_that.mono_l k
    · intro y0 y1 y2 y3
      unfold choose_that.l0
      repeat' first
      | (with_reducible exact ih0 _ _ _ _)
      | (with_reducible exact LeO.refl _)
      | (with_reducible exact LeO.none _)
      | (with_reducible refine LeO.ite ?_ ?_)
      | (with_reducible refine LeO.bind ?_ (fun _ => ?_))
      | exact ih0 _ _ _ _
      | exact LeO.none _
      | refine LeO.ite ?_ ?_
      | refine LeO.bind ?_ (fun _ => ?_)
theorem choose_that.mono : ∀ a0 k, LeO (choose_that.f k a0) (choose_that.f (k + 1) a0) := by
  intro a0 k
  have ih0 := choose_that.mono_l k
  unfold choose_that.f
  repeat' first
      | (with_reducible exact ih0 _ _ _ _)
      | (with_reducible exact LeO.refl _)
      | (with_reducible exact LeO.none _)
      | (with_reducible refine LeO.ite ?_ ?_)
      | (with_reducible refine LeO.bind ?_ (fun _ => ?_))
      | exact ih0 _ _ _ _
      | exact LeO.none _
      | refine LeO.ite ?_ ?_
      | refine LeO.bind ?_ (fun _ => ?_)
set_option maxHeartbeats 8000000 in
set_option maxRecDepth 100000 in
theorem choose_that.calls (k : Nat) (A0 : Option Addr) (c0 : Nat) (l0 : List (S26)) (r : List (S26)) (w : World) (hr0 : Kd.C k26 w A0 l0.length l0) (hc0 : l0.length ≤ c0) (h : choose_that.f k l0 = some r) :
    Calls Try.prog 27 #[.slice A0 l0.length c0] w fun e w' => ∃ v0_ : Value, e = .returned (v0_) ∧ Kd.R k26 26 w' w.heap.size (fun _ => True) v0_ r ∧ Below w.heap.size w w' := by
  have hu26 := Try.underlying26
  have HR0 := Aside0.mk hr0
  have HC0 := Aside0.mk hc0
  clear hr0 hc0
  have HB := Aside0.mk (Below.refl w.heap.size w)
  have H : (choose_that.l0 k ([] : List (S26)) l0 (l0.length : Int) 0) = some r := h
  clear h
  have H' := Aside0.mk H
  clear H
  go_enter Try.func27, Try.ntmps27
  go_wp2
  go_loopg [3, 8] k (fun kq v3 v8 w' => ∃ (x3_1 : List (S26)) (x8_1 : Int), v8 = .int .i64 x8_1 ∧ Aside0 (choose_that.l0 kq x3_1 l0 (l0.length : Int) x8_1 = some r) ∧ Aside0 (kq ≤ k) ∧ Aside0 (Kd.R k26 26 w' w.heap.size (fun _ => True) v3 x3_1) ∧ Aside0 (Below w.heap.size w w'))
  case atStart => exact ⟨(([] : List (S26))), (0), (by first | rfl | (simp; done) | (simp [*]; done)), H', ⟨Nat.le_refl _⟩, ⟨by first | exact Kd.R_nil _ _ _ _ _ | exact Kd.N_nil _ _ _ _ _ | exact Kd.V_nil _ _ _ _ _ | exact Kd.Q_nil _ _ _ _ _ | exact Kd.S_nil _ _ _ _ _⟩, ⟨by repeat (first | (with_reducible first | exact HB.out | apply below_alloc | apply pw_below_drewN | apply below_drew1) | exact HB.out)⟩⟩
  case round =>
    clear H'
    obtain ⟨x3_1, x8_1, rfl, HA, HK1, HO_3, HB⟩ := hrel
    cases gk with
    | zero => exact absurd HA.out (by simp [choose_that.l0])
    | succ k1 =>
      have H := HA.out
      clear HA
      simp only [choose_that.l0] at H
      by_cases c2 : x8_1 < (l0.length : Int)
      · rw [if_pos c2] at H
        have c2b0 : decide (x8_1 < (l0.length : Int)) = true := decide_eq_true c2
        clear c2
        by_cases c3 : 0 ≤ x8_1
        · rw [if_pos c3] at H
          have c3b0 : decide (0 ≤ x8_1) = true := decide_eq_true c3
          clear c3
          by_cases c4 : x8_1 < (l0.length : Int)
          · rw [if_pos c4] at H
            have c4b0 : decide (x8_1 < (l0.length : Int)) = true := decide_eq_true c4
            clear c4
            replace H := Option.bind_eq_some_iff.mp H
            obtain ⟨t109, A50, H⟩ := H
            replace H : (if t109 = true then (if (x3_1.length : Int) < 64 then (if x3_1.length < 2932031007402 then (choose_that.l0 k1 (x3_1 ++ [(⟨(rd_T26 l0 x8_1).f0, (rd_T26 l0 x8_1).f1, (rd_T26 l0 x8_1).f2, (rd_T26 l0 x8_1).f3, (rd_T26 l0 x8_1).f4, (rd_T26 l0 x8_1).f5, (rd_T26 l0 x8_1).f6⟩ : S26)]) l0 (l0.length : Int) (wrap64 (x8_1 + 1))) else (none)) else (choose_that.l0 k1 x3_1 l0 (l0.length : Int) (wrap64 (x8_1 + 1)))) else (choose_that.l0 k1 x3_1 l0 (l0.length : Int) (wrap64 (x8_1 + 1)))) = some r := H
            have A5 := Aside0.mk A50
            clear A50
            by_cases c6 : t109 = true
            · subst c6
              have H1 : (if (x3_1.length : Int) < 64 then (if x3_1.length < 2932031007402 then (choose_that.l0 k1 (x3_1 ++ [(⟨(rd_T26 l0 x8_1).f0, (rd_T26 l0 x8_1).f1, (rd_T26 l0 x8_1).f2, (rd_T26 l0 x8_1).f3, (rd_T26 l0 x8_1).f4, (rd_T26 l0 x8_1).f5, (rd_T26 l0 x8_1).f6⟩ : S26)]) l0 (l0.length : Int) (wrap64 (x8_1 + 1))) else (none)) else (choose_that.l0 k1 x3_1 l0 (l0.length : Int) (wrap64 (x8_1 + 1)))) = some r := by rw [if_pos rfl] at H; exact H
              clear H
              have H := H1
              clear H1
              by_cases c7 : (x3_1.length : Int) < 64
              · rw [if_pos c7] at H
                have c7b0 : decide ((x3_1.length : Int) < 64) = true := decide_eq_true c7
                have c7b1 : decide (x3_1.length < 64) = true := decide_eq_true (by omega)
                clear c7
                by_cases c8 : x3_1.length < 2932031007402
                · rw [if_pos c8] at H
                  have LMc8 := Aside0.mk c8
                  clear c8
                  obtain ⟨y110, hy110⟩ : ∃ y_ : List (S26), y_ = (x3_1 ++ [(⟨(rd_T26 l0 x8_1).f0, (rd_T26 l0 x8_1).f1, (rd_T26 l0 x8_1).f2, (rd_T26 l0 x8_1).f3, (rd_T26 l0 x8_1).f4, (rd_T26 l0 x8_1).f5, (rd_T26 l0 x8_1).f6⟩ : S26)]) := ⟨_, rfl⟩
                  replace H : (choose_that.l0 k1 y110 l0 (l0.length : Int) (wrap64 (x8_1 + 1))) = some r := by first | (rw [hy110]; with_reducible exact H) | (have H2_ := (Option.bind_some _ _).symm.trans H; rw [hy110]; with_reducible exact H2_) | (have H2_ := (Option.bind_some _ _).symm.trans H; with_reducible exact H2_) | with_reducible exact H | (rw [hy110]; exact H) | exact H
                  have Ny110 := Aside0.mk hy110
                  clear hy110
                  have H' := Aside0.mk H
                  clear H
                  have p107 : 0 ≤ (x8_1 : Int) := of_decide_eq_true (by first | (with_reducible assumption) | assumption)
                  have q107 : x8_1 < (l0.length : Int) := of_decide_eq_true (by first | (with_reducible assumption) | assumption)
                  obtain ⟨ad107, e107, hx107_0, hx107_1, hx107_2, hx107_3, hx107_4, hx107_5, hx107_6⟩ := at_T26 HR0.out x8_1 p107 q107
                  cases e107
                  replace hx107_0 := (HB.out.cell (World.block_lt_of_cell? w _ hx107_0)).trans hx107_0
                  replace hx107_1 := (HB.out.cell (World.block_lt_of_cell? w _ hx107_1)).trans hx107_1
                  replace hx107_2 := (HB.out.cell (World.block_lt_of_cell? w _ hx107_2)).trans hx107_2
                  replace hx107_3 := (HB.out.cell (World.block_lt_of_cell? w _ hx107_3)).trans hx107_3
                  replace hx107_4 := (HB.out.cell (World.block_lt_of_cell? w _ hx107_4)).trans hx107_4
                  replace hx107_5 := (HB.out.cell (World.block_lt_of_cell? w _ hx107_5)).trans hx107_5
                  replace hx107_6 := (HB.out.cell (World.block_lt_of_cell? w _ hx107_6)).trans hx107_6
                  replace p107 := eq_true p107
                  replace q107 := eq_true q107
                  go_wp2_with (first | ((with_reducible refine gate_dst (N := 5) rfl ?_); (try (refine gate_guard (by rfl) ?_; dsimp only)); refine box_event ?hg (N := 5) ?hd (cs := #[.int .i64 0, .int .i64 0, .int .i64 0, .int .i64 0, .int .i64 0, .bool false, .bool false]) (t := 26) ?hr ?_; (case hd => rfl); (case hg => rfl); (case hr => first | (go_simp; done) | (go_simp; rfl)); intro gb108 hg w9 hbox hb; have n0_ := Aside0.mk (Kd.R_below (Kd.R_elderB (by (with_reducible repeat (first | apply Kd.R_alloc | apply Kd.R_drewN | apply Kd.R_drew)); exact HO_3.out) gb108 (Nat.le_of_eq hg.symm)) hb); have n1_ := Aside0.mk (below_step (by repeat (first | (with_reducible first | exact HB.out | apply below_alloc | apply pw_below_drewN | apply below_drew1) | exact HB.out)) hb); have n2_ := Aside0.mk (hbox); have n3_ := Aside0.mk ((by rw [hg]; exact (below_size (by repeat (first | (with_reducible first | exact HB.out | apply below_alloc | apply pw_below_drewN | apply below_drew1) | exact HB.out))) : w.heap.size ≤ gb108)); have n4_ := Aside0.mk ((by rw [hg]; exact (below_size (by repeat (first | (with_reducible first | exact HB.out | apply below_alloc | apply pw_below_drewN | apply below_drew1) | exact HB.out))) : w.heap.size ≤ gb108)); clear HO_3; clear HB; have HO_3 := n0_; have HB := n1_; have BK108 := n2_; have GW108 := n3_; have GE108 := n4_; clear n0_ n1_ n2_ n3_ n4_; clear hb hbox hg; have hcz10_0 : w9.cell? ⟨gb108, 0, none⟩ = some (.int .i64 0) := (blk_cell BK108.out 0).trans rfl; have hcz10_1 : w9.cell? ⟨gb108, 1, none⟩ = some (.int .i64 0) := (blk_cell BK108.out 1).trans rfl; have hcz10_2 : w9.cell? ⟨gb108, 2, none⟩ = some (.int .i64 0) := (blk_cell BK108.out 2).trans rfl; have hcz10_3 : w9.cell? ⟨gb108, 3, none⟩ = some (.int .i64 0) := (blk_cell BK108.out 3).trans rfl; have hcz10_4 : w9.cell? ⟨gb108, 4, none⟩ = some (.int .i64 0) := (blk_cell BK108.out 4).trans rfl; have hcz10_5 : w9.cell? ⟨gb108, 5, none⟩ = some (.bool false) := (blk_cell BK108.out 5).trans rfl; have hcz10_6 : w9.cell? ⟨gb108, 6, none⟩ = some (.bool false) := (blk_cell BK108.out 6).trans rfl; have hfz10_0 := blk_frozen BK108.out 0; have hfz10_1 := blk_frozen BK108.out 1; have hfz10_2 := blk_frozen BK108.out 2; have hfz10_3 := blk_frozen BK108.out 3; have hfz10_4 := blk_frozen BK108.out 4; have hfz10_5 := blk_frozen BK108.out 5; have hfz10_6 := blk_frozen BK108.out 6) | ((with_reducible refine gate_callee (f := 25) rfl ?_); refine goesL_ (some 13) rfl rfl Try.func25 (by kernel_rfl) rfl #[.agg #[.int .i64 ((rd_T26 l0 x8_1).f0), .int .i64 ((rd_T26 l0 x8_1).f1), .int .i64 ((rd_T26 l0 x8_1).f2), .int .i64 ((rd_T26 l0 x8_1).f3), .int .i64 ((rd_T26 l0 x8_1).f4), .bool ((rd_T26 l0 x8_1).f5), .bool ((rd_T26 l0 x8_1).f6)]] rfl (by (try simp only [List.map_toArray, List.map_cons, List.map_nil]); first | done | rfl | (simp only [List.length_drop, List.length_take]; rfl)) ?_; (with_reducible refine (choose_counts.calls ((rd_T26 l0 x8_1).f0) ((rd_T26 l0 x8_1).f1) ((rd_T26 l0 x8_1).f2) ((rd_T26 l0 x8_1).f3) ((rd_T26 l0 x8_1).f4) ((rd_T26 l0 x8_1).f5) ((rd_T26 l0 x8_1).f6) true _ A5.out).mono ?_); rintro e w11 ⟨rfl, hb⟩; refine ⟨_, rfl, ?_⟩; have n0_ := Aside0.mk (Kd.R_below (by (with_reducible repeat (first | apply Kd.R_alloc | apply Kd.R_drewN | apply Kd.R_drew)); exact (Kd.R_mono (Kd.R_far (p := ⟨gb108, 6, none⟩) (Kd.R_far (p := ⟨gb108, 5, none⟩) (Kd.R_far (p := ⟨gb108, 4, none⟩) (Kd.R_far (p := ⟨gb108, 3, none⟩) (Kd.R_far (p := ⟨gb108, 2, none⟩) (Kd.R_far (p := ⟨gb108, 1, none⟩) (Kd.R_far (p := ⟨gb108, 0, none⟩) (Kd.R_mono HO_3.out (fun k_ hk => (⟨hk, hk.2⟩ : _ ∧ k_ ≠ gb108))) (fun _ hk => hk.2) (.int .i64 ((rd_T26 l0 x8_1).f0))) (fun _ hk => hk.2) (.int .i64 ((rd_T26 l0 x8_1).f1))) (fun _ hk => hk.2) (.int .i64 ((rd_T26 l0 x8_1).f2))) (fun _ hk => hk.2) (.int .i64 ((rd_T26 l0 x8_1).f3))) (fun _ hk => hk.2) (.int .i64 ((rd_T26 l0 x8_1).f4))) (fun _ hk => hk.2) (.bool ((rd_T26 l0 x8_1).f5))) (fun _ hk => hk.2) (.bool ((rd_T26 l0 x8_1).f6))) (fun _ h_ => h_.1))) hb); have n1_ := Aside0.mk (blk_below (g := gb108) (o := .cells #[.int .i64 ((rd_T26 l0 x8_1).f0), .int .i64 ((rd_T26 l0 x8_1).f1), .int .i64 ((rd_T26 l0 x8_1).f2), .int .i64 ((rd_T26 l0 x8_1).f3), .int .i64 ((rd_T26 l0 x8_1).f4), .bool ((rd_T26 l0 x8_1).f5), .bool ((rd_T26 l0 x8_1).f6)] 26 (0, 0)) (by (with_reducible repeat (first | refine blk_drewN ?_ _ | refine blk_drew ?_ | refine blk_alloc ?_ _)); refine blk_put (cs := #[.int .i64 ((rd_T26 l0 x8_1).f0), .int .i64 ((rd_T26 l0 x8_1).f1), .int .i64 ((rd_T26 l0 x8_1).f2), .int .i64 ((rd_T26 l0 x8_1).f3), .int .i64 ((rd_T26 l0 x8_1).f4), .bool ((rd_T26 l0 x8_1).f5), .bool false]) ?_ 6 _ rfl; (with_reducible repeat (first | refine blk_drewN ?_ _ | refine blk_drew ?_ | refine blk_alloc ?_ _)); refine blk_put (cs := #[.int .i64 ((rd_T26 l0 x8_1).f0), .int .i64 ((rd_T26 l0 x8_1).f1), .int .i64 ((rd_T26 l0 x8_1).f2), .int .i64 ((rd_T26 l0 x8_1).f3), .int .i64 ((rd_T26 l0 x8_1).f4), .bool false, .bool false]) ?_ 5 _ rfl; (with_reducible repeat (first | refine blk_drewN ?_ _ | refine blk_drew ?_ | refine blk_alloc ?_ _)); refine blk_put (cs := #[.int .i64 ((rd_T26 l0 x8_1).f0), .int .i64 ((rd_T26 l0 x8_1).f1), .int .i64 ((rd_T26 l0 x8_1).f2), .int .i64 ((rd_T26 l0 x8_1).f3), .int .i64 0, .bool false, .bool false]) ?_ 4 _ rfl; (with_reducible repeat (first | refine blk_drewN ?_ _ | refine blk_drew ?_ | refine blk_alloc ?_ _)); refine blk_put (cs := #[.int .i64 ((rd_T26 l0 x8_1).f0), .int .i64 ((rd_T26 l0 x8_1).f1), .int .i64 ((rd_T26 l0 x8_1).f2), .int .i64 0, .int .i64 0, .bool false, .bool false]) ?_ 3 _ rfl; (with_reducible repeat (first | refine blk_drewN ?_ _ | refine blk_drew ?_ | refine blk_alloc ?_ _)); refine blk_put (cs := #[.int .i64 ((rd_T26 l0 x8_1).f0), .int .i64 ((rd_T26 l0 x8_1).f1), .int .i64 0, .int .i64 0, .int .i64 0, .bool false, .bool false]) ?_ 2 _ rfl; (with_reducible repeat (first | refine blk_drewN ?_ _ | refine blk_drew ?_ | refine blk_alloc ?_ _)); refine blk_put (cs := #[.int .i64 ((rd_T26 l0 x8_1).f0), .int .i64 0, .int .i64 0, .int .i64 0, .int .i64 0, .bool false, .bool false]) ?_ 1 _ rfl; (with_reducible repeat (first | refine blk_drewN ?_ _ | refine blk_drew ?_ | refine blk_alloc ?_ _)); refine blk_put (cs := #[.int .i64 0, .int .i64 0, .int .i64 0, .int .i64 0, .int .i64 0, .bool false, .bool false]) ?_ 0 _ rfl; (with_reducible repeat (first | refine blk_drewN ?_ _ | refine blk_drew ?_ | refine blk_alloc ?_ _)); exact BK108.out) hb); have n2_ := Aside0.mk (below_step (by repeat (first | (with_reducible first | exact HB.out | apply below_alloc | apply pw_below_drewN | apply below_drew1 | refine below_set ?_ GE108.out) | exact HB.out)) hb); clear HO_3; clear BK108; clear HB; have HO_3 := n0_; have BK108 := n1_; have HB := n2_; clear n0_ n1_ n2_; (try clear hb); (try clear hb2); (try clear hk); (try clear hi); obtain ⟨Ao12, co12, eo12⟩ := Kd.R_slice HO_3.out; subst eo12; have hcz13_0 : w11.cell? ⟨gb108, 0, none⟩ = some (.int .i64 ((rd_T26 l0 x8_1).f0)) := (blk_cell BK108.out 0).trans rfl; have hcz13_1 : w11.cell? ⟨gb108, 1, none⟩ = some (.int .i64 ((rd_T26 l0 x8_1).f1)) := (blk_cell BK108.out 1).trans rfl; have hcz13_2 : w11.cell? ⟨gb108, 2, none⟩ = some (.int .i64 ((rd_T26 l0 x8_1).f2)) := (blk_cell BK108.out 2).trans rfl; have hcz13_3 : w11.cell? ⟨gb108, 3, none⟩ = some (.int .i64 ((rd_T26 l0 x8_1).f3)) := (blk_cell BK108.out 3).trans rfl; have hcz13_4 : w11.cell? ⟨gb108, 4, none⟩ = some (.int .i64 ((rd_T26 l0 x8_1).f4)) := (blk_cell BK108.out 4).trans rfl; have hcz13_5 : w11.cell? ⟨gb108, 5, none⟩ = some (.bool ((rd_T26 l0 x8_1).f5)) := (blk_cell BK108.out 5).trans rfl; have hcz13_6 : w11.cell? ⟨gb108, 6, none⟩ = some (.bool ((rd_T26 l0 x8_1).f6)) := (blk_cell BK108.out 6).trans rfl; have hfz13_0 := blk_frozen BK108.out 0; have hfz13_1 := blk_frozen BK108.out 1; have hfz13_2 := blk_frozen BK108.out 2; have hfz13_3 := blk_frozen BK108.out 3; have hfz13_4 := blk_frozen BK108.out 4; have hfz13_5 := blk_frozen BK108.out 5; have hfz13_6 := blk_frozen BK108.out 6) | ((with_reducible refine gate_builtin (b := .append) (xs := #[.tmp 19, .tmp 21]) rfl ?_); (try (refine gate_guard (by rfl) ?_; dsimp only)); at_builtin; refine Kd.R_append k26 (w0 := w) w.heap.size rfl (.tmp 19) (.tmp 21) 22 26 (.agg #[(.int .i64 0), (.int .i64 0), (.int .i64 0), (.int .i64 0), (.int .i64 0), (.bool false), (.bool false)]) 48 rfl Try.underlying22 info26 rfl (by decide) (by omega) (.slice Ao12 x3_1.length co12) x3_1 (⟨(rd_T26 l0 x8_1).f0, (rd_T26 l0 x8_1).f1, (rd_T26 l0 x8_1).f2, (rd_T26 l0 x8_1).f3, (rd_T26 l0 x8_1).f4, (rd_T26 l0 x8_1).f5, (rd_T26 l0 x8_1).f6⟩ : S26) [.int .i64 ((rd_T26 l0 x8_1).f0), .int .i64 ((rd_T26 l0 x8_1).f1), .int .i64 ((rd_T26 l0 x8_1).f2), .int .i64 ((rd_T26 l0 x8_1).f3), .int .i64 ((rd_T26 l0 x8_1).f4), .bool ((rd_T26 l0 x8_1).f5), .bool ((rd_T26 l0 x8_1).f6)] (fun k_ => k_ ≠ gb108) (fun _ => False) rfl rfl ?aP (fun _ hk => hk.elim) ?aF ?aO ?aB ?aS ?aL ?_; (case aP => exact k26_mkM _ _ _ (⟨(rd_T26 l0 x8_1).f0, (rd_T26 l0 x8_1).f1, (rd_T26 l0 x8_1).f2, (rd_T26 l0 x8_1).f3, (rd_T26 l0 x8_1).f4, (rd_T26 l0 x8_1).f5, (rd_T26 l0 x8_1).f6⟩ : S26)); (case aB => exact (by repeat (first | (with_reducible first | exact HB.out | apply below_alloc | apply pw_below_drewN | apply below_drew1 | refine below_set ?_ GE108.out) | exact HB.out))); (case aF => exact (fun k_ hk => Kd.freshB (g := gb108) (o := .cells #[.int .i64 ((rd_T26 l0 x8_1).f0), .int .i64 ((rd_T26 l0 x8_1).f1), .int .i64 ((rd_T26 l0 x8_1).f2), .int .i64 ((rd_T26 l0 x8_1).f3), .int .i64 ((rd_T26 l0 x8_1).f4), .bool ((rd_T26 l0 x8_1).f5), .bool ((rd_T26 l0 x8_1).f6)] 26 (0, 0)) (by (with_reducible repeat (first | refine blk_drewN ?_ _ | refine blk_drew ?_ | refine blk_alloc ?_ _)); exact BK108.out) k_ hk)); (case aO => exact (by (with_reducible repeat (first | apply Kd.R_alloc | apply Kd.R_drewN | apply Kd.R_drew)); exact Kd.R_mono HO_3.out (fun _ hk => hk.2))); (case aS => exact (below_size (by repeat (first | (with_reducible first | exact HB.out | apply below_alloc | apply pw_below_drewN | apply below_drew1 | refine below_set ?_ GE108.out) | exact HB.out)))); (case aL => have := LMc8.out; omega); intro v111 w14 ho hb hg hat; rw [← Ny110.out] at ho; have n0_ := Aside0.mk (blk_grown (g := gb108) (o := .cells #[.int .i64 ((rd_T26 l0 x8_1).f0), .int .i64 ((rd_T26 l0 x8_1).f1), .int .i64 ((rd_T26 l0 x8_1).f2), .int .i64 ((rd_T26 l0 x8_1).f3), .int .i64 ((rd_T26 l0 x8_1).f4), .bool ((rd_T26 l0 x8_1).f5), .bool ((rd_T26 l0 x8_1).f6)] 26 (0, 0)) (by (with_reducible repeat (first | refine blk_drewN ?_ _ | refine blk_drew ?_ | refine blk_alloc ?_ _)); exact BK108.out) hg (Kd.R_away HO_3.out (fun _ hk => hk.2))); have n1_ := Aside0.mk (hb); have n2_ := Aside0.mk (ho); clear BK108; clear HB; clear HO_3; have BK108 := n0_; have HB := n1_; have HO112 := n2_; clear n0_ n1_ n2_; clear ho hb hg hat))
                  go_roundg k1
                  case measure => have := HK1.out; omega
                  case rel => exact ⟨(y110), (wrap64 (x8_1 + 1)), (by first | rfl | (simp; done) | (simp [*]; done)), H', ⟨by have := HK1.out; omega⟩, ⟨by (with_reducible repeat (first | apply Kd.R_alloc | apply Kd.R_drewN | apply Kd.R_drew)); exact Kd.R_mono HO112.out (fun _ hk => trivial)⟩, ⟨by repeat (first | (with_reducible first | exact HB.out | apply below_alloc | apply pw_below_drewN | apply below_drew1 | refine below_set ?_ GE108.out) | exact HB.out)⟩⟩
                · rw [if_neg c8] at H
                  exact absurd H (by simp)
              · rw [if_neg c7] at H
                have c7b0 : decide ((x3_1.length : Int) < 64) = false := decide_eq_false c7
                have c7b1 : decide (x3_1.length < 64) = false := decide_eq_false (by omega)
                clear c7
                have H' := Aside0.mk H
                clear H
                have p107 : 0 ≤ (x8_1 : Int) := of_decide_eq_true (by first | (with_reducible assumption) | assumption)
                have q107 : x8_1 < (l0.length : Int) := of_decide_eq_true (by first | (with_reducible assumption) | assumption)
                obtain ⟨ad107, e107, hx107_0, hx107_1, hx107_2, hx107_3, hx107_4, hx107_5, hx107_6⟩ := at_T26 HR0.out x8_1 p107 q107
                cases e107
                replace hx107_0 := (HB.out.cell (World.block_lt_of_cell? w _ hx107_0)).trans hx107_0
                replace hx107_1 := (HB.out.cell (World.block_lt_of_cell? w _ hx107_1)).trans hx107_1
                replace hx107_2 := (HB.out.cell (World.block_lt_of_cell? w _ hx107_2)).trans hx107_2
                replace hx107_3 := (HB.out.cell (World.block_lt_of_cell? w _ hx107_3)).trans hx107_3
                replace hx107_4 := (HB.out.cell (World.block_lt_of_cell? w _ hx107_4)).trans hx107_4
                replace hx107_5 := (HB.out.cell (World.block_lt_of_cell? w _ hx107_5)).trans hx107_5
                replace hx107_6 := (HB.out.cell (World.block_lt_of_cell? w _ hx107_6)).trans hx107_6
                replace p107 := eq_true p107
                replace q107 := eq_true q107
                go_wp2_with (first | ((with_reducible refine gate_dst (N := 5) rfl ?_); (try (refine gate_guard (by rfl) ?_; dsimp only)); refine box_event ?hg (N := 5) ?hd (cs := #[.int .i64 0, .int .i64 0, .int .i64 0, .int .i64 0, .int .i64 0, .bool false, .bool false]) (t := 26) ?hr ?_; (case hd => rfl); (case hg => rfl); (case hr => first | (go_simp; done) | (go_simp; rfl)); intro gb108 hg w15 hbox hb; have n0_ := Aside0.mk (Kd.R_below (Kd.R_elderB (by (with_reducible repeat (first | apply Kd.R_alloc | apply Kd.R_drewN | apply Kd.R_drew)); exact HO_3.out) gb108 (Nat.le_of_eq hg.symm)) hb); have n1_ := Aside0.mk (below_step (by repeat (first | (with_reducible first | exact HB.out | apply below_alloc | apply pw_below_drewN | apply below_drew1) | exact HB.out)) hb); have n2_ := Aside0.mk (hbox); have n3_ := Aside0.mk ((by rw [hg]; exact (below_size (by repeat (first | (with_reducible first | exact HB.out | apply below_alloc | apply pw_below_drewN | apply below_drew1) | exact HB.out))) : w.heap.size ≤ gb108)); have n4_ := Aside0.mk ((by rw [hg]; exact (below_size (by repeat (first | (with_reducible first | exact HB.out | apply below_alloc | apply pw_below_drewN | apply below_drew1) | exact HB.out))) : w.heap.size ≤ gb108)); clear HO_3; clear HB; have HO_3 := n0_; have HB := n1_; have BK108 := n2_; have GW108 := n3_; have GE108 := n4_; clear n0_ n1_ n2_ n3_ n4_; clear hb hbox hg; have hcz16_0 : w15.cell? ⟨gb108, 0, none⟩ = some (.int .i64 0) := (blk_cell BK108.out 0).trans rfl; have hcz16_1 : w15.cell? ⟨gb108, 1, none⟩ = some (.int .i64 0) := (blk_cell BK108.out 1).trans rfl; have hcz16_2 : w15.cell? ⟨gb108, 2, none⟩ = some (.int .i64 0) := (blk_cell BK108.out 2).trans rfl; have hcz16_3 : w15.cell? ⟨gb108, 3, none⟩ = some (.int .i64 0) := (blk_cell BK108.out 3).trans rfl; have hcz16_4 : w15.cell? ⟨gb108, 4, none⟩ = some (.int .i64 0) := (blk_cell BK108.out 4).trans rfl; have hcz16_5 : w15.cell? ⟨gb108, 5, none⟩ = some (.bool false) := (blk_cell BK108.out 5).trans rfl; have hcz16_6 : w15.cell? ⟨gb108, 6, none⟩ = some (.bool false) := (blk_cell BK108.out 6).trans rfl; have hfz16_0 := blk_frozen BK108.out 0; have hfz16_1 := blk_frozen BK108.out 1; have hfz16_2 := blk_frozen BK108.out 2; have hfz16_3 := blk_frozen BK108.out 3; have hfz16_4 := blk_frozen BK108.out 4; have hfz16_5 := blk_frozen BK108.out 5; have hfz16_6 := blk_frozen BK108.out 6) | ((with_reducible refine gate_callee (f := 25) rfl ?_); refine goesL_ (some 13) rfl rfl Try.func25 (by kernel_rfl) rfl #[.agg #[.int .i64 ((rd_T26 l0 x8_1).f0), .int .i64 ((rd_T26 l0 x8_1).f1), .int .i64 ((rd_T26 l0 x8_1).f2), .int .i64 ((rd_T26 l0 x8_1).f3), .int .i64 ((rd_T26 l0 x8_1).f4), .bool ((rd_T26 l0 x8_1).f5), .bool ((rd_T26 l0 x8_1).f6)]] rfl (by (try simp only [List.map_toArray, List.map_cons, List.map_nil]); first | done | rfl | (simp only [List.length_drop, List.length_take]; rfl)) ?_; (with_reducible refine (choose_counts.calls ((rd_T26 l0 x8_1).f0) ((rd_T26 l0 x8_1).f1) ((rd_T26 l0 x8_1).f2) ((rd_T26 l0 x8_1).f3) ((rd_T26 l0 x8_1).f4) ((rd_T26 l0 x8_1).f5) ((rd_T26 l0 x8_1).f6) true _ A5.out).mono ?_); rintro e w17 ⟨rfl, hb⟩; refine ⟨_, rfl, ?_⟩; have n0_ := Aside0.mk (Kd.R_below (by (with_reducible repeat (first | apply Kd.R_alloc | apply Kd.R_drewN | apply Kd.R_drew)); exact (Kd.R_mono (Kd.R_far (p := ⟨gb108, 6, none⟩) (Kd.R_far (p := ⟨gb108, 5, none⟩) (Kd.R_far (p := ⟨gb108, 4, none⟩) (Kd.R_far (p := ⟨gb108, 3, none⟩) (Kd.R_far (p := ⟨gb108, 2, none⟩) (Kd.R_far (p := ⟨gb108, 1, none⟩) (Kd.R_far (p := ⟨gb108, 0, none⟩) (Kd.R_mono HO_3.out (fun k_ hk => (⟨hk, hk.2⟩ : _ ∧ k_ ≠ gb108))) (fun _ hk => hk.2) (.int .i64 ((rd_T26 l0 x8_1).f0))) (fun _ hk => hk.2) (.int .i64 ((rd_T26 l0 x8_1).f1))) (fun _ hk => hk.2) (.int .i64 ((rd_T26 l0 x8_1).f2))) (fun _ hk => hk.2) (.int .i64 ((rd_T26 l0 x8_1).f3))) (fun _ hk => hk.2) (.int .i64 ((rd_T26 l0 x8_1).f4))) (fun _ hk => hk.2) (.bool ((rd_T26 l0 x8_1).f5))) (fun _ hk => hk.2) (.bool ((rd_T26 l0 x8_1).f6))) (fun _ h_ => h_.1))) hb); have n1_ := Aside0.mk (blk_below (g := gb108) (o := .cells #[.int .i64 ((rd_T26 l0 x8_1).f0), .int .i64 ((rd_T26 l0 x8_1).f1), .int .i64 ((rd_T26 l0 x8_1).f2), .int .i64 ((rd_T26 l0 x8_1).f3), .int .i64 ((rd_T26 l0 x8_1).f4), .bool ((rd_T26 l0 x8_1).f5), .bool ((rd_T26 l0 x8_1).f6)] 26 (0, 0)) (by (with_reducible repeat (first | refine blk_drewN ?_ _ | refine blk_drew ?_ | refine blk_alloc ?_ _)); refine blk_put (cs := #[.int .i64 ((rd_T26 l0 x8_1).f0), .int .i64 ((rd_T26 l0 x8_1).f1), .int .i64 ((rd_T26 l0 x8_1).f2), .int .i64 ((rd_T26 l0 x8_1).f3), .int .i64 ((rd_T26 l0 x8_1).f4), .bool ((rd_T26 l0 x8_1).f5), .bool false]) ?_ 6 _ rfl; (with_reducible repeat (first | refine blk_drewN ?_ _ | refine blk_drew ?_ | refine blk_alloc ?_ _)); refine blk_put (cs := #[.int .i64 ((rd_T26 l0 x8_1).f0), .int .i64 ((rd_T26 l0 x8_1).f1), .int .i64 ((rd_T26 l0 x8_1).f2), .int .i64 ((rd_T26 l0 x8_1).f3), .int .i64 ((rd_T26 l0 x8_1).f4), .bool false, .bool false]) ?_ 5 _ rfl; (with_reducible repeat (first | refine blk_drewN ?_ _ | refine blk_drew ?_ | refine blk_alloc ?_ _)); refine blk_put (cs := #[.int .i64 ((rd_T26 l0 x8_1).f0), .int .i64 ((rd_T26 l0 x8_1).f1), .int .i64 ((rd_T26 l0 x8_1).f2), .int .i64 ((rd_T26 l0 x8_1).f3), .int .i64 0, .bool false, .bool false]) ?_ 4 _ rfl; (with_reducible repeat (first | refine blk_drewN ?_ _ | refine blk_drew ?_ | refine blk_alloc ?_ _)); refine blk_put (cs := #[.int .i64 ((rd_T26 l0 x8_1).f0), .int .i64 ((rd_T26 l0 x8_1).f1), .int .i64 ((rd_T26 l0 x8_1).f2), .int .i64 0, .int .i64 0, .bool false, .bool false]) ?_ 3 _ rfl; (with_reducible repeat (first | refine blk_drewN ?_ _ | refine blk_drew ?_ | refine blk_alloc ?_ _)); refine blk_put (cs := #[.int .i64 ((rd_T26 l0 x8_1).f0), .int .i64 ((rd_T26 l0 x8_1).f1), .int .i64 0, .int .i64 0, .int .i64 0, .bool false, .bool false]) ?_ 2 _ rfl; (with_reducible repeat (first | refine blk_drewN ?_ _ | refine blk_drew ?_ | refine blk_alloc ?_ _)); refine blk_put (cs := #[.int .i64 ((rd_T26 l0 x8_1).f0), .int .i64 0, .int .i64 0, .int .i64 0, .int .i64 0, .bool false, .bool false]) ?_ 1 _ rfl; (with_reducible repeat (first | refine blk_drewN ?_ _ | refine blk_drew ?_ | refine blk_alloc ?_ _)); refine blk_put (cs := #[.int .i64 0, .int .i64 0, .int .i64 0, .int .i64 0, .int .i64 0, .bool false, .bool false]) ?_ 0 _ rfl; (with_reducible repeat (first | refine blk_drewN ?_ _ | refine blk_drew ?_ | refine blk_alloc ?_ _)); exact BK108.out) hb); have n2_ := Aside0.mk (below_step (by repeat (first | (with_reducible first | exact HB.out | apply below_alloc | apply pw_below_drewN | apply below_drew1 | refine below_set ?_ GE108.out) | exact HB.out)) hb); clear HO_3; clear BK108; clear HB; have HO_3 := n0_; have BK108 := n1_; have HB := n2_; clear n0_ n1_ n2_; (try clear hb); (try clear hb2); (try clear hk); (try clear hi); obtain ⟨Ao18, co18, eo18⟩ := Kd.R_slice HO_3.out; subst eo18))
                go_roundg k1
                case measure => have := HK1.out; omega
                case rel => exact ⟨(x3_1), (wrap64 (x8_1 + 1)), (by first | rfl | (simp; done) | (simp [*]; done)), H', ⟨by have := HK1.out; omega⟩, ⟨by (with_reducible repeat (first | apply Kd.R_alloc | apply Kd.R_drewN | apply Kd.R_drew)); exact Kd.R_mono HO_3.out (fun _ hk => trivial)⟩, ⟨by repeat (first | (with_reducible first | exact HB.out | apply below_alloc | apply pw_below_drewN | apply below_drew1 | refine below_set ?_ GE108.out) | exact HB.out)⟩⟩
            · replace c6 := Bool.eq_false_iff.mpr c6
              subst c6
              have H1 : (choose_that.l0 k1 x3_1 l0 (l0.length : Int) (wrap64 (x8_1 + 1))) = some r := by rw [if_neg (show ¬ (false = true) by decide)] at H; exact H
              clear H
              have H := H1
              clear H1
              have H' := Aside0.mk H
              clear H
              have p107 : 0 ≤ (x8_1 : Int) := of_decide_eq_true (by first | (with_reducible assumption) | assumption)
              have q107 : x8_1 < (l0.length : Int) := of_decide_eq_true (by first | (with_reducible assumption) | assumption)
              obtain ⟨ad107, e107, hx107_0, hx107_1, hx107_2, hx107_3, hx107_4, hx107_5, hx107_6⟩ := at_T26 HR0.out x8_1 p107 q107
              cases e107
              replace hx107_0 := (HB.out.cell (World.block_lt_of_cell? w _ hx107_0)).trans hx107_0
              replace hx107_1 := (HB.out.cell (World.block_lt_of_cell? w _ hx107_1)).trans hx107_1
              replace hx107_2 := (HB.out.cell (World.block_lt_of_cell? w _ hx107_2)).trans hx107_2
              replace hx107_3 := (HB.out.cell (World.block_lt_of_cell? w _ hx107_3)).trans hx107_3
              replace hx107_4 := (HB.out.cell (World.block_lt_of_cell? w _ hx107_4)).trans hx107_4
              replace hx107_5 := (HB.out.cell (World.block_lt_of_cell? w _ hx107_5)).trans hx107_5
              replace hx107_6 := (HB.out.cell (World.block_lt_of_cell? w _ hx107_6)).trans hx107_6
              replace p107 := eq_true p107
              replace q107 := eq_true q107
              go_wp2_with (first | ((with_reducible refine gate_dst (N := 5) rfl ?_); (try (refine gate_guard (by rfl) ?_; dsimp only)); refine box_event ?hg (N := 5) ?hd (cs := #[.int .i64 0, .int .i64 0, .int .i64 0, .int .i64 0, .int .i64 0, .bool false, .bool false]) (t := 26) ?hr ?_; (case hd => rfl); (case hg => rfl); (case hr => first | (go_simp; done) | (go_simp; rfl)); intro gb108 hg w19 hbox hb; have n0_ := Aside0.mk (Kd.R_below (Kd.R_elderB (by (with_reducible repeat (first | apply Kd.R_alloc | apply Kd.R_drewN | apply Kd.R_drew)); exact HO_3.out) gb108 (Nat.le_of_eq hg.symm)) hb); have n1_ := Aside0.mk (below_step (by repeat (first | (with_reducible first | exact HB.out | apply below_alloc | apply pw_below_drewN | apply below_drew1) | exact HB.out)) hb); have n2_ := Aside0.mk (hbox); have n3_ := Aside0.mk ((by rw [hg]; exact (below_size (by repeat (first | (with_reducible first | exact HB.out | apply below_alloc | apply pw_below_drewN | apply below_drew1) | exact HB.out))) : w.heap.size ≤ gb108)); have n4_ := Aside0.mk ((by rw [hg]; exact (below_size (by repeat (first | (with_reducible first | exact HB.out | apply below_alloc | apply pw_below_drewN | apply below_drew1) | exact HB.out))) : w.heap.size ≤ gb108)); clear HO_3; clear HB; have HO_3 := n0_; have HB := n1_; have BK108 := n2_; have GW108 := n3_; have GE108 := n4_; clear n0_ n1_ n2_ n3_ n4_; clear hb hbox hg; have hcz20_0 : w19.cell? ⟨gb108, 0, none⟩ = some (.int .i64 0) := (blk_cell BK108.out 0).trans rfl; have hcz20_1 : w19.cell? ⟨gb108, 1, none⟩ = some (.int .i64 0) := (blk_cell BK108.out 1).trans rfl; have hcz20_2 : w19.cell? ⟨gb108, 2, none⟩ = some (.int .i64 0) := (blk_cell BK108.out 2).trans rfl; have hcz20_3 : w19.cell? ⟨gb108, 3, none⟩ = some (.int .i64 0) := (blk_cell BK108.out 3).trans rfl; have hcz20_4 : w19.cell? ⟨gb108, 4, none⟩ = some (.int .i64 0) := (blk_cell BK108.out 4).trans rfl; have hcz20_5 : w19.cell? ⟨gb108, 5, none⟩ = some (.bool false) := (blk_cell BK108.out 5).trans rfl; have hcz20_6 : w19.cell? ⟨gb108, 6, none⟩ = some (.bool false) := (blk_cell BK108.out 6).trans rfl; have hfz20_0 := blk_frozen BK108.out 0; have hfz20_1 := blk_frozen BK108.out 1; have hfz20_2 := blk_frozen BK108.out 2; have hfz20_3 := blk_frozen BK108.out 3; have hfz20_4 := blk_frozen BK108.out 4; have hfz20_5 := blk_frozen BK108.out 5; have hfz20_6 := blk_frozen BK108.out 6) | ((with_reducible refine gate_callee (f := 25) rfl ?_); refine goesL_ (some 13) rfl rfl Try.func25 (by kernel_rfl) rfl #[.agg #[.int .i64 ((rd_T26 l0 x8_1).f0), .int .i64 ((rd_T26 l0 x8_1).f1), .int .i64 ((rd_T26 l0 x8_1).f2), .int .i64 ((rd_T26 l0 x8_1).f3), .int .i64 ((rd_T26 l0 x8_1).f4), .bool ((rd_T26 l0 x8_1).f5), .bool ((rd_T26 l0 x8_1).f6)]] rfl (by (try simp only [List.map_toArray, List.map_cons, List.map_nil]); first | done | rfl | (simp only [List.length_drop, List.length_take]; rfl)) ?_; (with_reducible refine (choose_counts.calls ((rd_T26 l0 x8_1).f0) ((rd_T26 l0 x8_1).f1) ((rd_T26 l0 x8_1).f2) ((rd_T26 l0 x8_1).f3) ((rd_T26 l0 x8_1).f4) ((rd_T26 l0 x8_1).f5) ((rd_T26 l0 x8_1).f6) false _ A5.out).mono ?_); rintro e w21 ⟨rfl, hb⟩; refine ⟨_, rfl, ?_⟩; have n0_ := Aside0.mk (Kd.R_below (by (with_reducible repeat (first | apply Kd.R_alloc | apply Kd.R_drewN | apply Kd.R_drew)); exact (Kd.R_mono (Kd.R_far (p := ⟨gb108, 6, none⟩) (Kd.R_far (p := ⟨gb108, 5, none⟩) (Kd.R_far (p := ⟨gb108, 4, none⟩) (Kd.R_far (p := ⟨gb108, 3, none⟩) (Kd.R_far (p := ⟨gb108, 2, none⟩) (Kd.R_far (p := ⟨gb108, 1, none⟩) (Kd.R_far (p := ⟨gb108, 0, none⟩) (Kd.R_mono HO_3.out (fun k_ hk => (⟨hk, hk.2⟩ : _ ∧ k_ ≠ gb108))) (fun _ hk => hk.2) (.int .i64 ((rd_T26 l0 x8_1).f0))) (fun _ hk => hk.2) (.int .i64 ((rd_T26 l0 x8_1).f1))) (fun _ hk => hk.2) (.int .i64 ((rd_T26 l0 x8_1).f2))) (fun _ hk => hk.2) (.int .i64 ((rd_T26 l0 x8_1).f3))) (fun _ hk => hk.2) (.int .i64 ((rd_T26 l0 x8_1).f4))) (fun _ hk => hk.2) (.bool ((rd_T26 l0 x8_1).f5))) (fun _ hk => hk.2) (.bool ((rd_T26 l0 x8_1).f6))) (fun _ h_ => h_.1))) hb); have n1_ := Aside0.mk (blk_below (g := gb108) (o := .cells #[.int .i64 ((rd_T26 l0 x8_1).f0), .int .i64 ((rd_T26 l0 x8_1).f1), .int .i64 ((rd_T26 l0 x8_1).f2), .int .i64 ((rd_T26 l0 x8_1).f3), .int .i64 ((rd_T26 l0 x8_1).f4), .bool ((rd_T26 l0 x8_1).f5), .bool ((rd_T26 l0 x8_1).f6)] 26 (0, 0)) (by (with_reducible repeat (first | refine blk_drewN ?_ _ | refine blk_drew ?_ | refine blk_alloc ?_ _)); refine blk_put (cs := #[.int .i64 ((rd_T26 l0 x8_1).f0), .int .i64 ((rd_T26 l0 x8_1).f1), .int .i64 ((rd_T26 l0 x8_1).f2), .int .i64 ((rd_T26 l0 x8_1).f3), .int .i64 ((rd_T26 l0 x8_1).f4), .bool ((rd_T26 l0 x8_1).f5), .bool false]) ?_ 6 _ rfl; (with_reducible repeat (first | refine blk_drewN ?_ _ | refine blk_drew ?_ | refine blk_alloc ?_ _)); refine blk_put (cs := #[.int .i64 ((rd_T26 l0 x8_1).f0), .int .i64 ((rd_T26 l0 x8_1).f1), .int .i64 ((rd_T26 l0 x8_1).f2), .int .i64 ((rd_T26 l0 x8_1).f3), .int .i64 ((rd_T26 l0 x8_1).f4), .bool false, .bool false]) ?_ 5 _ rfl; (with_reducible repeat (first | refine blk_drewN ?_ _ | refine blk_drew ?_ | refine blk_alloc ?_ _)); refine blk_put (cs := #[.int .i64 ((rd_T26 l0 x8_1).f0), .int .i64 ((rd_T26 l0 x8_1).f1), .int .i64 ((rd_T26 l0 x8_1).f2), .int .i64 ((rd_T26 l0 x8_1).f3), .int .i64 0, .bool false, .bool false]) ?_ 4 _ rfl; (with_reducible repeat (first | refine blk_drewN ?_ _ | refine blk_drew ?_ | refine blk_alloc ?_ _)); refine blk_put (cs := #[.int .i64 ((rd_T26 l0 x8_1).f0), .int .i64 ((rd_T26 l0 x8_1).f1), .int .i64 ((rd_T26 l0 x8_1).f2), .int .i64 0, .int .i64 0, .bool false, .bool false]) ?_ 3 _ rfl; (with_reducible repeat (first | refine blk_drewN ?_ _ | refine blk_drew ?_ | refine blk_alloc ?_ _)); refine blk_put (cs := #[.int .i64 ((rd_T26 l0 x8_1).f0), .int .i64 ((rd_T26 l0 x8_1).f1), .int .i64 0, .int .i64 0, .int .i64 0, .bool false, .bool false]) ?_ 2 _ rfl; (with_reducible repeat (first | refine blk_drewN ?_ _ | refine blk_drew ?_ | refine blk_alloc ?_ _)); refine blk_put (cs := #[.int .i64 ((rd_T26 l0 x8_1).f0), .int .i64 0, .int .i64 0, .int .i64 0, .int .i64 0, .bool false, .bool false]) ?_ 1 _ rfl; (with_reducible repeat (first | refine blk_drewN ?_ _ | refine blk_drew ?_ | refine blk_alloc ?_ _)); refine blk_put (cs := #[.int .i64 0, .int .i64 0, .int .i64 0, .int .i64 0, .int .i64 0, .bool false, .bool false]) ?_ 0 _ rfl; (with_reducible repeat (first | refine blk_drewN ?_ _ | refine blk_drew ?_ | refine blk_alloc ?_ _)); exact BK108.out) hb); have n2_ := Aside0.mk (below_step (by repeat (first | (with_reducible first | exact HB.out | apply below_alloc | apply pw_below_drewN | apply below_drew1 | refine below_set ?_ GE108.out) | exact HB.out)) hb); clear HO_3; clear BK108; clear HB; have HO_3 := n0_; have BK108 := n1_; have HB := n2_; clear n0_ n1_ n2_; (try clear hb); (try clear hb2); (try clear hk); (try clear hi)))
              go_roundg k1
              case measure => have := HK1.out; omega
              case rel => exact ⟨(x3_1), (wrap64 (x8_1 + 1)), (by first | rfl | (simp; done) | (simp [*]; done)), H', ⟨by have := HK1.out; omega⟩, ⟨by (with_reducible repeat (first | apply Kd.R_alloc | apply Kd.R_drewN | apply Kd.R_drew)); exact Kd.R_mono HO_3.out (fun _ hk => trivial)⟩, ⟨by repeat (first | (with_reducible first | exact HB.out | apply below_alloc | apply pw_below_drewN | apply below_drew1 | refine below_set ?_ GE108.out) | exact HB.out)⟩⟩
          · rw [if_neg c4] at H
            exact absurd H (by simp)
        · rw [if_neg c3] at H
          exact absurd H (by simp)
      · rw [if_neg c2] at H
        have c2b0 : decide (x8_1 < (l0.length : Int)) = false := decide_eq_false c2
        clear c2
        obtain rfl := Option.some.inj H
        go_wp2
        go_ret
        exact ⟨_, by first | rfl | (simp [errW_none, errW_some] <;> rfl) | (simp [*, errW_none, errW_some] <;> rfl), by (with_reducible repeat (first | apply Kd.R_alloc | apply Kd.R_drewN | apply Kd.R_drew)); exact HO_3.out, by repeat (first | (with_reducible first | exact HB.out | apply below_alloc | apply pw_below_drewN | apply below_drew1) | exact HB.out)⟩

end Go.Proofs.Ytlhecfleanppmaa.Pr
end
section
namespace Go.Proofs.YFl
open Go

/-- the float of a whole number -/
def fl (n : Int) : Nat := floatOfInt .f64 n

def Small (n : Int) : Prop := -9007199254740992 < n ∧ n < 9007199254740992

theorem fl_zero : fl 0 = 0 := by decide +kernel
theorem fl_one : fl 1 = 4607182418800017408 := by decide +kernel
theorem fl_neg : fl (-1) = 13830554455654793216 := by decide +kernel

/-- what the float of a whole number stands for -/
theorem read_fl (n : Int) (h : Small n) :
    ∃ (m : Nat) (s : Nat), (FloatKind.f64.decode (fl n)) = .number (decide (n < 0)) m (-(s : Int)) ∧ m = n.natAbs * 2 ^ s ∧ (n = 0 ∨ (2 ^ 52 ≤ m ∧ m < 2 ^ 53)) := by
  by_cases h0 : n = 0
  · subst h0
    obtain ⟨u, hu⟩ : ∃ u : Nat, u = 1074 := ⟨_, rfl⟩
    exact ⟨0, u, by rw [hu]; decide +kernel, by rw [Int.natAbs_zero, Nat.zero_mul], .inl rfl⟩
  · have hpos : n.natAbs ≠ 0 := by omega
    have hlt : n.natAbs < 2 ^ 53 := by unfold Small at h; omega
    obtain ⟨L, hL⟩ : ∃ L, L = n.natAbs.log2 := ⟨_, rfl⟩
    have hL1 : 2 ^ L ≤ n.natAbs := by rw [hL]; exact Nat.log2_self_le hpos
    have hL2 : n.natAbs < 2 ^ (L + 1) := by rw [hL]; exact Nat.lt_log2_self
    have hL3 : L ≤ 52 := by
      rcases Nat.lt_or_ge 52 L with hgt | hle
      · have : 2 ^ 53 ≤ 2 ^ L := Nat.pow_le_pow_right (by omega) hgt
        omega
      · exact hle
    obtain ⟨s, hs⟩ : ∃ s, s = 52 - L := ⟨_, rfl⟩
    have hp : 2 ^ L * 2 ^ s = 2 ^ 52 := by rw [← Nat.pow_add]; congr 1; omega
    have hp2 : 2 ^ (L + 1) * 2 ^ s = 2 ^ 53 := by rw [← Nat.pow_add]; congr 1; omega
    have hspos : 0 < 2 ^ s := Nat.pow_pos (by omega)
    have hk1 : 2 ^ 52 ≤ n.natAbs * 2 ^ s := by rw [← hp]; exact Nat.mul_le_mul_right _ hL1
    have hk2 : n.natAbs * 2 ^ s < 2 ^ 53 := by rw [← hp2]; exact Nat.mul_lt_mul_of_pos_right hL2 hspos
    refine ⟨n.natAbs * 2 ^ s, s, ?_, rfl, .inr ⟨hk1, hk2⟩⟩
    generalize hK : n.natAbs * 2 ^ s = K at hk1 hk2
    have hw : fl n = Ieee.Format.word Ieee.double (decide (n < 0)) ((L + 1022) * 2 ^ 52 + K) := by
      show Ieee.Format.nearest Ieee.double (decide (n < 0)) n.natAbs 0 = _
      unfold Ieee.Format.nearest
      rw [if_neg hpos, ← hL]
      have e1 : Ieee.double.leastPlace = -1074 := by decide
      have e2 : Ieee.double.fractionBits = 52 := rfl
      have e3 : Ieee.double.binade = 2 ^ 52 := by decide
      have e4 : Ieee.double.infRung = 2047 * 2 ^ 52 := by decide
      have hlast : max ((0 : Int) + (L : Int) - ((52 : Nat) : Int)) (-1074) = -(s : Int) := by omega
      simp only [e1, e2, e3, e4]
      rw [hlast]
      have h1 : ((0 : Int) - -(s : Int)).toNat = s := by omega
      have h2 : (-(s : Int) - 0).toNat = 0 := by omega
      have h3 : (-(s : Int) - -1074).toNat = L + 1022 := by omega
      rw [h1, h2, h3, Nat.shiftLeft_eq, hK]
      have hcut : Ieee.Toward.even.cut (decide (n < 0)) K 0 = K := by
        simp [Ieee.Toward.cut, Nat.mod_one]
      rw [hcut, Nat.min_eq_left (by omega)]
    rw [hw]
    show Ieee.Format.read Ieee.double _ = _
    have e1 : Ieee.double.leastPlace = -1074 := by decide
    have e3 : Ieee.double.binade = 2 ^ 52 := by decide
    have e4 : Ieee.double.infRung = 2047 * 2 ^ 52 := by decide
    have e5 : Ieee.double.signWeight = 2 ^ 63 := by decide
    generalize hR : (L + 1022) * 2 ^ 52 + K = R
    have hR1 : R < 2 ^ 63 := by omega
    have hdiv : R / 2 ^ 52 = L + 1023 := by omega
    have hmod : R % 2 ^ 52 = K - 2 ^ 52 := by omega
    have a1 : 2 ^ 52 + (K - 2 ^ 52) = K := Nat.add_sub_cancel' hk1
    have a2 : (-1074 : Int) + ((L + 1023 - 1 : Nat) : Int) = -(s : Int) := by omega
    unfold Ieee.Format.read Ieee.Format.word
    simp only [e1, e3, e4, e5]
    by_cases hn : n < 0
    · simp only [hn, decide_true, if_true]
      have d1 : (2 ^ 63 + R) / 2 ^ 63 % 2 = 1 := by omega
      have d2 : (2 ^ 63 + R) % 2 ^ 63 = R := by omega
      rw [d1, d2, if_neg (by omega), if_pos (by omega), hdiv, hmod]
      simp only [beq_self_eq_true]
      rw [a1, a2]
    · simp only [hn, decide_false, if_false, Bool.false_eq_true]
      have d1 : R / 2 ^ 63 % 2 = 0 := by omega
      have d2 : R % 2 ^ 63 = R := by omega
      rw [d1, d2, if_neg (by omega), if_pos (by omega), hdiv, hmod]
      have : ((0 : Nat) == 1) = false := rfl
      rw [this, a1, a2]

theorem signed_eq (n : Int) (m : Nat) (hm : m = n.natAbs) (u : Nat) : Ieee.signed (decide (n < 0)) m u = n * 2 ^ u := by
  unfold Ieee.signed
  rw [Nat.shiftLeft_eq]
  by_cases hn : n < 0
  · simp only [hn, decide_true, if_true]
    have : (m : Int) = -n := by omega
    push_cast
    rw [this, Int.neg_mul, Int.neg_neg]
  · simp only [hn, decide_false, Bool.false_eq_true, if_false]
    have : (m : Int) = n := by omega
    push_cast
    rw [this]

theorem signed_mul (b : Bool) (m s u : Nat) : Ieee.signed b (m * 2 ^ s) u = Ieee.signed b m (s + u) := by
  unfold Ieee.signed
  simp only [Nat.shiftLeft_eq, Nat.pow_add, Nat.mul_assoc]

theorem order_fl (a b : Int) (ha : Small a) (hb : Small b) : FloatKind.f64.format.order (fl a) (fl b) = some (compare a b) := by
  obtain ⟨m, s, e1, hm, _⟩ := read_fl a ha
  obtain ⟨n, t, e2, hn, _⟩ := read_fl b hb
  unfold Ieee.Format.order
  have e1' : FloatKind.f64.format.read (fl a) = _ := e1
  have e2' : FloatKind.f64.format.read (fl b) = _ := e2
  rw [e1', e2']
  show some (compare (Ieee.signed _ m _) (Ieee.signed _ n _)) = _
  rw [hm, hn, signed_mul, signed_mul, signed_eq a _ rfl, signed_eq b _ rfl]
  obtain ⟨B, hB⟩ : ∃ B : Nat, B = (-(min (-(s : Int)) (-(t : Int)))).toNat := ⟨_, rfl⟩
  have h1 : s + (-(s : Int) - min (-(s : Int)) (-(t : Int))).toNat = B := by omega
  have h2 : t + (-(t : Int) - min (-(s : Int)) (-(t : Int))).toNat = B := by omega
  rw [h1, h2]
  congr 1
  have hp : (0 : Int) < 2 ^ B := Int.pow_pos (by omega)
  simp only [Int.compare_eq_ite_lt]
  have k1 : a * 2 ^ B < b * 2 ^ B ↔ a < b := Int.mul_lt_mul_right hp
  have k2 : b * 2 ^ B < a * 2 ^ B ↔ b < a := Int.mul_lt_mul_right hp
  simp only [k1, k2]

theorem toInt_fl (n : Int) (h : Small n) : floatToIntVal .f64 (fl n) .i64 = some n := by
  obtain ⟨m, s, e1, hm, hr⟩ := read_fl n h
  unfold floatToIntVal
  rw [e1]
  have hti : (Ieee.Datum.number (decide (n < 0)) m (-(s : Int))).toInt .zero = some n := by
    show some (Ieee.signed (decide (n < 0)) (Ieee.Toward.zero.cut (decide (n < 0)) (m <<< (-(s : Int)).toNat) (- -(s : Int)).toNat) 0) = some n
    have h1 : (-(s : Int)).toNat = 0 := by omega
    have h2 : (- -(s : Int)).toNat = s := by omega
    rw [h1, h2, Nat.shiftLeft_zero]
    have hcut : Ieee.Toward.zero.cut (decide (n < 0)) m s = n.natAbs := by
      unfold Ieee.Toward.cut
      simp only [Bool.toNat_false, Nat.add_zero, Nat.shiftLeft_eq, Nat.one_mul]
      rcases hr with h0 | ⟨hr1, hr2⟩
      · subst h0
        subst hm
        simp
      · have hl : m.log2 = 52 := by
          have hm0 : m ≠ 0 := by omega
          rw [Nat.log2_eq_iff hm0]
          exact ⟨hr1, hr2⟩
        have hs : s ≤ 52 := by
          rcases Nat.lt_or_ge 52 s with hgt | hle
          · have : 2 ^ 53 ≤ 2 ^ s := Nat.pow_le_pow_right (by omega) hgt
            have h1 : 1 ≤ n.natAbs := by
              rcases Nat.eq_zero_or_pos n.natAbs with z | z
              · rw [z] at hm; omega
              · exact z
            have : 1 * 2 ^ s ≤ n.natAbs * 2 ^ s := Nat.mul_le_mul_right _ h1
            omega
          · exact hle
        rw [hl, Nat.min_eq_left (by omega), hm, Nat.mul_div_cancel _ (Nat.pow_pos (by omega))]
    rw [hcut, signed_eq n _ rfl]
    simp
  rw [hti]
  unfold Small at h
  have : IntKind.min .i64 ≤ n ∧ n ≤ IntKind.max .i64 := by
    have e1 : IntKind.min .i64 = -9223372036854775808 := by decide
    have e2 : IntKind.max .i64 = 9223372036854775807 := by decide
    omega
  simp only [this, and_self, if_true]

theorem lt_fl (a b : Int) (ha : Small a) (hb : Small b) : (FloatKind.f64.format.order (fl a) (fl b) == some .lt) = decide (a < b) := by
  rw [order_fl a b ha hb, Int.compare_eq_ite_lt]
  by_cases h : a < b
  · simp [h]
  · by_cases h2 : b < a <;> simp [h, h2]
theorem eq_fl (a b : Int) (ha : Small a) (hb : Small b) : (FloatKind.f64.format.order (fl a) (fl b) == some .eq) = decide (a = b) := by
  rw [order_fl a b ha hb, Int.compare_eq_ite_lt]
  rcases Int.lt_trichotomy a b with h | h | h
  · have h2 : a ≠ b := by omega
    simp [h, h2]
  · simp [h]
  · have h1 : ¬ a < b := by omega
    have h2 : a ≠ b := by omega
    simp [h, h1, h2]
end Go.Proofs.YFl
end
section
namespace Go.Proofs.Ytlhecfleanppmaa.Pr
open Go.RowKit Go.Proofs.YtlhecfleanppmaaW.PrintWords Go.Proofs.YFl
structure Cx where
  re : Int
  im : Int
def zcx : Cx := ⟨0, 0⟩
def encx (x : Cx) : Value := .complex .f64 (fl x.re) (fl x.im)
def kcx : Kd Cx := Kd.scalar encx (fun _ => rfl)
end Go.Proofs.Ytlhecfleanppmaa.Pr
end
section
set_option linter.unusedVariables false
set_option linter.unusedSimpArgs false
namespace Go.Proofs.Ytlhecfleanppmaa.Pr
open Go.RowKit Go.Proofs.YtlhecfleanppmaaW.PrintWords Go.Proofs.YtlhecfleanppmaaW.PrintLast Go.Proofs.YtlhecfleanppmaaW.PrintMore
attribute [local go_sem] max2_int min2_int max_two min_two
def foliotlaw13_near.f (a0_0 : Int) (a0_1 : Int) (a0_2 : Int) (a0_3 : Int) (a0_4 : Int) (a0_5 : Bool) (a0_6 : Bool) (a1 : Int) : Option (Int × Int × Int × Int × Int × Bool × Bool) := if (Int.tmod a0_2 1099511627776) < 0 then (if (wrap64 ((Int.tmod a0_1 1099511627776) - a1)) < 0 then (some (a0_0, Int.tmod a0_1 1099511627776, mx (wrap64 (-(Int.tmod a0_2 1099511627776))) (wrap64 (-(wrap64 ((Int.tmod a0_1 1099511627776) - a1)))), a0_3, a0_4, a0_5, a0_6)) else (some (a0_0, Int.tmod a0_1 1099511627776, mx (wrap64 (-(Int.tmod a0_2 1099511627776))) (wrap64 ((Int.tmod a0_1 1099511627776) - a1)), a0_3, a0_4, a0_5, a0_6))) else (if (wrap64 ((Int.tmod a0_1 1099511627776) - a1)) < 0 then (some (a0_0, Int.tmod a0_1 1099511627776, mx (Int.tmod a0_2 1099511627776) (wrap64 (-(wrap64 ((Int.tmod a0_1 1099511627776) - a1)))), a0_3, a0_4, a0_5, a0_6)) else (some (a0_0, Int.tmod a0_1 1099511627776, mx (Int.tmod a0_2 1099511627776) (wrap64 ((Int.tmod a0_1 1099511627776) - a1)), a0_3, a0_4, a0_5, a0_6)))
set_option maxHeartbeats 1000000 in
theorem foliotlaw13_near.calls (a0_0 : Int) (a0_1 : Int) (a0_2 : Int) (a0_3 : Int) (a0_4 : Int) (a0_5 : Bool) (a0_6 : Bool) (a1 : Int) (r1 : Int) (r2 : Int) (r3 : Int) (r4 : Int) (r5 : Int) (r6 : Bool) (r7 : Bool) (w : World) (h : foliotlaw13_near.f a0_0 a0_1 a0_2 a0_3 a0_4 a0_5 a0_6 a1 = some (r1, r2, r3, r4, r5, r6, r7)) :
    Calls Try.prog 16 #[.agg #[.int .i64 a0_0, .int .i64 a0_1, .int .i64 a0_2, .int .i64 a0_3, .int .i64 a0_4, .bool a0_5, .bool a0_6], .int .i64 a1] w fun e w' => e = .returned (.agg #[.int .i64 r1, .int .i64 r2, .int .i64 r3, .int .i64 r4, .int .i64 r5, .bool r6, .bool r7]) ∧ Below w.heap.size w w' := by
  have hu26 := Try.underlying26
  unfold foliotlaw13_near.f at h
  by_cases c1 : (Int.tmod a0_2 1099511627776) < 0
  · rw [if_pos c1] at h
    have d1 := decide_eq_true c1
    by_cases c2 : (wrap64 ((Int.tmod a0_1 1099511627776) - a1)) < 0
    · rw [if_pos c2] at h
      have d2 := decide_eq_true c2
      simp only [Option.some.injEq, Prod.mk.injEq] at h
      obtain ⟨rfl, rfl, rfl, rfl, rfl, rfl, rfl⟩ := h
      clear c1 c2
      go_enter Try.func16, Try.ntmps16
      go_wp2
      all_goals
        first | rw [show mx (wrap64 (-(Int.tmod a0_2 1099511627776))) (wrap64 (-(wrap64 ((Int.tmod a0_1 1099511627776) - a1)))) = (wrap64 (-(wrap64 ((Int.tmod a0_1 1099511627776) - a1)))) from if_pos (by assumption)] | rw [show mx (wrap64 (-(Int.tmod a0_2 1099511627776))) (wrap64 (-(wrap64 ((Int.tmod a0_1 1099511627776) - a1)))) = (wrap64 (-(Int.tmod a0_2 1099511627776))) from if_neg (by omega)]
        exact bodyPost_ret (by simp [results, Try.results16, go_sem]) rfl ⟨rfl, below_alloc (below_alloc (Below.refl _ _) _) _⟩
    · rw [if_neg c2] at h
      have d2 := decide_eq_false c2
      simp only [Option.some.injEq, Prod.mk.injEq] at h
      obtain ⟨rfl, rfl, rfl, rfl, rfl, rfl, rfl⟩ := h
      clear c1 c2
      go_enter Try.func16, Try.ntmps16
      go_wp2
      all_goals
        first | rw [show mx (wrap64 (-(Int.tmod a0_2 1099511627776))) (wrap64 ((Int.tmod a0_1 1099511627776) - a1)) = (wrap64 ((Int.tmod a0_1 1099511627776) - a1)) from if_pos (by assumption)] | rw [show mx (wrap64 (-(Int.tmod a0_2 1099511627776))) (wrap64 ((Int.tmod a0_1 1099511627776) - a1)) = (wrap64 (-(Int.tmod a0_2 1099511627776))) from if_neg (by omega)]
        exact bodyPost_ret (by simp [results, Try.results16, go_sem]) rfl ⟨rfl, below_alloc (below_alloc (Below.refl _ _) _) _⟩
  · rw [if_neg c1] at h
    have d1 := decide_eq_false c1
    by_cases c2 : (wrap64 ((Int.tmod a0_1 1099511627776) - a1)) < 0
    · rw [if_pos c2] at h
      have d2 := decide_eq_true c2
      simp only [Option.some.injEq, Prod.mk.injEq] at h
      obtain ⟨rfl, rfl, rfl, rfl, rfl, rfl, rfl⟩ := h
      clear c1 c2
      go_enter Try.func16, Try.ntmps16
      go_wp2
      all_goals
        first | rw [show mx (Int.tmod a0_2 1099511627776) (wrap64 (-(wrap64 ((Int.tmod a0_1 1099511627776) - a1)))) = (wrap64 (-(wrap64 ((Int.tmod a0_1 1099511627776) - a1)))) from if_pos (by assumption)] | rw [show mx (Int.tmod a0_2 1099511627776) (wrap64 (-(wrap64 ((Int.tmod a0_1 1099511627776) - a1)))) = (Int.tmod a0_2 1099511627776) from if_neg (by omega)]
        exact bodyPost_ret (by simp [results, Try.results16, go_sem]) rfl ⟨rfl, below_alloc (below_alloc (Below.refl _ _) _) _⟩
    · rw [if_neg c2] at h
      have d2 := decide_eq_false c2
      simp only [Option.some.injEq, Prod.mk.injEq] at h
      obtain ⟨rfl, rfl, rfl, rfl, rfl, rfl, rfl⟩ := h
      clear c1 c2
      go_enter Try.func16, Try.ntmps16
      go_wp2
      all_goals
        first | rw [show mx (Int.tmod a0_2 1099511627776) (wrap64 ((Int.tmod a0_1 1099511627776) - a1)) = (wrap64 ((Int.tmod a0_1 1099511627776) - a1)) from if_pos (by assumption)] | rw [show mx (Int.tmod a0_2 1099511627776) (wrap64 ((Int.tmod a0_1 1099511627776) - a1)) = (Int.tmod a0_2 1099511627776) from if_neg (by omega)]
        exact bodyPost_ret (by simp [results, Try.results16, go_sem]) rfl ⟨rfl, below_alloc (below_alloc (Below.refl _ _) _) _⟩
end Go.Proofs.Ytlhecfleanppmaa.Pr
end
section
namespace Go.Proofs.Ytlhecfleanppmaa.Pr
open Go.RowKit Go.Proofs.YtlhecfleanppmaaW.PrintWords Go.Proofs.YtlhecfleanppmaaW.PrintLast Go.Proofs.YtlhecfleanppmaaW.PrintMore
attribute [local go_sem] max2_int min2_int max_two min_two max_three min_three max_four min_four   -- for this text's walks alone
set_option linter.unusedVariables false
set_option linter.unusedSimpArgs false

theorem eqA26 (d : Nat) (w : World) (x0 y0 : Int) (x1 y1 : Int) (x2 y2 : Int) (x3 y3 : Int) (x4 y4 : Int) (x5 y5 : Bool) (x6 y6 : Bool) :
    (Op.equalIn (d + 2) 26 (.agg #[.int .i64 x0, .int .i64 x1, .int .i64 x2, .int .i64 x3, .int .i64 x4, .bool x5, .bool x6]) (.agg #[.int .i64 y0, .int .i64 y1, .int .i64 y2, .int .i64 y3, .int .i64 y4, .bool y5, .bool y6])).run Try.prog w = .ok (x0 == y0 && (x1 == y1 && (x2 == y2 && (x3 == y3 && (x4 == y4 && (x5 == y5 && (x6 == y6))))))) w := by
  refine eqA_of Try.underlying26 (by kernel_rfl) ?_
  refine eqf_cons (by rfl) (by go_simp; rfl) (by go_simp; rfl) (by go_simp) ?_
  refine eqf_cons (by rfl) (by go_simp; rfl) (by go_simp; rfl) (by go_simp) ?_
  refine eqf_cons (by rfl) (by go_simp; rfl) (by go_simp; rfl) (by go_simp) ?_
  refine eqf_cons (by rfl) (by go_simp; rfl) (by go_simp; rfl) (by go_simp) ?_
  refine eqf_cons (by rfl) (by go_simp; rfl) (by go_simp; rfl) (by go_simp) ?_
  refine eqf_cons (by rfl) (by go_simp; rfl) (by go_simp; rfl) (by go_simp) ?_
  exact eqf_last (by rfl) (by go_simp; rfl) (by go_simp; rfl) (by go_simp)
end Go.Proofs.Ytlhecfleanppmaa.Pr
end
section
namespace Go.Proofs.Ytlhecfleanppmaa.Pr
open Go.RowKit Go.Proofs.YtlhecfleanppmaaW.PrintWords Go.Proofs.YtlhecfleanppmaaW.PrintLast Go.Proofs.YtlhecfleanppmaaW.PrintMore
attribute [local go_sem] max2_int min2_int max_two min_two max_three min_three max_four min_four   -- for this text's walks alone
set_option linter.unusedVariables false
set_option linter.unusedSimpArgs false

attribute [local go_sem high] eqA26
/-! ### foliotlaw13_sameCands: function 20 -/
def foliotlaw13_sameCands.l0 : Nat → List (S26) → List (S26) → Int → Option (Bool)
  | 0, _, _, _ => none
  | k + 1, x0, x1, x5 => if x5 < (x0.length : Int) then (if 0 ≤ x5 then (if x5 < (x1.length : Int) then (if (!(((rd_T26 x0 x5).f0) == ((rd_T26 x1 x5).f0)) || (!(((rd_T26 x0 x5).f1) == ((rd_T26 x1 x5).f1)) || (!(((rd_T26 x0 x5).f2) == ((rd_T26 x1 x5).f2)) || (!(((rd_T26 x0 x5).f3) == ((rd_T26 x1 x5).f3)) || (!(((rd_T26 x0 x5).f4) == ((rd_T26 x1 x5).f4)) || (!(((rd_T26 x0 x5).f5) == ((rd_T26 x1 x5).f5)) || (!(((rd_T26 x0 x5).f6) == ((rd_T26 x1 x5).f6))))))))) = true then (some false) else (foliotlaw13_sameCands.l0 k x0 x1 (wrap64 (x5 + 1)))) else (none)) else (none)) else (some true)
def foliotlaw13_sameCands.f (k : Nat) (l0 : List (S26)) (l1 : List (S26)) : Option (Bool) := if (l0.length : Int) = (l1.length : Int) then (foliotlaw13_sameCands.l0 k l0 l1 0) else (some false)
theorem foliotlaw13_sameCands.mono_l : ∀ k, (∀ y0 y1 y2, LeO (foliotlaw13_sameCands.l0 k y0 y1 y2) (foliotlaw13_sameCands.l0 (k + 1) y0 y1 y2))
  | 0 => fun _ _ _ r h => by simp [foliotlaw13_sameCands.l0] at h
  | k + 1 => by
    have ih0 := foliotlaw13_sameCands.mono_l k
    · intro y0 y1 y2
      unfold foliotlaw13_sameCands.l0
      repeat' first
      | (with_reducible exact ih0 _ _ _)
      | (with_reducible exact LeO.refl _)
      | (with_reducible exact LeO.none _)
      | (with_reducible refine LeO.ite ?_ ?_)
      | (with_reducible refine LeO.bind ?_ (fun _ => ?_))
      | exact ih0 _ _ _
      | exact LeO.none _
      | refine LeO.ite ?_ ?_
      | refine LeO.bind ?_ (fun _ => ?_)
theorem foliotlaw13_sameCands.mono : ∀ a0 a1 k, LeO (foliotlaw13_sameCands.f k a0 a1) (foliotlaw13_sameCands.f (k + 1) a0 a1) := by
  intro a0 a1 k
  have ih0 := foliotlaw13_sameCands.mono_l k
  unfold foliotlaw13_sameCands.f
  repeat' first
      | (with_reducible exact ih0 _ _ _)
      | (with_reducible exact LeO.refl _)
      | (with_reducible exact LeO.none _)
      | (with_reducible refine LeO.ite ?_ ?_)
      | (with_reducible refine LeO.bind ?_ (fun _ => ?_))
      | exact ih0 _ _ _
      | exact LeO.none _
      | refine LeO.ite ?_ ?_
      | refine LeO.bind ?_ (fun _ => ?_)
set_option maxHeartbeats 8000000 in
set_option maxRecDepth 100000 in
theorem foliotlaw13_sameCands.calls (k : Nat) (A0 : Option Addr) (c0 : Nat) (l0 : List (S26)) (A1 : Option Addr) (c1 : Nat) (l1 : List (S26)) (r : Bool) (w : World) (hr0 : Kd.C k26 w A0 l0.length l0) (hc0 : l0.length ≤ c0) (hr1 : Kd.C k26 w A1 l1.length l1) (hc1 : l1.length ≤ c1) (h : foliotlaw13_sameCands.f k l0 l1 = some r) :
    Calls Try.prog 20 #[.slice A0 l0.length c0, .slice A1 l1.length c1] w fun e w' => e = .returned (.bool r) ∧ Drawn0 w w' := by
  have hu26 := Try.underlying26
  have HR0 := Aside0.mk hr0
  have HC0 := Aside0.mk hc0
  clear hr0 hc0
  have HR1 := Aside0.mk hr1
  have HC1 := Aside0.mk hc1
  clear hr1 hc1
  have H : (if (l0.length : Int) = (l1.length : Int) then (foliotlaw13_sameCands.l0 k l0 l1 0) else (some false)) = some r := h
  clear h
  by_cases c3 : (l0.length : Int) = (l1.length : Int)
  · rw [if_pos c3] at H
    have c3b0 : ((l0.length : Int) == (l1.length : Int)) = true := beq_iff_eq.mpr c3
    have c3b1 : ((l0.length : Int) != (l1.length : Int)) = false := bne_eq_false_iff_eq.mpr c3
    have c3b2 : (l0.length == l1.length) = true := by first | simpa using c3 | (simp at c3 ⊢; omega)
    clear c3
    have H' := Aside0.mk H
    clear H
    go_enter Try.func20, Try.ntmps20
    go_wp2
    repeat (go_quiet (fail); try go_wp2)
    go_loopg [5] k (fun kq v5 w' => ∃ (x5_1 : Int), v5 = .int .i64 x5_1 ∧ Aside0 (foliotlaw13_sameCands.l0 kq l0 l1 x5_1 = some r) ∧ Aside0 (kq ≤ k) ∧ Drawn0 w w')
    case atStart => exact ⟨(0), (by first | rfl | (simp; done) | (simp [*]; done)), H', ⟨Nat.le_refl _⟩, by repeat (first | exact Drawn0.refl _ | apply Drawn0.step)⟩
    case round =>
      clear H'
      try clear c1
      try clear c2
      try clear p2
      try clear c3
      try clear c3b0
      try clear c3b1
      try clear c3b2
      obtain ⟨x5_1, rfl, HA, HK1, ⟨m1, rfl⟩⟩ := hrel
      cases gk with
      | zero => exact absurd HA.out (by simp [foliotlaw13_sameCands.l0])
      | succ k1 =>
        have H := HA.out
        clear HA
        simp only [foliotlaw13_sameCands.l0] at H
        by_cases c4 : x5_1 < (l0.length : Int)
        · rw [if_pos c4] at H
          have c4b0 : decide (x5_1 < (l0.length : Int)) = true := decide_eq_true c4
          clear c4
          by_cases c5 : 0 ≤ x5_1
          · rw [if_pos c5] at H
            have c5b0 : decide (0 ≤ x5_1) = true := decide_eq_true c5
            clear c5
            by_cases c6 : x5_1 < (l1.length : Int)
            · rw [if_pos c6] at H
              have c6b0 : decide (x5_1 < (l1.length : Int)) = true := decide_eq_true c6
              clear c6
              by_cases c7 : (!(((rd_T26 l0 x5_1).f0) == ((rd_T26 l1 x5_1).f0)) || (!(((rd_T26 l0 x5_1).f1) == ((rd_T26 l1 x5_1).f1)) || (!(((rd_T26 l0 x5_1).f2) == ((rd_T26 l1 x5_1).f2)) || (!(((rd_T26 l0 x5_1).f3) == ((rd_T26 l1 x5_1).f3)) || (!(((rd_T26 l0 x5_1).f4) == ((rd_T26 l1 x5_1).f4)) || (!(((rd_T26 l0 x5_1).f5) == ((rd_T26 l1 x5_1).f5)) || (!(((rd_T26 l0 x5_1).f6) == ((rd_T26 l1 x5_1).f6))))))))) = true
              · rw [if_pos c7] at H
                have c7b0 : (!(((rd_T26 l0 x5_1).f0) == ((rd_T26 l1 x5_1).f0)) || (!(((rd_T26 l0 x5_1).f1) == ((rd_T26 l1 x5_1).f1)) || (!(((rd_T26 l0 x5_1).f2) == ((rd_T26 l1 x5_1).f2)) || (!(((rd_T26 l0 x5_1).f3) == ((rd_T26 l1 x5_1).f3)) || (!(((rd_T26 l0 x5_1).f4) == ((rd_T26 l1 x5_1).f4)) || (!(((rd_T26 l0 x5_1).f5) == ((rd_T26 l1 x5_1).f5)) || (!(((rd_T26 l0 x5_1).f6) == ((rd_T26 l1 x5_1).f6))))))))) = true := c7
                clear c7
                obtain rfl := Option.some.inj H
                have p232 : 0 ≤ (x5_1 : Int) := of_decide_eq_true (by first | (with_reducible assumption) | assumption)
                have q232 : x5_1 < (l0.length : Int) := of_decide_eq_true (by first | (with_reducible assumption) | assumption)
                obtain ⟨ad232, e232, hx232_0, hx232_1, hx232_2, hx232_3, hx232_4, hx232_5, hx232_6⟩ := at_T26 HR0.out x5_1 p232 q232
                cases e232
                replace p232 := eq_true p232
                replace q232 := eq_true q232
                have p233 : 0 ≤ (x5_1 : Int) := of_decide_eq_true (by first | (with_reducible assumption) | assumption)
                have q233 : x5_1 < (l1.length : Int) := of_decide_eq_true (by first | (with_reducible assumption) | assumption)
                obtain ⟨ad233, e233, hx233_0, hx233_1, hx233_2, hx233_3, hx233_4, hx233_5, hx233_6⟩ := at_T26 HR1.out x5_1 p233 q233
                cases e233
                replace p233 := eq_true p233
                replace q233 := eq_true q233
                go_wp2
                repeat (go_quiet (fail); try go_wp2)
                go_ret
                exact ⟨by first | rfl | (simp; done) | (simp [*]; done), by repeat (first | exact Drawn0.refl _ | apply Drawn0.step)⟩
              · rw [if_neg c7] at H
                have c7b0 : (!(((rd_T26 l0 x5_1).f0) == ((rd_T26 l1 x5_1).f0)) || (!(((rd_T26 l0 x5_1).f1) == ((rd_T26 l1 x5_1).f1)) || (!(((rd_T26 l0 x5_1).f2) == ((rd_T26 l1 x5_1).f2)) || (!(((rd_T26 l0 x5_1).f3) == ((rd_T26 l1 x5_1).f3)) || (!(((rd_T26 l0 x5_1).f4) == ((rd_T26 l1 x5_1).f4)) || (!(((rd_T26 l0 x5_1).f5) == ((rd_T26 l1 x5_1).f5)) || (!(((rd_T26 l0 x5_1).f6) == ((rd_T26 l1 x5_1).f6))))))))) = false := by simpa using c7
                clear c7
                have H' := Aside0.mk H
                clear H
                have p232 : 0 ≤ (x5_1 : Int) := of_decide_eq_true (by first | (with_reducible assumption) | assumption)
                have q232 : x5_1 < (l0.length : Int) := of_decide_eq_true (by first | (with_reducible assumption) | assumption)
                obtain ⟨ad232, e232, hx232_0, hx232_1, hx232_2, hx232_3, hx232_4, hx232_5, hx232_6⟩ := at_T26 HR0.out x5_1 p232 q232
                cases e232
                replace p232 := eq_true p232
                replace q232 := eq_true q232
                have p233 : 0 ≤ (x5_1 : Int) := of_decide_eq_true (by first | (with_reducible assumption) | assumption)
                have q233 : x5_1 < (l1.length : Int) := of_decide_eq_true (by first | (with_reducible assumption) | assumption)
                obtain ⟨ad233, e233, hx233_0, hx233_1, hx233_2, hx233_3, hx233_4, hx233_5, hx233_6⟩ := at_T26 HR1.out x5_1 p233 q233
                cases e233
                replace p233 := eq_true p233
                replace q233 := eq_true q233
                go_wp2
                repeat (go_quiet (fail); try go_wp2)
                go_roundg k1
                case measure => have := HK1.out; omega
                case rel => exact ⟨(wrap64 (x5_1 + 1)), (by first | rfl | (simp; done) | (simp [*]; done)), H', ⟨by have := HK1.out; omega⟩, by repeat (first | exact Drawn0.refl _ | apply Drawn0.step)⟩
            · rw [if_neg c6] at H
              exact absurd H (by simp)
          · rw [if_neg c5] at H
            exact absurd H (by simp)
        · rw [if_neg c4] at H
          have c4b0 : decide (x5_1 < (l0.length : Int)) = false := decide_eq_false c4
          clear c4
          obtain rfl := Option.some.inj H
          go_wp2
          repeat (go_quiet (fail); try go_wp2)
          go_ret
          exact ⟨by first | rfl | (simp; done) | (simp [*]; done), by repeat (first | exact Drawn0.refl _ | apply Drawn0.step)⟩
  · rw [if_neg c3] at H
    have c3b0 : ((l0.length : Int) == (l1.length : Int)) = false := beq_eq_false_iff_ne.mpr c3
    have c3b1 : ((l0.length : Int) != (l1.length : Int)) = true := bne_iff_ne.mpr c3
    have c3b2 : (l0.length == l1.length) = false := by first | simpa using c3 | (simp at c3 ⊢; omega)
    obtain rfl := Option.some.inj H
    go_enter Try.func20, Try.ntmps20
    go_wp2
    repeat (go_quiet (fail); try go_wp2)
    go_ret
    exact ⟨by first | rfl | (simp; done) | (simp [*]; done), by repeat (first | exact Drawn0.refl _ | apply Drawn0.step)⟩

end Go.Proofs.Ytlhecfleanppmaa.Pr
end
section
set_option linter.unusedVariables false
namespace Go.Proofs.Ytlhecfleanppmaa.Rw
open Go.ChangeShapes Go.WideShapes Go.Deep Go.RowKit
open Go.Proofs.YtlhecfleanppmaaW.PrintWords Go.Proofs.Ytlhecfleanppmaa.Pr

def I64 (n : Int) : Prop := -9223372036854775808 ≤ n ∧ n ≤ 9223372036854775807
def Fine (x : S26) : Prop := I64 x.f0 ∧ I64 x.f1 ∧ I64 x.f2 ∧ I64 x.f3 ∧ I64 x.f4
theorem i64_of {n : Int} (h : (Lit.int .i64 n).wf = true) : I64 n := by
  unfold I64
  exact bounds_i64 h
section
variable {H : Type} {enc : TypeId × Value → H} {w : World} {base : Nat} {spare : Nat → Bool} {held : Bool}
theorem one3 : Try.prog.cellsOf 3 = 1 := by kernel_rfl
theorem one23 : Try.prog.cellsOf 23 = 1 := by kernel_rfl
theorem one4 : Try.prog.cellsOf 4 = 1 := by kernel_rfl
theorem seven26 : Try.prog.cellsOf 26 = 7 := by kernel_rfl
theorem open_elem {n : Nat} {cs : List Value} {y : DataW H × List MemPlace} (h : DataW.trod enc Try.prog w base spare held n 26 cs = some y) :
    ∃ x : S26, cs = [.int .i64 x.f0, .int .i64 x.f1, .int .i64 x.f2, .int .i64 x.f3, .int .i64 x.f4, .bool x.f5, .bool x.f6] ∧ Fine x := by
  obtain ⟨ys, n', _, _, hlen, hyl, hf⟩ := DataW.trod_struct Try.underlying26 h
  rw [seven26] at hlen
  match cs, hlen with
  | [c0, c1, c2, c3, c4, c5, c6], _ =>
    match ys, hyl with
    | [y0, y1, y2, y3, y4, y5, y6], _ =>
      have g0 : DataW.trod enc Try.prog w base spare held n' 3 ((List.drop 0 [c0, c1, c2, c3, c4, c5, c6]).take (Try.prog.cellsOf 3)) = some y0 := hf 0 _ rfl
      have g1 : DataW.trod enc Try.prog w base spare held n' 23 ((List.drop 1 [c0, c1, c2, c3, c4, c5, c6]).take (Try.prog.cellsOf 23)) = some y1 := hf 1 _ rfl
      have g2 : DataW.trod enc Try.prog w base spare held n' 23 ((List.drop 2 [c0, c1, c2, c3, c4, c5, c6]).take (Try.prog.cellsOf 23)) = some y2 := hf 2 _ rfl
      have g3 : DataW.trod enc Try.prog w base spare held n' 23 ((List.drop 3 [c0, c1, c2, c3, c4, c5, c6]).take (Try.prog.cellsOf 23)) = some y3 := hf 3 _ rfl
      have g4 : DataW.trod enc Try.prog w base spare held n' 3 ((List.drop 4 [c0, c1, c2, c3, c4, c5, c6]).take (Try.prog.cellsOf 3)) = some y4 := hf 4 _ rfl
      have g5 : DataW.trod enc Try.prog w base spare held n' 4 ((List.drop 5 [c0, c1, c2, c3, c4, c5, c6]).take (Try.prog.cellsOf 4)) = some y5 := hf 5 _ rfl
      have g6 : DataW.trod enc Try.prog w base spare held n' 4 ((List.drop 6 [c0, c1, c2, c3, c4, c5, c6]).take (Try.prog.cellsOf 4)) = some y6 := hf 6 _ rfl
      rw [one3] at g0 g4
      rw [one23] at g1 g2 g3
      rw [one4] at g5 g6
      obtain ⟨n0, e0, _, w0⟩ := DataW.trod_int Try.underlying3 g0
      obtain ⟨n1, e1, _, w1⟩ := DataW.trod_int Try.underlying23 g1
      obtain ⟨n2, e2, _, w2⟩ := DataW.trod_int Try.underlying23 g2
      obtain ⟨n3, e3, _, w3⟩ := DataW.trod_int Try.underlying23 g3
      obtain ⟨n4, e4, _, w4⟩ := DataW.trod_int Try.underlying3 g4
      obtain ⟨b5, e5, _⟩ := DataW.trod_bool Try.underlying4 g5
      obtain ⟨b6, e6, _⟩ := DataW.trod_bool Try.underlying4 g6
      simp at e0 e1 e2 e3 e4 e5 e6
      subst e0 e1 e2 e3 e4 e5 e6
      exact ⟨⟨n0, n1, n2, n3, n4, b5, b6⟩, rfl, i64_of w0, i64_of w1, i64_of w2, i64_of w3, i64_of w4⟩
instance : Inhabited S26 := ⟨z26⟩
theorem open_cands {fuel : Nat} {A : Option Addr} {len cap : Nat} {x : DataW H × List MemPlace} (h : DataW.trod enc Try.prog w base spare held fuel 22 [.slice A len cap] = some x) :
    ∃ l : List S26, l.length = len ∧ len ≤ cap ∧ Kd.C k26 w A l.length l ∧ ∀ y ∈ l, Fine y := by
  rcases open_slice Try.underlying22 h with ⟨hcs, _⟩ | ⟨a, len', cap', m, n, D, Pl, hcs, hb, hl, hm, hmm, hx, hi⟩
  · simp at hcs
    obtain ⟨rfl, rfl, rfl⟩ := hcs
    exact ⟨[], rfl, Nat.le_refl _, ⟨rfl, by simp, fun h => by simp at h⟩, by simp⟩
  · simp at hcs
    obtain ⟨rfl, rfl, rfl⟩ := hcs
    have hlm : len ≤ m := by rw [hmm]; split <;> omega
    obtain ⟨f, hf⟩ := choose_lt (α := S26) (n := len) (p := fun i x => w.cells? base (a.add (i * 7)) 7 = some [.int .i64 x.f0, .int .i64 x.f1, .int .i64 x.f2, .int .i64 x.f3, .int .i64 x.f4, .bool x.f5, .bool x.f6] ∧ Fine x) (fun i hil => by
      obtain ⟨cs', h1, h2⟩ := hi i (by omega)
      rw [seven26] at h1
      obtain ⟨x, rfl, hx⟩ := open_elem h2
      exact ⟨x, h1, hx⟩)
    have hll : ((List.range len).map f).length = len := by simp
    refine ⟨(List.range len).map f, hll, hl, ?_, ?_⟩
    · refine ⟨rfl, by rw [hll]; unfold maxLen at hm; omega, fun _ => ⟨a, rfl, fun j p hj => ?_⟩⟩
      have hjl : j < len := by
        have := (List.getElem?_eq_some_iff.1 hj).1
        omega
      have hp : p = f j := by
        rw [List.getElem?_map, List.getElem?_range hjl] at hj
        simpa using hj.symm
      subst hp
      obtain ⟨hc, _⟩ := hf j hjl
      refine ⟨_, rfl, k26_mk w _, fun i u hu => ?_⟩
      obtain ⟨_, _, hat⟩ := World.cells?_some hc
      have hi7 : i < 7 := by
        have := (List.getElem?_eq_some_iff.1 hu).1
        simpa using this
      have := hat i hi7
      rw [hu] at this
      rw [← Go.Deep.add_add]
      exact this
    · intro y hy
      obtain ⟨j, hj, rfl⟩ := List.mem_map.1 hy
      exact (hf j (List.mem_range.1 hj)).2
theorem open_nums {k : IntKind} {t e fuel : Nat} {A : Option Addr} {len cap : Nat} {x : DataW H × List MemPlace} (hu : Try.prog.underlying t = some (.slice e)) (he : Try.prog.underlying e = some (.int k)) (hc : Try.prog.cellsOf e = 1)
    (h : DataW.trod enc Try.prog w base spare held fuel t [.slice A len cap] = some x) :
    ∃ l : List Int, l.length = len ∧ len ≤ cap ∧ Kd.C (Kd.int k) w A l.length l ∧ ∀ y ∈ l, (Lit.int k y).wf = true := by
  rcases open_ints hu he hc h with ⟨hcs, _⟩ | ⟨a, l', c', zs, hcs, _, hl, hm, hz, _, hcell, hwz⟩
  · simp at hcs
    obtain ⟨rfl, rfl, rfl⟩ := hcs
    exact ⟨[], rfl, Nat.le_refl _, ⟨rfl, by simp, fun h => by simp at h⟩, by simp⟩
  · simp at hcs
    obtain ⟨rfl, rfl, rfl⟩ := hcs
    have hzl : len ≤ zs.length := by rw [hz]; split <;> omega
    have hll : (zs.take len).length = len := by rw [List.length_take]; omega
    refine ⟨zs.take len, hll, hl, ⟨rfl, by rw [hll]; unfold maxLen at hm; omega, fun _ => ⟨a, rfl, fun j p hj => ?_⟩⟩, fun y hy => hwz y (List.mem_of_mem_take hy)⟩
    have hjl : j < len := by
      have := (List.getElem?_eq_some_iff.1 hj).1
      omega
    refine ⟨[.int k p], rfl, rfl, fun i u hu' => ?_⟩
    obtain rfl : i = 0 := by
      have := (List.getElem?_eq_some_iff.1 hu').1
      simpa using this
    have h1 := hcell j (by omega)
    have e : zs.getD j 0 = p := by
      rw [List.getElem?_take, if_pos hjl] at hj
      rw [List.getD_eq_getElem?_getD, hj]
      rfl
    rw [e] at h1
    have hs : (Kd.int k).sz = 1 := rfl
    rw [hs, Nat.mul_one, Nat.add_zero, h1]
    simpa using hu'
theorem open_cand {r : Reach} {b0 : Nat} {v : Value} {d : DataW H} {p : List MemPlace} (hv : Value.okWide Try.prog w r b0 26 v) (h : DataW.Trod enc Try.prog w base spare held 26 v d p) :
    ∃ x : S26, v = .agg #[.int .i64 x.f0, .int .i64 x.f1, .int .i64 x.f2, .int .i64 x.f3, .int .i64 x.f4, .bool x.f5, .bool x.f6] ∧ Fine x := by
  obtain ⟨cs, rfl, hsz⟩ := okWide_struct Try.underlying26 hv
  obtain ⟨fuel, hf⟩ := h
  obtain ⟨x, hx, hfine⟩ := open_elem hf
  refine ⟨x, ?_, hfine⟩
  congr 1
  have h1 : cs.toList = [.int .i64 x.f0, .int .i64 x.f1, .int .i64 x.f2, .int .i64 x.f3, .int .i64 x.f4, .bool x.f5, .bool x.f6] := hx
  rw [← h1]
end
end Go.Proofs.Ytlhecfleanppmaa.Rw
end
