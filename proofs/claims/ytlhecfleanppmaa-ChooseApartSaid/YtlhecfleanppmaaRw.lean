/- How arguments that are slices of candidates, or a candidate, read as lists and numbers. -/
import Derived.Test.YtlhecfleanppmaaPrx0
import Derived.Deep.Slices
import Derived.Deep.Fields
import Derived.ProofKit
import Derived.ChangeOld
import Derived.OpenShut
set_option linter.unusedVariables false
namespace Go.Proofs.Ytlhecfleanppmaa.Rw
open Go.ChangeShapes Go.WideShapes Go.Deep Go.RowKit
open Go.Proofs.YtlhecfleanppmaaW.PrintWords Go.Proofs.Ytlhecfleanppmaa.Pr

def I64 (n : Int) : Prop := -9223372036854775808 ≤ n ∧ n ≤ 9223372036854775807
def Fine (x : S26) : Prop := I64 x.f0 ∧ I64 x.f1 ∧ I64 x.f2 ∧ I64 x.f3 ∧ I64 x.f4
theorem i64_of {n : Int} (h : (Lit.int .i64 n).wf = true) : I64 n := by
  unfold I64
  exact bounds_i64 h
section
variable {H : Type} {enc : TypeId × Value → H} {w : World} {base : Nat} {spare : Nat → Bool} {held : Bool}
theorem one3 : Try.prog.cellsOf 3 = 1 := by kernel_rfl
theorem one23 : Try.prog.cellsOf 23 = 1 := by kernel_rfl
theorem one4 : Try.prog.cellsOf 4 = 1 := by kernel_rfl
theorem seven26 : Try.prog.cellsOf 26 = 7 := by kernel_rfl
theorem open_elem {n : Nat} {cs : List Value} {y : DataW H × List MemPlace} (h : DataW.trod enc Try.prog w base spare held n 26 cs = some y) :
    ∃ x : S26, cs = [.int .i64 x.f0, .int .i64 x.f1, .int .i64 x.f2, .int .i64 x.f3, .int .i64 x.f4, .bool x.f5, .bool x.f6] ∧ Fine x := by
  obtain ⟨ys, n', _, _, hlen, hyl, hf⟩ := DataW.trod_struct Try.underlying26 h
  rw [seven26] at hlen
  match cs, hlen with
  | [c0, c1, c2, c3, c4, c5, c6], _ =>
    match ys, hyl with
    | [y0, y1, y2, y3, y4, y5, y6], _ =>
      have g0 : DataW.trod enc Try.prog w base spare held n' 3 ((List.drop 0 [c0, c1, c2, c3, c4, c5, c6]).take (Try.prog.cellsOf 3)) = some y0 := hf 0 _ rfl
      have g1 : DataW.trod enc Try.prog w base spare held n' 23 ((List.drop 1 [c0, c1, c2, c3, c4, c5, c6]).take (Try.prog.cellsOf 23)) = some y1 := hf 1 _ rfl
      have g2 : DataW.trod enc Try.prog w base spare held n' 23 ((List.drop 2 [c0, c1, c2, c3, c4, c5, c6]).take (Try.prog.cellsOf 23)) = some y2 := hf 2 _ rfl
      have g3 : DataW.trod enc Try.prog w base spare held n' 23 ((List.drop 3 [c0, c1, c2, c3, c4, c5, c6]).take (Try.prog.cellsOf 23)) = some y3 := hf 3 _ rfl
      have g4 : DataW.trod enc Try.prog w base spare held n' 3 ((List.drop 4 [c0, c1, c2, c3, c4, c5, c6]).take (Try.prog.cellsOf 3)) = some y4 := hf 4 _ rfl
      have g5 : DataW.trod enc Try.prog w base spare held n' 4 ((List.drop 5 [c0, c1, c2, c3, c4, c5, c6]).take (Try.prog.cellsOf 4)) = some y5 := hf 5 _ rfl
      have g6 : DataW.trod enc Try.prog w base spare held n' 4 ((List.drop 6 [c0, c1, c2, c3, c4, c5, c6]).take (Try.prog.cellsOf 4)) = some y6 := hf 6 _ rfl
      rw [one3] at g0 g4
      rw [one23] at g1 g2 g3
      rw [one4] at g5 g6
      obtain ⟨n0, e0, _, w0⟩ := DataW.trod_int Try.underlying3 g0
      obtain ⟨n1, e1, _, w1⟩ := DataW.trod_int Try.underlying23 g1
      obtain ⟨n2, e2, _, w2⟩ := DataW.trod_int Try.underlying23 g2
      obtain ⟨n3, e3, _, w3⟩ := DataW.trod_int Try.underlying23 g3
      obtain ⟨n4, e4, _, w4⟩ := DataW.trod_int Try.underlying3 g4
      obtain ⟨b5, e5, _⟩ := DataW.trod_bool Try.underlying4 g5
      obtain ⟨b6, e6, _⟩ := DataW.trod_bool Try.underlying4 g6
      simp at e0 e1 e2 e3 e4 e5 e6
      subst e0 e1 e2 e3 e4 e5 e6
      exact ⟨⟨n0, n1, n2, n3, n4, b5, b6⟩, rfl, i64_of w0, i64_of w1, i64_of w2, i64_of w3, i64_of w4⟩
instance : Inhabited S26 := ⟨z26⟩
theorem open_cands {fuel : Nat} {A : Option Addr} {len cap : Nat} {x : DataW H × List MemPlace} (h : DataW.trod enc Try.prog w base spare held fuel 22 [.slice A len cap] = some x) :
    ∃ l : List S26, l.length = len ∧ len ≤ cap ∧ Kd.C k26 w A l.length l ∧ ∀ y ∈ l, Fine y := by
  rcases open_slice Try.underlying22 h with ⟨hcs, _⟩ | ⟨a, len', cap', m, n, D, Pl, hcs, hb, hl, hm, hmm, hx, hi⟩
  · simp at hcs
    obtain ⟨rfl, rfl, rfl⟩ := hcs
    exact ⟨[], rfl, Nat.le_refl _, ⟨rfl, by simp, fun h => by simp at h⟩, by simp⟩
  · simp at hcs
    obtain ⟨rfl, rfl, rfl⟩ := hcs
    have hlm : len ≤ m := by rw [hmm]; split <;> omega
    obtain ⟨f, hf⟩ := choose_lt (α := S26) (n := len) (p := fun i x => w.cells? base (a.add (i * 7)) 7 = some [.int .i64 x.f0, .int .i64 x.f1, .int .i64 x.f2, .int .i64 x.f3, .int .i64 x.f4, .bool x.f5, .bool x.f6] ∧ Fine x) (fun i hil => by
      obtain ⟨cs', h1, h2⟩ := hi i (by omega)
      rw [seven26] at h1
      obtain ⟨x, rfl, hx⟩ := open_elem h2
      exact ⟨x, h1, hx⟩)
    have hll : ((List.range len).map f).length = len := by simp
    refine ⟨(List.range len).map f, hll, hl, ?_, ?_⟩
    · refine ⟨rfl, by rw [hll]; unfold maxLen at hm; omega, fun _ => ⟨a, rfl, fun j p hj => ?_⟩⟩
      have hjl : j < len := by
        have := (List.getElem?_eq_some_iff.1 hj).1
        omega
      have hp : p = f j := by
        rw [List.getElem?_map, List.getElem?_range hjl] at hj
        simpa using hj.symm
      subst hp
      obtain ⟨hc, _⟩ := hf j hjl
      refine ⟨_, rfl, k26_mk w _, fun i u hu => ?_⟩
      obtain ⟨_, _, hat⟩ := World.cells?_some hc
      have hi7 : i < 7 := by
        have := (List.getElem?_eq_some_iff.1 hu).1
        simpa using this
      have := hat i hi7
      rw [hu] at this
      rw [← Go.Deep.add_add]
      exact this
    · intro y hy
      obtain ⟨j, hj, rfl⟩ := List.mem_map.1 hy
      exact (hf j (List.mem_range.1 hj)).2
theorem open_nums {k : IntKind} {t e fuel : Nat} {A : Option Addr} {len cap : Nat} {x : DataW H × List MemPlace} (hu : Try.prog.underlying t = some (.slice e)) (he : Try.prog.underlying e = some (.int k)) (hc : Try.prog.cellsOf e = 1)
    (h : DataW.trod enc Try.prog w base spare held fuel t [.slice A len cap] = some x) :
    ∃ l : List Int, l.length = len ∧ len ≤ cap ∧ Kd.C (Kd.int k) w A l.length l ∧ ∀ y ∈ l, (Lit.int k y).wf = true := by
  rcases open_ints hu he hc h with ⟨hcs, _⟩ | ⟨a, l', c', zs, hcs, _, hl, hm, hz, _, hcell, hwz⟩
  · simp at hcs
    obtain ⟨rfl, rfl, rfl⟩ := hcs
    exact ⟨[], rfl, Nat.le_refl _, ⟨rfl, by simp, fun h => by simp at h⟩, by simp⟩
  · simp at hcs
    obtain ⟨rfl, rfl, rfl⟩ := hcs
    have hzl : len ≤ zs.length := by rw [hz]; split <;> omega
    have hll : (zs.take len).length = len := by rw [List.length_take]; omega
    refine ⟨zs.take len, hll, hl, ⟨rfl, by rw [hll]; unfold maxLen at hm; omega, fun _ => ⟨a, rfl, fun j p hj => ?_⟩⟩, fun y hy => hwz y (List.mem_of_mem_take hy)⟩
    have hjl : j < len := by
      have := (List.getElem?_eq_some_iff.1 hj).1
      omega
    refine ⟨[.int k p], rfl, rfl, fun i u hu' => ?_⟩
    obtain rfl : i = 0 := by
      have := (List.getElem?_eq_some_iff.1 hu').1
      simpa using this
    have h1 := hcell j (by omega)
    have e : zs.getD j 0 = p := by
      rw [List.getElem?_take, if_pos hjl] at hj
      rw [List.getD_eq_getElem?_getD, hj]
      rfl
    rw [e] at h1
    have hs : (Kd.int k).sz = 1 := rfl
    rw [hs, Nat.mul_one, Nat.add_zero, h1]
    simpa using hu'
theorem open_cand {r : Reach} {b0 : Nat} {v : Value} {d : DataW H} {p : List MemPlace} (hv : Value.okWide Try.prog w r b0 26 v) (h : DataW.Trod enc Try.prog w base spare held 26 v d p) :
    ∃ x : S26, v = .agg #[.int .i64 x.f0, .int .i64 x.f1, .int .i64 x.f2, .int .i64 x.f3, .int .i64 x.f4, .bool x.f5, .bool x.f6] ∧ Fine x := by
  obtain ⟨cs, rfl, hsz⟩ := okWide_struct Try.underlying26 hv
  obtain ⟨fuel, hf⟩ := h
  obtain ⟨x, hx, hfine⟩ := open_elem hf
  refine ⟨x, ?_, hfine⟩
  congr 1
  have h1 : cs.toList = [.int .i64 x.f0, .int .i64 x.f1, .int .i64 x.f2, .int .i64 x.f3, .int .i64 x.f4, .bool x.f5, .bool x.f6] := hx
  rw [← h1]
end
end Go.Proofs.Ytlhecfleanppmaa.Rw
