/- What the functions of stamp that the print does not take give back. The calendar, plainly: what OfDate and ToDate tell. The calendar, plainly: OfDate and ToDate. The next day of the calendar. How arguments that are dates read as numbers. -/
import Derived.Test.YtbondhnhiinlbaaProg
import Derived.Below
import Derived.Deep.Draws
import Derived.Deep.AppendLies
import Derived.Maps.AppendAt
import Derived.OwnWalk
import Derived.Laws.BytesArg
import Derived.Laws.MakeOwn
import Derived.Laws.OwnMore
import Derived.Deep.OwnRows
import Derived.Tactics
import Derived.Lib.ConvBytes
import Derived.Laws.Slices
import Derived.WalkKit
import Derived.KernelRfl
import Derived.RowKit3
import Derived.Deep.LoopGhost
import Derived.Deep.QuietTactic
import Derived.BigQuiet
import Derived.WideLaws
import Derived.Deep.DeepCutAuto
import Derived.Deep.CutBlock
import Derived.Deep.RegionHeld3
import Derived.Laws.Rows
import Derived.Lib.AppendStr
import Derived.ArgAppend
import Derived.Laws.IdiomCopy
import Derived.OrdersHeld
import Derived.Laws.BitsLemmas
import Derived.RowKit
import Derived.Test.YtbondhnhiinlbaaWWords
import Derived.Test.YtbondhnhiinlbaaWLast
import Derived.Test.YtbondhnhiinlbaaWTab
import Derived.Test.YtbondhnhiinlbaaWFour
import Derived.Test.YtbondhnhiinlbaaWQPut
import Derived.Test.YtbondhnhiinlbaaWApart
import Derived.Test.YtbondhnhiinlbaaWArr
import Derived.Test.YtbondhnhiinlbaaWZeros
import Derived.Test.YtbondhnhiinlbaaWFoot
import Derived.Test.YtbondhnhiinlbaaWKept
import Derived.Test.YtbondhnhiinlbaaWShare
import Derived.Test.YtbondhnhiinlbaaWN
import Derived.Test.YtbondhnhiinlbaaWFootNe
import Derived.Test.YtbondhnhiinlbaaWAt
import Derived.Test.YtbondhnhiinlbaaWEqStruct
import Derived.Test.YtbondhnhiinlbaaWRepsOne
import Derived.Test.YtbondhnhiinlbaaWInv
import Derived.Test.YtbondhnhiinlbaaWInvWords
import Derived.Test.YtbondhnhiinlbaaWGuard
import Derived.Test.YtbondhnhiinlbaaWNEv
import Derived.Test.YtbondhnhiinlbaaWMore
import Derived.Deep.Slices
import Derived.Deep.Fields
import Derived.ProofKit
import Derived.ChangeOld
import Derived.OpenShut
section
namespace Go.Proofs.Ytbondhnhiinlbaa.Pr
open Go.RowKit Go.Proofs.YtbondhnhiinlbaaW.PrintWords Go.Proofs.YtbondhnhiinlbaaW.PrintLast Go.Proofs.YtbondhnhiinlbaaW.PrintMore
attribute [local go_sem] max2_int min2_int max_two min_two max_three min_three max_four min_four   -- for this text's walks alone
set_option linter.unusedVariables false
set_option linter.unusedSimpArgs false



def errW : Option Int → Value
  | none => .nilIface
  | some c => .iface 0 (.int .i64 c)
theorem errW_none : errW none = .nilIface := rfl
theorem errW_some (c : Int) : errW (some c) = .iface 0 (.int .i64 c) := rfl

theorem info3 : (Try.prog.info? 3).map (fun i => (i.zero, i.size, i.bytes)) = some (some (.int .i64 0), 1, 8) := by kernel_rfl
theorem info5 : (Try.prog.info? 5).map (fun i => (i.zero, i.size, i.bytes)) = some (some (.int .u8 0), 1, 1) := by kernel_rfl
-- the values' own types

end Go.Proofs.Ytbondhnhiinlbaa.Pr
end
section
namespace Go.Proofs.Ytbondhnhiinlbaa.Pr
open Go.RowKit Go.Proofs.YtbondhnhiinlbaaW.PrintWords Go.Proofs.YtbondhnhiinlbaaW.PrintLast Go.Proofs.YtbondhnhiinlbaaW.PrintMore
attribute [local go_sem] max2_int min2_int max_two min_two max_three min_three max_four min_four   -- for this text's walks alone
set_option linter.unusedVariables false
set_option linter.unusedSimpArgs false

/-! ### stamp_put: function 39 -/
mutual
def stamp_put.l0 : Nat → List Int → Int → Int → Int → Int → Int → Option (List Int)
  | 0, _, _, _, _, _, _ => none
  | k + 1, x0, x1, x2, x7, x11, x12 => if x12 < x11 then (if x0.length < 140737488355328 then (stamp_put.l0 k (x0 ++ [48]) x1 x2 x7 x11 (wrap64 (x12 + 1))) else (none)) else (stamp_put.l1 k x0 x1 x7 (wrap64 ((wrap64 (x7 + x2)) - 1)))
def stamp_put.l1 : Nat → List Int → Int → Int → Int → Option (List Int)
  | 0, _, _, _, _ => none
  | k + 1, x0, x1, x7, x8 => if x8 ≥ x7 then (if 0 ≤ x8 then (if x8 < (x0.length : Int) then (stamp_put.l1 k (x0.set (x8 : Int).toNat ((wrap64 (48 + (Int.tmod x1 10))) % 256)) (wrap64 (Int.tdiv x1 10)) x7 (wrap64 (x8 - 1))) else (none)) else (none)) else (some x0)
end
def stamp_put.f (k : Nat) (l0 : List Int) (a1 : Int) (a2 : Int) : Option (List Int) := stamp_put.l0 k l0 a1 a2 (l0.length : Int) a2 0
theorem stamp_put.mono_l : ∀ k, (∀ y0 y1 y2 y3 y4 y5, LeO (stamp_put.l0 k y0 y1 y2 y3 y4 y5) (stamp_put.l0 (k + 1) y0 y1 y2 y3 y4 y5)) ∧ (∀ y0 y1 y2 y3, LeO (stamp_put.l1 k y0 y1 y2 y3) (stamp_put.l1 (k + 1) y0 y1 y2 y3))
  | 0 => ⟨fun _ _ _ _ _ _ r h => by simp [stamp_put.l0] at h, fun _ _ _ _ r h => by simp [stamp_put.l1] at h⟩
  | k + 1 => by
    obtain ⟨ih0, ih1⟩ := stamp_put.mono_l k
    refine ⟨?_, ?_⟩
    · intro y0 y1 y2 y3 y4 y5
      unfold stamp_put.l0
      repeat' first
      | (with_reducible exact ih0 _ _ _ _ _ _)
      | (with_reducible exact ih1 _ _ _ _)
      | (with_reducible exact LeO.refl _)
      | (with_reducible exact LeO.none _)
      | (with_reducible refine LeO.ite ?_ ?_)
      | (with_reducible refine LeO.bind ?_ (fun _ => ?_))
      | exact ih0 _ _ _ _ _ _
      | exact ih1 _ _ _ _
      | exact LeO.none _
      | refine LeO.ite ?_ ?_
      | refine LeO.bind ?_ (fun _ => ?_)
    · intro y0 y1 y2 y3
      unfold stamp_put.l1
      repeat' first
      | (with_reducible exact ih0 _ _ _ _ _ _)
      | (with_reducible exact ih1 _ _ _ _)
      | (with_reducible exact LeO.refl _)
      | (with_reducible exact LeO.none _)
      | (with_reducible refine LeO.ite ?_ ?_)
      | (with_reducible refine LeO.bind ?_ (fun _ => ?_))
      | exact ih0 _ _ _ _ _ _
      | exact ih1 _ _ _ _
      | exact LeO.none _
      | refine LeO.ite ?_ ?_
      | refine LeO.bind ?_ (fun _ => ?_)
theorem stamp_put.mono : ∀ a0 a1 a2 k, LeO (stamp_put.f k a0 a1 a2) (stamp_put.f (k + 1) a0 a1 a2) := by
  intro a0 a1 a2 k
  obtain ⟨ih0, ih1⟩ := stamp_put.mono_l k
  unfold stamp_put.f
  repeat' first
      | (with_reducible exact ih0 _ _ _ _ _ _)
      | (with_reducible exact ih1 _ _ _ _)
      | (with_reducible exact LeO.refl _)
      | (with_reducible exact LeO.none _)
      | (with_reducible refine LeO.ite ?_ ?_)
      | (with_reducible refine LeO.bind ?_ (fun _ => ?_))
      | exact ih0 _ _ _ _ _ _
      | exact ih1 _ _ _ _
      | exact LeO.none _
      | refine LeO.ite ?_ ?_
      | refine LeO.bind ?_ (fun _ => ?_)
set_option maxHeartbeats 8000000 in
set_option maxRecDepth 100000 in
theorem stamp_put.calls (k : Nat) (P0_ : Nat → Prop) (u9000_ : Value) (l0 : List Int) (a1 : Int) (a2 : Int) (r : List Int) (w0 w : World) (hB : Below w0.heap.size w0 w) (ho0 : Kd.R (Kd.int .u8) 5 w w0.heap.size P0_ u9000_ l0) (h : stamp_put.f k l0 a1 a2 = some r) :
    Calls Try.prog 39 #[u9000_, .int .i64 a1, .int .i64 a2] w fun e w' => ∃ v0_ : Value, e = .returned (v0_) ∧ Kd.R (Kd.int .u8) 5 w' w0.heap.size (fun k_ => (P0_ k_ ∨ w.heap.size ≤ k_)) v0_ r ∧ Below w0.heap.size w0 w' ∧ Kept w w' (fun k_ => P0_ k_) := by
  have HO0 := Aside0.mk (show Kd.R (Kd.int .u8) 5 w w0.heap.size (fun k_ => (P0_ k_ ∨ w.heap.size ≤ k_)) u9000_ l0 from Kd.R_mono ho0 (fun k_ hk => (.inl hk)))
  have HK := Aside0.mk (Kept.refl w (fun k_ => P0_ k_))
  have HW0 := Aside0.mk hB.size
  have HB := Aside0.mk hB
  clear hB
  have H : (stamp_put.l0 k l0 a1 a2 (l0.length : Int) a2 0) = some r := h
  clear h
  have H' := Aside0.mk H
  clear H
  obtain ⟨Ao4, co4, eo4⟩ := Kd.R_slice HO0.out
  subst eo4
  go_enter Try.func39, Try.ntmps39
  go_wp2
  go_loopg [0, 12] k (fun kq v0 v12 w' => ∃ (x0_1 : List Int) (x12_1 : Int), v12 = .int .i64 x12_1 ∧ Aside0 (stamp_put.l0 kq x0_1 a1 a2 (l0.length : Int) a2 x12_1 = some r) ∧ Aside0 (kq ≤ k) ∧ Aside0 (Kd.R (Kd.int .u8) 5 w' w0.heap.size (fun k_ => (P0_ k_ ∨ w.heap.size ≤ k_)) v0 x0_1) ∧ Aside0 (Kept w w' (fun k_ => P0_ k_)) ∧ Aside0 (Below w0.heap.size w0 w'))
  case atStart => exact ⟨(l0), (0), (by first | rfl | (simp; done) | (simp [*]; done)), H', ⟨Nat.le_refl _⟩, ⟨by (with_reducible repeat (first | apply Kd.R_alloc | apply Kd.R_drewN | apply Kd.R_drew)); exact HO0.out⟩, ⟨by repeat (first | (with_reducible first | exact HK.out | apply Kept.alloc | apply Kept.drewN | apply Kept.drew) | exact HK.out)⟩, ⟨by repeat (first | (with_reducible first | exact HB.out | apply below_alloc | apply pw_below_drewN | apply below_drew1) | exact HB.out)⟩⟩
  case round =>
    clear H'
    try clear p2
    try clear c3
    obtain ⟨x0_1, x12_1, rfl, HA, HK1, HO_0, HK, HB⟩ := hrel
    cases gk with
    | zero => exact absurd HA.out (by simp [stamp_put.l0])
    | succ k1 =>
      have H := HA.out
      clear HA
      simp only [stamp_put.l0] at H
      by_cases c5 : x12_1 < a2
      · rw [if_pos c5] at H
        have c5b0 : decide (x12_1 < a2) = true := decide_eq_true c5
        clear c5
        by_cases c6 : x0_1.length < 140737488355328
        · rw [if_pos c6] at H
          have LMc6 := Aside0.mk c6
          clear c6
          obtain ⟨y101, hy101⟩ : ∃ y_ : List Int, y_ = (x0_1 ++ [48]) := ⟨_, rfl⟩
          replace H : (stamp_put.l0 k1 y101 a1 a2 (l0.length : Int) a2 (wrap64 (x12_1 + 1))) = some r := by first | (rw [hy101]; with_reducible exact H) | (have H2_ := (Option.bind_some _ _).symm.trans H; rw [hy101]; with_reducible exact H2_) | (have H2_ := (Option.bind_some _ _).symm.trans H; with_reducible exact H2_) | with_reducible exact H | (rw [hy101]; exact H) | exact H
          have Ny101 := Aside0.mk hy101
          clear hy101
          have H' := Aside0.mk H
          clear H
          go_wp2_with (first | ((with_reducible refine gate_builtin (b := .append) (xs := #[.tmp 14, .tmp 15]) rfl ?_); at_builtin; refine Kd.R_append (Kd.int .u8) (w0 := w0) w0.heap.size rfl (.tmp 14) (.tmp 15) 69 5 (.int .u8 0) 1 rfl Try.underlying69 info5 rfl (by decide) (by omega) u0 x0_1 48 [.int .u8 48] (fun k_ => (P0_ k_ ∨ w.heap.size ≤ k_)) (fun _ => False) rfl rfl ?aP (fun _ hk => hk.elim) ?aF ?aO ?aB ?aS ?aL ?_; (case aP => exact rfl); (case aB => exact (by repeat (first | (with_reducible first | exact HB.out | apply below_alloc | apply pw_below_drewN | apply below_drew1) | exact HB.out))); (case aF => exact (fun k_ hk => (.inr (Nat.le_trans (by first | exact HK.out.1 | exact (show Kept w _ (fun k_ => P0_ k_) from by repeat (first | (with_reducible first | exact HK.out | apply Kept.alloc | apply Kept.drewN | apply Kept.drew) | exact HK.out)).1) hk)))); (case aO => exact (by (with_reducible repeat (first | apply Kd.R_alloc | apply Kd.R_drewN | apply Kd.R_drew)); exact HO_0.out)); (case aS => exact (below_size (by repeat (first | (with_reducible first | exact HB.out | apply below_alloc | apply pw_below_drewN | apply below_drew1) | exact HB.out)))); (case aL => have := LMc6.out; omega); intro v102 w7 ho hb hg hat; rw [← Ny101.out] at ho; have n0_ := Aside0.mk (hb); have n1_ := Aside0.mk (Kept.of_grown (S := (fun k_ => P0_ k_)) hg (by repeat (first | (with_reducible first | exact HK.out | apply Kept.alloc | apply Kept.drewN | apply Kept.drew) | exact HK.out)) (fun k_ e_ => (HO_0.out.1 k_ e_))); have n2_ := Aside0.mk (ho); clear HB; clear HK; clear HO_0; have HB := n0_; have HK := n1_; have HO103 := n2_; clear n0_ n1_ n2_; clear ho hb hg hat))
          go_roundg k1
          case measure => have := HK1.out; omega
          case rel => exact ⟨(y101), (wrap64 (x12_1 + 1)), (by first | rfl | (simp; done) | (simp [*]; done)), H', ⟨by have := HK1.out; omega⟩, ⟨by (with_reducible repeat (first | apply Kd.R_alloc | apply Kd.R_drewN | apply Kd.R_drew)); exact HO103.out⟩, ⟨by repeat (first | (with_reducible first | exact HK.out | apply Kept.alloc | apply Kept.drewN | apply Kept.drew) | exact HK.out)⟩, ⟨by repeat (first | (with_reducible first | exact HB.out | apply below_alloc | apply pw_below_drewN | apply below_drew1) | exact HB.out)⟩⟩
        · rw [if_neg c6] at H
          exact absurd H (by simp)
      · rw [if_neg c5] at H
        have c5b0 : decide (x12_1 < a2) = false := decide_eq_false c5
        clear c5
        have H' := Aside0.mk H
        clear H
        go_wp2
        go_loopg [1, 8] k1 (fun kq v1 v8 w' => ∃ (x0_2 : List Int) (x1_2 : Int) (x8_2 : Int), v1 = .int .i64 x1_2 ∧ v8 = .int .i64 x8_2 ∧ Aside0 (stamp_put.l1 kq x0_2 x1_2 (l0.length : Int) x8_2 = some r) ∧ Aside0 (kq ≤ k1) ∧ Aside0 (Kd.R (Kd.int .u8) 5 w' w0.heap.size (fun k_ => (P0_ k_ ∨ w.heap.size ≤ k_)) u0 x0_2) ∧ Aside0 (Kept w w' (fun k_ => P0_ k_)) ∧ Aside0 (Below w0.heap.size w0 w'))
        case atStart => exact ⟨(x0_1), (a1), (wrap64 ((wrap64 ((l0.length : Int) + a2)) - 1)), (by first | rfl | (simp; done) | (simp [*]; done)), (by first | rfl | (simp; done) | (simp [*]; done)), H', ⟨Nat.le_refl _⟩, ⟨by (with_reducible repeat (first | apply Kd.R_alloc | apply Kd.R_drewN | apply Kd.R_drew)); exact HO_0.out⟩, ⟨by repeat (first | (with_reducible first | exact HK.out | apply Kept.alloc | apply Kept.drewN | apply Kept.drew) | exact HK.out)⟩, ⟨by repeat (first | (with_reducible first | exact HB.out | apply below_alloc | apply pw_below_drewN | apply below_drew1) | exact HB.out)⟩⟩
        case round =>
          clear H'
          try clear p2
          try clear c3
          try clear c5
          try clear c5b0
          try clear c6
          try clear p6
          try clear p2
          obtain ⟨x0_2, x1_2, x8_2, rfl, rfl, HA, HK2, HO_0, HK, HB⟩ := hrel
          cases gk with
          | zero => exact absurd HA.out (by simp [stamp_put.l1])
          | succ k2 =>
            have H := HA.out
            clear HA
            simp only [stamp_put.l1] at H
            by_cases c8 : x8_2 ≥ (l0.length : Int)
            · rw [if_pos c8] at H
              have c8b0 : decide ((l0.length : Int) ≤ x8_2) = true := decide_eq_true c8
              clear c8
              by_cases c9 : 0 ≤ x8_2
              · rw [if_pos c9] at H
                have c9b0 : decide (0 ≤ x8_2) = true := decide_eq_true c9
                clear c9
                by_cases c10 : x8_2 < (x0_2.length : Int)
                · rw [if_pos c10] at H
                  have c10b0 : decide (x8_2 < (x0_2.length : Int)) = true := decide_eq_true c10
                  clear c10
                  obtain ⟨y104, hy104⟩ : ∃ y_ : List Int, y_ = (x0_2.set (x8_2 : Int).toNat ((wrap64 (48 + (Int.tmod x1_2 10))) % 256)) := ⟨_, rfl⟩
                  replace H : (stamp_put.l1 k2 y104 (wrap64 (Int.tdiv x1_2 10)) (l0.length : Int) (wrap64 (x8_2 - 1))) = some r := by first | (rw [hy104]; with_reducible exact H) | (have H2_ := (Option.bind_some _ _).symm.trans H; rw [hy104]; with_reducible exact H2_) | (have H2_ := (Option.bind_some _ _).symm.trans H; with_reducible exact H2_) | with_reducible exact H | (rw [hy104]; exact H) | exact H
                  have Ny104 := Aside0.mk hy104
                  clear hy104
                  have H' := Aside0.mk H
                  clear H
                  have p11 : 0 ≤ (x8_2 : Int) := of_decide_eq_true (by first | (with_reducible assumption) | assumption)
                  have q11 : (x8_2 : Int) < ((x0_2.length : Int) : Int) := of_decide_eq_true (by first | (with_reducible assumption) | assumption)
                  obtain ⟨go11, co11, eo11, gb11, gl11, cl11, HG11⟩ := Kd.R_form HO_0.out (by omega)
                  (first | cases eo11 | (injection eo11 with ea_ en_ ec_; (first | subst ea_ | (injection ea_ with ea_; subst ea_)); subst ec_; clear en_))
                  have GB11 := Aside0.mk gb11
                  have GG11 := Aside0.mk HG11
                  clear gb11 gl11 HG11
                  have HMgo11 := Aside0.mk (show (P0_ go11 ∨ w.heap.size ≤ go11) from (HO_0.out.1 _ rfl))
                  obtain ⟨hx11_0, hf11_0⟩ := Kd.R_celln 0 HO_0.out (x8_2 : Int) p11 q11
                  replace p11 := eq_true p11
                  replace q11 := eq_true q11
                  have HP12 := Kd.R_putg HO_0.out (x8_2 : Int) ((wrap64 (48 + (Int.tmod x1_2 10))) % 256)
                  go_wp2_with (first | ((with_reducible refine gate_store (t := 5) (p := 33) rfl ?_); refine store_event (t := 5) (p := 33) (v := ?vo_w13) (w1 := (wr.setCell ⟨go11, (x8_2 : Int).toNat, none⟩ (.int .u8 ((wrap64 (48 + (Int.tmod x1_2 10))) % 256)))) ?hg ?ho ?hn ?hr ?_; (case ho => rfl); (case hg => rfl); (case hn => rfl); (case hr => first | (go_simp; done) | (go_simp; rfl)); intro w13 hw; have hg : wr.grownBy w13 (some go11) := (by rw [hw]; exact HP12.2); have hp_ : Kd.R (Kd.int .u8) 5 w13 w0.heap.size (fun k_ => (P0_ k_ ∨ w.heap.size ≤ k_)) (.slice (some ⟨go11, 0, none⟩) x0_2.length co11) y104 := (by rw [hw, Ny104.out]; exact HP12.1); clear HP12; have n0_ := Aside0.mk (hp_); have n1_ := Aside0.mk ((by rw [hw]; exact below_set (HB.out) GB11.out : Below w0.heap.size w0 w13)); have n2_ := Aside0.mk (Kept.of_grown (S := (fun k_ => P0_ k_)) hg (by repeat (first | (with_reducible first | exact HK.out | apply Kept.alloc | apply Kept.drewN | apply Kept.drew) | exact HK.out)) (fun k_ e_ => (HO_0.out.1 k_ e_))); clear HO_0; clear HB; clear HK; have HO_0 := n0_; have HB := n1_; have HK := n2_; clear n0_ n1_ n2_; clear hg hw hp_))
                  go_roundg k2
                  case measure => have := HK1.out; have := HK2.out; omega
                  case rel => exact ⟨(y104), (wrap64 (Int.tdiv x1_2 10)), (wrap64 (x8_2 - 1)), (by first | rfl | (simp; done) | (simp [*]; done)), (by first | rfl | (simp; done) | (simp [*]; done)), H', ⟨by have := HK1.out; have := HK2.out; omega⟩, ⟨by (with_reducible repeat (first | apply Kd.R_alloc | apply Kd.R_drewN | apply Kd.R_drew)); exact HO_0.out⟩, ⟨by repeat (first | (with_reducible first | exact HK.out | apply Kept.alloc | apply Kept.drewN | apply Kept.drew) | exact HK.out)⟩, ⟨by repeat (first | (with_reducible first | exact HB.out | apply below_alloc | apply pw_below_drewN | apply below_drew1) | exact HB.out)⟩⟩
                · rw [if_neg c10] at H
                  exact absurd H (by simp)
              · rw [if_neg c9] at H
                exact absurd H (by simp)
            · rw [if_neg c8] at H
              have c8b0 : decide ((l0.length : Int) ≤ x8_2) = false := decide_eq_false c8
              clear c8
              obtain rfl := Option.some.inj H
              go_wp2
              go_ret
              exact ⟨_, by first | rfl | (simp [errW_none, errW_some] <;> rfl) | (simp [*, errW_none, errW_some] <;> rfl), by (with_reducible repeat (first | apply Kd.R_alloc | apply Kd.R_drewN | apply Kd.R_drew)); exact HO_0.out, by repeat (first | (with_reducible first | exact HB.out | apply below_alloc | apply pw_below_drewN | apply below_drew1) | exact HB.out), by repeat (first | (with_reducible first | exact HK.out | apply Kept.alloc | apply Kept.drewN | apply Kept.drew) | exact HK.out)⟩

end Go.Proofs.Ytbondhnhiinlbaa.Pr
end
section
namespace Go.Proofs.Ytbondhnhiinlbaa.Pr
open Go.RowKit Go.Proofs.YtbondhnhiinlbaaW.PrintWords Go.Proofs.YtbondhnhiinlbaaW.PrintLast Go.Proofs.YtbondhnhiinlbaaW.PrintMore
attribute [local go_sem] max2_int min2_int max_two min_two max_three min_three max_four min_four   -- for this text's walks alone
set_option linter.unusedVariables false
set_option linter.unusedSimpArgs false

/-! ### foliotref02_digits: function 40 -/
def foliotref02_digits.l0 : Nat → Int → Int → ByteArray → Int → Option (ByteArray)
  | 0, _, _, _, _ => none
  | k + 1, x0, x1, x5, x6 => if x6 < x1 then (if 0 ≤ (Int.tmod x0 10) then (if (Int.tmod x0 10) ≤ (wrap64 ((Int.tmod x0 10) + 1)) then (if (wrap64 ((Int.tmod x0 10) + 1)) ≤ 10 then (if ((⟨#[48, 49, 50, 51, 52, 53, 54, 55, 56, 57]⟩ : ByteArray).extract ((Int.tmod x0 10) : Int).toNat ((wrap64 ((Int.tmod x0 10) + 1)) : Int).toNat).size + x5.size ≤ 9223372036854775807 then (foliotref02_digits.l0 k (wrap64 (Int.tdiv x0 10)) x1 (((⟨#[48, 49, 50, 51, 52, 53, 54, 55, 56, 57]⟩ : ByteArray).extract ((Int.tmod x0 10) : Int).toNat ((wrap64 ((Int.tmod x0 10) + 1)) : Int).toNat) ++ x5) (wrap64 (x6 + 1))) else (none)) else (none)) else (none)) else (none)) else (some x5)
def foliotref02_digits.f (k : Nat) (a0 : Int) (a1 : Int) : Option (ByteArray) := foliotref02_digits.l0 k a0 a1 (⟨#[]⟩ : ByteArray) 0
theorem foliotref02_digits.mono_l : ∀ k, (∀ y0 y1 y2 y3, LeO (foliotref02_digits.l0 k y0 y1 y2 y3) (foliotref02_digits.l0 (k + 1) y0 y1 y2 y3))
  | 0 => fun _ _ _ _ r h => by simp [foliotref02_digits.l0] at h
  | k + 1 => by
    have ih0 := foliotref02_digits.mono_l k
    · intro y0 y1 y2 y3
      unfold foliotref02_digits.l0
      repeat' first
      | (with_reducible exact ih0 _ _ _ _)
      | (with_reducible exact LeO.refl _)
      | (with_reducible exact LeO.none _)
      | (with_reducible refine LeO.ite ?_ ?_)
      | (with_reducible refine LeO.bind ?_ (fun _ => ?_))
      | exact ih0 _ _ _ _
      | exact LeO.none _
      | refine LeO.ite ?_ ?_
      | refine LeO.bind ?_ (fun _ => ?_)
theorem foliotref02_digits.mono : ∀ a0 a1 k, LeO (foliotref02_digits.f k a0 a1) (foliotref02_digits.f (k + 1) a0 a1) := by
  intro a0 a1 k
  have ih0 := foliotref02_digits.mono_l k
  unfold foliotref02_digits.f
  repeat' first
      | (with_reducible exact ih0 _ _ _ _)
      | (with_reducible exact LeO.refl _)
      | (with_reducible exact LeO.none _)
      | (with_reducible refine LeO.ite ?_ ?_)
      | (with_reducible refine LeO.bind ?_ (fun _ => ?_))
      | exact ih0 _ _ _ _
      | exact LeO.none _
      | refine LeO.ite ?_ ?_
      | refine LeO.bind ?_ (fun _ => ?_)
set_option maxHeartbeats 8000000 in
set_option maxRecDepth 100000 in
theorem foliotref02_digits.calls (k : Nat) (a0 : Int) (a1 : Int) (r : ByteArray) (w : World) (h : foliotref02_digits.f k a0 a1 = some r) :
    Calls Try.prog 40 #[.int .i64 a0, .int .i64 a1] w fun e w' => e = .returned (.string r) ∧ Drawn0 w w' := by
  have H : (foliotref02_digits.l0 k a0 a1 (⟨#[]⟩ : ByteArray) 0) = some r := h
  clear h
  have H' := Aside0.mk H
  clear H
  go_enter Try.func40, Try.ntmps40
  go_wp2
  go_loopg [0, 5, 6] k (fun kq v0 v5 v6 w' => ∃ (x0_1 : Int) (x5_1 : ByteArray) (x6_1 : Int), v0 = .int .i64 x0_1 ∧ v5 = .string x5_1 ∧ v6 = .int .i64 x6_1 ∧ Aside0 (foliotref02_digits.l0 kq x0_1 a1 x5_1 x6_1 = some r) ∧ Aside0 (kq ≤ k) ∧ Drawn0 w w')
  case atStart => exact ⟨(a0), ((⟨#[]⟩ : ByteArray)), (0), (by first | rfl | (simp; done) | (simp [*]; done)), (by first | rfl | (simp; done) | (simp [*]; done)), (by first | rfl | (simp; done) | (simp [*]; done)), H', ⟨Nat.le_refl _⟩, by repeat (first | exact Drawn0.refl _ | apply Drawn0.step)⟩
  case round =>
    clear H'
    try clear p2
    obtain ⟨x0_1, x5_1, x6_1, rfl, rfl, rfl, HA, HK1, ⟨m1, rfl⟩⟩ := hrel
    cases gk with
    | zero => exact absurd HA.out (by simp [foliotref02_digits.l0])
    | succ k1 =>
      have H := HA.out
      clear HA
      simp only [foliotref02_digits.l0] at H
      by_cases c3 : x6_1 < a1
      · rw [if_pos c3] at H
        have c3b0 : decide (x6_1 < a1) = true := decide_eq_true c3
        clear c3
        obtain ⟨ji4, hji4⟩ : ∃ j_ : Int, (Int.tmod x0_1 10) = j_ := ⟨_, rfl⟩
        replace H : (if 0 ≤ (ji4) then (if (ji4) ≤ (wrap64 ((ji4) + 1)) then (if (wrap64 ((ji4) + 1)) ≤ 10 then (if ((⟨#[48, 49, 50, 51, 52, 53, 54, 55, 56, 57]⟩ : ByteArray).extract ((ji4) : Int).toNat ((wrap64 ((ji4) + 1)) : Int).toNat).size + x5_1.size ≤ 9223372036854775807 then (foliotref02_digits.l0 k1 (wrap64 (Int.tdiv x0_1 10)) a1 (((⟨#[48, 49, 50, 51, 52, 53, 54, 55, 56, 57]⟩ : ByteArray).extract ((ji4) : Int).toNat ((wrap64 ((ji4) + 1)) : Int).toNat) ++ x5_1) (wrap64 (x6_1 + 1))) else (none)) else (none)) else (none)) else (none)) = some r := by first | (rw [hji4] at H; exact H) | (simp only [hji4] at H ⊢; exact H)
        by_cases c5 : 0 ≤ (ji4)
        · rw [if_pos c5] at H
          have c5b0 := eq_true c5
          have c5b1 : decide (0 ≤ (ji4)) = true := decide_eq_true c5
          clear c5
          by_cases c6 : (ji4) ≤ (wrap64 ((ji4) + 1))
          · rw [if_pos c6] at H
            have c6b0 := eq_true c6
            have c6b1 : decide ((ji4) ≤ (wrap64 ((ji4) + 1))) = true := decide_eq_true c6
            by_cases c7 : (wrap64 ((ji4) + 1)) ≤ 10
            · rw [if_pos c7] at H
              have c7b0 := eq_true c7
              have c7b1 : decide ((wrap64 ((ji4) + 1)) ≤ 10) = true := decide_eq_true c7
              by_cases c8 : ((⟨#[48, 49, 50, 51, 52, 53, 54, 55, 56, 57]⟩ : ByteArray).extract ((ji4) : Int).toNat ((wrap64 ((ji4) + 1)) : Int).toNat).size + x5_1.size ≤ 9223372036854775807
              · rw [if_pos c8] at H
                have c8b0 := eq_true c8
                have c8b1 : decide (((⟨#[48, 49, 50, 51, 52, 53, 54, 55, 56, 57]⟩ : ByteArray).extract ((ji4) : Int).toNat ((wrap64 ((ji4) + 1)) : Int).toNat).size + x5_1.size ≤ 9223372036854775807) = true := decide_eq_true c8
                try have c8b2 : (9223372036854775807 < ((⟨#[48, 49, 50, 51, 52, 53, 54, 55, 56, 57]⟩ : ByteArray).extract ((ji4) : Int).toNat ((wrap64 ((ji4) + 1)) : Int).toNat).size + x5_1.size) = False := eq_false (Nat.not_lt.2 c8)
                have H' := Aside0.mk H
                clear H
                go_wp2
                go_roundg k1
                case measure => have := HK1.out; omega
                case rel => exact ⟨(wrap64 (Int.tdiv x0_1 10)), (((⟨#[48, 49, 50, 51, 52, 53, 54, 55, 56, 57]⟩ : ByteArray).extract ((ji4) : Int).toNat ((wrap64 ((ji4) + 1)) : Int).toNat) ++ x5_1), (wrap64 (x6_1 + 1)), (by first | rfl | (simp; done) | (simp [*]; done)), (by first | rfl | (simp; done) | (simp only [← hji4] <;> (first | rfl | simp)) | (simp [*]; done)), (by first | rfl | (simp; done) | (simp [*]; done)), H', ⟨by have := HK1.out; omega⟩, by repeat (first | exact Drawn0.refl _ | apply Drawn0.step)⟩
              · rw [if_neg c8] at H
                exact absurd H (by simp)
            · rw [if_neg c7] at H
              exact absurd H (by simp)
          · rw [if_neg c6] at H
            exact absurd H (by simp)
        · rw [if_neg c5] at H
          exact absurd H (by simp)
      · rw [if_neg c3] at H
        have c3b0 : decide (x6_1 < a1) = false := decide_eq_false c3
        clear c3
        obtain rfl := Option.some.inj H
        go_wp2
        go_ret
        exact ⟨by first | rfl | (simp; done) | (simp [*]; done), by repeat (first | exact Drawn0.refl _ | apply Drawn0.step)⟩

end Go.Proofs.Ytbondhnhiinlbaa.Pr
end
section
namespace Go.Proofs.Ytbondhnhiinlbaa.Pr
open Go.RowKit Go.Proofs.YtbondhnhiinlbaaW.PrintWords Go.Proofs.YtbondhnhiinlbaaW.PrintLast Go.Proofs.YtbondhnhiinlbaaW.PrintMore
attribute [local go_sem] max2_int min2_int max_two min_two max_three min_three max_four min_four   -- for this text's walks alone
set_option linter.unusedVariables false
set_option linter.unusedSimpArgs false

theorem eqA25 (d : Nat) (w : World) (x0 y0 : Int) (x1 y1 : Int) :
    (Op.equalIn (d + 2) 25 (.agg #[.int .i64 x0, .int .u64 x1]) (.agg #[.int .i64 y0, .int .u64 y1])).run Try.prog w = .ok (x0 == y0 && (x1 == y1)) w := by
  refine eqA_of Try.underlying25 (by kernel_rfl) ?_
  refine eqf_cons (by rfl) (by go_simp; rfl) (by go_simp; rfl) (by go_simp) ?_
  exact eqf_last (by rfl) (by go_simp; rfl) (by go_simp; rfl) (by go_simp)
end Go.Proofs.Ytbondhnhiinlbaa.Pr
end
section
namespace Go.Proofs.Ytbondhnhiinlbaa.Pr
open Go.RowKit Go.Proofs.YtbondhnhiinlbaaW.PrintWords Go.Proofs.YtbondhnhiinlbaaW.PrintLast Go.Proofs.YtbondhnhiinlbaaW.PrintMore
attribute [local go_sem] max2_int min2_int max_two min_two max_three min_three max_four min_four   -- for this text's walks alone
set_option linter.unusedVariables false
set_option linter.unusedSimpArgs false

theorem eqA28 (d : Nat) (w : World) (x0 y0 : Int) (x1 y1 : Int) (x2 y2 : Int) (x3 y3 : Int) (x4 y4 : Int) (x5 y5 : Int) (x6 y6 : Int) :
    (Op.equalIn (d + 2) 28 (.agg #[.int .i64 x0, .int .i64 x1, .int .i64 x2, .int .i64 x3, .int .i64 x4, .int .i64 x5, .int .u32 x6]) (.agg #[.int .i64 y0, .int .i64 y1, .int .i64 y2, .int .i64 y3, .int .i64 y4, .int .i64 y5, .int .u32 y6])).run Try.prog w = .ok (x0 == y0 && (x1 == y1 && (x2 == y2 && (x3 == y3 && (x4 == y4 && (x5 == y5 && (x6 == y6))))))) w := by
  refine eqA_of Try.underlying28 (by kernel_rfl) ?_
  refine eqf_cons (by rfl) (by go_simp; rfl) (by go_simp; rfl) (by go_simp) ?_
  refine eqf_cons (by rfl) (by go_simp; rfl) (by go_simp; rfl) (by go_simp) ?_
  refine eqf_cons (by rfl) (by go_simp; rfl) (by go_simp; rfl) (by go_simp) ?_
  refine eqf_cons (by rfl) (by go_simp; rfl) (by go_simp; rfl) (by go_simp) ?_
  refine eqf_cons (by rfl) (by go_simp; rfl) (by go_simp; rfl) (by go_simp) ?_
  refine eqf_cons (by rfl) (by go_simp; rfl) (by go_simp; rfl) (by go_simp) ?_
  exact eqf_last (by rfl) (by go_simp; rfl) (by go_simp; rfl) (by go_simp)
end Go.Proofs.Ytbondhnhiinlbaa.Pr
end
section
namespace Go.Proofs.Ytbondhnhiinlbaa.Pr
open Go.RowKit Go.Proofs.YtbondhnhiinlbaaW.PrintWords Go.Proofs.YtbondhnhiinlbaaW.PrintLast Go.Proofs.YtbondhnhiinlbaaW.PrintMore
attribute [local go_sem] max2_int min2_int max_two min_two max_three min_three max_four min_four   -- for this text's walks alone
set_option linter.unusedVariables false
set_option linter.unusedSimpArgs false

/-! ### stamp_begins: function 33 -/
def stamp_begins.f (a0 : Int) : Option (Int) := some (wrap64 ((wrap64 ((wrap64 ((wrap64 ((wrap64 (a0 - 1)) * 365)) + (wrap64 (Int.tdiv (wrap64 (a0 - 1)) 4)))) - (wrap64 (Int.tdiv (wrap64 (a0 - 1)) 100)))) + (wrap64 (Int.tdiv (wrap64 (a0 - 1)) 400))))
set_option maxHeartbeats 8000000 in
set_option maxRecDepth 100000 in
theorem stamp_begins.calls (a0 : Int) (r : Int) (w : World) (h : stamp_begins.f a0 = some r) :
    Calls Try.prog 33 #[.int .i64 a0] w fun e w' => e = .returned (.int .i64 r) ∧ Drawn0 w w' := by
  have H : (some (wrap64 ((wrap64 ((wrap64 ((wrap64 ((wrap64 (a0 - 1)) * 365)) + (wrap64 (Int.tdiv (wrap64 (a0 - 1)) 4)))) - (wrap64 (Int.tdiv (wrap64 (a0 - 1)) 100)))) + (wrap64 (Int.tdiv (wrap64 (a0 - 1)) 400))))) = some r := h
  clear h
  obtain rfl := Option.some.inj H
  go_enter Try.func33, Try.ntmps33
  go_wp2
  go_ret
  exact ⟨by first | rfl | (simp; done) | (simp [*]; done), by repeat (first | exact Drawn0.refl _ | apply Drawn0.step)⟩

end Go.Proofs.Ytbondhnhiinlbaa.Pr
end
section
namespace Go.Proofs.Ytbondhnhiinlbaa.Pr
open Go.RowKit Go.Proofs.YtbondhnhiinlbaaW.PrintWords Go.Proofs.YtbondhnhiinlbaaW.PrintLast Go.Proofs.YtbondhnhiinlbaaW.PrintMore
attribute [local go_sem] max2_int min2_int max_two min_two max_three min_three max_four min_four   -- for this text's walks alone
set_option linter.unusedVariables false
set_option linter.unusedSimpArgs false

/-! ### stamp_leap: function 43 -/
def stamp_leap.f (a0 : Int) : Option (Int) := if (Int.tmod a0 4) = 0 then (if (Int.tmod a0 100) = 0 then (if (Int.tmod a0 400) = 0 then (some 1) else (some 0)) else (some 1)) else (some 0)
set_option maxHeartbeats 8000000 in
set_option maxRecDepth 100000 in
theorem stamp_leap.calls (a0 : Int) (r : Int) (w : World) (h : stamp_leap.f a0 = some r) :
    Calls Try.prog 43 #[.int .i64 a0] w fun e w' => e = .returned (.int .i64 r) ∧ Drawn0 w w' := by
  have H : (if (Int.tmod a0 4) = 0 then (if (Int.tmod a0 100) = 0 then (if (Int.tmod a0 400) = 0 then (some 1) else (some 0)) else (some 1)) else (some 0)) = some r := h
  clear h
  by_cases c2 : (Int.tmod a0 4) = 0
  · rw [if_pos c2] at H
    have c2b0 : ((Int.tmod a0 4) == 0) = true := beq_iff_eq.mpr c2
    have c2b1 : ((Int.tmod a0 4) != 0) = false := bne_eq_false_iff_eq.mpr c2
    clear c2
    by_cases c3 : (Int.tmod a0 100) = 0
    · rw [if_pos c3] at H
      have c3b0 : ((Int.tmod a0 100) == 0) = true := beq_iff_eq.mpr c3
      have c3b1 : ((Int.tmod a0 100) != 0) = false := bne_eq_false_iff_eq.mpr c3
      clear c3
      by_cases c4 : (Int.tmod a0 400) = 0
      · rw [if_pos c4] at H
        have c4b0 : ((Int.tmod a0 400) == 0) = true := beq_iff_eq.mpr c4
        have c4b1 : ((Int.tmod a0 400) != 0) = false := bne_eq_false_iff_eq.mpr c4
        clear c4
        obtain rfl := Option.some.inj H
        go_enter Try.func43, Try.ntmps43
        go_wp2
        go_ret
        exact ⟨by first | rfl | (simp; done) | (simp [*]; done), by repeat (first | exact Drawn0.refl _ | apply Drawn0.step)⟩
      · rw [if_neg c4] at H
        have c4b0 : ((Int.tmod a0 400) == 0) = false := beq_eq_false_iff_ne.mpr c4
        have c4b1 : ((Int.tmod a0 400) != 0) = true := bne_iff_ne.mpr c4
        obtain rfl := Option.some.inj H
        go_enter Try.func43, Try.ntmps43
        go_wp2
        go_ret
        exact ⟨by first | rfl | (simp; done) | (simp [*]; done), by repeat (first | exact Drawn0.refl _ | apply Drawn0.step)⟩
    · rw [if_neg c3] at H
      have c3b0 : ((Int.tmod a0 100) == 0) = false := beq_eq_false_iff_ne.mpr c3
      have c3b1 : ((Int.tmod a0 100) != 0) = true := bne_iff_ne.mpr c3
      obtain rfl := Option.some.inj H
      go_enter Try.func43, Try.ntmps43
      go_wp2
      go_ret
      exact ⟨by first | rfl | (simp; done) | (simp [*]; done), by repeat (first | exact Drawn0.refl _ | apply Drawn0.step)⟩
  · rw [if_neg c2] at H
    have c2b0 : ((Int.tmod a0 4) == 0) = false := beq_eq_false_iff_ne.mpr c2
    have c2b1 : ((Int.tmod a0 4) != 0) = true := bne_iff_ne.mpr c2
    obtain rfl := Option.some.inj H
    go_enter Try.func43, Try.ntmps43
    go_wp2
    go_ret
    exact ⟨by first | rfl | (simp; done) | (simp [*]; done), by repeat (first | exact Drawn0.refl _ | apply Drawn0.step)⟩

end Go.Proofs.Ytbondhnhiinlbaa.Pr
end
section
namespace Go.Proofs.Ytbondhnhiinlbaa.Pr
open Go.RowKit Go.Proofs.YtbondhnhiinlbaaW.PrintWords Go.Proofs.YtbondhnhiinlbaaW.PrintLast Go.Proofs.YtbondhnhiinlbaaW.PrintMore
attribute [local go_sem] max2_int min2_int max_two min_two max_three min_three max_four min_four   -- for this text's walks alone
set_option linter.unusedVariables false
set_option linter.unusedSimpArgs false

/-! ### foliotref02_leap: function 44 -/
def foliotref02_leap.f (a0 : Int) : Option (Bool) := if (Int.tmod a0 4) = 0 then (if (Int.tmod a0 100) = 0 then (some ((Int.tmod a0 400) == 0)) else (some true)) else (some ((Int.tmod a0 400) == 0))
set_option maxHeartbeats 8000000 in
set_option maxRecDepth 100000 in
theorem foliotref02_leap.calls (a0 : Int) (r : Bool) (w : World) (h : foliotref02_leap.f a0 = some r) :
    Calls Try.prog 44 #[.int .i64 a0] w fun e w' => e = .returned (.bool r) ∧ Drawn0 w w' := by
  have H : (if (Int.tmod a0 4) = 0 then (if (Int.tmod a0 100) = 0 then (some ((Int.tmod a0 400) == 0)) else (some true)) else (some ((Int.tmod a0 400) == 0))) = some r := h
  clear h
  by_cases c2 : (Int.tmod a0 4) = 0
  · rw [if_pos c2] at H
    have c2b0 : ((Int.tmod a0 4) == 0) = true := beq_iff_eq.mpr c2
    have c2b1 : ((Int.tmod a0 4) != 0) = false := bne_eq_false_iff_eq.mpr c2
    clear c2
    by_cases c3 : (Int.tmod a0 100) = 0
    · rw [if_pos c3] at H
      have c3b0 : ((Int.tmod a0 100) == 0) = true := beq_iff_eq.mpr c3
      have c3b1 : ((Int.tmod a0 100) != 0) = false := bne_eq_false_iff_eq.mpr c3
      clear c3
      obtain rfl := Option.some.inj H
      go_enter Try.func44, Try.ntmps44
      go_wp2
      go_ret
      exact ⟨by first | rfl | (simp; done) | (simp [*]; done), by repeat (first | exact Drawn0.refl _ | apply Drawn0.step)⟩
    · rw [if_neg c3] at H
      have c3b0 : ((Int.tmod a0 100) == 0) = false := beq_eq_false_iff_ne.mpr c3
      have c3b1 : ((Int.tmod a0 100) != 0) = true := bne_iff_ne.mpr c3
      obtain rfl := Option.some.inj H
      go_enter Try.func44, Try.ntmps44
      go_wp2
      go_ret
      exact ⟨by first | rfl | (simp; done) | (simp [*]; done), by repeat (first | exact Drawn0.refl _ | apply Drawn0.step)⟩
  · rw [if_neg c2] at H
    have c2b0 : ((Int.tmod a0 4) == 0) = false := beq_eq_false_iff_ne.mpr c2
    have c2b1 : ((Int.tmod a0 4) != 0) = true := bne_iff_ne.mpr c2
    obtain rfl := Option.some.inj H
    go_enter Try.func44, Try.ntmps44
    go_wp2
    go_ret
    exact ⟨by first | rfl | (simp; done) | (simp [*]; done), by repeat (first | exact Drawn0.refl _ | apply Drawn0.step)⟩

end Go.Proofs.Ytbondhnhiinlbaa.Pr
end
section
namespace Go.Proofs.Ytbondhnhiinlbaa.Pr
open Go.RowKit Go.Proofs.YtbondhnhiinlbaaW.PrintWords Go.Proofs.YtbondhnhiinlbaaW.PrintLast Go.Proofs.YtbondhnhiinlbaaW.PrintMore
attribute [local go_sem] max2_int min2_int max_two min_two max_three min_three max_four min_four   -- for this text's walks alone
set_option linter.unusedVariables false
set_option linter.unusedSimpArgs false

/-! ### foliotref02_month: function 37 -/
def foliotref02_month.j0 : Nat → Int → Int → Bool → Option (Int)
  | 0, _, _, _ => none
  | k + 1, x0, x5, x6 => if x6 = true then (some 30) else (if x5 = 2 then ((foliotref02_leap.f x0).bind fun t182 => (if t182 = true then (some 29) else (some 28))) else (some 31))
def foliotref02_month.f (k : Nat) (a0 : Int) (a1 : Int) : Option (Int) := if a1 = 4 then (foliotref02_month.j0 k a0 a1 (a1 == 4)) else (if a1 = 6 then (foliotref02_month.j0 k a0 a1 (a1 == 6)) else (if a1 = 9 then (foliotref02_month.j0 k a0 a1 (a1 == 9)) else (foliotref02_month.j0 k a0 a1 (a1 == 11))))
theorem foliotref02_month.mono_l : ∀ k, (∀ y0 y1 y2, LeO (foliotref02_month.j0 k y0 y1 y2) (foliotref02_month.j0 (k + 1) y0 y1 y2))
  | 0 => fun _ _ _ r h => by simp [foliotref02_month.j0] at h
  | k + 1 => by
    have ih0 := foliotref02_month.mono_l k
    · intro y0 y1 y2
      unfold foliotref02_month.j0
      repeat' first
      | (with_reducible exact ih0 _ _ _)
      | (with_reducible exact LeO.refl _)
      | (with_reducible exact LeO.none _)
      | (with_reducible refine LeO.ite ?_ ?_)
      | (with_reducible refine LeO.bind ?_ (fun _ => ?_))
      | exact ih0 _ _ _
      | exact LeO.none _
      | refine LeO.ite ?_ ?_
      | refine LeO.bind ?_ (fun _ => ?_)
theorem foliotref02_month.mono : ∀ a0 a1 k, LeO (foliotref02_month.f k a0 a1) (foliotref02_month.f (k + 1) a0 a1) := by
  intro a0 a1 k
  have ih0 := foliotref02_month.mono_l k
  unfold foliotref02_month.f
  repeat' first
      | (with_reducible exact ih0 _ _ _)
      | (with_reducible exact LeO.refl _)
      | (with_reducible exact LeO.none _)
      | (with_reducible refine LeO.ite ?_ ?_)
      | (with_reducible refine LeO.bind ?_ (fun _ => ?_))
      | exact ih0 _ _ _
      | exact LeO.none _
      | refine LeO.ite ?_ ?_
      | refine LeO.bind ?_ (fun _ => ?_)
set_option maxHeartbeats 8000000 in
set_option maxRecDepth 100000 in
theorem foliotref02_month.calls (k : Nat) (a0 : Int) (a1 : Int) (r : Int) (w : World) (h : foliotref02_month.f k a0 a1 = some r) :
    Calls Try.prog 37 #[.int .i64 a0, .int .i64 a1] w fun e w' => e = .returned (.int .i64 r) ∧ Drawn0 w w' := by
  have H : (if a1 = 4 then (foliotref02_month.j0 k a0 a1 (a1 == 4)) else (if a1 = 6 then (foliotref02_month.j0 k a0 a1 (a1 == 6)) else (if a1 = 9 then (foliotref02_month.j0 k a0 a1 (a1 == 9)) else (foliotref02_month.j0 k a0 a1 (a1 == 11))))) = some r := h
  clear h
  have HC3 := Aside0.mk H
  clear H
  go_enter Try.func37, Try.ntmps37
  go_upto_if 6 with (fail)
  go_cut [6] (fun v6 wc => ∃ (kq : Nat) (x6_2 : Bool), v6 = .bool x6_2 ∧ Aside0 (foliotref02_month.j0 kq a0 a1 x6_2 = some r) ∧ Aside0 (kq ≤ k) ∧ Drawn0 w wc)
  case first =>
    have H := HC3.out
    clear HC3
    by_cases c4 : a1 = 4
    · rw [if_pos c4] at H
      have c4b0 : (a1 == 4) = true := beq_iff_eq.mpr c4
      have c4b1 : (a1 != 4) = false := bne_eq_false_iff_eq.mpr c4
      clear c4
      (first | rw [c4b0] | (simp only [i64_w, i32_w]; rw [c4b0]) | skip)
      have H' := Aside0.mk H
      clear H
      go_wp2
      go_meet
      case rel => exact ⟨_, ((a1 == 4)), (by first | rfl | (simp; done) | (simp [*]; done)), H', ⟨by first | omega | exact Nat.le_refl _⟩, by repeat (first | exact Drawn0.refl _ | apply Drawn0.step)⟩
    · rw [if_neg c4] at H
      have c4b0 : (a1 == 4) = false := beq_eq_false_iff_ne.mpr c4
      have c4b1 : (a1 != 4) = true := bne_iff_ne.mpr c4
      (first | rw [c4b0] | (simp only [i64_w, i32_w]; rw [c4b0]) | skip)
      by_cases c5 : a1 = 6
      · rw [if_pos c5] at H
        have c5b0 : (a1 == 6) = true := beq_iff_eq.mpr c5
        have c5b1 : (a1 != 6) = false := bne_eq_false_iff_eq.mpr c5
        clear c5
        have H' := Aside0.mk H
        clear H
        go_wp2
        go_meet
        case rel => exact ⟨_, ((a1 == 6)), (by first | rfl | (simp; done) | (simp [*]; done)), H', ⟨by first | omega | exact Nat.le_refl _⟩, by repeat (first | exact Drawn0.refl _ | apply Drawn0.step)⟩
      · rw [if_neg c5] at H
        have c5b0 : (a1 == 6) = false := beq_eq_false_iff_ne.mpr c5
        have c5b1 : (a1 != 6) = true := bne_iff_ne.mpr c5
        by_cases c6 : a1 = 9
        · rw [if_pos c6] at H
          have c6b0 : (a1 == 9) = true := beq_iff_eq.mpr c6
          have c6b1 : (a1 != 9) = false := bne_eq_false_iff_eq.mpr c6
          clear c6
          have H' := Aside0.mk H
          clear H
          go_wp2
          go_meet
          case rel => exact ⟨_, ((a1 == 9)), (by first | rfl | (simp; done) | (simp [*]; done)), H', ⟨by first | omega | exact Nat.le_refl _⟩, by repeat (first | exact Drawn0.refl _ | apply Drawn0.step)⟩
        · rw [if_neg c6] at H
          have c6b0 : (a1 == 9) = false := beq_eq_false_iff_ne.mpr c6
          have c6b1 : (a1 != 9) = true := bne_iff_ne.mpr c6
          have H' := Aside0.mk H
          clear H
          go_wp2
          go_meet
          case rel => exact ⟨_, ((a1 == 11)), (by first | rfl | (simp; done) | (simp [*]; done)), H', ⟨by first | omega | exact Nat.le_refl _⟩, by repeat (first | exact Drawn0.refl _ | apply Drawn0.step)⟩
  case rest =>
    clear HC3
    try clear p2
    try clear c3
    try clear c4
    try clear c4b0
    try clear c4b1
    try clear c5
    try clear c5b0
    try clear c5b1
    try clear c6
    try clear c6b0
    try clear c6b1
    obtain ⟨kq, x6_2, rfl, HA, HJ2, ⟨mc2, rfl⟩⟩ := hcut
    cases kq with
    | zero => exact absurd HA.out (by simp [foliotref02_month.j0])
    | succ kj2 =>
      have H := HA.out
      clear HA
      simp only [foliotref02_month.j0] at H
      by_cases c7 : x6_2 = true
      · subst c7
        have H1 : (some 30) = some r := by rw [if_pos rfl] at H; exact H
        clear H
        have H := H1
        clear H1
        obtain rfl := Option.some.inj H
        go_wp2
        go_ret
        exact ⟨by first | rfl | (simp; done) | (simp [*]; done), by repeat (first | exact Drawn0.refl _ | apply Drawn0.step)⟩
      · replace c7 := Bool.eq_false_iff.mpr c7
        subst c7
        have H1 : (if a1 = 2 then ((foliotref02_leap.f a0).bind fun t182 => (if t182 = true then (some 29) else (some 28))) else (some 31)) = some r := by rw [if_neg (show ¬ (false = true) by decide)] at H; exact H
        clear H
        have H := H1
        clear H1
        by_cases c8 : a1 = 2
        · rw [if_pos c8] at H
          have c8b0 : (a1 == 2) = true := beq_iff_eq.mpr c8
          have c8b1 : (a1 != 2) = false := bne_eq_false_iff_eq.mpr c8
          clear c8
          replace H := Option.bind_eq_some_iff.mp H
          obtain ⟨t182, A90, H⟩ := H
          replace H : (if t182 = true then (some 29) else (some 28)) = some r := H
          have A9 := Aside0.mk A90
          clear A90
          by_cases c10 : t182 = true
          · subst c10
            have H1 : (some 29) = some r := by rw [if_pos rfl] at H; exact H
            clear H
            have H := H1
            clear H1
            obtain rfl := Option.some.inj H
            go_wp2_with (first | ((with_reducible refine gate_callee (f := 44) rfl ?_); refine goesL_ (some 14) rfl rfl Try.func44 (by kernel_rfl) rfl #[.int .i64 a0] rfl (by (try simp only [List.map_toArray, List.map_cons, List.map_nil]); first | done | rfl | (simp only [List.length_drop, List.length_take]; rfl)) ?_; (with_reducible refine (foliotref02_leap.calls a0 true _ A9.out).mono ?_); rintro e w' ⟨rfl, ⟨nd, rfl⟩⟩; refine ⟨_, rfl, ?_⟩))
            go_ret
            exact ⟨by first | rfl | (simp; done) | (simp [*]; done), by repeat (first | exact Drawn0.refl _ | apply Drawn0.step)⟩
          · replace c10 := Bool.eq_false_iff.mpr c10
            subst c10
            have H1 : (some 28) = some r := by rw [if_neg (show ¬ (false = true) by decide)] at H; exact H
            clear H
            have H := H1
            clear H1
            obtain rfl := Option.some.inj H
            go_wp2_with (first | ((with_reducible refine gate_callee (f := 44) rfl ?_); refine goesL_ (some 14) rfl rfl Try.func44 (by kernel_rfl) rfl #[.int .i64 a0] rfl (by (try simp only [List.map_toArray, List.map_cons, List.map_nil]); first | done | rfl | (simp only [List.length_drop, List.length_take]; rfl)) ?_; (with_reducible refine (foliotref02_leap.calls a0 false _ A9.out).mono ?_); rintro e w' ⟨rfl, ⟨nd, rfl⟩⟩; refine ⟨_, rfl, ?_⟩))
            go_ret
            exact ⟨by first | rfl | (simp; done) | (simp [*]; done), by repeat (first | exact Drawn0.refl _ | apply Drawn0.step)⟩
        · rw [if_neg c8] at H
          have c8b0 : (a1 == 2) = false := beq_eq_false_iff_ne.mpr c8
          have c8b1 : (a1 != 2) = true := bne_iff_ne.mpr c8
          obtain rfl := Option.some.inj H
          go_wp2
          go_ret
          exact ⟨by first | rfl | (simp; done) | (simp [*]; done), by repeat (first | exact Drawn0.refl _ | apply Drawn0.step)⟩

end Go.Proofs.Ytbondhnhiinlbaa.Pr
end
section
set_option linter.unusedVariables false
namespace Go.Proofs.Ytbondhnhiinlbaa.Pr
open Go.RowKit Go.Proofs.YtbondhnhiinlbaaW.PrintWords Go.Proofs.YtbondhnhiinlbaaW.PrintLast Go.Proofs.YtbondhnhiinlbaaW.PrintMore

def fixed_sum.f (a0 a1 : Int) : Option (Int × Int × Bool) :=
  if (-9223372036854775808 ≤ a0 ∧ a0 ≤ 9223372036854775807) ∧ (-9223372036854775808 ≤ a1 ∧ a1 ≤ 9223372036854775807) then
    (if a0 + a1 < 0 then some ((-(a0 + a1)) / 18446744073709551616, (-(a0 + a1)) % 18446744073709551616, true) else some (0, a0 + a1, false))
  else none

def yr : Nat → Int → Int → Option Int
  | 0, _, _ => none
  | k + 1, day, y => (stamp_begins.f (wrap64 (y + 1))).bind fun b => if day ≥ b then yr k day (wrap64 (y + 1)) else some y
/-- how many days the months have, the leap day being t -/
def mtab (t : Int) : List Int := [31, wrap64 (28 + t), 31, 30, 31, 30, 31, 31, 30, 31, 30, 31]
def mo : List Int → Nat → Int → Int → Int × Int
  | [], _, m, d => (m, d)
  | n :: l, i, m, d => if d ≤ n then (((i + 1 : Nat) : Int), d) else mo l (i + 1) ((i + 1 : Nat) : Int) (wrap64 (d - n))
def secsOf (e a : Int) : Int := wrap64 (wrap64 (wrap64 (e * 4294967296) + wrap64 (a / 4294967296)) + 59926608000)
def civil (s a y b t : Int) : Int × Int × Int × Int × Int × Int × Int × Int :=
  (y, (mo (mtab t) 0 0 (wrap64 (wrap64 (wrap64 (Int.tdiv s 86400) - b) + 1))).1, (mo (mtab t) 0 0 (wrap64 (wrap64 (wrap64 (Int.tdiv s 86400) - b) + 1))).2, Int.tmod (wrap64 (Int.tdiv s 3600)) 24, Int.tmod (wrap64 (Int.tdiv s 60)) 60, Int.tmod s 60, a % 4294967296, 0)
def ofSecs (s a : Int) : Option (Int × Int × Int × Int × Int × Int × Int × Int) :=
  if s < 0 then some (0, 0, 0, 0, 0, 0, 0, 20) else (stamp_begins.f 2101).bind fun b => if wrap64 (Int.tdiv s 86400) ≥ b then some (0, 0, 0, 0, 0, 0, 0, 20) else
    (yr 3000 (wrap64 (Int.tdiv s 86400)) (wrap64 (wrap64 (Int.tdiv (wrap64 (Int.tdiv s 86400)) 366) + 1))).bind fun y => (stamp_begins.f y).bind fun b => (stamp_leap.f y).bind fun t => some (civil s a y b t)
def stamp_OfDate.f (a0_0 : Int) (a0_1 : Int) : Option (Int × Int × Int × Int × Int × Int × Int × Int) :=
  if a0_0 < -16 ∨ a0_0 > 2 then some (0, 0, 0, 0, 0, 0, 0, 20) else ofSecs (secsOf a0_0 a0_1) a0_1

def badDay (y m d h mi s : Int) : Bool := decide (y < 1) || decide (y > 2100) || decide (m < 1) || decide (m > 12) || decide (d < 1) || decide (h < 0) || decide (h > 23) || decide (mi < 0) || decide (mi > 59) || decide (s < 0) || decide (s > 59)
def sumDays (l : List Int) (day : Int) : Int := l.foldl (fun d n => wrap64 (d + n)) day
def toSecs (day h mi s : Int) : Int := wrap64 (wrap64 (wrap64 (wrap64 (day * 86400) + wrap64 (h * 3600)) + wrap64 (mi * 60)) + s)
def stamp_ToDate.f (a0_0 a0_1 a0_2 a0_3 a0_4 a0_5 a0_6 : Int) : Option (Int × Int × Int) :=
  if badDay a0_0 a0_1 a0_2 a0_3 a0_4 a0_5 = true then some (0, 0, 20) else
    (stamp_leap.f a0_0).bind fun t => if a0_2 > (mtab t).getD (a0_1 - 1).toNat 0 then some (0, 0, 20) else (stamp_begins.f a0_0).bind fun b =>
      if 0 ≤ a0_6 ∧ a0_6 < 4294967296 then
        some (toSecs (sumDays ((mtab t).take (a0_1 - 1).toNat) (wrap64 (wrap64 (wrap64 (b + a0_2) - 1) - 693595))) a0_3 a0_4 a0_5 / 4294967296,
          toSecs (sumDays ((mtab t).take (a0_1 - 1).toNat) (wrap64 (wrap64 (wrap64 (b + a0_2) - 1) - 693595))) a0_3 a0_4 a0_5 % 4294967296 * 4294967296 + a0_6, 0)
      else none

/-- so many digits from a place on -/
def digs (s : ByteArray) : Nat → Nat → Int → Option Int
  | 0, _, n => some n
  | k + 1, i, n => if h : i < s.size then (if 48 ≤ s[i].toNat ∧ s[i].toNat ≤ 57 then digs s k (i + 1) (n * 10 + ((s[i].toNat : Int) - 48)) else none) else none
def number (s : ByteArray) (many sign : Nat) : Option (Int × ByteArray) :=
  (digs s many 0 0).bind fun n => if sign = 0 then (if s.size = many then some (n, ⟨#[]⟩) else none) else (if h : many < s.size then (if s[many].toNat = sign then some (n, s.extract (many + 1) s.size) else none) else none)
def fields : List (Nat × Nat) → ByteArray → Option (List Int)
  | [], _ => some []
  | (m, g) :: l, s => (number s m g).bind fun p => (fields l p.2).bind fun r => some (p.1 :: r)
def form7 : List (Nat × Nat) := [(4, 45), (2, 45), (2, 32), (2, 58), (2, 58), (2, 46), (6, 0)]
def stamp_Parse.f (s : ByteArray) : Option (Int × Int × Int) :=
  match fields form7 s with
  | none => some (0, 0, 21)
  | some l => stamp_ToDate.f (l.getD 0 0) (l.getD 1 0) (l.getD 2 0) (l.getD 3 0) (l.getD 4 0) (l.getD 5 0) ((l.getD 6 0 * 4294967296 + 999999) / 1000000 % 4294967296)

def refSum : Nat → Nat → Int → Int → Int → Option Int
  | 0, _, _, _, n => some n
  | d + 1, k, y, m, n => (foliotref02_month.f k y m).bind fun t => refSum d k y (wrap64 (m + 1)) (wrap64 (n + t))
/-- within years that matter: the reference's own way to a date -/
def foliotref02_ToDate.f (a0_0 a0_1 a0_2 a0_3 a0_4 a0_5 a0_6 : Int) : Option (Int × Int × Int) := stamp_ToDate.f a0_0 a0_1 a0_2 a0_3 a0_4 a0_5 a0_6

end Go.Proofs.Ytbondhnhiinlbaa.Pr
end
section
namespace Go.Proofs.Ytbondhnhiinlbaa.Pr
open Go.RowKit Go.Proofs.YtbondhnhiinlbaaW.PrintWords Go.Proofs.YtbondhnhiinlbaaW.PrintLast Go.Proofs.YtbondhnhiinlbaaW.PrintMore
attribute [local go_sem] max2_int min2_int max_two min_two max_three min_three max_four min_four   -- for this text's walks alone
set_option linter.unusedVariables false
set_option linter.unusedSimpArgs false

/-! ### fixed_whole_cut: function 49 -/
def fixed_whole_cut.j0 : Nat → Int → Bool → Int → Int → Bool → Option (Int)
  | 0, _, _, _, _, _ => none
  | k + 1, x5, x16, x155000, x155001, x155002 => if x16 = true then (if x155002 = true then (some (wrap64 (-(wrap64 (x155001))))) else (some (wrap64 (x155001)))) else (if x155002 = true then (some (wrap64 (-x5))) else (some x5))
def fixed_whole_cut.f (k : Nat) (a0_0 : Int) (a0_1 : Int) (a0_2 : Bool) (a1 : Int) : Option (Int) := if a0_0 = 0 then (fixed_whole_cut.j0 k a1 (decide (a0_1 < (IntKind.u64.wrap (a1)))) a0_0 a0_1 a0_2) else (fixed_whole_cut.j0 k a1 false a0_0 a0_1 a0_2)
theorem fixed_whole_cut.mono_l : ∀ k, (∀ y0 y1 y2 y3 y4, LeO (fixed_whole_cut.j0 k y0 y1 y2 y3 y4) (fixed_whole_cut.j0 (k + 1) y0 y1 y2 y3 y4))
  | 0 => fun _ _ _ _ _ r h => by simp [fixed_whole_cut.j0] at h
  | k + 1 => by
    have ih0 := fixed_whole_cut.mono_l k
    · intro y0 y1 y2 y3 y4
      unfold fixed_whole_cut.j0
      repeat' first
      | (with_reducible exact ih0 _ _ _ _ _)
      | (with_reducible exact LeO.refl _)
      | (with_reducible exact LeO.none _)
      | (with_reducible refine LeO.ite ?_ ?_)
      | (with_reducible refine LeO.bind ?_ (fun _ => ?_))
      | exact ih0 _ _ _ _ _
      | exact LeO.none _
      | refine LeO.ite ?_ ?_
      | refine LeO.bind ?_ (fun _ => ?_)
theorem fixed_whole_cut.mono : ∀ a0 a1 a2 a3 k, LeO (fixed_whole_cut.f k a0 a1 a2 a3) (fixed_whole_cut.f (k + 1) a0 a1 a2 a3) := by
  intro a0 a1 a2 a3 k
  have ih0 := fixed_whole_cut.mono_l k
  unfold fixed_whole_cut.f
  repeat' first
      | (with_reducible exact ih0 _ _ _ _ _)
      | (with_reducible exact LeO.refl _)
      | (with_reducible exact LeO.none _)
      | (with_reducible refine LeO.ite ?_ ?_)
      | (with_reducible refine LeO.bind ?_ (fun _ => ?_))
      | exact ih0 _ _ _ _ _
      | exact LeO.none _
      | refine LeO.ite ?_ ?_
      | refine LeO.bind ?_ (fun _ => ?_)
set_option maxHeartbeats 8000000 in
set_option maxRecDepth 100000 in
theorem fixed_whole_cut.calls (k : Nat) (a0_0 : Int) (a0_1 : Int) (a0_2 : Bool) (a1 : Int) (r : Int) (w : World) (h : fixed_whole_cut.f k a0_0 a0_1 a0_2 a1 = some r) :
    Calls Try.prog 49 #[.agg #[.int .u64 a0_0, .int .u64 a0_1, .bool a0_2], .int .i64 a1] w fun e w' => e = .returned (.int .i64 r) ∧ Below w.heap.size w w' := by
  have hu78 := Try.underlying78
  have HB := Aside0.mk (Below.refl w.heap.size w)
  have H : (if a0_0 = 0 then (fixed_whole_cut.j0 k a1 (decide (a0_1 < (IntKind.u64.wrap (a1)))) a0_0 a0_1 a0_2) else (fixed_whole_cut.j0 k a1 false a0_0 a0_1 a0_2)) = some r := h
  clear h
  have HC3 := Aside0.mk H
  clear H
  go_enter Try.func49, Try.ntmps49
  go_upto_region 2 with (first | ((with_reducible refine gate_dst (N := 2) rfl ?_); refine box_event ?hg (N := 2) ?hd (cs := #[.int .u64 a0_0, .int .u64 a0_1, .bool a0_2]) (t := 78) ?hr ?_; (case hd => rfl); (case hg => rfl); (case hr => first | (go_simp; done) | (go_simp; rfl)); intro gb154 hg w4 hbox hb; have n0_ := Aside0.mk (below_step (by repeat (first | (with_reducible first | exact HB.out | apply below_alloc | apply pw_below_drewN | apply below_drew1) | exact HB.out)) hb); have n1_ := Aside0.mk (hbox); have n2_ := Aside0.mk ((by rw [hg]; exact (below_size (by repeat (first | (with_reducible first | exact HB.out | apply below_alloc | apply pw_below_drewN | apply below_drew1) | exact HB.out))) : w.heap.size ≤ gb154)); have n3_ := Aside0.mk ((by rw [hg]; exact (below_size (by repeat (first | (with_reducible first | exact HB.out | apply below_alloc | apply pw_below_drewN | apply below_drew1) | exact HB.out))) : w.heap.size ≤ gb154)); clear HB; have HB := n0_; have BK154 := n1_; have GW154 := n2_; have GE154 := n3_; clear n0_ n1_ n2_ n3_; clear hb hbox hg))
  (try simp only [Act.put, List.setIfInBounds_toArray, List.set_cons_zero, List.set_cons_succ])
  go_cut [16] (fun v16 wc => ∃ (kq : Nat) (x16_2 : Bool), v16 = .bool x16_2 ∧ Aside0 (fixed_whole_cut.j0 kq a1 x16_2 a0_0 a0_1 a0_2 = some r) ∧ Aside0 (kq ≤ k) ∧ Aside0 (wc.heap[gb154]? = some (.cells #[.int .u64 a0_0, .int .u64 a0_1, .bool a0_2] 78 (0, 0))) ∧ Aside0 (Below w.heap.size w wc))
  case first =>
    have H := HC3.out
    clear HC3
    by_cases c5 : a0_0 = 0
    · rw [if_pos c5] at H
      have c5b0 : (a0_0 == 0) = true := beq_iff_eq.mpr c5
      have c5b1 : (a0_0 != 0) = false := bne_eq_false_iff_eq.mpr c5
      clear c5
      (first | rw [c5b0] | (simp only [i64_w, i32_w]; rw [c5b0]) | skip)
      have H' := Aside0.mk H
      clear H
      have hcz6_0 : w4.cell? ⟨gb154, 0, none⟩ = some (.int .u64 a0_0) := (blk_cell BK154.out 0).trans rfl
      have hcz6_1 : w4.cell? ⟨gb154, 1, none⟩ = some (.int .u64 a0_1) := (blk_cell BK154.out 1).trans rfl
      have hcz6_2 : w4.cell? ⟨gb154, 2, none⟩ = some (.bool a0_2) := (blk_cell BK154.out 2).trans rfl
      have hfz6_0 := blk_frozen BK154.out 0
      have hfz6_1 := blk_frozen BK154.out 1
      have hfz6_2 := blk_frozen BK154.out 2
      go_wp2
      go_meet
      case rel => exact ⟨_, (decide (a0_1 < (IntKind.u64.wrap (a1)))), (by first | rfl | (simp; done) | (simp [*]; done)), H', ⟨by first | omega | exact Nat.le_refl _⟩, ⟨by (with_reducible repeat (first | refine blk_drewN ?_ _ | refine blk_drew ?_ | refine blk_alloc ?_ _)); exact BK154.out⟩, ⟨by repeat (first | (with_reducible first | exact HB.out | apply below_alloc | apply pw_below_drewN | apply below_drew1 | refine below_set ?_ GE154.out) | exact HB.out)⟩⟩
    · rw [if_neg c5] at H
      have c5b0 : (a0_0 == 0) = false := beq_eq_false_iff_ne.mpr c5
      have c5b1 : (a0_0 != 0) = true := bne_iff_ne.mpr c5
      (first | rw [c5b0] | (simp only [i64_w, i32_w]; rw [c5b0]) | skip)
      have H' := Aside0.mk H
      clear H
      have hcz7_0 : w4.cell? ⟨gb154, 0, none⟩ = some (.int .u64 a0_0) := (blk_cell BK154.out 0).trans rfl
      have hcz7_1 : w4.cell? ⟨gb154, 1, none⟩ = some (.int .u64 a0_1) := (blk_cell BK154.out 1).trans rfl
      have hcz7_2 : w4.cell? ⟨gb154, 2, none⟩ = some (.bool a0_2) := (blk_cell BK154.out 2).trans rfl
      have hfz7_0 := blk_frozen BK154.out 0
      have hfz7_1 := blk_frozen BK154.out 1
      have hfz7_2 := blk_frozen BK154.out 2
      go_wp2
      go_meet
      case rel => exact ⟨_, (false), (by first | rfl | (simp; done) | (simp [*]; done)), H', ⟨by first | omega | exact Nat.le_refl _⟩, ⟨by (with_reducible repeat (first | refine blk_drewN ?_ _ | refine blk_drew ?_ | refine blk_alloc ?_ _)); exact BK154.out⟩, ⟨by repeat (first | (with_reducible first | exact HB.out | apply below_alloc | apply pw_below_drewN | apply below_drew1 | refine below_set ?_ GE154.out) | exact HB.out)⟩⟩
  case rest =>
    clear HC3
    try clear p2
    try clear c4
    try clear c5
    try clear c5b0
    try clear c5b1
    try clear hcz6_0
    try clear hcz6_1
    try clear hcz6_2
    try clear hcz7_0
    try clear hcz7_1
    try clear hcz7_2
    try clear hfz6_0
    try clear hfz6_1
    try clear hfz6_2
    try clear hfz7_0
    try clear hfz7_1
    try clear hfz7_2
    obtain ⟨kq, x16_2, rfl, HA, HJ2, BK154, HB⟩ := hcut
    cases kq with
    | zero => exact absurd HA.out (by simp [fixed_whole_cut.j0])
    | succ kj2 =>
      have H := HA.out
      clear HA
      simp only [fixed_whole_cut.j0] at H
      by_cases c8 : x16_2 = true
      · subst c8
        have H1 : (if a0_2 = true then (some (wrap64 (-(wrap64 (a0_1))))) else (some (wrap64 (a0_1)))) = some r := by rw [if_pos rfl] at H; exact H
        clear H
        have H := H1
        clear H1
        by_cases c9 : a0_2 = true
        · subst c9
          have H1 : (some (wrap64 (-(wrap64 (a0_1))))) = some r := by rw [if_pos rfl] at H; exact H
          clear H
          have H := H1
          clear H1
          obtain rfl := Option.some.inj H
          have hcz10_0 : wc.cell? ⟨gb154, 0, none⟩ = some (.int .u64 a0_0) := (blk_cell BK154.out 0).trans rfl
          have hcz10_1 : wc.cell? ⟨gb154, 1, none⟩ = some (.int .u64 a0_1) := (blk_cell BK154.out 1).trans rfl
          have hcz10_2 : wc.cell? ⟨gb154, 2, none⟩ = some (.bool true) := (blk_cell BK154.out 2).trans rfl
          have hfz10_0 := blk_frozen BK154.out 0
          have hfz10_1 := blk_frozen BK154.out 1
          have hfz10_2 := blk_frozen BK154.out 2
          go_wp2
          go_ret
          exact ⟨by first | rfl | (simp [errW_none, errW_some] <;> rfl) | (simp [*, errW_none, errW_some] <;> rfl), by repeat (first | (with_reducible first | exact HB.out | apply below_alloc | apply pw_below_drewN | apply below_drew1 | refine below_set ?_ GE154.out) | exact HB.out)⟩
        · replace c9 := Bool.eq_false_iff.mpr c9
          subst c9
          have H1 : (some (wrap64 (a0_1))) = some r := by rw [if_neg (show ¬ (false = true) by decide)] at H; exact H
          clear H
          have H := H1
          clear H1
          obtain rfl := Option.some.inj H
          have hcz11_0 : wc.cell? ⟨gb154, 0, none⟩ = some (.int .u64 a0_0) := (blk_cell BK154.out 0).trans rfl
          have hcz11_1 : wc.cell? ⟨gb154, 1, none⟩ = some (.int .u64 a0_1) := (blk_cell BK154.out 1).trans rfl
          have hcz11_2 : wc.cell? ⟨gb154, 2, none⟩ = some (.bool false) := (blk_cell BK154.out 2).trans rfl
          have hfz11_0 := blk_frozen BK154.out 0
          have hfz11_1 := blk_frozen BK154.out 1
          have hfz11_2 := blk_frozen BK154.out 2
          go_wp2
          go_ret
          exact ⟨by first | rfl | (simp [errW_none, errW_some] <;> rfl) | (simp [*, errW_none, errW_some] <;> rfl), by repeat (first | (with_reducible first | exact HB.out | apply below_alloc | apply pw_below_drewN | apply below_drew1 | refine below_set ?_ GE154.out) | exact HB.out)⟩
      · replace c8 := Bool.eq_false_iff.mpr c8
        subst c8
        have H1 : (if a0_2 = true then (some (wrap64 (-a1))) else (some a1)) = some r := by rw [if_neg (show ¬ (false = true) by decide)] at H; exact H
        clear H
        have H := H1
        clear H1
        by_cases c12 : a0_2 = true
        · subst c12
          have H1 : (some (wrap64 (-a1))) = some r := by rw [if_pos rfl] at H; exact H
          clear H
          have H := H1
          clear H1
          obtain rfl := Option.some.inj H
          have hcz13_0 : wc.cell? ⟨gb154, 0, none⟩ = some (.int .u64 a0_0) := (blk_cell BK154.out 0).trans rfl
          have hcz13_1 : wc.cell? ⟨gb154, 1, none⟩ = some (.int .u64 a0_1) := (blk_cell BK154.out 1).trans rfl
          have hcz13_2 : wc.cell? ⟨gb154, 2, none⟩ = some (.bool true) := (blk_cell BK154.out 2).trans rfl
          have hfz13_0 := blk_frozen BK154.out 0
          have hfz13_1 := blk_frozen BK154.out 1
          have hfz13_2 := blk_frozen BK154.out 2
          go_wp2
          go_ret
          exact ⟨by first | rfl | (simp [errW_none, errW_some] <;> rfl) | (simp [*, errW_none, errW_some] <;> rfl), by repeat (first | (with_reducible first | exact HB.out | apply below_alloc | apply pw_below_drewN | apply below_drew1 | refine below_set ?_ GE154.out) | exact HB.out)⟩
        · replace c12 := Bool.eq_false_iff.mpr c12
          subst c12
          have H1 : (some a1) = some r := by rw [if_neg (show ¬ (false = true) by decide)] at H; exact H
          clear H
          have H := H1
          clear H1
          obtain rfl := Option.some.inj H
          have hcz14_0 : wc.cell? ⟨gb154, 0, none⟩ = some (.int .u64 a0_0) := (blk_cell BK154.out 0).trans rfl
          have hcz14_1 : wc.cell? ⟨gb154, 1, none⟩ = some (.int .u64 a0_1) := (blk_cell BK154.out 1).trans rfl
          have hcz14_2 : wc.cell? ⟨gb154, 2, none⟩ = some (.bool false) := (blk_cell BK154.out 2).trans rfl
          have hfz14_0 := blk_frozen BK154.out 0
          have hfz14_1 := blk_frozen BK154.out 1
          have hfz14_2 := blk_frozen BK154.out 2
          go_wp2
          go_ret
          exact ⟨by first | rfl | (simp [errW_none, errW_some] <;> rfl) | (simp [*, errW_none, errW_some] <;> rfl), by repeat (first | (with_reducible first | exact HB.out | apply below_alloc | apply pw_below_drewN | apply below_drew1 | refine below_set ?_ GE154.out) | exact HB.out)⟩

end Go.Proofs.Ytbondhnhiinlbaa.Pr
end
section
namespace Go.Proofs.Ytbondhnhiinlbaa.Pr
open Go.RowKit Go.Proofs.YtbondhnhiinlbaaW.PrintWords Go.Proofs.YtbondhnhiinlbaaW.PrintLast Go.Proofs.YtbondhnhiinlbaaW.PrintMore
attribute [local go_sem] max2_int min2_int max_two min_two max_three min_three max_four min_four   -- for this text's walks alone
set_option linter.unusedVariables false
set_option linter.unusedSimpArgs false

/-! ### fixed_whole_span: function 47 -/
def fixed_whole_span.f (k : Nat) (a0_0 : Int) (a0_1 : Int) (a0_2 : Bool) : Option (Int) := (fixed_whole_cut.f k a0_0 a0_1 a0_2 4611686018427387904).bind fun t156 => (some t156)
theorem fixed_whole_span.mono : ∀ a0 a1 a2 k, LeO (fixed_whole_span.f k a0 a1 a2) (fixed_whole_span.f (k + 1) a0 a1 a2) := by
  intro a0 a1 a2 k
  unfold fixed_whole_span.f
  repeat' first
      | (with_reducible exact fixed_whole_cut.mono _ _ _ _ _)
      | (with_reducible exact LeO.refl _)
      | (with_reducible exact LeO.none _)
      | (with_reducible refine LeO.ite ?_ ?_)
      | (with_reducible refine LeO.bind ?_ (fun _ => ?_))
      | exact fixed_whole_cut.mono _ _ _ _ _
      | exact LeO.none _
      | refine LeO.ite ?_ ?_
      | refine LeO.bind ?_ (fun _ => ?_)
set_option maxHeartbeats 8000000 in
set_option maxRecDepth 100000 in
theorem fixed_whole_span.calls (k : Nat) (a0_0 : Int) (a0_1 : Int) (a0_2 : Bool) (r : Int) (w : World) (h : fixed_whole_span.f k a0_0 a0_1 a0_2 = some r) :
    Calls Try.prog 47 #[.agg #[.int .u64 a0_0, .int .u64 a0_1, .bool a0_2]] w fun e w' => e = .returned (.int .i64 r) ∧ Below w.heap.size w w' := by
  have hu78 := Try.underlying78
  have HB := Aside0.mk (Below.refl w.heap.size w)
  have H : ((fixed_whole_cut.f k a0_0 a0_1 a0_2 4611686018427387904).bind fun t156 => (some t156)) = some r := h
  clear h
  replace H := Option.bind_eq_some_iff.mp H
  obtain ⟨t156, A20, H⟩ := H
  replace H : (some t156) = some r := H
  have A2 := Aside0.mk A20
  clear A20
  obtain rfl := Option.some.inj H
  go_enter Try.func47, Try.ntmps47
  go_wp2_with (first | ((with_reducible refine gate_dst (N := 1) rfl ?_); refine box_event ?hg (N := 1) ?hd (cs := #[.int .u64 a0_0, .int .u64 a0_1, .bool a0_2]) (t := 78) ?hr ?_; (case hd => rfl); (case hg => rfl); (case hr => first | (go_simp; done) | (go_simp; rfl)); intro gb155 hg w3 hbox hb; have n0_ := Aside0.mk (below_step (by repeat (first | (with_reducible first | exact HB.out | apply below_alloc | apply pw_below_drewN | apply below_drew1) | exact HB.out)) hb); have n1_ := Aside0.mk (hbox); have n2_ := Aside0.mk ((by rw [hg]; exact (below_size (by repeat (first | (with_reducible first | exact HB.out | apply below_alloc | apply pw_below_drewN | apply below_drew1) | exact HB.out))) : w.heap.size ≤ gb155)); have n3_ := Aside0.mk ((by rw [hg]; exact (below_size (by repeat (first | (with_reducible first | exact HB.out | apply below_alloc | apply pw_below_drewN | apply below_drew1) | exact HB.out))) : w.heap.size ≤ gb155)); clear HB; have HB := n0_; have BK155 := n1_; have GW155 := n2_; have GE155 := n3_; clear n0_ n1_ n2_ n3_; clear hb hbox hg; have hcz4_0 : w3.cell? ⟨gb155, 0, none⟩ = some (.int .u64 a0_0) := (blk_cell BK155.out 0).trans rfl; have hcz4_1 : w3.cell? ⟨gb155, 1, none⟩ = some (.int .u64 a0_1) := (blk_cell BK155.out 1).trans rfl; have hcz4_2 : w3.cell? ⟨gb155, 2, none⟩ = some (.bool a0_2) := (blk_cell BK155.out 2).trans rfl; have hfz4_0 := blk_frozen BK155.out 0; have hfz4_1 := blk_frozen BK155.out 1; have hfz4_2 := blk_frozen BK155.out 2) | ((with_reducible refine gate_callee (f := 49) rfl ?_); refine goesL_ (some 4) rfl rfl Try.func49 (by kernel_rfl) rfl #[.agg #[.int .u64 a0_0, .int .u64 a0_1, .bool a0_2], .int .i64 4611686018427387904] rfl (by (try simp only [List.map_toArray, List.map_cons, List.map_nil]); first | done | rfl | (simp only [List.length_drop, List.length_take]; rfl)) ?_; (with_reducible refine (fixed_whole_cut.calls k a0_0 a0_1 a0_2 4611686018427387904 t156 _ A2.out).mono ?_); rintro e w5 ⟨rfl, hb⟩; refine ⟨_, rfl, ?_⟩; have n0_ := Aside0.mk (blk_below (g := gb155) (o := .cells #[.int .u64 a0_0, .int .u64 a0_1, .bool a0_2] 78 (0, 0)) (by (with_reducible repeat (first | refine blk_drewN ?_ _ | refine blk_drew ?_ | refine blk_alloc ?_ _)); exact BK155.out) hb); have n1_ := Aside0.mk (below_step (by repeat (first | (with_reducible first | exact HB.out | apply below_alloc | apply pw_below_drewN | apply below_drew1 | refine below_set ?_ GE155.out) | exact HB.out)) hb); clear BK155; clear HB; have BK155 := n0_; have HB := n1_; clear n0_ n1_; (try clear hb); (try clear hb2); (try clear hk); (try clear hi)))
  go_ret
  exact ⟨by first | rfl | (simp [errW_none, errW_some] <;> rfl) | (simp [*, errW_none, errW_some] <;> rfl), by repeat (first | (with_reducible first | exact HB.out | apply below_alloc | apply pw_below_drewN | apply below_drew1 | refine below_set ?_ GE155.out) | exact HB.out)⟩

end Go.Proofs.Ytbondhnhiinlbaa.Pr
end
section
namespace Go.Proofs.Ytbondhnhiinlbaa.Pr
open Go.RowKit Go.Proofs.YtbondhnhiinlbaaW.PrintWords Go.Proofs.YtbondhnhiinlbaaW.PrintLast Go.Proofs.YtbondhnhiinlbaaW.PrintMore
attribute [local go_sem] max2_int min2_int max_two min_two max_three min_three max_four min_four   -- for this text's walks alone
set_option linter.unusedVariables false
set_option linter.unusedSimpArgs false

/-! ### stamp_ToShort: function 27 -/
def stamp_ToShort.f (a0 : Int) : Option (Int) := if a0 ≤ 0 then (some 0) else (if a0 > 281474976645120 then (some 4294967295) else (some (((wrap64 ((wrap64 (a0 + 65536)) - 1)) / 65536) % 4294967296)))
set_option maxHeartbeats 8000000 in
set_option maxRecDepth 100000 in
theorem stamp_ToShort.calls (a0 : Int) (r : Int) (w : World) (h : stamp_ToShort.f a0 = some r) :
    Calls Try.prog 27 #[.int .i64 a0] w fun e w' => e = .returned (.int .u32 r) ∧ Drawn0 w w' := by
  have H : (if a0 ≤ 0 then (some 0) else (if a0 > 281474976645120 then (some 4294967295) else (some (((wrap64 ((wrap64 (a0 + 65536)) - 1)) / 65536) % 4294967296)))) = some r := h
  clear h
  by_cases c2 : a0 ≤ 0
  · rw [if_pos c2] at H
    have c2b0 : decide (a0 ≤ 0) = true := decide_eq_true c2
    clear c2
    obtain rfl := Option.some.inj H
    go_enter Try.func27, Try.ntmps27
    go_wp2
    go_ret
    exact ⟨by first | rfl | (simp; done) | (simp [*]; done), by repeat (first | exact Drawn0.refl _ | apply Drawn0.step)⟩
  · rw [if_neg c2] at H
    have c2b0 : decide (a0 ≤ 0) = false := decide_eq_false c2
    clear c2
    by_cases c3 : a0 > 281474976645120
    · rw [if_pos c3] at H
      have c3b0 : decide (281474976645120 < a0) = true := decide_eq_true c3
      clear c3
      obtain rfl := Option.some.inj H
      go_enter Try.func27, Try.ntmps27
      go_wp2
      go_ret
      exact ⟨by first | rfl | (simp; done) | (simp [*]; done), by repeat (first | exact Drawn0.refl _ | apply Drawn0.step)⟩
    · rw [if_neg c3] at H
      have c3b0 : decide (281474976645120 < a0) = false := decide_eq_false c3
      clear c3
      obtain rfl := Option.some.inj H
      go_enter Try.func27, Try.ntmps27
      go_wp2
      go_ret
      exact ⟨by first | rfl | (simp; done) | (simp [*]; done), by repeat (first | exact Drawn0.refl _ | apply Drawn0.step)⟩

end Go.Proofs.Ytbondhnhiinlbaa.Pr
end
section
namespace Go.Proofs.Ytbondhnhiinlbaa.Pr
open Go.RowKit Go.Proofs.YtbondhnhiinlbaaW.PrintWords Go.Proofs.YtbondhnhiinlbaaW.PrintLast Go.Proofs.YtbondhnhiinlbaaW.PrintMore
attribute [local go_sem] max2_int min2_int max_two min_two max_three min_three max_four min_four   -- for this text's walks alone
set_option linter.unusedVariables false
set_option linter.unusedSimpArgs false

/-! ### foliotref02_Cut: function 42 -/
def foliotref02_Cut.f (a0 : Int) : Option (Int) := some (mx (-4611686018427387904) (mn a0 4611686018427387904))
set_option maxHeartbeats 8000000 in
set_option maxRecDepth 100000 in
theorem foliotref02_Cut.calls (a0 : Int) (r : Int) (w : World) (h : foliotref02_Cut.f a0 = some r) :
    Calls Try.prog 42 #[.int .i64 a0] w fun e w' => e = .returned (.int .i64 r) ∧ Below w.heap.size w w' := by
  have HB := Aside0.mk (Below.refl w.heap.size w)
  have H : (some (mx (-4611686018427387904) (mn a0 4611686018427387904))) = some r := h
  clear h
  obtain ⟨ji2, hji2⟩ : ∃ j_ : Int, (mn a0 4611686018427387904) = j_ := ⟨_, rfl⟩
  replace H : (some (mx (-4611686018427387904) (ji2))) = some r := by first | (rw [hji2] at H; exact H) | (simp only [hji2] at H ⊢; exact H)
  (try (have hji2h : ji2 ≤ 4611686018427387904 := by (rw [← hji2]; unfold mn; (repeat' split) <;> omega)))
  (try (have hji2g : ji2 ≤ 64 := by omega))
  have hji2_ : (if 4611686018427387904 < a0 then 4611686018427387904 else a0) = ji2 := hji2
  obtain ⟨ji3, hji3⟩ : ∃ j_ : Int, (mx (-4611686018427387904) (ji2)) = j_ := ⟨_, rfl⟩
  replace H : (some ji3) = some r := by first | (rw [hji3] at H; exact H) | (simp only [hji3] at H ⊢; exact H)
  have hji3_ : (if (-4611686018427387904) < (ji2) then (ji2) else (-4611686018427387904)) = ji3 := hji3
  obtain rfl := Option.some.inj H
  go_enter Try.func42, Try.ntmps42
  go_wp2
  go_ret
  exact ⟨by first | rfl | (simp [errW_none, errW_some] <;> rfl) | (simp only [← hji2, ← hji3]; first | rfl | (simp [errW_none, errW_some] <;> rfl)) | (simp [*, errW_none, errW_some] <;> rfl), by repeat (first | (with_reducible first | exact HB.out | apply below_alloc | apply pw_below_drewN | apply below_drew1) | exact HB.out)⟩

end Go.Proofs.Ytbondhnhiinlbaa.Pr
end
section
namespace Go.Proofs.Ytbondhnhiinlbaa.Pr
open Go.RowKit Go.Proofs.YtbondhnhiinlbaaW.PrintWords Go.Proofs.YtbondhnhiinlbaaW.PrintLast Go.Proofs.YtbondhnhiinlbaaW.PrintMore
attribute [local go_sem] max2_int min2_int max_two min_two max_three min_three max_four min_four   -- for this text's walks alone
set_option linter.unusedVariables false
set_option linter.unusedSimpArgs false

/-! ### foliotref02_Since: function 24 -/
def foliotref02_Since.f (a0 : Int) (a1 : Int) : Option (Int) := (foliotref02_Cut.f (wrap64 (IntKind.u64.wrap (a0 - a1)))).bind fun t345 => (some t345)
set_option maxHeartbeats 8000000 in
set_option maxRecDepth 100000 in
theorem foliotref02_Since.calls (a0 : Int) (a1 : Int) (r : Int) (w : World) (h : foliotref02_Since.f a0 a1 = some r) :
    Calls Try.prog 24 #[.int .u64 a0, .int .u64 a1] w fun e w' => e = .returned (.int .i64 r) ∧ Below w.heap.size w w' := by
  have HB := Aside0.mk (Below.refl w.heap.size w)
  have H : ((foliotref02_Cut.f (wrap64 (IntKind.u64.wrap (a0 - a1)))).bind fun t345 => (some t345)) = some r := h
  clear h
  replace H := Option.bind_eq_some_iff.mp H
  obtain ⟨t345, A30, H⟩ := H
  replace H : (some t345) = some r := H
  have A3 := Aside0.mk A30
  clear A30
  obtain rfl := Option.some.inj H
  go_enter Try.func24, Try.ntmps24
  go_wp2_with (first | ((with_reducible refine gate_callee (f := 42) rfl ?_); refine goesL_ (some 9) rfl rfl Try.func42 (by kernel_rfl) rfl #[.int .i64 (wrap64 (IntKind.u64.wrap (a0 - a1)))] rfl (by (try simp only [List.map_toArray, List.map_cons, List.map_nil]); first | done | rfl | (simp only [List.length_drop, List.length_take]; rfl)) ?_; (with_reducible refine (foliotref02_Cut.calls (wrap64 (IntKind.u64.wrap (a0 - a1))) t345 _ A3.out).mono ?_); rintro e w4 ⟨rfl, hb⟩; refine ⟨_, rfl, ?_⟩; have n0_ := Aside0.mk (below_step (by repeat (first | (with_reducible first | exact HB.out | apply below_alloc | apply pw_below_drewN | apply below_drew1) | exact HB.out)) hb); clear HB; have HB := n0_; clear n0_; (try clear hb); (try clear hb2); (try clear hk); (try clear hi)))
  go_ret
  exact ⟨by first | rfl | (simp [errW_none, errW_some] <;> rfl) | (simp [*, errW_none, errW_some] <;> rfl), by repeat (first | (with_reducible first | exact HB.out | apply below_alloc | apply pw_below_drewN | apply below_drew1) | exact HB.out)⟩

end Go.Proofs.Ytbondhnhiinlbaa.Pr
end
section
namespace Go.Proofs.Ytbondhnhiinlbaa.Pr
open Go.RowKit Go.Proofs.YtbondhnhiinlbaaW.PrintWords Go.Proofs.YtbondhnhiinlbaaW.PrintLast Go.Proofs.YtbondhnhiinlbaaW.PrintMore
attribute [local go_sem] max2_int min2_int max_two min_two max_three min_three max_four min_four   -- for this text's walks alone
set_option linter.unusedVariables false
set_option linter.unusedSimpArgs false

/-! ### stamp_Plus: function 25 -/
def stamp_Plus.f (a0 : Int) (a1 : Int) : Option (Int) := some (IntKind.u64.wrap (a0 + (IntKind.u64.wrap (a1))))
set_option maxHeartbeats 8000000 in
set_option maxRecDepth 100000 in
theorem stamp_Plus.calls (a0 : Int) (a1 : Int) (r : Int) (w : World) (h : stamp_Plus.f a0 a1 = some r) :
    Calls Try.prog 25 #[.int .u64 a0, .int .i64 a1] w fun e w' => e = .returned (.int .u64 r) ∧ Drawn0 w w' := by
  have H : (some (IntKind.u64.wrap (a0 + (IntKind.u64.wrap (a1))))) = some r := h
  clear h
  obtain rfl := Option.some.inj H
  go_enter Try.func25, Try.ntmps25
  go_wp2
  go_ret
  exact ⟨by first | rfl | (simp; done) | (simp [*]; done), by repeat (first | exact Drawn0.refl _ | apply Drawn0.step)⟩

end Go.Proofs.Ytbondhnhiinlbaa.Pr
end
section
set_option linter.unusedVariables false
set_option linter.unusedSimpArgs false
namespace Go.Proofs.Ytbondhnhiinlbaa.Pr
open Go.RowKit Go.Proofs.YtbondhnhiinlbaaW.PrintWords Go.Proofs.YtbondhnhiinlbaaW.PrintLast Go.Proofs.YtbondhnhiinlbaaW.PrintMore
def lp (y : Int) : Int := if y % 4 = 0 ∧ (y % 100 ≠ 0 ∨ y % 400 = 0) then 1 else 0
def B (y : Int) : Int := (y - 1) * 365 + (y - 1) / 4 - (y - 1) / 100 + (y - 1) / 400
theorem w_in {n : Int} (h : -9223372036854775808 ≤ n ∧ n ≤ 9223372036854775807) : wrap64 n = n := by unfold wrap64; omega
theorem td_eq {n : Int} (h : 0 ≤ n) (m : Int) : Int.tdiv n m = n / m := Int.tdiv_eq_ediv_of_nonneg h
theorem tm_eq {n : Int} (h : 0 ≤ n) (m : Int) : Int.tmod n m = n % m := Int.tmod_eq_emod_of_nonneg h
theorem lp_01 (y : Int) : lp y = 0 ∨ lp y = 1 := by
  unfold lp
  split
  · exact .inr rfl
  · exact .inl rfl
theorem begins_eq (y : Int) (h : 1 ≤ y ∧ y ≤ 1000000) : stamp_begins.f y = some (B y) := by
  unfold stamp_begins.f B
  have e0 : wrap64 (y - 1) = y - 1 := w_in (by omega)
  rw [e0, td_eq (by omega), td_eq (by omega), td_eq (by omega), w_in (n := (y - 1) * 365) (by omega), w_in (n := (y - 1) / 4) (by omega), w_in (n := (y - 1) / 100) (by omega), w_in (n := (y - 1) / 400) (by omega),
    w_in (n := (y - 1) * 365 + (y - 1) / 4) (by omega), w_in (n := (y - 1) * 365 + (y - 1) / 4 - (y - 1) / 100) (by omega), w_in (by omega)]
theorem leap_eq (y : Int) (h : 0 ≤ y) : stamp_leap.f y = some (lp y) := by
  unfold stamp_leap.f lp
  rw [tm_eq h, tm_eq h, tm_eq h]
  by_cases h4 : y % 4 = 0
  · rw [if_pos h4]
    by_cases h1 : y % 100 = 0
    · rw [if_pos h1]
      by_cases h2 : y % 400 = 0
      · rw [if_pos h2, if_pos ⟨h4, .inr h2⟩]
      · rw [if_neg h2, if_neg (by rintro ⟨_, h | h⟩; exact h h1; exact h2 h)]
    · rw [if_neg h1, if_pos ⟨h4, .inl h1⟩]
  · rw [if_neg h4, if_neg (fun h => h4 h.1)]
theorem B_succ (y : Int) (h : 1 ≤ y) : B (y + 1) = B y + 365 + lp y := by
  unfold B lp
  split <;> omega
theorem B_mono {a b : Int} (h : a < b) : B (a + 1) ≤ B b := by
  unfold B
  omega
theorem B_one : B 1 = 0 := by decide +kernel
theorem B_2101 : B 2101 = 767009 := by decide +kernel
theorem year_of (day : Int) (h0 : 0 ≤ day) : ∀ n : Nat, day < B ((n : Int) + 1) → ∃ y : Int, 1 ≤ y ∧ y ≤ n ∧ B y ≤ day ∧ day < B (y + 1)
  | 0, h => by
    rw [show ((0 : Nat) : Int) + 1 = 1 from rfl, B_one] at h
    omega
  | n + 1, h => by
    by_cases hl : day < B ((n : Int) + 1)
    · obtain ⟨y, h1, h2, h3, h4⟩ := year_of day h0 n hl
      exact ⟨y, h1, by omega, h3, h4⟩
    · exact ⟨(n : Int) + 1, by omega, by omega, by omega, by simpa using h⟩
theorem yr_eq (day y : Int) (hy : 1 ≤ y ∧ y ≤ 2100) (h1 : B y ≤ day) (h2 : day < B (y + 1)) : ∀ (k : Nat) (y0 : Int), 1 ≤ y0 → y0 ≤ y → y - y0 < k → yr k day y0 = some y
  | 0, y0, _, _, h => by omega
  | k + 1, y0, h3, h4, h5 => by
    rw [yr, w_in (n := y0 + 1) (by omega), begins_eq (y0 + 1) (by omega), Option.bind_some]
    by_cases he : y0 = y
    · subst he
      rw [if_neg (by omega)]
    · have := B_mono (show y0 < y by omega)
      rw [if_pos (by omega)]
      exact yr_eq day y hy h1 h2 k (y0 + 1) (by omega) (by omega) (by omega)
def tsum (l : List Int) : Int := l.foldr (· + ·) 0
theorem tsum_cons (a : Int) (l : List Int) : tsum (a :: l) = a + tsum l := rfl
theorem tsum_nonneg : ∀ (l : List Int), (∀ x ∈ l, 0 ≤ x ∧ x ≤ 31) → 0 ≤ tsum l ∧ tsum l ≤ 31 * l.length
  | [], _ => by simp [tsum]
  | a :: l, h => by
    have h1 := h a (by simp)
    have h2 := tsum_nonneg l (fun x hx => h x (by simp [hx]))
    rw [tsum_cons, List.length_cons]
    omega
theorem mo_eq : ∀ (l : List Int) (i : Nat) (m d : Int) (j : Nat) (D : Int), (∀ x ∈ l, 0 ≤ x ∧ x ≤ 31) → l.length ≤ 12 → j < l.length → 1 ≤ D → D ≤ l.getD j 0 → d = tsum (l.take j) + D → mo l i m d = ((i : Int) + j + 1, D)
  | [], _, _, _, j, _, _, _, hj, _, _, _ => absurd hj (by simp)
  | n :: l, i, m, d, 0, D, hl, hlen, hj, h1, h2, hd => by
    have e : d = D := by simpa [tsum] using hd
    subst e
    rw [mo, if_pos (by simpa using h2)]
    congr 1
  | n :: l, i, m, d, j + 1, D, hl, hlen, hj, h1, h2, hd => by
    rw [List.take_succ_cons, tsum_cons] at hd
    have hn := hl n (by simp)
    have ht := tsum_nonneg (l.take j) (fun x hx => hl x (by simp [List.mem_of_mem_take hx]))
    have hlt : ((l.take j).length : Int) ≤ 12 := by
      have : (l.take j).length ≤ l.length := by rw [List.length_take]; omega
      simp at hlen
      omega
    rw [List.getD_cons_succ] at h2
    have hD : D ≤ 31 := by
      have hj' : j < l.length := by simpa using hj
      have : l.getD j 0 = l[j] := by rw [List.getD_eq_getElem?_getD, List.getElem?_eq_getElem hj']; rfl
      rw [this] at h2
      have := hl l[j] (by simp)
      omega
    rw [mo, if_neg (by omega), w_in (n := d - n) (by omega), mo_eq l (i + 1) _ (d - n) j D (fun x hx => hl x (by simp [hx])) (by simp at hlen; omega) (by simpa using hj) h1 h2 (by omega)]
    congr 1
    omega
theorem month_of : ∀ (l : List Int) (d : Int), (∀ x ∈ l, 0 ≤ x ∧ x ≤ 31) → 1 ≤ d → d ≤ tsum l → ∃ (j : Nat) (D : Int), j < l.length ∧ 1 ≤ D ∧ D ≤ l.getD j 0 ∧ d = tsum (l.take j) + D
  | [], d, _, h1, h2 => by simp [tsum] at h2; omega
  | n :: l, d, hl, h1, h2 => by
    by_cases hd : d ≤ n
    · exact ⟨0, d, by simp, h1, by simpa using hd, by simp [tsum]⟩
    · rw [tsum_cons] at h2
      obtain ⟨j, D, h3, h4, h5, h6⟩ := month_of l (d - n) (fun x hx => hl x (by simp [hx])) (by omega) (by omega)
      exact ⟨j + 1, D, by simpa using h3, h4, by simpa using h5, by rw [List.take_succ_cons, tsum_cons]; omega⟩
theorem mtab_in (t : Int) (ht : t = 0 ∨ t = 1) : ∀ x ∈ mtab t, 0 ≤ x ∧ x ≤ 31 := by
  rcases ht with rfl | rfl <;> decide +kernel
theorem mtab_sum (t : Int) (ht : t = 0 ∨ t = 1) : tsum (mtab t) = 365 + t := by
  rcases ht with rfl | rfl <;> decide +kernel
theorem mtab_len (t : Int) : (mtab t).length = 12 := rfl
theorem sumDays_cons (a : Int) (l : List Int) (d : Int) : sumDays (a :: l) d = sumDays l (wrap64 (d + a)) := rfl
theorem sumDays_eq (l : List Int) : ∀ d : Int, (∀ x ∈ l, 0 ≤ x ∧ x ≤ 31) → -10000000 ≤ d → d ≤ 10000000 - 31 * (l.length : Int) → sumDays l d = d + tsum l := by
  induction l with
  | nil =>
    intro d _ _ _
    show d = d + 0
    omega
  | cons a l ih =>
    intro d hl h0 h1
    have ha := hl a (List.mem_cons_self)
    rw [List.length_cons] at h1
    rw [sumDays_cons, w_in (n := d + a) (by omega), ih (d + a) (fun x hx => hl x (List.mem_cons_of_mem _ hx)) (by omega) (by omega), tsum_cons]
    omega
/-- a day of the calendar -/
structure Cal (day y : Int) (j : Nat) (D : Int) : Prop where
  y1 : 1 ≤ y
  y2 : y ≤ 2100
  j2 : j < 12
  d1 : 1 ≤ D
  d2 : D ≤ (mtab (lp y)).getD j 0
  at_ : day = B y + tsum ((mtab (lp y)).take j) + D - 1
theorem Cal.exists {day : Int} (h0 : 0 ≤ day) (h1 : day < 767009) : ∃ y j D, Cal day y j D := by
  obtain ⟨y, h2, h3, h4, h5⟩ := year_of day h0 2100 (by rw [show ((2100 : Nat) : Int) + 1 = 2101 from rfl, B_2101]; exact h1)
  rw [B_succ y h2] at h5
  obtain ⟨j, D, h6, h7, h8, h9⟩ := month_of (mtab (lp y)) (day - B y + 1) (mtab_in _ (lp_01 y)) (by omega) (by rw [mtab_sum _ (lp_01 y)]; omega)
  exact ⟨y, j, D, h2, by omega, h6, h7, h8, by omega⟩
theorem take_le (t : Int) (ht : t = 0 ∨ t = 1) (j : Nat) (hj : j < 12) : 0 ≤ tsum ((mtab t).take j) ∧ tsum ((mtab t).take j) + (mtab t).getD j 0 ≤ 365 + t := by
  rcases (show j = 0 ∨ j = 1 ∨ j = 2 ∨ j = 3 ∨ j = 4 ∨ j = 5 ∨ j = 6 ∨ j = 7 ∨ j = 8 ∨ j = 9 ∨ j = 10 ∨ j = 11 from by omega) with rfl | rfl | rfl | rfl | rfl | rfl | rfl | rfl | rfl | rfl | rfl | rfl <;> rcases ht with rfl | rfl <;> decide +kernel
theorem Cal.bounds {day y : Int} {j : Nat} {D : Int} (h : Cal day y j D) : B y ≤ day ∧ day < B (y + 1) ∧ 0 ≤ day ∧ day < 767009 ∧ D ≤ 31 := by
  have h1 := take_le (lp y) (lp_01 y) j h.j2
  have h2 := h.d1
  have h3 := h.d2
  have h4 := h.at_
  have h5 := B_succ y h.y1
  have h6 : B 1 ≤ B y := by
    by_cases e : y = 1
    · rw [e]; exact Int.le_refl _
    · have := B_mono (show (0 : Int) < y by have := h.y1; omega)
      simpa using this
  have h7 : B (y + 1) ≤ B 2101 := B_mono (by have := h.y2; omega)
  rw [B_one] at h6
  rw [B_2101] at h7
  have h8 : D ≤ 31 := by
    have hj := h.j2
    have : (mtab (lp y)).getD j 0 = (mtab (lp y))[j]'hj := by rw [List.getD_eq_getElem?_getD, List.getElem?_eq_getElem (show j < (mtab (lp y)).length from hj)]; rfl
    rw [this] at h3
    have := mtab_in (lp y) (lp_01 y) _ (List.getElem_mem (show j < (mtab (lp y)).length from hj))
    omega
  exact ⟨by omega, by omega, by omega, by omega, h8⟩
end Go.Proofs.Ytbondhnhiinlbaa.Pr
end
section
set_option linter.unusedVariables false
set_option linter.unusedSimpArgs false
namespace Go.Proofs.Ytbondhnhiinlbaa.Pr
open Go.RowKit Go.Proofs.YtbondhnhiinlbaaW.PrintWords Go.Proofs.YtbondhnhiinlbaaW.PrintLast Go.Proofs.YtbondhnhiinlbaaW.PrintMore
def secs (e a : Int) : Int := e * 4294967296 + a / 4294967296 + 59926608000
def good (e a : Int) : Prop := -16 ≤ e ∧ e ≤ 2 ∧ 0 ≤ secs e a ∧ secs e a / 86400 < 767009
theorem secsOf_eq (e a : Int) (he : -16 ≤ e ∧ e ≤ 2) (ha : 0 ≤ a ∧ a ≤ 18446744073709551615) : secsOf e a = secs e a := by
  unfold secsOf secs
  rw [w_in (n := e * 4294967296) (by omega), w_in (n := a / 4294967296) (by omega), w_in (n := e * 4294967296 + a / 4294967296) (by omega), w_in (by omega)]
theorem B_nonneg (y : Int) (h : 1 ≤ y) : 0 ≤ B y := by
  unfold B
  omega
theorem begins2101 : stamp_begins.f 2101 = some 767009 := by rw [begins_eq 2101 (by decide), B_2101]
theorem ofdate_bad (e a : Int) (ha : 0 ≤ a ∧ a ≤ 18446744073709551615) (h : ¬ good e a) : stamp_OfDate.f e a = some (0, 0, 0, 0, 0, 0, 0, 20) := by
  unfold stamp_OfDate.f
  by_cases h1 : e < -16 ∨ e > 2
  · rw [if_pos h1]
  · rw [if_neg h1, secsOf_eq e a (by omega) ha]
    have hb : -16 * 4294967296 + 59926608000 ≤ secs e a ∧ secs e a ≤ 3 * 4294967296 + 59926608000 := by unfold secs; omega
    unfold good at h
    unfold ofSecs
    by_cases h2 : secs e a < 0
    · rw [if_pos h2]
    · rw [if_neg h2, begins2101, Option.bind_some, td_eq (by omega), w_in (by omega), if_pos (by omega)]
theorem ofdate_good (e a : Int) (ha : 0 ≤ a ∧ a ≤ 18446744073709551615) (h : good e a) {y D : Int} {j : Nat} (hc : Cal (secs e a / 86400) y j D) :
    stamp_OfDate.f e a = some (y, (j : Int) + 1, D, secs e a / 3600 % 24, secs e a / 60 % 60, secs e a % 60, a % 4294967296, 0) := by
  obtain ⟨h1, h2, h3, h4⟩ := h
  obtain ⟨b1, b2, b3, b4, b5⟩ := hc.bounds
  have hy1 := hc.y1
  have hy2 := hc.y2
  unfold stamp_OfDate.f
  rw [if_neg (by omega), secsOf_eq e a ⟨h1, h2⟩ ha]
  have hb3 : secs e a ≤ 3 * 4294967296 + 59926608000 := by unfold secs; omega
  generalize secs e a = S at hc h3 h4 b1 b2 b3 b4 hb3 ⊢
  have hday : S / 86400 < y * 366 := by
    rw [B_succ y hy1] at b2
    have : B y ≤ (y - 1) * 366 := by unfold B; omega
    have := lp_01 y
    omega
  unfold ofSecs
  rw [if_neg (by omega), begins2101, Option.bind_some, td_eq (n := S) (by omega) 86400, w_in (n := S / 86400) (by omega), if_neg (by omega), td_eq (n := S / 86400) (by omega), w_in (n := S / 86400 / 366) (by omega), w_in (n := S / 86400 / 366 + 1) (by omega),
    yr_eq (S / 86400) y ⟨hy1, hy2⟩ b1 b2 3000 _ (by omega) (by omega) (by omega), Option.bind_some, begins_eq y (by omega), Option.bind_some, leap_eq y (by omega), Option.bind_some]
  have hB : 0 ≤ B y := by
    by_cases e1 : y = 1
    · rw [e1, B_one]; exact Int.le_refl _
    · have := B_mono (show (1 : Int) < y by omega)
      have h0 : (0 : Int) ≤ B (1 + 1) := by decide +kernel
      omega
  unfold civil
  rw [td_eq (n := S) (by omega) 86400, w_in (n := S / 86400) (by omega), w_in (n := S / 86400 - B y) (by omega), w_in (n := S / 86400 - B y + 1) (by omega)]
  have hmo := mo_eq (mtab (lp y)) 0 0 (S / 86400 - B y + 1) j D (mtab_in _ (lp_01 y)) (by rw [mtab_len]; exact Nat.le_refl _) (by rw [mtab_len]; exact hc.j2) hc.d1 hc.d2 (by have := hc.at_; omega)
  rw [hmo, td_eq (n := S) (by omega) 3600, td_eq (n := S) (by omega) 60, w_in (n := S / 3600) (by omega), w_in (n := S / 60) (by omega), tm_eq (by omega), tm_eq (by omega), tm_eq (by omega)]
  simp
def tsecs (day h mi s : Int) : Int := (day - 693595) * 86400 + h * 3600 + mi * 60 + s
theorem date_good {day y D : Int} {j : Nat} (hc : Cal day y j D) (h mi s fr : Int) (hr : 0 ≤ h ∧ h ≤ 23 ∧ 0 ≤ mi ∧ mi ≤ 59 ∧ 0 ≤ s ∧ s ≤ 59) (hf : 0 ≤ fr ∧ fr < 4294967296) :
    stamp_ToDate.f y ((j : Int) + 1) D h mi s fr = some (tsecs day h mi s / 4294967296, tsecs day h mi s % 4294967296 * 4294967296 + fr, 0) := by
  obtain ⟨b1, b2, b3, b4, b5⟩ := hc.bounds
  have hy1 := hc.y1
  have hy2 := hc.y2
  have hj := hc.j2
  have hd1 := hc.d1
  have hd2 := hc.d2
  have hat := hc.at_
  have htk := take_le (lp y) (lp_01 y) j hj
  have hBn := B_nonneg y hy1
  have hbad : badDay y ((j : Int) + 1) D h mi s = false := by
    unfold badDay
    simp only [Bool.or_eq_false_iff, decide_eq_false_iff_not]
    omega
  unfold stamp_ToDate.f
  rw [hbad, if_neg (by decide), leap_eq y (by omega), Option.bind_some, show ((j : Int) + 1 - 1).toNat = j from by omega, if_neg (by omega), begins_eq y (by omega), Option.bind_some, if_pos hf]
  have e1 : wrap64 (wrap64 (wrap64 (B y + D) - 1) - 693595) = B y + D - 1 - 693595 := by
    rw [w_in (n := B y + D) (by omega), w_in (n := B y + D - 1) (by omega), w_in (by omega)]
  have hlen : ((((mtab (lp y)).take j).length : Nat) : Int) ≤ 12 := by rw [List.length_take, mtab_len]; omega
  rw [e1, sumDays_eq _ _ (fun x hx => mtab_in _ (lp_01 y) x (List.mem_of_mem_take hx)) (by omega) (by omega)]
  have e2 : toSecs (B y + D - 1 - 693595 + tsum ((mtab (lp y)).take j)) h mi s = tsecs day h mi s := by
    unfold toSecs tsecs
    rw [show B y + D - 1 - 693595 + tsum ((mtab (lp y)).take j) = day - 693595 from by omega]
    rw [w_in (n := (day - 693595) * 86400) (by omega), w_in (n := h * 3600) (by omega), w_in (n := mi * 60) (by omega), w_in (n := (day - 693595) * 86400 + h * 3600) (by omega), w_in (n := (day - 693595) * 86400 + h * 3600 + mi * 60) (by omega), w_in (by omega)]
  rw [e2]
theorem todate_cases (y m d h mi s fr : Int) (hf : 0 ≤ fr ∧ fr < 4294967296) : stamp_ToDate.f y m d h mi s fr = some (0, 0, 20) ∨ ∃ (day : Int) (j : Nat), m = (j : Int) + 1 ∧ Cal day y j d ∧ 0 ≤ h ∧ h ≤ 23 ∧ 0 ≤ mi ∧ mi ≤ 59 ∧ 0 ≤ s ∧ s ≤ 59 := by
  unfold stamp_ToDate.f
  by_cases hb : badDay y m d h mi s = true
  · rw [if_pos hb]
    exact .inl rfl
  · have hr : 1 ≤ y ∧ y ≤ 2100 ∧ 1 ≤ m ∧ m ≤ 12 ∧ 1 ≤ d ∧ 0 ≤ h ∧ h ≤ 23 ∧ 0 ≤ mi ∧ mi ≤ 59 ∧ 0 ≤ s ∧ s ≤ 59 := by
      unfold badDay at hb
      simp only [Bool.or_eq_true, decide_eq_true_eq] at hb
      omega
    rw [if_neg hb, leap_eq y (by omega), Option.bind_some]
    by_cases hd : d > (mtab (lp y)).getD (m - 1).toNat 0
    · rw [if_pos hd]
      exact .inl rfl
    · exact .inr ⟨B y + tsum ((mtab (lp y)).take (m - 1).toNat) + d - 1, (m - 1).toNat, by omega, ⟨by omega, by omega, by omega, by omega, by omega, rfl⟩, by omega⟩
end Go.Proofs.Ytbondhnhiinlbaa.Pr
end
section
set_option linter.unusedVariables false
set_option linter.unusedSimpArgs false
namespace Go.Proofs.Ytbondhnhiinlbaa.Pr
open Go.RowKit Go.Proofs.YtbondhnhiinlbaaW.PrintWords Go.Proofs.YtbondhnhiinlbaaW.PrintLast Go.Proofs.YtbondhnhiinlbaaW.PrintMore
theorem Cal.unique {day y y' D D' : Int} {j j' : Nat} (h : Cal day y j D) (h' : Cal day y' j' D') : y' = y ∧ j' = j ∧ D' = D := by
  obtain ⟨b1, b2, _, _, _⟩ := h.bounds
  obtain ⟨c1, c2, _, _, _⟩ := h'.bounds
  have hy : y' = y := by
    rcases Int.lt_trichotomy y' y with h1 | h1 | h1
    · have := B_mono h1; omega
    · exact h1
    · have := B_mono h1; omega
  subst hy
  have e1 := mo_eq (mtab (lp y')) 0 0 (day - B y' + 1) j D (mtab_in _ (lp_01 y')) (by rw [mtab_len]; exact Nat.le_refl _) (by rw [mtab_len]; exact h.j2) h.d1 h.d2 (by have := h.at_; omega)
  have e2 := mo_eq (mtab (lp y')) 0 0 (day - B y' + 1) j' D' (mtab_in _ (lp_01 y')) (by rw [mtab_len]; exact Nat.le_refl _) (by rw [mtab_len]; exact h'.j2) h'.d1 h'.d2 (by have := h'.at_; omega)
  rw [e1] at e2
  simp only [Prod.mk.injEq] at e2
  exact ⟨rfl, by omega, by omega⟩
theorem take_succ_sum (t : Int) (ht : t = 0 ∨ t = 1) (j : Nat) (hj : j < 12) : tsum ((mtab t).take (j + 1)) = tsum ((mtab t).take j) + (mtab t).getD j 0 := by
  rcases (show j = 0 ∨ j = 1 ∨ j = 2 ∨ j = 3 ∨ j = 4 ∨ j = 5 ∨ j = 6 ∨ j = 7 ∨ j = 8 ∨ j = 9 ∨ j = 10 ∨ j = 11 from by omega) with rfl | rfl | rfl | rfl | rfl | rfl | rfl | rfl | rfl | rfl | rfl | rfl <;> rcases ht with rfl | rfl <;> decide +kernel
theorem month_pos (t : Int) (ht : t = 0 ∨ t = 1) (j : Nat) (hj : j < 12) : 28 ≤ (mtab t).getD j 0 := by
  rcases (show j = 0 ∨ j = 1 ∨ j = 2 ∨ j = 3 ∨ j = 4 ∨ j = 5 ∨ j = 6 ∨ j = 7 ∨ j = 8 ∨ j = 9 ∨ j = 10 ∨ j = 11 from by omega) with rfl | rfl | rfl | rfl | rfl | rfl | rfl | rfl | rfl | rfl | rfl | rfl <;> rcases ht with rfl | rfl <;> decide +kernel
theorem Cal.next {day y D : Int} {j : Nat} (h : Cal day y j D) (hn : day + 1 < 767009) :
    (D < (mtab (lp y)).getD j 0 ∧ Cal (day + 1) y j (D + 1)) ∨ (D = (mtab (lp y)).getD j 0 ∧ j < 11 ∧ Cal (day + 1) y (j + 1) 1) ∨ (D = (mtab (lp y)).getD j 0 ∧ j = 11 ∧ Cal (day + 1) (y + 1) 0 1) := by
  obtain ⟨b1, b2, b3, b4, b5⟩ := h.bounds
  have h1 := h.d1
  have h2 := h.d2
  have h3 := h.at_
  have hj := h.j2
  have hy1 := h.y1
  have hy2 := h.y2
  by_cases hd : D < (mtab (lp y)).getD j 0
  · exact .inl ⟨hd, ⟨hy1, hy2, hj, by omega, by omega, by omega⟩⟩
  · have he : D = (mtab (lp y)).getD j 0 := by omega
    have hs := take_succ_sum (lp y) (lp_01 y) j hj
    by_cases h11 : j < 11
    · exact .inr (.inl ⟨he, h11, ⟨hy1, hy2, by omega, by decide, by have := month_pos (lp y) (lp_01 y) (j + 1) (by omega); omega, by omega⟩⟩)
    · obtain rfl : j = 11 := by omega
      have hsum : tsum ((mtab (lp y)).take (11 + 1)) = 365 + lp y := by
        rw [← mtab_sum (lp y) (lp_01 y)]
        rfl
      have hB := B_succ y hy1
      have hy : y + 1 ≤ 2100 := by
        by_cases hy : y + 1 ≤ 2100
        · exact hy
        · obtain rfl : y = 2100 := by omega
          rw [show (2100 : Int) + 1 = 2101 from rfl, B_2101] at hB b2
          omega
      refine .inr (.inr ⟨he, rfl, ⟨by omega, hy, by decide, by decide, by have := month_pos (lp (y + 1)) (lp_01 _) 0 (by decide); omega, ?_⟩⟩)
      rw [show (mtab (lp (y + 1))).take 0 = [] from rfl, show tsum [] = 0 from rfl]
      omega
end Go.Proofs.Ytbondhnhiinlbaa.Pr
end
section
namespace Go.Proofs.Ytbondhnhiinlbaa.Pr
open Go.RowKit Go.Proofs.YtbondhnhiinlbaaW.PrintWords Go.Proofs.YtbondhnhiinlbaaW.PrintLast Go.Proofs.YtbondhnhiinlbaaW.PrintMore
attribute [local go_sem] max2_int min2_int max_two min_two max_three min_three max_four min_four   -- for this text's walks alone
set_option linter.unusedVariables false
set_option linter.unusedSimpArgs false

/-! ### foliotref02_days: function 36 -/
def foliotref02_days.f (a0 : Int) : Option (Int) := (foliotref02_leap.f a0).bind fun t180 => (if t180 = true then (some 366) else (some 365))
set_option maxHeartbeats 8000000 in
set_option maxRecDepth 100000 in
theorem foliotref02_days.calls (a0 : Int) (r : Int) (w : World) (h : foliotref02_days.f a0 = some r) :
    Calls Try.prog 36 #[.int .i64 a0] w fun e w' => e = .returned (.int .i64 r) ∧ Drawn0 w w' := by
  have H : ((foliotref02_leap.f a0).bind fun t180 => (if t180 = true then (some 366) else (some 365))) = some r := h
  clear h
  replace H := Option.bind_eq_some_iff.mp H
  obtain ⟨t180, A20, H⟩ := H
  replace H : (if t180 = true then (some 366) else (some 365)) = some r := H
  have A2 := Aside0.mk A20
  clear A20
  by_cases c3 : t180 = true
  · subst c3
    have H1 : (some 366) = some r := by rw [if_pos rfl] at H; exact H
    clear H
    have H := H1
    clear H1
    obtain rfl := Option.some.inj H
    go_enter Try.func36, Try.ntmps36
    go_wp2_with (first | ((with_reducible refine gate_callee (f := 44) rfl ?_); refine goesL_ (some 4) rfl rfl Try.func44 (by kernel_rfl) rfl #[.int .i64 a0] rfl (by (try simp only [List.map_toArray, List.map_cons, List.map_nil]); first | done | rfl | (simp only [List.length_drop, List.length_take]; rfl)) ?_; (with_reducible refine (foliotref02_leap.calls a0 true _ A2.out).mono ?_); rintro e w' ⟨rfl, ⟨nd, rfl⟩⟩; refine ⟨_, rfl, ?_⟩))
    go_ret
    exact ⟨by first | rfl | (simp; done) | (simp [*]; done), by repeat (first | exact Drawn0.refl _ | apply Drawn0.step)⟩
  · replace c3 := Bool.eq_false_iff.mpr c3
    subst c3
    have H1 : (some 365) = some r := by rw [if_neg (show ¬ (false = true) by decide)] at H; exact H
    clear H
    have H := H1
    clear H1
    obtain rfl := Option.some.inj H
    go_enter Try.func36, Try.ntmps36
    go_wp2_with (first | ((with_reducible refine gate_callee (f := 44) rfl ?_); refine goesL_ (some 4) rfl rfl Try.func44 (by kernel_rfl) rfl #[.int .i64 a0] rfl (by (try simp only [List.map_toArray, List.map_cons, List.map_nil]); first | done | rfl | (simp only [List.length_drop, List.length_take]; rfl)) ?_; (with_reducible refine (foliotref02_leap.calls a0 false _ A2.out).mono ?_); rintro e w' ⟨rfl, ⟨nd, rfl⟩⟩; refine ⟨_, rfl, ?_⟩))
    go_ret
    exact ⟨by first | rfl | (simp; done) | (simp [*]; done), by repeat (first | exact Drawn0.refl _ | apply Drawn0.step)⟩

end Go.Proofs.Ytbondhnhiinlbaa.Pr
end
section
namespace Go.Proofs.Ytbondhnhiinlbaa.Pr
open Go.RowKit Go.Proofs.YtbondhnhiinlbaaW.PrintWords Go.Proofs.YtbondhnhiinlbaaW.PrintLast Go.Proofs.YtbondhnhiinlbaaW.PrintMore
attribute [local go_sem] max2_int min2_int max_two min_two max_three min_three max_four min_four   -- for this text's walks alone
set_option linter.unusedVariables false
set_option linter.unusedSimpArgs false

/-! ### foliotref02_first: function 35 -/
def foliotref02_first.l0 : Nat → Int → Int → Int → Option (Int)
  | 0, _, _, _ => none
  | k + 1, x0, x3, x4 => if x4 < x0 then ((foliotref02_days.f x4).bind fun t181 => (foliotref02_first.l0 k x0 (wrap64 (x3 + t181)) (wrap64 (x4 + 1)))) else (some x3)
def foliotref02_first.f (k : Nat) (a0 : Int) : Option (Int) := foliotref02_first.l0 k a0 0 1
theorem foliotref02_first.mono_l : ∀ k, (∀ y0 y1 y2, LeO (foliotref02_first.l0 k y0 y1 y2) (foliotref02_first.l0 (k + 1) y0 y1 y2))
  | 0 => fun _ _ _ r h => by simp [foliotref02_first.l0] at h
  | k + 1 => by
    have ih0 := foliotref02_first.mono_l k
    · intro y0 y1 y2
      unfold foliotref02_first.l0
      repeat' first
      | (with_reducible exact ih0 _ _ _)
      | (with_reducible exact LeO.refl _)
      | (with_reducible exact LeO.none _)
      | (with_reducible refine LeO.ite ?_ ?_)
      | (with_reducible refine LeO.bind ?_ (fun _ => ?_))
      | exact ih0 _ _ _
      | exact LeO.none _
      | refine LeO.ite ?_ ?_
      | refine LeO.bind ?_ (fun _ => ?_)
theorem foliotref02_first.mono : ∀ a0 k, LeO (foliotref02_first.f k a0) (foliotref02_first.f (k + 1) a0) := by
  intro a0 k
  have ih0 := foliotref02_first.mono_l k
  unfold foliotref02_first.f
  repeat' first
      | (with_reducible exact ih0 _ _ _)
      | (with_reducible exact LeO.refl _)
      | (with_reducible exact LeO.none _)
      | (with_reducible refine LeO.ite ?_ ?_)
      | (with_reducible refine LeO.bind ?_ (fun _ => ?_))
      | exact ih0 _ _ _
      | exact LeO.none _
      | refine LeO.ite ?_ ?_
      | refine LeO.bind ?_ (fun _ => ?_)
set_option maxHeartbeats 8000000 in
set_option maxRecDepth 100000 in
theorem foliotref02_first.calls (k : Nat) (a0 : Int) (r : Int) (w : World) (h : foliotref02_first.f k a0 = some r) :
    Calls Try.prog 35 #[.int .i64 a0] w fun e w' => e = .returned (.int .i64 r) ∧ Drawn0 w w' := by
  have H : (foliotref02_first.l0 k a0 0 1) = some r := h
  clear h
  have H' := Aside0.mk H
  clear H
  go_enter Try.func35, Try.ntmps35
  go_wp2
  go_loopg [3, 4] k (fun kq v3 v4 w' => ∃ (x3_1 : Int) (x4_1 : Int), v3 = .int .i64 x3_1 ∧ v4 = .int .i64 x4_1 ∧ Aside0 (foliotref02_first.l0 kq a0 x3_1 x4_1 = some r) ∧ Aside0 (kq ≤ k) ∧ Drawn0 w w')
  case atStart => exact ⟨(0), (1), (by first | rfl | (simp; done) | (simp [*]; done)), (by first | rfl | (simp; done) | (simp [*]; done)), H', ⟨Nat.le_refl _⟩, by repeat (first | exact Drawn0.refl _ | apply Drawn0.step)⟩
  case round =>
    clear H'
    obtain ⟨x3_1, x4_1, rfl, rfl, HA, HK1, ⟨m1, rfl⟩⟩ := hrel
    cases gk with
    | zero => exact absurd HA.out (by simp [foliotref02_first.l0])
    | succ k1 =>
      have H := HA.out
      clear HA
      simp only [foliotref02_first.l0] at H
      by_cases c2 : x4_1 < a0
      · rw [if_pos c2] at H
        have c2b0 : decide (x4_1 < a0) = true := decide_eq_true c2
        clear c2
        replace H := Option.bind_eq_some_iff.mp H
        obtain ⟨t181, A30, H⟩ := H
        replace H : (foliotref02_first.l0 k1 a0 (wrap64 (x3_1 + t181)) (wrap64 (x4_1 + 1))) = some r := H
        have A3 := Aside0.mk A30
        clear A30
        have H' := Aside0.mk H
        clear H
        go_wp2_with (first | ((with_reducible refine gate_callee (f := 36) rfl ?_); refine goesL_ (some 12) rfl rfl Try.func36 (by kernel_rfl) rfl #[.int .i64 x4_1] rfl (by (try simp only [List.map_toArray, List.map_cons, List.map_nil]); first | done | rfl | (simp only [List.length_drop, List.length_take]; rfl)) ?_; (with_reducible refine (foliotref02_days.calls x4_1 t181 _ A3.out).mono ?_); rintro e w' ⟨rfl, ⟨nd, rfl⟩⟩; refine ⟨_, rfl, ?_⟩))
        go_roundg k1
        case measure => have := HK1.out; omega
        case rel => exact ⟨(wrap64 (x3_1 + t181)), (wrap64 (x4_1 + 1)), (by first | rfl | (simp; done) | (simp [*]; done)), (by first | rfl | (simp; done) | (simp [*]; done)), H', ⟨by have := HK1.out; omega⟩, by repeat (first | exact Drawn0.refl _ | apply Drawn0.step)⟩
      · rw [if_neg c2] at H
        have c2b0 : decide (x4_1 < a0) = false := decide_eq_false c2
        clear c2
        obtain rfl := Option.some.inj H
        go_wp2
        go_ret
        exact ⟨by first | rfl | (simp; done) | (simp [*]; done), by repeat (first | exact Drawn0.refl _ | apply Drawn0.step)⟩

end Go.Proofs.Ytbondhnhiinlbaa.Pr
end
section
namespace Go.Proofs.Ytbondhnhiinlbaa.Pr
open Go.RowKit Go.Proofs.YtbondhnhiinlbaaW.PrintWords Go.Proofs.YtbondhnhiinlbaaW.PrintLast Go.Proofs.YtbondhnhiinlbaaW.PrintMore
attribute [local go_sem] max2_int min2_int max_two min_two max_three min_three max_four min_four   -- for this text's walks alone
set_option linter.unusedVariables false
set_option linter.unusedSimpArgs false

theorem eqA36 (d : Nat) (w : World) (x0 y0 : Int) (x1 y1 : Int) :
    (Op.equalIn (d + 2) 36 (.agg #[.int .i64 x0, .int .u64 x1]) (.agg #[.int .i64 y0, .int .u64 y1])).run Try.prog w = .ok (x0 == y0 && (x1 == y1)) w := by
  refine eqA_of Try.underlying36 (by kernel_rfl) ?_
  refine eqf_cons (by rfl) (by go_simp; rfl) (by go_simp; rfl) (by go_simp) ?_
  exact eqf_last (by rfl) (by go_simp; rfl) (by go_simp; rfl) (by go_simp)
end Go.Proofs.Ytbondhnhiinlbaa.Pr
end
section
namespace Go.Proofs.Ytbondhnhiinlbaa.Pr
open Go.RowKit Go.Proofs.YtbondhnhiinlbaaW.PrintWords Go.Proofs.YtbondhnhiinlbaaW.PrintLast Go.Proofs.YtbondhnhiinlbaaW.PrintMore
attribute [local go_sem] max2_int min2_int max_two min_two max_three min_three max_four min_four   -- for this text's walks alone
set_option linter.unusedVariables false
set_option linter.unusedSimpArgs false

/-! ### foliotlaw02_date: function 16 -/
def foliotlaw02_date.f (a0_0 : Int) (a0_1 : Int) : Option (Int × Int) := some (a0_0, a0_1)
set_option maxHeartbeats 8000000 in
set_option maxRecDepth 100000 in
theorem foliotlaw02_date.calls (a0_0 : Int) (a0_1 : Int) (r1 : Int) (r2 : Int) (w : World) (h : foliotlaw02_date.f a0_0 a0_1 = some (r1, r2)) :
    Calls Try.prog 16 #[.agg #[.int .i64 a0_0, .int .u64 a0_1]] w fun e w' => e = .returned (.agg #[.int .i64 r1, .int .u64 r2]) ∧ Below w.heap.size w w' := by
  have hu25 := Try.underlying25
  have hu36 := Try.underlying36
  have HB := Aside0.mk (Below.refl w.heap.size w)
  have H : (some (a0_0, a0_1)) = some (r1, r2) := h
  clear h
  simp only [Option.some.injEq, Prod.mk.injEq] at H
  obtain ⟨rfl, rfl⟩ := H
  go_enter Try.func16, Try.ntmps16
  go_wp2_with (first | ((with_reducible refine gate_dst (N := 1) rfl ?_); refine box_event ?hg (N := 1) ?hd (cs := #[.int .i64 a0_0, .int .u64 a0_1]) (t := 25) ?hr ?_; (case hd => rfl); (case hg => rfl); (case hr => first | (go_simp; done) | (go_simp; rfl)); intro gb192 hg w2 hbox hb; have n0_ := Aside0.mk (below_step (by repeat (first | (with_reducible first | exact HB.out | apply below_alloc | apply pw_below_drewN | apply below_drew1) | exact HB.out)) hb); have n1_ := Aside0.mk (hbox); have n2_ := Aside0.mk ((by rw [hg]; exact (below_size (by repeat (first | (with_reducible first | exact HB.out | apply below_alloc | apply pw_below_drewN | apply below_drew1) | exact HB.out))) : w.heap.size ≤ gb192)); have n3_ := Aside0.mk ((by rw [hg]; exact (below_size (by repeat (first | (with_reducible first | exact HB.out | apply below_alloc | apply pw_below_drewN | apply below_drew1) | exact HB.out))) : w.heap.size ≤ gb192)); clear HB; have HB := n0_; have BK192 := n1_; have GW192 := n2_; have GE192 := n3_; clear n0_ n1_ n2_ n3_; clear hb hbox hg) | ((with_reducible refine gate_dst (N := 2) rfl ?_); refine box_event ?hg (N := 2) ?hd (cs := #[.int .i64 0, .int .u64 0]) (t := 36) ?hr ?_; (case hd => rfl); (case hg => rfl); (case hr => first | (go_simp; done) | (go_simp; rfl)); intro gb193 hg w3 hbox hb; have n0_ := Aside0.mk (blk_below (g := gb192) (o := .cells #[.int .i64 a0_0, .int .u64 a0_1] 25 (0, 0)) (by (with_reducible repeat (first | refine blk_drewN ?_ _ | refine blk_drew ?_ | refine blk_alloc ?_ _)); exact BK192.out) hb); have n1_ := Aside0.mk (below_step (by repeat (first | (with_reducible first | exact HB.out | apply below_alloc | apply pw_below_drewN | apply below_drew1 | refine below_set ?_ GE192.out) | exact HB.out)) hb); have n2_ := Aside0.mk (hbox); have n3_ := Aside0.mk ((by rw [hg]; exact (below_size (by repeat (first | (with_reducible first | exact HB.out | apply below_alloc | apply pw_below_drewN | apply below_drew1 | refine below_set ?_ GE192.out) | exact HB.out))) : w.heap.size ≤ gb193)); have n4_ := Aside0.mk ((by rw [hg]; exact (below_size (by repeat (first | (with_reducible first | exact HB.out | apply below_alloc | apply pw_below_drewN | apply below_drew1 | refine below_set ?_ GE192.out) | exact HB.out))) : w.heap.size ≤ gb193)); have n5_ := Aside0.mk ((by rw [hg]; exact Nat.ne_of_lt (blk_lt (g := gb192) (o := .cells #[.int .i64 a0_0, .int .u64 a0_1] 25 (0, 0)) (by (with_reducible repeat (first | refine blk_drewN ?_ _ | refine blk_drew ?_ | refine blk_alloc ?_ _)); exact BK192.out)) : gb192 ≠ gb193)); have n6_ := Aside0.mk ((by rw [hg]; exact Nat.ne_of_gt (blk_lt (g := gb192) (o := .cells #[.int .i64 a0_0, .int .u64 a0_1] 25 (0, 0)) (by (with_reducible repeat (first | refine blk_drewN ?_ _ | refine blk_drew ?_ | refine blk_alloc ?_ _)); exact BK192.out)) : gb193 ≠ gb192)); clear BK192; clear HB; have BK192 := n0_; have HB := n1_; have BK193 := n2_; have GW193 := n3_; have GE193 := n4_; have NB192_193 := n5_; have NB193_192 := n6_; clear n0_ n1_ n2_ n3_ n4_ n5_ n6_; clear hb hbox hg; have hnb4 := NB192_193.out; have hnc4 := NB193_192.out; have hcz5_0 : w3.cell? ⟨gb192, 0, none⟩ = some (.int .i64 a0_0) := (blk_cell BK192.out 0).trans rfl; have hcz5_1 : w3.cell? ⟨gb192, 1, none⟩ = some (.int .u64 a0_1) := (blk_cell BK192.out 1).trans rfl; have hfz5_0 := blk_frozen BK192.out 0; have hfz5_1 := blk_frozen BK192.out 1; have hcz6_0 : w3.cell? ⟨gb193, 0, none⟩ = some (.int .i64 0) := (blk_cell BK193.out 0).trans rfl; have hcz6_1 : w3.cell? ⟨gb193, 1, none⟩ = some (.int .u64 0) := (blk_cell BK193.out 1).trans rfl; have hfz6_0 := blk_frozen BK193.out 0; have hfz6_1 := blk_frozen BK193.out 1))
  refine bodyPost_ret (results_cell_row rfl _ _ gb193 36 #[.int .i64 a0_0, .int .u64 a0_1] (0, 0) _ rfl (by (with_reducible repeat (first | refine blk_drewN ?_ _ | refine blk_drew ?_ | refine blk_alloc ?_ _)); refine blk_put (cs := #[.int .i64 a0_0, .int .u64 0]) ?_ 1 _ rfl; (with_reducible repeat (first | refine blk_drewN ?_ _ | refine blk_drew ?_ | refine blk_alloc ?_ _)); refine blk_put (cs := #[.int .i64 0, .int .u64 0]) ?_ 0 _ rfl; (with_reducible repeat (first | refine blk_drewN ?_ _ | refine blk_drew ?_ | refine blk_alloc ?_ _)); exact BK193.out) Try.underlying36 rfl (by kernel_rfl)) rfl ?_
  exact ⟨by first | rfl | (simp [errW_none, errW_some] <;> rfl) | (simp [*, errW_none, errW_some] <;> rfl), by repeat (first | (with_reducible first | exact HB.out | apply below_alloc | apply pw_below_drewN | apply below_drew1 | refine below_set ?_ GE192.out | refine below_set ?_ GE193.out) | exact HB.out)⟩

end Go.Proofs.Ytbondhnhiinlbaa.Pr
end
section
set_option linter.unusedVariables false
set_option linter.unusedSimpArgs false
namespace Go.Proofs.Ytbondhnhiinlbaa.Rw
open Go.ChangeShapes Go.WideShapes Go.Deep Go.RowKit
open Go.Proofs.YtbondhnhiinlbaaW.PrintWords Go.Proofs.Ytbondhnhiinlbaa.Pr
section
variable {H : Type} {enc : TypeId × Value → H} {w : World} {base : Nat} {spare : Nat → Bool} {held : Bool}
theorem one3 : Try.prog.cellsOf 3 = 1 := by kernel_rfl
theorem one23 : Try.prog.cellsOf 23 = 1 := by kernel_rfl
theorem one26 : Try.prog.cellsOf 26 = 1 := by kernel_rfl
theorem two25 : Try.prog.cellsOf 25 = 2 := by kernel_rfl
theorem seven28 : Try.prog.cellsOf 28 = 7 := by kernel_rfl
theorem open_date_cells {n : Nat} {cs : List Value} {y : DataW H × List MemPlace} (h : DataW.trod enc Try.prog w base spare held n 25 cs = some y) :
    ∃ e a : Int, cs = [.int .i64 e, .int .u64 a] ∧ (Lit.int .i64 e).wf = true ∧ (Lit.int .u64 a).wf = true := by
  obtain ⟨ys, n', _, _, hlen, hyl, hf⟩ := DataW.trod_struct Try.underlying25 h
  rw [two25] at hlen
  match cs, hlen with
  | [c0, c1], _ =>
    match ys, hyl with
    | [y0, y1], _ =>
      have g0 : DataW.trod enc Try.prog w base spare held n' 3 ((List.drop 0 [c0, c1]).take (Try.prog.cellsOf 3)) = some y0 := hf 0 _ rfl
      have g1 : DataW.trod enc Try.prog w base spare held n' 23 ((List.drop 1 [c0, c1]).take (Try.prog.cellsOf 23)) = some y1 := hf 1 _ rfl
      rw [one3] at g0
      rw [one23] at g1
      obtain ⟨n0, e0, _, w0⟩ := DataW.trod_int Try.underlying3 g0
      obtain ⟨n1, e1, _, w1⟩ := DataW.trod_int Try.underlying23 g1
      simp at e0 e1
      subst e0 e1
      exact ⟨n0, n1, rfl, w0, w1⟩
theorem open_date {r : Reach} {b0 : Nat} {v : Value} {d : DataW H} {p : List MemPlace} (hv : Value.okWide Try.prog w r b0 25 v) (h : DataW.Trod enc Try.prog w base spare held 25 v d p) :
    ∃ e a : Int, v = .agg #[.int .i64 e, .int .u64 a] ∧ (Lit.int .i64 e).wf = true ∧ (Lit.int .u64 a).wf = true := by
  obtain ⟨cs, rfl, hsz⟩ := okWide_struct Try.underlying25 hv
  obtain ⟨fuel, hf⟩ := h
  obtain ⟨e, a, hx, h1, h2⟩ := open_date_cells hf
  refine ⟨e, a, ?_, h1, h2⟩
  congr 1
  have h1 : cs.toList = [.int .i64 e, .int .u64 a] := hx
  rw [← h1]
theorem open_civil_cells {n : Nat} {cs : List Value} {y : DataW H × List MemPlace} (h : DataW.trod enc Try.prog w base spare held n 28 cs = some y) :
    ∃ x0 x1 x2 x3 x4 x5 x6 : Int, cs = [.int .i64 x0, .int .i64 x1, .int .i64 x2, .int .i64 x3, .int .i64 x4, .int .i64 x5, .int .u32 x6] ∧ (Lit.int .i64 x0).wf = true ∧ (Lit.int .i64 x1).wf = true ∧ (Lit.int .i64 x2).wf = true ∧ (Lit.int .i64 x3).wf = true ∧ (Lit.int .i64 x4).wf = true ∧ (Lit.int .i64 x5).wf = true ∧ (Lit.int .u32 x6).wf = true := by
  obtain ⟨ys, n', _, _, hlen, hyl, hf⟩ := DataW.trod_struct Try.underlying28 h
  rw [seven28] at hlen
  match cs, hlen with
  | [c0, c1, c2, c3, c4, c5, c6], _ =>
    match ys, hyl with
    | [y0, y1, y2, y3, y4, y5, y6], _ =>
      have g0 : DataW.trod enc Try.prog w base spare held n' 3 ((List.drop 0 [c0, c1, c2, c3, c4, c5, c6]).take (Try.prog.cellsOf 3)) = some y0 := hf 0 _ rfl
      have g1 : DataW.trod enc Try.prog w base spare held n' 3 ((List.drop 1 [c0, c1, c2, c3, c4, c5, c6]).take (Try.prog.cellsOf 3)) = some y1 := hf 1 _ rfl
      have g2 : DataW.trod enc Try.prog w base spare held n' 3 ((List.drop 2 [c0, c1, c2, c3, c4, c5, c6]).take (Try.prog.cellsOf 3)) = some y2 := hf 2 _ rfl
      have g3 : DataW.trod enc Try.prog w base spare held n' 3 ((List.drop 3 [c0, c1, c2, c3, c4, c5, c6]).take (Try.prog.cellsOf 3)) = some y3 := hf 3 _ rfl
      have g4 : DataW.trod enc Try.prog w base spare held n' 3 ((List.drop 4 [c0, c1, c2, c3, c4, c5, c6]).take (Try.prog.cellsOf 3)) = some y4 := hf 4 _ rfl
      have g5 : DataW.trod enc Try.prog w base spare held n' 3 ((List.drop 5 [c0, c1, c2, c3, c4, c5, c6]).take (Try.prog.cellsOf 3)) = some y5 := hf 5 _ rfl
      have g6 : DataW.trod enc Try.prog w base spare held n' 26 ((List.drop 6 [c0, c1, c2, c3, c4, c5, c6]).take (Try.prog.cellsOf 26)) = some y6 := hf 6 _ rfl
      rw [one3] at g0 g1 g2 g3 g4 g5
      rw [one26] at g6
      obtain ⟨n0, e0, _, w0⟩ := DataW.trod_int Try.underlying3 g0
      obtain ⟨n1, e1, _, w1⟩ := DataW.trod_int Try.underlying3 g1
      obtain ⟨n2, e2, _, w2⟩ := DataW.trod_int Try.underlying3 g2
      obtain ⟨n3, e3, _, w3⟩ := DataW.trod_int Try.underlying3 g3
      obtain ⟨n4, e4, _, w4⟩ := DataW.trod_int Try.underlying3 g4
      obtain ⟨n5, e5, _, w5⟩ := DataW.trod_int Try.underlying3 g5
      obtain ⟨n6, e6, _, w6⟩ := DataW.trod_int Try.underlying26 g6
      simp at e0 e1 e2 e3 e4 e5 e6
      subst e0 e1 e2 e3 e4 e5 e6
      exact ⟨n0, n1, n2, n3, n4, n5, n6, rfl, w0, w1, w2, w3, w4, w5, w6⟩
theorem open_civil {r : Reach} {b0 : Nat} {v : Value} {d : DataW H} {p : List MemPlace} (hv : Value.okWide Try.prog w r b0 28 v) (h : DataW.Trod enc Try.prog w base spare held 28 v d p) :
    ∃ x0 x1 x2 x3 x4 x5 x6 : Int, v = .agg #[.int .i64 x0, .int .i64 x1, .int .i64 x2, .int .i64 x3, .int .i64 x4, .int .i64 x5, .int .u32 x6] ∧ (Lit.int .i64 x0).wf = true ∧ (Lit.int .i64 x1).wf = true ∧ (Lit.int .i64 x2).wf = true ∧ (Lit.int .i64 x3).wf = true ∧ (Lit.int .i64 x4).wf = true ∧ (Lit.int .i64 x5).wf = true ∧ (Lit.int .u32 x6).wf = true := by
  obtain ⟨cs, rfl, hsz⟩ := okWide_struct Try.underlying28 hv
  obtain ⟨fuel, hf⟩ := h
  obtain ⟨x0, x1, x2, x3, x4, x5, x6, hx, hw⟩ := open_civil_cells hf
  refine ⟨x0, x1, x2, x3, x4, x5, x6, ?_, hw⟩
  congr 1
  have h1 : cs.toList = [.int .i64 x0, .int .i64 x1, .int .i64 x2, .int .i64 x3, .int .i64 x4, .int .i64 x5, .int .u32 x6] := hx
  rw [← h1]
end
end Go.Proofs.Ytbondhnhiinlbaa.Rw
end
