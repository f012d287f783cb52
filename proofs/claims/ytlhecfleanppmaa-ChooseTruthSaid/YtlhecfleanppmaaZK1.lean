/- Printed walks, packed. -/
import Derived.Test.YtlhecfleanppmaaZK0
import Derived.Test.YtlhecfleanppmaaZPrx12
section
namespace Go.Proofs.Ytlhecfleanppmaa.Pr
open Go.RowKit Go.Proofs.YtlhecfleanppmaaW.PrintWords Go.Proofs.YtlhecfleanppmaaW.PrintLast Go.Proofs.YtlhecfleanppmaaW.PrintMore
attribute [local go_sem] max2_int min2_int max_two min_two max_three min_three max_four min_four   -- for this text's walks alone
set_option linter.unusedVariables false
set_option linter.unusedSimpArgs false

/-! ### foliotref13_All: function 15 -/
mutual
def foliotref13_All.l0 : Nat → List (S54) → List (S26) → Int → Option ((List (S54)))
  | 0, _, _, _ => none
  | k + 1, x3, x4, x5 => if x5 < (x4.length : Int) then (if 0 ≤ x5 then ((foliotref13_down.f (wrap64 (((rd_T26 x4 x5).f1) - ((rd_T26 x4 x5).f2)))).bind fun t132 => ((foliotref13_down.f ((rd_T26 x4 x5).f1)).bind fun t134 => ((foliotref13_down.f (wrap64 (-(wrap64 (((rd_T26 x4 x5).f1) + ((rd_T26 x4 x5).f2)))))).bind fun t137 => (foliotref13_All.l1 k x3 x4 x5 (([(⟨t132, (-1)⟩ : S54), (⟨t134, 0⟩ : S54), (⟨wrap64 (-t137), 1⟩ : S54)] : List (S54))) 0)))) else (none)) else (some x3)
def foliotref13_All.l1 : Nat → List (S54) → List (S26) → Int → List (S54) → Int → Option ((List (S54)))
  | 0, _, _, _, _, _ => none
  | k + 1, x3, x4, x5, x6, x7 => if x7 < 3 then (foliotref13_All.l2 k x3 x4 x5 x6 x7 0) else (foliotref13_All.l0 k x3 x4 (wrap64 (x5 + 1)))
def foliotref13_All.l2 : Nat → List (S54) → List (S26) → Int → List (S54) → Int → Int → Option ((List (S54)))
  | 0, _, _, _, _, _, _ => none
  | k + 1, x3, x4, x5, x6, x7, x8 => if x8 < (x3.length : Int) then (if 0 ≤ x7 then (if x7 < (x6.length : Int) then (if 0 ≤ x8 then ((foliotref13_less.f ((rd_T54 x6 x7).f0) ((rd_T54 x6 x7).f1) ((rd_T54 x3 x8).f0) ((rd_T54 x3 x8).f1)).bind fun t143 => (if t143 = true then ((some (([] : List (S54)) : List (S54))).bind fun y144 => (if x8 ≤ (x3.length : Int) then ((some (x3.take (x8 : Int).toNat : List (S54))).bind fun y147 => (if y144.length + y147.length < 8796093022208 then ((some (y144 ++ y147 : List (S54))).bind fun y151 => (if y151.length < 8796093022208 then ((some (y151 ++ [(⟨(rd_T54 x6 x7).f0, (rd_T54 x6 x7).f1⟩ : S54)] : List (S54))).bind fun y155 => ((some (x3.drop (x8 : Int).toNat : List (S54))).bind fun y158 => (if y155.length + y158.length < 8796093022208 then (foliotref13_All.l1 k (y155 ++ y158) x4 x5 x6 (wrap64 (x7 + 1))) else (none)))) else (none))) else (none))) else (none))) else (foliotref13_All.l2 k x3 x4 x5 x6 x7 (wrap64 (x8 + 1))))) else (none)) else (none)) else (none)) else ((some (([] : List (S54)) : List (S54))).bind fun y165 => (if 0 ≤ x8 then (if x8 ≤ (x3.length : Int) then ((some (x3.take (x8 : Int).toNat : List (S54))).bind fun y168 => (if y165.length + y168.length < 8796093022208 then ((some (y165 ++ y168 : List (S54))).bind fun y172 => (if 0 ≤ x7 then (if x7 < (x6.length : Int) then (if y172.length < 8796093022208 then ((some (y172 ++ [(⟨(rd_T54 x6 x7).f0, (rd_T54 x6 x7).f1⟩ : S54)] : List (S54))).bind fun y176 => ((some (x3.drop (x8 : Int).toNat : List (S54))).bind fun y179 => (if y176.length + y179.length < 8796093022208 then (foliotref13_All.l1 k (y176 ++ y179) x4 x5 x6 (wrap64 (x7 + 1))) else (none)))) else (none)) else (none)) else (none))) else (none))) else (none)) else (none)))
end
def foliotref13_All.f (k : Nat) (l0 : List (S26)) : Option ((List (S54))) := (foliotref13_those.f k l0).bind fun t127 => (foliotref13_All.l0 k (([] : List (S54))) t127 0)
theorem foliotref13_All.mono_l : ∀ k, (∀ y0 y1 y2, LeO (foliotref13_All.l0 k y0 y1 y2) (foliotref13_All.l0 (k + 1) y0 y1 y2)) ∧ (∀ y0 y1 y2 y3 y4, LeO (foliotref13_All.l1 k y0 y1 y2 y3 y4) (foliotref13_All.l1 (k + 1) y0 y1 y2 y3 y4)) ∧ (∀ y0 y1 y2 y3 y4 y5, LeO (foliotref13_All.l2 k y0 y1 y2 y3 y4 y5) (foliotref13_All.l2 (k + 1) y0 y1 y2 y3 y4 y5))
  | 0 => ⟨fun _ _ _ r h => by simp [foliotref13_All.l0] at h, fun _ _ _ _ _ r h => by simp [foliotref13_All.l1] at h, fun _ _ _ _ _ _ r h => by simp [foliotref13_All.l2] at h⟩
  | k + 1 => by
    obtain ⟨ih0, ih1, ih2⟩ := foliotref13_All.mono_l k
    refine ⟨?_, ?_, ?_⟩
    · intro y0 y1 y2
      unfold foliotref13_All.l0
      repeat' first
      | (with_reducible exact ih0 _ _ _)
      | (with_reducible exact ih1 _ _ _ _ _)
      | (with_reducible exact ih2 _ _ _ _ _ _)
      | (with_reducible exact foliotref13_those.mono _ _)
      | (with_reducible exact LeO.refl _)
      | (with_reducible exact LeO.none _)
      | (with_reducible refine LeO.ite ?_ ?_)
      | (with_reducible refine LeO.bind ?_ (fun _ => ?_))
      | exact ih0 _ _ _
      | exact ih1 _ _ _ _ _
      | exact ih2 _ _ _ _ _ _
      | exact foliotref13_those.mono _ _
      | exact LeO.none _
      | refine LeO.ite ?_ ?_
      | refine LeO.bind ?_ (fun _ => ?_)
    · intro y0 y1 y2 y3 y4
      unfold foliotref13_All.l1
      repeat' first
      | (with_reducible exact ih0 _ _ _)
      | (with_reducible exact ih1 _ _ _ _ _)
      | (with_reducible exact ih2 _ _ _ _ _ _)
      | (with_reducible exact foliotref13_those.mono _ _)
      | (with_reducible exact LeO.refl _)
      | (with_reducible exact LeO.none _)
      | (with_reducible refine LeO.ite ?_ ?_)
      | (with_reducible refine LeO.bind ?_ (fun _ => ?_))
      | exact ih0 _ _ _
      | exact ih1 _ _ _ _ _
      | exact ih2 _ _ _ _ _ _
      | exact foliotref13_those.mono _ _
      | exact LeO.none _
      | refine LeO.ite ?_ ?_
      | refine LeO.bind ?_ (fun _ => ?_)
    · intro y0 y1 y2 y3 y4 y5
      unfold foliotref13_All.l2
      repeat' first
      | (with_reducible exact ih0 _ _ _)
      | (with_reducible exact ih1 _ _ _ _ _)
      | (with_reducible exact ih2 _ _ _ _ _ _)
      | (with_reducible exact foliotref13_those.mono _ _)
      | (with_reducible exact LeO.refl _)
      | (with_reducible exact LeO.none _)
      | (with_reducible refine LeO.ite ?_ ?_)
      | (with_reducible refine LeO.bind ?_ (fun _ => ?_))
      | exact ih0 _ _ _
      | exact ih1 _ _ _ _ _
      | exact ih2 _ _ _ _ _ _
      | exact foliotref13_those.mono _ _
      | exact LeO.none _
      | refine LeO.ite ?_ ?_
      | refine LeO.bind ?_ (fun _ => ?_)
theorem foliotref13_All.mono : ∀ a0 k, LeO (foliotref13_All.f k a0) (foliotref13_All.f (k + 1) a0) := by
  intro a0 k
  obtain ⟨ih0, ih1, ih2⟩ := foliotref13_All.mono_l k
  unfold foliotref13_All.f
  repeat' first
      | (with_reducible exact ih0 _ _ _)
      | (with_reducible exact ih1 _ _ _ _ _)
      | (with_reducible exact ih2 _ _ _ _ _ _)
      | (with_reducible exact foliotref13_those.mono _ _)
      | (with_reducible exact LeO.refl _)
      | (with_reducible exact LeO.none _)
      | (with_reducible refine LeO.ite ?_ ?_)
      | (with_reducible refine LeO.bind ?_ (fun _ => ?_))
      | exact ih0 _ _ _
      | exact ih1 _ _ _ _ _
      | exact ih2 _ _ _ _ _ _
      | exact foliotref13_those.mono _ _
      | exact LeO.none _
      | refine LeO.ite ?_ ?_
      | refine LeO.bind ?_ (fun _ => ?_)
def foliotref13_All.T6 : Bool × List (List Nat × List Nat) := (true, [([], []), ([], []), ([0, 1], [0, 1]), ([2], [2]), ([3], [3]), ([], []), ([], []), ([5, 6], [5, 6]), ([7], [7]), ([8], [8]), ([4, 9], [4, 9]), ([10], [10]), ([11], [11]), ([], []), ([], []), ([13, 14], [13, 14]), ([15], [15]), ([16], [16]), ([17, 11], [17]), ([18], [18]), ([], []), ([], []), ([20, 21], [20, 21]), ([22], [22]), ([23], [23]), ([], []), ([], []), ([25, 26], [25, 26]), ([27], [27]), ([28], [28]), ([24, 29], [24, 29]), ([30], [30]), ([31, 18], [31]), ([32], [32]), ([33], [33]), ([12, 19, 34], [12, 19, 34]), ([35, 32, 0, 1, 2, 3, 4, 5, 6, 7, 8, 9, 10, 11, 12, 13, 14, 15, 16, 17, 18, 19, 20, 21, 22, 23, 24, 25, 26, 27, 28, 29, 30, 31, 32, 33, 34, 35], [35])])
def foliotref13_All.B6 : List Nat := [0, 0, 3, 7, 15, 0, 0, 96, 224, 480, 1023, 2047, 4095, 0, 0, 24576, 57344, 122880, 258047, 520191, 0, 0, 3145728, 7340032, 15728640, 0, 0, 100663296, 234881024, 503316480, 1072693248, 2146435072, 4294438911, 8589406207, 17179340799, 34359738367, 68719476735]
theorem foliotref13_All.tab6 : rtab .any (opsOf Try.f15 6) = foliotref13_All.T6 := by kernel_rfl
theorem foliotref13_All.bits6 : waitsOk foliotref13_All.T6.2 foliotref13_All.B6 = true := by kernel_rfl
def foliotref13_All.T11 : Bool × List (List Nat × List Nat) := (true, [([], []), ([], []), ([1], [1]), ([0, 2], [0, 2]), ([3], [3]), ([4], [4]), ([4], [4]), ([5, 6, 4], [4, 5, 6]), ([7, 4], [4, 7]), ([4], [4]), ([4], [4]), ([9, 10, 4], [4, 9, 10]), ([11, 4], [4, 11]), ([8, 12, 4, 4], [4, 8, 12]), ([13, 4], [4, 13]), ([4, 14], [4, 14])])
def foliotref13_All.B11 : List Nat := [0, 0, 2, 7, 15, 31, 31, 127, 255, 31, 31, 1567, 3615, 8191, 16383, 32767]
theorem foliotref13_All.tab11 : rtab .any (opsOf Try.f15 11) = foliotref13_All.T11 := by kernel_rfl
theorem foliotref13_All.bits11 : waitsOk foliotref13_All.T11.2 foliotref13_All.B11 = true := by kernel_rfl
set_option maxHeartbeats 8000000 in
set_option maxRecDepth 100000 in
theorem foliotref13_All.calls (k : Nat) (A0 : Option Addr) (c0 : Nat) (l0 : List (S26)) (r : List (S54)) (w : World) (hr0 : Kd.C k26 w A0 l0.length l0) (hc0 : l0.length ≤ c0) (h : foliotref13_All.f k l0 = some r) :
    Calls Try.prog 15 #[.slice A0 l0.length c0] w fun e w' => ∃ v0_ : Value, e = .returned (v0_) ∧ Kd.R k54 54 w' w.heap.size (fun _ => True) v0_ r ∧ Below w.heap.size w w' := by
  have hu54 := Try.underlying54
  have HR0 := Aside0.mk hr0
  have HC0 := Aside0.mk hc0
  clear hr0 hc0
  have HB := Aside0.mk (Below.refl w.heap.size w)
  have H : ((foliotref13_those.f k l0).bind fun t127 => (foliotref13_All.l0 k (([] : List (S54))) t127 0)) = some r := h
  clear h
  obtain ⟨y124, hy124⟩ : ∃ y_ : List (S54), y_ = (([] : List (S54))) := ⟨_, rfl⟩
  replace H : ((foliotref13_those.f k l0).bind fun t127 => (foliotref13_All.l0 k y124 t127 0)) = some r := by first | (rw [hy124]; with_reducible exact H) | (have H2_ := (Option.bind_some _ _).symm.trans H; rw [hy124]; with_reducible exact H2_) | (have H2_ := (Option.bind_some _ _).symm.trans H; with_reducible exact H2_) | with_reducible exact H | (rw [hy124]; exact H) | exact H
  have Ny124 := Aside0.mk hy124
  clear hy124
  replace H := Option.bind_eq_some_iff.mp H
  obtain ⟨t127, A20, H⟩ := H
  replace H : (foliotref13_All.l0 k y124 t127 0) = some r := H
  have A2 := Aside0.mk A20
  clear A20
  have H' := Aside0.mk H
  clear H
  go_enter Try.func15, Try.ntmps15
  go_wp2_with (first | ((with_reducible refine gate_dst (N := 10) rfl ?_); refine Kd.R_lit k54 _ 54 ?hg (N := 10) ?hd (xs := ([] : List (S54))) (inner := []) (ok := fun _ => True) (okp := fun _ => True) ?hr ?hp (fun _ hk => hk) trivial (Below.refl _ _) (Nat.le_refl _) (by simp) ?_; (case hd => rfl); (case hg => rfl); (case hr => first | (go_simp; done) | (go_simp; rfl)); (case hp => exact (Reps.none _ _)); intro v125 w3 ho4 hb hg_ hnew_; clear hg_ hnew_; (first | rw [← Ny124.out] at ho4 | (simp only [Int.reduceToNat] at ho4; rw [← Ny124.out] at ho4)); have n0_ := Aside0.mk (Kd.R_lower ho4 (below_size (by repeat (first | (with_reducible first | exact HB.out | apply below_alloc | apply pw_below_drewN | apply below_drew1) | exact HB.out)))); have n1_ := Aside0.mk (below_step (by repeat (first | (with_reducible first | exact HB.out | apply below_alloc | apply pw_below_drewN | apply below_drew1) | exact HB.out)) hb); clear HB; have HO126 := n0_; have HB := n1_; clear n0_ n1_; clear hb ho4) | ((with_reducible refine gate_callee (f := 30) rfl ?_); refine goesL_ (some 12) rfl rfl Try.func30 (by kernel_rfl) rfl #[.slice A0 l0.length c0] rfl (by (try simp only [List.map_toArray, List.map_cons, List.map_nil]); first | done | rfl | (simp only [List.length_drop, List.length_take]; rfl)) ?_; (with_reducible refine (foliotref13_those.calls k _ _ l0 t127 _ ?side1 ?side2 A2.out).mono ?_); (case side1 => repeat (first | exact (Kd.C_below HR0.out HB.out) | (with_reducible refine Kd.C_alloc ?_ _) | (with_reducible refine Kd.C_drewN ?_ _) | (with_reducible refine Kd.C_drew ?_))); (case side2 => exact HC0.out); rintro e w5 ⟨v128, rfl, ho0, hb⟩; refine ⟨_, rfl, ?_⟩; have n0_ := Aside0.mk (Kd.R_below (by (with_reducible repeat (first | apply Kd.R_alloc | apply Kd.R_drewN | apply Kd.R_drew)); exact HO126.out) hb); have n1_ := Aside0.mk (Kd.R_lower ho0 (below_size (by repeat (first | (with_reducible first | exact HB.out | apply below_alloc | apply pw_below_drewN | apply below_drew1) | exact HB.out)))); have n2_ := Aside0.mk (below_step (by repeat (first | (with_reducible first | exact HB.out | apply below_alloc | apply pw_below_drewN | apply below_drew1) | exact HB.out)) hb); clear HO126; clear HB; have HO126 := n0_; have HO129 := n1_; have HB := n2_; clear n0_ n1_ n2_; (try clear hb); (try clear hb2); (try clear hk); (try clear hi); (try clear ho0)))
  go_loopg [3, 5] k (fun kq v3 v5 w' => ∃ (x3_1 : List (S54)) (x5_1 : Int), v5 = .int .i64 x5_1 ∧ Aside0 (foliotref13_All.l0 kq x3_1 t127 x5_1 = some r) ∧ Aside0 (kq ≤ k) ∧ Aside0 (Kd.R k54 54 w' w.heap.size (fun _ => True) v3 x3_1) ∧ Aside0 (Kd.R k26 26 w' w.heap.size (fun _ => True) v128 t127) ∧ Aside0 (Below w.heap.size w w'))
  case atStart => exact ⟨(y124), (0), (by first | rfl | (simp; done) | (simp [*]; done)), H', ⟨Nat.le_refl _⟩, ⟨by (with_reducible repeat (first | apply Kd.R_alloc | apply Kd.R_drewN | apply Kd.R_drew)); exact HO126.out⟩, ⟨by (with_reducible repeat (first | apply Kd.R_alloc | apply Kd.R_drewN | apply Kd.R_drew)); exact HO129.out⟩, ⟨by repeat (first | (with_reducible first | exact HB.out | apply below_alloc | apply pw_below_drewN | apply below_drew1) | exact HB.out)⟩⟩
  case round =>
    clear H'
    try clear c1
    try clear p2
    try clear c3
    obtain ⟨x3_1, x5_1, rfl, HA, HK1, HO_3, HO_4, HB⟩ := hrel
    cases gk with
    | zero => exact absurd HA.out (by simp [foliotref13_All.l0])
    | succ k1 =>
      have H := HA.out
      clear HA
      simp only [foliotref13_All.l0] at H
      by_cases c6 : x5_1 < (t127.length : Int)
      · rw [if_pos c6] at H
        have c6b0 : decide (x5_1 < (t127.length : Int)) = true := decide_eq_true c6
        clear c6
        by_cases c7 : 0 ≤ x5_1
        · rw [if_pos c7] at H
          have c7b0 : decide (0 ≤ x5_1) = true := decide_eq_true c7
          clear c7
          replace H := Option.bind_eq_some_iff.mp H
          obtain ⟨t132, A80, H⟩ := H
          replace H : ((foliotref13_down.f ((rd_T26 t127 x5_1).f1)).bind fun t134 => ((foliotref13_down.f (wrap64 (-(wrap64 (((rd_T26 t127 x5_1).f1) + ((rd_T26 t127 x5_1).f2)))))).bind fun t137 => (foliotref13_All.l1 k1 x3_1 t127 x5_1 (([(⟨t132, (-1)⟩ : S54), (⟨t134, 0⟩ : S54), (⟨wrap64 (-t137), 1⟩ : S54)] : List (S54))) 0))) = some r := H
          have A8 := Aside0.mk A80
          clear A80
          replace H := Option.bind_eq_some_iff.mp H
          obtain ⟨t134, A90, H⟩ := H
          replace H : ((foliotref13_down.f (wrap64 (-(wrap64 (((rd_T26 t127 x5_1).f1) + ((rd_T26 t127 x5_1).f2)))))).bind fun t137 => (foliotref13_All.l1 k1 x3_1 t127 x5_1 (([(⟨t132, (-1)⟩ : S54), (⟨t134, 0⟩ : S54), (⟨wrap64 (-t137), 1⟩ : S54)] : List (S54))) 0)) = some r := H
          have A9 := Aside0.mk A90
          clear A90
          replace H := Option.bind_eq_some_iff.mp H
          obtain ⟨t137, A100, H⟩ := H
          replace H : (foliotref13_All.l1 k1 x3_1 t127 x5_1 (([(⟨t132, (-1)⟩ : S54), (⟨t134, 0⟩ : S54), (⟨wrap64 (-t137), 1⟩ : S54)] : List (S54))) 0) = some r := H
          have A10 := Aside0.mk A100
          clear A100
          obtain ⟨y138, hy138⟩ : ∃ y_ : List (S54), y_ = (([(⟨t132, (-1)⟩ : S54), (⟨t134, 0⟩ : S54), (⟨wrap64 (-t137), 1⟩ : S54)] : List (S54))) := ⟨_, rfl⟩
          replace H : (foliotref13_All.l1 k1 x3_1 t127 x5_1 y138 0) = some r := by first | (rw [hy138]; with_reducible exact H) | (have H2_ := (Option.bind_some _ _).symm.trans H; rw [hy138]; with_reducible exact H2_) | (have H2_ := (Option.bind_some _ _).symm.trans H; with_reducible exact H2_) | with_reducible exact H | (rw [hy138]; exact H) | exact H
          have Ny138 := Aside0.mk hy138
          clear hy138
          have H' := Aside0.mk H
          clear H
          obtain ⟨Ao11, co11, eo11⟩ := Kd.R_slice HO_4.out
          subst eo11
          try go_wp2
          have n0_ := Aside0.mk (Kd.R_drew HO_3.out)
          have n1_ := Aside0.mk (Kd.R_drew HO_4.out)
          have n2_ := Aside0.mk (below_drew1 HB.out)
          clear HO_3
          clear HO_4
          clear HB
          have HO_3 := n0_
          have HO_4 := n1_
          have HB := n2_
          clear n0_ n1_ n2_
          have p130 : 0 ≤ (x5_1 : Int) := of_decide_eq_true (by first | (with_reducible assumption) | assumption)
          have q130 : x5_1 < (t127.length : Int) := of_decide_eq_true (by first | (with_reducible assumption) | assumption)
          obtain ⟨ad130, e130, hx130_0, hx130_1, hx130_2, hx130_3, hx130_4, hx130_5, hx130_6⟩ := at_T26 (Kd.R_reads' HO_4.out).2.2 x5_1 p130 q130
          cases e130
          replace p130 := eq_true p130
          replace q130 := eq_true q130
          have p131 : 0 ≤ (x5_1 : Int) := of_decide_eq_true (by first | (with_reducible assumption) | assumption)
          have q131 : x5_1 < (t127.length : Int) := of_decide_eq_true (by first | (with_reducible assumption) | assumption)
          obtain ⟨ad131, e131, hx131_0, hx131_1, hx131_2, hx131_3, hx131_4, hx131_5, hx131_6⟩ := at_T26 (Kd.R_reads' HO_4.out).2.2 x5_1 p131 q131
          obtain rfl : ad130 = ad131 := (by injection e131)
          replace p131 := eq_true p131
          replace q131 := eq_true q131
          have p133 : 0 ≤ (x5_1 : Int) := of_decide_eq_true (by first | (with_reducible assumption) | assumption)
          have q133 : x5_1 < (t127.length : Int) := of_decide_eq_true (by first | (with_reducible assumption) | assumption)
          obtain ⟨ad133, e133, hx133_0, hx133_1, hx133_2, hx133_3, hx133_4, hx133_5, hx133_6⟩ := at_T26 (Kd.R_reads' HO_4.out).2.2 x5_1 p133 q133
          obtain rfl : ad130 = ad133 := (by injection e133)
          replace p133 := eq_true p133
          replace q133 := eq_true q133
          have p135 : 0 ≤ (x5_1 : Int) := of_decide_eq_true (by first | (with_reducible assumption) | assumption)
          have q135 : x5_1 < (t127.length : Int) := of_decide_eq_true (by first | (with_reducible assumption) | assumption)
          obtain ⟨ad135, e135, hx135_0, hx135_1, hx135_2, hx135_3, hx135_4, hx135_5, hx135_6⟩ := at_T26 (Kd.R_reads' HO_4.out).2.2 x5_1 p135 q135
          obtain rfl : ad130 = ad135 := (by injection e135)
          replace p135 := eq_true p135
          replace q135 := eq_true q135
          have p136 : 0 ≤ (x5_1 : Int) := of_decide_eq_true (by first | (with_reducible assumption) | assumption)
          have q136 : x5_1 < (t127.length : Int) := of_decide_eq_true (by first | (with_reducible assumption) | assumption)
          obtain ⟨ad136, e136, hx136_0, hx136_1, hx136_2, hx136_3, hx136_4, hx136_5, hx136_6⟩ := at_T26 (Kd.R_reads' HO_4.out).2.2 x5_1 p136 q136
          obtain rfl : ad130 = ad136 := (by injection e136)
          replace p136 := eq_true p136
          replace q136 := eq_true q136
          refine start_ (n := 37) (S := fun w' => w'.cell? (ad130.add ((x5_1).toNat * 7)) = some (.int .i64 ((rd_T26 t127 x5_1).f0)) ∧ w'.cell? ⟨(ad130.add ((x5_1).toNat * 7)).block, (ad130.add ((x5_1).toNat * 7)).off + 1, none⟩ = some (.int .i64 ((rd_T26 t127 x5_1).f1)) ∧ w'.cell? ⟨(ad130.add ((x5_1).toNat * 7)).block, (ad130.add ((x5_1).toNat * 7)).off + 2, none⟩ = some (.int .i64 ((rd_T26 t127 x5_1).f2)) ∧ w'.cell? ⟨(ad130.add ((x5_1).toNat * 7)).block, (ad130.add ((x5_1).toNat * 7)).off + 3, none⟩ = some (.int .i64 ((rd_T26 t127 x5_1).f3)) ∧ w'.cell? ⟨(ad130.add ((x5_1).toNat * 7)).block, (ad130.add ((x5_1).toNat * 7)).off + 4, none⟩ = some (.int .i64 ((rd_T26 t127 x5_1).f4)) ∧ w'.cell? ⟨(ad130.add ((x5_1).toNat * 7)).block, (ad130.add ((x5_1).toNat * 7)).off + 5, none⟩ = some (.bool ((rd_T26 t127 x5_1).f5)) ∧ w'.cell? ⟨(ad130.add ((x5_1).toNat * 7)).block, (ad130.add ((x5_1).toNat * 7)).off + 6, none⟩ = some (.bool ((rd_T26 t127 x5_1).f6)) ∧ w'.cell? (ad130.add ((x5_1).toNat * 7)) = some (.int .i64 ((rd_T26 t127 x5_1).f0)) ∧ w'.cell? ⟨(ad130.add ((x5_1).toNat * 7)).block, (ad130.add ((x5_1).toNat * 7)).off + 1, none⟩ = some (.int .i64 ((rd_T26 t127 x5_1).f1)) ∧ w'.cell? ⟨(ad130.add ((x5_1).toNat * 7)).block, (ad130.add ((x5_1).toNat * 7)).off + 2, none⟩ = some (.int .i64 ((rd_T26 t127 x5_1).f2)) ∧ w'.cell? ⟨(ad130.add ((x5_1).toNat * 7)).block, (ad130.add ((x5_1).toNat * 7)).off + 3, none⟩ = some (.int .i64 ((rd_T26 t127 x5_1).f3)) ∧ w'.cell? ⟨(ad130.add ((x5_1).toNat * 7)).block, (ad130.add ((x5_1).toNat * 7)).off + 4, none⟩ = some (.int .i64 ((rd_T26 t127 x5_1).f4)) ∧ w'.cell? ⟨(ad130.add ((x5_1).toNat * 7)).block, (ad130.add ((x5_1).toNat * 7)).off + 5, none⟩ = some (.bool ((rd_T26 t127 x5_1).f5)) ∧ w'.cell? ⟨(ad130.add ((x5_1).toNat * 7)).block, (ad130.add ((x5_1).toNat * 7)).off + 6, none⟩ = some (.bool ((rd_T26 t127 x5_1).f6)) ∧ w'.cell? (ad130.add ((x5_1).toNat * 7)) = some (.int .i64 ((rd_T26 t127 x5_1).f0)) ∧ w'.cell? ⟨(ad130.add ((x5_1).toNat * 7)).block, (ad130.add ((x5_1).toNat * 7)).off + 1, none⟩ = some (.int .i64 ((rd_T26 t127 x5_1).f1)) ∧ w'.cell? ⟨(ad130.add ((x5_1).toNat * 7)).block, (ad130.add ((x5_1).toNat * 7)).off + 2, none⟩ = some (.int .i64 ((rd_T26 t127 x5_1).f2)) ∧ w'.cell? ⟨(ad130.add ((x5_1).toNat * 7)).block, (ad130.add ((x5_1).toNat * 7)).off + 3, none⟩ = some (.int .i64 ((rd_T26 t127 x5_1).f3)) ∧ w'.cell? ⟨(ad130.add ((x5_1).toNat * 7)).block, (ad130.add ((x5_1).toNat * 7)).off + 4, none⟩ = some (.int .i64 ((rd_T26 t127 x5_1).f4)) ∧ w'.cell? ⟨(ad130.add ((x5_1).toNat * 7)).block, (ad130.add ((x5_1).toNat * 7)).off + 5, none⟩ = some (.bool ((rd_T26 t127 x5_1).f5)) ∧ w'.cell? ⟨(ad130.add ((x5_1).toNat * 7)).block, (ad130.add ((x5_1).toNat * 7)).off + 6, none⟩ = some (.bool ((rd_T26 t127 x5_1).f6)) ∧ w'.cell? (ad130.add ((x5_1).toNat * 7)) = some (.int .i64 ((rd_T26 t127 x5_1).f0)) ∧ w'.cell? ⟨(ad130.add ((x5_1).toNat * 7)).block, (ad130.add ((x5_1).toNat * 7)).off + 1, none⟩ = some (.int .i64 ((rd_T26 t127 x5_1).f1)) ∧ w'.cell? ⟨(ad130.add ((x5_1).toNat * 7)).block, (ad130.add ((x5_1).toNat * 7)).off + 2, none⟩ = some (.int .i64 ((rd_T26 t127 x5_1).f2)) ∧ w'.cell? ⟨(ad130.add ((x5_1).toNat * 7)).block, (ad130.add ((x5_1).toNat * 7)).off + 3, none⟩ = some (.int .i64 ((rd_T26 t127 x5_1).f3)) ∧ w'.cell? ⟨(ad130.add ((x5_1).toNat * 7)).block, (ad130.add ((x5_1).toNat * 7)).off + 4, none⟩ = some (.int .i64 ((rd_T26 t127 x5_1).f4)) ∧ w'.cell? ⟨(ad130.add ((x5_1).toNat * 7)).block, (ad130.add ((x5_1).toNat * 7)).off + 5, none⟩ = some (.bool ((rd_T26 t127 x5_1).f5)) ∧ w'.cell? ⟨(ad130.add ((x5_1).toNat * 7)).block, (ad130.add ((x5_1).toNat * 7)).off + 6, none⟩ = some (.bool ((rd_T26 t127 x5_1).f6)) ∧ w'.cell? (ad130.add ((x5_1).toNat * 7)) = some (.int .i64 ((rd_T26 t127 x5_1).f0)) ∧ w'.cell? ⟨(ad130.add ((x5_1).toNat * 7)).block, (ad130.add ((x5_1).toNat * 7)).off + 1, none⟩ = some (.int .i64 ((rd_T26 t127 x5_1).f1)) ∧ w'.cell? ⟨(ad130.add ((x5_1).toNat * 7)).block, (ad130.add ((x5_1).toNat * 7)).off + 2, none⟩ = some (.int .i64 ((rd_T26 t127 x5_1).f2)) ∧ w'.cell? ⟨(ad130.add ((x5_1).toNat * 7)).block, (ad130.add ((x5_1).toNat * 7)).off + 3, none⟩ = some (.int .i64 ((rd_T26 t127 x5_1).f3)) ∧ w'.cell? ⟨(ad130.add ((x5_1).toNat * 7)).block, (ad130.add ((x5_1).toNat * 7)).off + 4, none⟩ = some (.int .i64 ((rd_T26 t127 x5_1).f4)) ∧ w'.cell? ⟨(ad130.add ((x5_1).toNat * 7)).block, (ad130.add ((x5_1).toNat * 7)).off + 5, none⟩ = some (.bool ((rd_T26 t127 x5_1).f5)) ∧ w'.cell? ⟨(ad130.add ((x5_1).toNat * 7)).block, (ad130.add ((x5_1).toNat * 7)).off + 6, none⟩ = some (.bool ((rd_T26 t127 x5_1).f6))) (ds := []) #[false, false, false, false, false, false, false, false, false, false, false, false, false, false, false, false, false, false, false, false, false, false, false, false, false, false, false, false, false, false, false, false, false, false, false, false, false] (by kernel_rfl) rfl rfl ⟨hx130_0, hx130_1, hx130_2, hx130_3, hx130_4, hx130_5, hx130_6, hx131_0, hx131_1, hx131_2, hx131_3, hx131_4, hx131_5, hx131_6, hx133_0, hx133_1, hx133_2, hx133_3, hx133_4, hx133_5, hx133_6, hx135_0, hx135_1, hx135_2, hx135_3, hx135_4, hx135_5, hx135_6, hx136_0, hx136_1, hx136_2, hx136_3, hx136_4, hx136_5, hx136_6⟩ (fun hHeld => ?_); refine with_tabW foliotref13_All.tab6 foliotref13_All.bits6 (fun HT_ HW_ => ?_)
          generalize wr.drew = w12 at HO_3 HO_4 HB hx130_0 hx130_1 hx130_2 hx130_3 hx130_4 hx130_5 hx130_6 hx131_0 hx131_1 hx131_2 hx131_3 hx131_4 hx131_5 hx131_6 hx133_0 hx133_1 hx133_2 hx133_3 hx133_4 hx133_5 hx133_6 hx135_0 hx135_1 hx135_2 hx135_3 hx135_4 hx135_5 hx135_6 hx136_0 hx136_1 hx136_2 hx136_3 hx136_4 hx136_5 hx136_6 hHeld ⊢
          refine pure_ (i := 0) (N := some 19) (v := ?_) (a' := ?_) #[true, false, false, false, false, false, false, false, false, false, false, false, false, false, false, false, false, false, false, false, false, false, false, false, false, false, false, false, false, false, false, false, false, false, false, false, false] rfl rfl (any_of HT_.out (by kernel_rfl)) (fun _ _ _ h => h) (Or.inl ⟨by rfl, ?_⟩) ?_ ?_
          rotate_left
          · intro w'
            go_simp
            with_reducible rfl
          rotate_left
          · simp only [Act.put, List.setIfInBounds_toArray, List.set_cons_zero, List.set_cons_succ, i64_w, i32_w]
            rfl
          refine pure_ (i := 1) (N := some 20) (v := ?_) (a' := ?_) #[true, true, false, false, false, false, false, false, false, false, false, false, false, false, false, false, false, false, false, false, false, false, false, false, false, false, false, false, false, false, false, false, false, false, false, false, false] rfl rfl (any_of HT_.out (by kernel_rfl)) (fun _ _ _ h => h) (Or.inl ⟨by rfl, ?_⟩) ?_ ?_
          rotate_left
          · intro w'
            go_simp
            with_reducible rfl
          rotate_left
          · simp only [Act.put, List.setIfInBounds_toArray, List.set_cons_zero, List.set_cons_succ, i64_w, i32_w]
            rfl
          refine pure_ (i := 2) (N := some 21) (v := ?_) (a' := ?_) #[true, true, true, false, false, false, false, false, false, false, false, false, false, false, false, false, false, false, false, false, false, false, false, false, false, false, false, false, false, false, false, false, false, false, false, false, false] rfl rfl (any_of HT_.out (by kernel_rfl)) (fun _ _ _ h => h) (Or.inl ⟨by rfl, ?_⟩) ?_ ?_
          rotate_left
          · intro w'
            go_simp
            with_reducible rfl
          rotate_left
          · simp only [Act.put, List.setIfInBounds_toArray, List.set_cons_zero, List.set_cons_succ, i64_w, i32_w]
            rfl
          refine pure_ (i := 3) (N := some 22) (v := ?_) (a' := ?_) #[true, true, true, true, false, false, false, false, false, false, false, false, false, false, false, false, false, false, false, false, false, false, false, false, false, false, false, false, false, false, false, false, false, false, false, false, false] rfl rfl (any_of HT_.out (by kernel_rfl)) (fun _ _ _ h => h) (Or.inl ⟨by rfl, ?_⟩) ?_ ?_
          rotate_left
          · intro w'
            go_simp
            with_reducible rfl
          rotate_left
          · simp only [Act.put, List.setIfInBounds_toArray, List.set_cons_zero, List.set_cons_succ, i64_w, i32_w]
            rfl
          refine pure_ (i := 5) (N := some 24) (v := ?_) (a' := ?_) #[true, true, true, true, false, true, false, false, false, false, false, false, false, false, false, false, false, false, false, false, false, false, false, false, false, false, false, false, false, false, false, false, false, false, false, false, false] rfl rfl (any_of HT_.out (by kernel_rfl)) (fun _ _ _ h => h) (Or.inl ⟨by rfl, ?_⟩) ?_ ?_
          rotate_left
          · intro w'
            go_simp
            with_reducible rfl
          rotate_left
          · simp only [Act.put, List.setIfInBounds_toArray, List.set_cons_zero, List.set_cons_succ, i64_w, i32_w]
            rfl
          refine pure_ (i := 6) (N := some 25) (v := ?_) (a' := ?_) #[true, true, true, true, false, true, true, false, false, false, false, false, false, false, false, false, false, false, false, false, false, false, false, false, false, false, false, false, false, false, false, false, false, false, false, false, false] rfl rfl (any_of HT_.out (by kernel_rfl)) (fun _ _ _ h => h) (Or.inl ⟨by rfl, ?_⟩) ?_ ?_
          rotate_left
          · intro w'
            go_simp
            with_reducible rfl
          rotate_left
          · simp only [Act.put, List.setIfInBounds_toArray, List.set_cons_zero, List.set_cons_succ, i64_w, i32_w]
            rfl
          refine pure_ (i := 7) (N := some 26) (v := ?_) (a' := ?_) #[true, true, true, true, false, true, true, true, false, false, false, false, false, false, false, false, false, false, false, false, false, false, false, false, false, false, false, false, false, false, false, false, false, false, false, false, false] rfl rfl (any_of HT_.out (by kernel_rfl)) (fun _ _ _ h => h) (Or.inl ⟨by rfl, ?_⟩) ?_ ?_
          rotate_left
          · intro w'
            go_simp
            with_reducible rfl
          rotate_left
          · simp only [Act.put, List.setIfInBounds_toArray, List.set_cons_zero, List.set_cons_succ, i64_w, i32_w]
            rfl
          refine pure_ (i := 8) (N := some 27) (v := ?_) (a' := ?_) #[true, true, true, true, false, true, true, true, true, false, false, false, false, false, false, false, false, false, false, false, false, false, false, false, false, false, false, false, false, false, false, false, false, false, false, false, false] rfl rfl (any_of HT_.out (by kernel_rfl)) (fun _ _ _ h => h) (Or.inl ⟨by rfl, ?_⟩) ?_ ?_
          rotate_left
          · intro w'
            go_simp
            with_reducible rfl
          rotate_left
          · simp only [Act.put, List.setIfInBounds_toArray, List.set_cons_zero, List.set_cons_succ, i64_w, i32_w]
            rfl
          refine pure_ (i := 13) (N := some 32) (v := ?_) (a' := ?_) #[true, true, true, true, false, true, true, true, true, false, false, false, false, true, false, false, false, false, false, false, false, false, false, false, false, false, false, false, false, false, false, false, false, false, false, false, false] rfl rfl (any_of HT_.out (by kernel_rfl)) (fun _ _ _ h => h) (Or.inl ⟨by rfl, ?_⟩) ?_ ?_
          rotate_left
          · intro w'
            go_simp
            with_reducible rfl
          rotate_left
          · simp only [Act.put, List.setIfInBounds_toArray, List.set_cons_zero, List.set_cons_succ, i64_w, i32_w]
            rfl
          refine pure_ (i := 14) (N := some 33) (v := ?_) (a' := ?_) #[true, true, true, true, false, true, true, true, true, false, false, false, false, true, true, false, false, false, false, false, false, false, false, false, false, false, false, false, false, false, false, false, false, false, false, false, false] rfl rfl (any_of HT_.out (by kernel_rfl)) (fun _ _ _ h => h) (Or.inl ⟨by rfl, ?_⟩) ?_ ?_
          rotate_left
          · intro w'
            go_simp
            with_reducible rfl
          rotate_left
          · simp only [Act.put, List.setIfInBounds_toArray, List.set_cons_zero, List.set_cons_succ, i64_w, i32_w]
            rfl
          refine pure_ (i := 15) (N := some 34) (v := ?_) (a' := ?_) #[true, true, true, true, false, true, true, true, true, false, false, false, false, true, true, true, false, false, false, false, false, false, false, false, false, false, false, false, false, false, false, false, false, false, false, false, false] rfl rfl (any_of HT_.out (by kernel_rfl)) (fun _ _ _ h => h) (Or.inl ⟨by rfl, ?_⟩) ?_ ?_
          rotate_left
          · intro w'
            go_simp
            with_reducible rfl
          rotate_left
          · simp only [Act.put, List.setIfInBounds_toArray, List.set_cons_zero, List.set_cons_succ, i64_w, i32_w]
            rfl
          refine pure_ (i := 16) (N := some 35) (v := ?_) (a' := ?_) #[true, true, true, true, false, true, true, true, true, false, false, false, false, true, true, true, true, false, false, false, false, false, false, false, false, false, false, false, false, false, false, false, false, false, false, false, false] rfl rfl (any_of HT_.out (by kernel_rfl)) (fun _ _ _ h => h) (Or.inl ⟨by rfl, ?_⟩) ?_ ?_
          rotate_left
          · intro w'
            go_simp
            with_reducible rfl
          rotate_left
          · simp only [Act.put, List.setIfInBounds_toArray, List.set_cons_zero, List.set_cons_succ, i64_w, i32_w]
            rfl
          refine pure_ (i := 20) (N := some 39) (v := ?_) (a' := ?_) #[true, true, true, true, false, true, true, true, true, false, false, false, false, true, true, true, true, false, false, false, true, false, false, false, false, false, false, false, false, false, false, false, false, false, false, false, false] rfl rfl (any_of HT_.out (by kernel_rfl)) (fun _ _ _ h => h) (Or.inl ⟨by rfl, ?_⟩) ?_ ?_
          rotate_left
          · intro w'
            go_simp
            with_reducible rfl
          rotate_left
          · simp only [Act.put, List.setIfInBounds_toArray, List.set_cons_zero, List.set_cons_succ, i64_w, i32_w]
            rfl
          refine pure_ (i := 21) (N := some 40) (v := ?_) (a' := ?_) #[true, true, true, true, false, true, true, true, true, false, false, false, false, true, true, true, true, false, false, false, true, true, false, false, false, false, false, false, false, false, false, false, false, false, false, false, false] rfl rfl (any_of HT_.out (by kernel_rfl)) (fun _ _ _ h => h) (Or.inl ⟨by rfl, ?_⟩) ?_ ?_
          rotate_left
          · intro w'
            go_simp
            with_reducible rfl
          rotate_left
          · simp only [Act.put, List.setIfInBounds_toArray, List.set_cons_zero, List.set_cons_succ, i64_w, i32_w]
            rfl
          refine pure_ (i := 22) (N := some 41) (v := ?_) (a' := ?_) #[true, true, true, true, false, true, true, true, true, false, false, false, false, true, true, true, true, false, false, false, true, true, true, false, false, false, false, false, false, false, false, false, false, false, false, false, false] rfl rfl (any_of HT_.out (by kernel_rfl)) (fun _ _ _ h => h) (Or.inl ⟨by rfl, ?_⟩) ?_ ?_
          rotate_left
          · intro w'
            go_simp
            with_reducible rfl
          rotate_left
          · simp only [Act.put, List.setIfInBounds_toArray, List.set_cons_zero, List.set_cons_succ, i64_w, i32_w]
            rfl
          refine pure_ (i := 23) (N := some 42) (v := ?_) (a' := ?_) #[true, true, true, true, false, true, true, true, true, false, false, false, false, true, true, true, true, false, false, false, true, true, true, true, false, false, false, false, false, false, false, false, false, false, false, false, false] rfl rfl (any_of HT_.out (by kernel_rfl)) (fun _ _ _ h => h) (Or.inl ⟨by rfl, ?_⟩) ?_ ?_
          rotate_left
          · intro w'
            go_simp
            with_reducible rfl
          rotate_left
          · simp only [Act.put, List.setIfInBounds_toArray, List.set_cons_zero, List.set_cons_succ, i64_w, i32_w]
            rfl
          refine pure_ (i := 25) (N := some 44) (v := ?_) (a' := ?_) #[true, true, true, true, false, true, true, true, true, false, false, false, false, true, true, true, true, false, false, false, true, true, true, true, false, true, false, false, false, false, false, false, false, false, false, false, false] rfl rfl (any_of HT_.out (by kernel_rfl)) (fun _ _ _ h => h) (Or.inl ⟨by rfl, ?_⟩) ?_ ?_
          rotate_left
          · intro w'
            go_simp
            with_reducible rfl
          rotate_left
          · simp only [Act.put, List.setIfInBounds_toArray, List.set_cons_zero, List.set_cons_succ, i64_w, i32_w]
            rfl
          refine pure_ (i := 26) (N := some 45) (v := ?_) (a' := ?_) #[true, true, true, true, false, true, true, true, true, false, false, false, false, true, true, true, true, false, false, false, true, true, true, true, false, true, true, false, false, false, false, false, false, false, false, false, false] rfl rfl (any_of HT_.out (by kernel_rfl)) (fun _ _ _ h => h) (Or.inl ⟨by rfl, ?_⟩) ?_ ?_
          rotate_left
          · intro w'
            go_simp
            with_reducible rfl
          rotate_left
          · simp only [Act.put, List.setIfInBounds_toArray, List.set_cons_zero, List.set_cons_succ, i64_w, i32_w]
            rfl
          refine pure_ (i := 27) (N := some 46) (v := ?_) (a' := ?_) #[true, true, true, true, false, true, true, true, true, false, false, false, false, true, true, true, true, false, false, false, true, true, true, true, false, true, true, true, false, false, false, false, false, false, false, false, false] rfl rfl (any_of HT_.out (by kernel_rfl)) (fun _ _ _ h => h) (Or.inl ⟨by rfl, ?_⟩) ?_ ?_
          rotate_left
          · intro w'
            go_simp
            with_reducible rfl
          rotate_left
          · simp only [Act.put, List.setIfInBounds_toArray, List.set_cons_zero, List.set_cons_succ, i64_w, i32_w]
            rfl
          refine pure_ (i := 28) (N := some 47) (v := ?_) (a' := ?_) #[true, true, true, true, false, true, true, true, true, false, false, false, false, true, true, true, true, false, false, false, true, true, true, true, false, true, true, true, true, false, false, false, false, false, false, false, false] rfl rfl (any_of HT_.out (by kernel_rfl)) (fun _ _ _ h => h) (Or.inl ⟨by rfl, ?_⟩) ?_ ?_
          rotate_left
          · intro w'
            go_simp
            with_reducible rfl
          rotate_left
          · simp only [Act.put, List.setIfInBounds_toArray, List.set_cons_zero, List.set_cons_succ, i64_w, i32_w]
            rfl
          refine take_ (i := 4) (N := some 23) (v := ?_) (a' := ?_) #[true, true, true, true, true, true, true, true, true, false, false, false, false, true, true, true, true, false, false, false, true, true, true, true, false, true, true, true, true, false, false, false, false, false, false, false, false] rfl rfl (take_ofW HT_.out HW_.out (by kernel_rfl)) (fun _ _ _ h => h) (Or.inl ⟨by rfl, ?_⟩) hHeld ?_ ?_
          rotate_left
          · rintro w' ⟨s0, s1, s2, s3, s4, s5, s6, s7, s8, s9, s10, s11, s12, s13, s14, s15, s16, s17, s18, s19, s20, s21, s22, s23, s24, s25, s26, s27, s28, s29, s30, s31, s32, s33, s34⟩
            go_simp
            with_reducible rfl
          rotate_left
          · simp only [Act.put, List.setIfInBounds_toArray, List.set_cons_zero, List.set_cons_succ, i64_w, i32_w]
            rfl
          refine take_ (i := 9) (N := some 28) (v := ?_) (a' := ?_) #[true, true, true, true, true, true, true, true, true, true, false, false, false, true, true, true, true, false, false, false, true, true, true, true, false, true, true, true, true, false, false, false, false, false, false, false, false] rfl rfl (take_ofW HT_.out HW_.out (by kernel_rfl)) (fun _ _ _ h => h) (Or.inl ⟨by rfl, ?_⟩) hHeld ?_ ?_
          rotate_left
          · rintro w' ⟨s0, s1, s2, s3, s4, s5, s6, s7, s8, s9, s10, s11, s12, s13, s14, s15, s16, s17, s18, s19, s20, s21, s22, s23, s24, s25, s26, s27, s28, s29, s30, s31, s32, s33, s34⟩
            go_simp
            with_reducible rfl
          rotate_left
          · simp only [Act.put, List.setIfInBounds_toArray, List.set_cons_zero, List.set_cons_succ, i64_w, i32_w]
            rfl
          refine pure_ (i := 10) (N := some 29) (v := ?_) (a' := ?_) #[true, true, true, true, true, true, true, true, true, true, true, false, false, true, true, true, true, false, false, false, true, true, true, true, false, true, true, true, true, false, false, false, false, false, false, false, false] rfl rfl (any_of HT_.out (by kernel_rfl)) (fun _ _ _ h => h) (Or.inl ⟨by rfl, ?_⟩) ?_ ?_
          rotate_left
          · intro w'
            go_simp
            with_reducible rfl
          rotate_left
          · simp only [Act.put, List.setIfInBounds_toArray, List.set_cons_zero, List.set_cons_succ, i64_w, i32_w]
            rfl
          refine take_ (i := 17) (N := some 36) (v := ?_) (a' := ?_) #[true, true, true, true, true, true, true, true, true, true, true, false, false, true, true, true, true, true, false, false, true, true, true, true, false, true, true, true, true, false, false, false, false, false, false, false, false] rfl rfl (take_ofW HT_.out HW_.out (by kernel_rfl)) (fun _ _ _ h => h) (Or.inl ⟨by rfl, ?_⟩) hHeld ?_ ?_
          rotate_left
          · rintro w' ⟨s0, s1, s2, s3, s4, s5, s6, s7, s8, s9, s10, s11, s12, s13, s14, s15, s16, s17, s18, s19, s20, s21, s22, s23, s24, s25, s26, s27, s28, s29, s30, s31, s32, s33, s34⟩
            go_simp
            with_reducible rfl
          rotate_left
          · simp only [Act.put, List.setIfInBounds_toArray, List.set_cons_zero, List.set_cons_succ, i64_w, i32_w]
            rfl
          refine take_ (i := 24) (N := some 43) (v := ?_) (a' := ?_) #[true, true, true, true, true, true, true, true, true, true, true, false, false, true, true, true, true, true, false, false, true, true, true, true, true, true, true, true, true, false, false, false, false, false, false, false, false] rfl rfl (take_ofW HT_.out HW_.out (by kernel_rfl)) (fun _ _ _ h => h) (Or.inl ⟨by rfl, ?_⟩) hHeld ?_ ?_
          rotate_left
          · rintro w' ⟨s0, s1, s2, s3, s4, s5, s6, s7, s8, s9, s10, s11, s12, s13, s14, s15, s16, s17, s18, s19, s20, s21, s22, s23, s24, s25, s26, s27, s28, s29, s30, s31, s32, s33, s34⟩
            go_simp
            with_reducible rfl
          rotate_left
          · simp only [Act.put, List.setIfInBounds_toArray, List.set_cons_zero, List.set_cons_succ, i64_w, i32_w]
            rfl
          refine take_ (i := 29) (N := some 48) (v := ?_) (a' := ?_) #[true, true, true, true, true, true, true, true, true, true, true, false, false, true, true, true, true, true, false, false, true, true, true, true, true, true, true, true, true, true, false, false, false, false, false, false, false] rfl rfl (take_ofW HT_.out HW_.out (by kernel_rfl)) (fun _ _ _ h => h) (Or.inl ⟨by rfl, ?_⟩) hHeld ?_ ?_
          rotate_left
          · rintro w' ⟨s0, s1, s2, s3, s4, s5, s6, s7, s8, s9, s10, s11, s12, s13, s14, s15, s16, s17, s18, s19, s20, s21, s22, s23, s24, s25, s26, s27, s28, s29, s30, s31, s32, s33, s34⟩
            go_simp
            with_reducible rfl
          rotate_left
          · simp only [Act.put, List.setIfInBounds_toArray, List.set_cons_zero, List.set_cons_succ, i64_w, i32_w]
            rfl
          refine pure_ (i := 30) (N := some 49) (v := ?_) (a' := ?_) #[true, true, true, true, true, true, true, true, true, true, true, false, false, true, true, true, true, true, false, false, true, true, true, true, true, true, true, true, true, true, true, false, false, false, false, false, false] rfl rfl (any_of HT_.out (by kernel_rfl)) (fun _ _ _ h => h) (Or.inl ⟨by rfl, ?_⟩) ?_ ?_
          rotate_left
          · intro w'
            go_simp
            with_reducible rfl
          rotate_left
          · simp only [Act.put, List.setIfInBounds_toArray, List.set_cons_zero, List.set_cons_succ, i64_w, i32_w]
            rfl
          refine pure_ (i := 31) (N := some 50) (v := ?_) (a' := ?_) #[true, true, true, true, true, true, true, true, true, true, true, false, false, true, true, true, true, true, false, false, true, true, true, true, true, true, true, true, true, true, true, true, false, false, false, false, false] rfl rfl (any_of HT_.out (by kernel_rfl)) (fun _ _ _ h => h) (Or.inl ⟨by rfl, ?_⟩) ?_ ?_
          rotate_left
          · intro w'
            go_simp
            with_reducible rfl
          rotate_left
          · simp only [Act.put, List.setIfInBounds_toArray, List.set_cons_zero, List.set_cons_succ, i64_w, i32_w]
            rfl
          refine one_ (i := 11) (N := some 30) #[true, true, true, true, true, true, true, true, true, true, true, true, false, true, true, true, true, true, false, false, true, true, true, true, true, true, true, true, true, true, true, true, false, false, false, false, false] rfl rfl (one_of HT_.out (by kernel_rfl)) (by decide) (fun K hK => ?_)
          refine goes_ Try.func31 (by kernel_rfl) rfl #[.int .i64 (wrap64 (((rd_T26 t127 x5_1).f1) - ((rd_T26 t127 x5_1).f2)))] (by rfl) rfl rfl (by (try simp only [List.map_toArray, List.map_cons, List.map_nil]); first | done | rfl | (simp only [List.length_drop, List.length_take]; rfl)) ?_
          with_reducible refine (foliotref13_down.calls (wrap64 (((rd_T26 t127 x5_1).f1) - ((rd_T26 t127 x5_1).f2))) t132 _ A8.out).mono ?_
          rintro e w' ⟨rfl, ⟨nd, rfl⟩⟩
          refine ⟨_, rfl, ?_⟩
          refine hK.out _ _ ⟨hHeld.1, hHeld.2.1, hHeld.2.2.1, hHeld.2.2.2.1, hHeld.2.2.2.2.1, hHeld.2.2.2.2.2.1, hHeld.2.2.2.2.2.2.1, hHeld.2.2.2.2.2.2.2.1, hHeld.2.2.2.2.2.2.2.2.1, hHeld.2.2.2.2.2.2.2.2.2.1, hHeld.2.2.2.2.2.2.2.2.2.2.1, hHeld.2.2.2.2.2.2.2.2.2.2.2.1, hHeld.2.2.2.2.2.2.2.2.2.2.2.2.1, hHeld.2.2.2.2.2.2.2.2.2.2.2.2.2.1, hHeld.2.2.2.2.2.2.2.2.2.2.2.2.2.2.1, hHeld.2.2.2.2.2.2.2.2.2.2.2.2.2.2.2.1, hHeld.2.2.2.2.2.2.2.2.2.2.2.2.2.2.2.2.1, hHeld.2.2.2.2.2.2.2.2.2.2.2.2.2.2.2.2.2.1, hHeld.2.2.2.2.2.2.2.2.2.2.2.2.2.2.2.2.2.2.1, hHeld.2.2.2.2.2.2.2.2.2.2.2.2.2.2.2.2.2.2.2.1, hHeld.2.2.2.2.2.2.2.2.2.2.2.2.2.2.2.2.2.2.2.2.1, hHeld.2.2.2.2.2.2.2.2.2.2.2.2.2.2.2.2.2.2.2.2.2.1, hHeld.2.2.2.2.2.2.2.2.2.2.2.2.2.2.2.2.2.2.2.2.2.2.1, hHeld.2.2.2.2.2.2.2.2.2.2.2.2.2.2.2.2.2.2.2.2.2.2.2.1, hHeld.2.2.2.2.2.2.2.2.2.2.2.2.2.2.2.2.2.2.2.2.2.2.2.2.1, hHeld.2.2.2.2.2.2.2.2.2.2.2.2.2.2.2.2.2.2.2.2.2.2.2.2.2.1, hHeld.2.2.2.2.2.2.2.2.2.2.2.2.2.2.2.2.2.2.2.2.2.2.2.2.2.2.1, hHeld.2.2.2.2.2.2.2.2.2.2.2.2.2.2.2.2.2.2.2.2.2.2.2.2.2.2.2.1, hHeld.2.2.2.2.2.2.2.2.2.2.2.2.2.2.2.2.2.2.2.2.2.2.2.2.2.2.2.2.1, hHeld.2.2.2.2.2.2.2.2.2.2.2.2.2.2.2.2.2.2.2.2.2.2.2.2.2.2.2.2.2.1, hHeld.2.2.2.2.2.2.2.2.2.2.2.2.2.2.2.2.2.2.2.2.2.2.2.2.2.2.2.2.2.2.1, hHeld.2.2.2.2.2.2.2.2.2.2.2.2.2.2.2.2.2.2.2.2.2.2.2.2.2.2.2.2.2.2.2.1, hHeld.2.2.2.2.2.2.2.2.2.2.2.2.2.2.2.2.2.2.2.2.2.2.2.2.2.2.2.2.2.2.2.2.1, hHeld.2.2.2.2.2.2.2.2.2.2.2.2.2.2.2.2.2.2.2.2.2.2.2.2.2.2.2.2.2.2.2.2.2.1, hHeld.2.2.2.2.2.2.2.2.2.2.2.2.2.2.2.2.2.2.2.2.2.2.2.2.2.2.2.2.2.2.2.2.2.2⟩ (fun hHeld => ?_)
          clear hK K
          refine norm_ (a' := ?_) ?_ ?_
          rotate_left
          · show Act.put _ (some 30) _ = _
            simp only [Act.put, List.setIfInBounds_toArray, List.set_cons_zero, List.set_cons_succ, i64_w, i32_w]
            rfl
          refine pure_ (i := 12) (N := some 31) (v := ?_) (a' := ?_) #[true, true, true, true, true, true, true, true, true, true, true, true, true, true, true, true, true, true, false, false, true, true, true, true, true, true, true, true, true, true, true, true, false, false, false, false, false] rfl rfl (any_of HT_.out (by kernel_rfl)) (fun _ _ _ h => h) (Or.inl ⟨by rfl, ?_⟩) ?_ ?_
          rotate_left
          · intro w'
            go_simp
            with_reducible rfl
          rotate_left
          · simp only [Act.put, List.setIfInBounds_toArray, List.set_cons_zero, List.set_cons_succ, i64_w, i32_w]
            rfl
          refine one_ (i := 18) (N := some 37) #[true, true, true, true, true, true, true, true, true, true, true, true, true, true, true, true, true, true, true, false, true, true, true, true, true, true, true, true, true, true, true, true, false, false, false, false, false] rfl rfl (one_of HT_.out (by kernel_rfl)) (by decide) (fun K hK => ?_)
          refine goes_ Try.func31 (by kernel_rfl) rfl #[.int .i64 ((rd_T26 t127 x5_1).f1)] (by rfl) rfl rfl (by (try simp only [List.map_toArray, List.map_cons, List.map_nil]); first | done | rfl | (simp only [List.length_drop, List.length_take]; rfl)) ?_
          with_reducible refine (foliotref13_down.calls ((rd_T26 t127 x5_1).f1) t134 _ A9.out).mono ?_
          rintro e w' ⟨rfl, ⟨nd, rfl⟩⟩
          refine ⟨_, rfl, ?_⟩
          refine hK.out _ _ ⟨hHeld.1, hHeld.2.1, hHeld.2.2.1, hHeld.2.2.2.1, hHeld.2.2.2.2.1, hHeld.2.2.2.2.2.1, hHeld.2.2.2.2.2.2.1, hHeld.2.2.2.2.2.2.2.1, hHeld.2.2.2.2.2.2.2.2.1, hHeld.2.2.2.2.2.2.2.2.2.1, hHeld.2.2.2.2.2.2.2.2.2.2.1, hHeld.2.2.2.2.2.2.2.2.2.2.2.1, hHeld.2.2.2.2.2.2.2.2.2.2.2.2.1, hHeld.2.2.2.2.2.2.2.2.2.2.2.2.2.1, hHeld.2.2.2.2.2.2.2.2.2.2.2.2.2.2.1, hHeld.2.2.2.2.2.2.2.2.2.2.2.2.2.2.2.1, hHeld.2.2.2.2.2.2.2.2.2.2.2.2.2.2.2.2.1, hHeld.2.2.2.2.2.2.2.2.2.2.2.2.2.2.2.2.2.1, hHeld.2.2.2.2.2.2.2.2.2.2.2.2.2.2.2.2.2.2.1, hHeld.2.2.2.2.2.2.2.2.2.2.2.2.2.2.2.2.2.2.2.1, hHeld.2.2.2.2.2.2.2.2.2.2.2.2.2.2.2.2.2.2.2.2.1, hHeld.2.2.2.2.2.2.2.2.2.2.2.2.2.2.2.2.2.2.2.2.2.1, hHeld.2.2.2.2.2.2.2.2.2.2.2.2.2.2.2.2.2.2.2.2.2.2.1, hHeld.2.2.2.2.2.2.2.2.2.2.2.2.2.2.2.2.2.2.2.2.2.2.2.1, hHeld.2.2.2.2.2.2.2.2.2.2.2.2.2.2.2.2.2.2.2.2.2.2.2.2.1, hHeld.2.2.2.2.2.2.2.2.2.2.2.2.2.2.2.2.2.2.2.2.2.2.2.2.2.1, hHeld.2.2.2.2.2.2.2.2.2.2.2.2.2.2.2.2.2.2.2.2.2.2.2.2.2.2.1, hHeld.2.2.2.2.2.2.2.2.2.2.2.2.2.2.2.2.2.2.2.2.2.2.2.2.2.2.2.1, hHeld.2.2.2.2.2.2.2.2.2.2.2.2.2.2.2.2.2.2.2.2.2.2.2.2.2.2.2.2.1, hHeld.2.2.2.2.2.2.2.2.2.2.2.2.2.2.2.2.2.2.2.2.2.2.2.2.2.2.2.2.2.1, hHeld.2.2.2.2.2.2.2.2.2.2.2.2.2.2.2.2.2.2.2.2.2.2.2.2.2.2.2.2.2.2.1, hHeld.2.2.2.2.2.2.2.2.2.2.2.2.2.2.2.2.2.2.2.2.2.2.2.2.2.2.2.2.2.2.2.1, hHeld.2.2.2.2.2.2.2.2.2.2.2.2.2.2.2.2.2.2.2.2.2.2.2.2.2.2.2.2.2.2.2.2.1, hHeld.2.2.2.2.2.2.2.2.2.2.2.2.2.2.2.2.2.2.2.2.2.2.2.2.2.2.2.2.2.2.2.2.2.1, hHeld.2.2.2.2.2.2.2.2.2.2.2.2.2.2.2.2.2.2.2.2.2.2.2.2.2.2.2.2.2.2.2.2.2.2⟩ (fun hHeld => ?_)
          clear hK K
          refine norm_ (a' := ?_) ?_ ?_
          rotate_left
          · show Act.put _ (some 37) _ = _
            simp only [Act.put, List.setIfInBounds_toArray, List.set_cons_zero, List.set_cons_succ, i64_w, i32_w]
            rfl
          refine pure_ (i := 19) (N := some 38) (v := ?_) (a' := ?_) #[true, true, true, true, true, true, true, true, true, true, true, true, true, true, true, true, true, true, true, true, true, true, true, true, true, true, true, true, true, true, true, true, false, false, false, false, false] rfl rfl (any_of HT_.out (by kernel_rfl)) (fun _ _ _ h => h) (Or.inl ⟨by rfl, ?_⟩) ?_ ?_
          rotate_left
          · intro w'
            go_simp
            with_reducible rfl
          rotate_left
          · simp only [Act.put, List.setIfInBounds_toArray, List.set_cons_zero, List.set_cons_succ, i64_w, i32_w]
            rfl
          refine one_ (i := 32) (N := some 51) #[true, true, true, true, true, true, true, true, true, true, true, true, true, true, true, true, true, true, true, true, true, true, true, true, true, true, true, true, true, true, true, true, true, false, false, false, false] rfl rfl (one_of HT_.out (by kernel_rfl)) (by decide) (fun K hK => ?_)
          refine goes_ Try.func31 (by kernel_rfl) rfl #[.int .i64 (wrap64 (-(wrap64 (((rd_T26 t127 x5_1).f1) + ((rd_T26 t127 x5_1).f2)))))] (by rfl) rfl rfl (by (try simp only [List.map_toArray, List.map_cons, List.map_nil]); first | done | rfl | (simp only [List.length_drop, List.length_take]; rfl)) ?_
          with_reducible refine (foliotref13_down.calls (wrap64 (-(wrap64 (((rd_T26 t127 x5_1).f1) + ((rd_T26 t127 x5_1).f2))))) t137 _ A10.out).mono ?_
          rintro e w' ⟨rfl, ⟨nd, rfl⟩⟩
          refine ⟨_, rfl, ?_⟩
          refine hK.out _ _ ⟨hHeld.1, hHeld.2.1, hHeld.2.2.1, hHeld.2.2.2.1, hHeld.2.2.2.2.1, hHeld.2.2.2.2.2.1, hHeld.2.2.2.2.2.2.1, hHeld.2.2.2.2.2.2.2.1, hHeld.2.2.2.2.2.2.2.2.1, hHeld.2.2.2.2.2.2.2.2.2.1, hHeld.2.2.2.2.2.2.2.2.2.2.1, hHeld.2.2.2.2.2.2.2.2.2.2.2.1, hHeld.2.2.2.2.2.2.2.2.2.2.2.2.1, hHeld.2.2.2.2.2.2.2.2.2.2.2.2.2.1, hHeld.2.2.2.2.2.2.2.2.2.2.2.2.2.2.1, hHeld.2.2.2.2.2.2.2.2.2.2.2.2.2.2.2.1, hHeld.2.2.2.2.2.2.2.2.2.2.2.2.2.2.2.2.1, hHeld.2.2.2.2.2.2.2.2.2.2.2.2.2.2.2.2.2.1, hHeld.2.2.2.2.2.2.2.2.2.2.2.2.2.2.2.2.2.2.1, hHeld.2.2.2.2.2.2.2.2.2.2.2.2.2.2.2.2.2.2.2.1, hHeld.2.2.2.2.2.2.2.2.2.2.2.2.2.2.2.2.2.2.2.2.1, hHeld.2.2.2.2.2.2.2.2.2.2.2.2.2.2.2.2.2.2.2.2.2.1, hHeld.2.2.2.2.2.2.2.2.2.2.2.2.2.2.2.2.2.2.2.2.2.2.1, hHeld.2.2.2.2.2.2.2.2.2.2.2.2.2.2.2.2.2.2.2.2.2.2.2.1, hHeld.2.2.2.2.2.2.2.2.2.2.2.2.2.2.2.2.2.2.2.2.2.2.2.2.1, hHeld.2.2.2.2.2.2.2.2.2.2.2.2.2.2.2.2.2.2.2.2.2.2.2.2.2.1, hHeld.2.2.2.2.2.2.2.2.2.2.2.2.2.2.2.2.2.2.2.2.2.2.2.2.2.2.1, hHeld.2.2.2.2.2.2.2.2.2.2.2.2.2.2.2.2.2.2.2.2.2.2.2.2.2.2.2.1, hHeld.2.2.2.2.2.2.2.2.2.2.2.2.2.2.2.2.2.2.2.2.2.2.2.2.2.2.2.2.1, hHeld.2.2.2.2.2.2.2.2.2.2.2.2.2.2.2.2.2.2.2.2.2.2.2.2.2.2.2.2.2.1, hHeld.2.2.2.2.2.2.2.2.2.2.2.2.2.2.2.2.2.2.2.2.2.2.2.2.2.2.2.2.2.2.1, hHeld.2.2.2.2.2.2.2.2.2.2.2.2.2.2.2.2.2.2.2.2.2.2.2.2.2.2.2.2.2.2.2.1, hHeld.2.2.2.2.2.2.2.2.2.2.2.2.2.2.2.2.2.2.2.2.2.2.2.2.2.2.2.2.2.2.2.2.1, hHeld.2.2.2.2.2.2.2.2.2.2.2.2.2.2.2.2.2.2.2.2.2.2.2.2.2.2.2.2.2.2.2.2.2.1, hHeld.2.2.2.2.2.2.2.2.2.2.2.2.2.2.2.2.2.2.2.2.2.2.2.2.2.2.2.2.2.2.2.2.2.2⟩ (fun hHeld => ?_)
          clear hK K
          refine norm_ (a' := ?_) ?_ ?_
          rotate_left
          · show Act.put _ (some 51) _ = _
            simp only [Act.put, List.setIfInBounds_toArray, List.set_cons_zero, List.set_cons_succ, i64_w, i32_w]
            rfl
          refine pure_ (i := 33) (N := some 52) (v := ?_) (a' := ?_) #[true, true, true, true, true, true, true, true, true, true, true, true, true, true, true, true, true, true, true, true, true, true, true, true, true, true, true, true, true, true, true, true, true, true, false, false, false] rfl rfl (any_of HT_.out (by kernel_rfl)) (fun _ _ _ h => h) (Or.inl ⟨by rfl, ?_⟩) ?_ ?_
          rotate_left
          · intro w'
            go_simp
            with_reducible rfl
          rotate_left
          · simp only [Act.put, List.setIfInBounds_toArray, List.set_cons_zero, List.set_cons_succ, i64_w, i32_w]
            rfl
          refine pure_ (i := 34) (N := some 53) (v := ?_) (a' := ?_) #[true, true, true, true, true, true, true, true, true, true, true, true, true, true, true, true, true, true, true, true, true, true, true, true, true, true, true, true, true, true, true, true, true, true, true, false, false] rfl rfl (any_of HT_.out (by kernel_rfl)) (fun _ _ _ h => h) (Or.inl ⟨by rfl, ?_⟩) ?_ ?_
          rotate_left
          · intro w'
            go_simp
            with_reducible rfl
          rotate_left
          · simp only [Act.put, List.setIfInBounds_toArray, List.set_cons_zero, List.set_cons_succ, i64_w, i32_w]
            rfl
          refine one_ (i := 35) (N := some 54) #[true, true, true, true, true, true, true, true, true, true, true, true, true, true, true, true, true, true, true, true, true, true, true, true, true, true, true, true, true, true, true, true, true, true, true, true, false] rfl rfl (one_of HT_.out (by kernel_rfl)) (by decide) (fun K hK => ?_)
          refine Kd.R_lit_step k54 _ 54 ?hg (N := 54) ?hd (xs := ([(⟨t132, (-1)⟩ : S54), (⟨t134, 0⟩ : S54), (⟨wrap64 (-t137), 1⟩ : S54)] : List (S54))) (inner := [.int .i64 t132, .int .i64 (-1), .int .i64 t134, .int .i64 0, .int .i64 (wrap64 (-t137)), .int .i64 1]) (ok := fun _ => True) (okp := fun _ => True) ?hr ?hp (fun _ hk => hk) trivial (Below.refl _ _) (Nat.le_refl _) (by simp) ?_; (case hd => rfl); (case hg => rfl); (case hr => first | (go_simp; done) | (go_simp; rfl)); (case hp => exact (Reps.c2 (show Kd.M k54 _ _ _ (⟨t132, (-1)⟩ : S54) [.int .i64 t132, .int .i64 (-1)] from (k54_mkM _ _ _ (⟨t132, (-1)⟩ : S54) )) (Reps.c2 (show Kd.M k54 _ _ _ (⟨t134, 0⟩ : S54) [.int .i64 t134, .int .i64 0] from (k54_mkM _ _ _ (⟨t134, 0⟩ : S54) )) (Reps.c2 (show Kd.M k54 _ _ _ (⟨wrap64 (-t137), 1⟩ : S54) [.int .i64 (wrap64 (-t137)), .int .i64 1] from (k54_mkM _ _ _ (⟨wrap64 (-t137), 1⟩ : S54) )) (Reps.none _ _)))))
          intro v139 w13 ho14 hb hg_ hnew_
          have HS0_ := (hb.cell (World.block_lt_of_cell? _ _ (hHeld.1))).trans (hHeld.1)
          have HS1_ := (hb.cell (World.block_lt_of_cell? _ _ (hHeld.2.1))).trans (hHeld.2.1)
          have HS2_ := (hb.cell (World.block_lt_of_cell? _ _ (hHeld.2.2.1))).trans (hHeld.2.2.1)
          have HS3_ := (hb.cell (World.block_lt_of_cell? _ _ (hHeld.2.2.2.1))).trans (hHeld.2.2.2.1)
          have HS4_ := (hb.cell (World.block_lt_of_cell? _ _ (hHeld.2.2.2.2.1))).trans (hHeld.2.2.2.2.1)
          have HS5_ := (hb.cell (World.block_lt_of_cell? _ _ (hHeld.2.2.2.2.2.1))).trans (hHeld.2.2.2.2.2.1)
          have HS6_ := (hb.cell (World.block_lt_of_cell? _ _ (hHeld.2.2.2.2.2.2.1))).trans (hHeld.2.2.2.2.2.2.1)
          have HS7_ := (hb.cell (World.block_lt_of_cell? _ _ (hHeld.2.2.2.2.2.2.2.1))).trans (hHeld.2.2.2.2.2.2.2.1)
          have HS8_ := (hb.cell (World.block_lt_of_cell? _ _ (hHeld.2.2.2.2.2.2.2.2.1))).trans (hHeld.2.2.2.2.2.2.2.2.1)
          have HS9_ := (hb.cell (World.block_lt_of_cell? _ _ (hHeld.2.2.2.2.2.2.2.2.2.1))).trans (hHeld.2.2.2.2.2.2.2.2.2.1)
          have HS10_ := (hb.cell (World.block_lt_of_cell? _ _ (hHeld.2.2.2.2.2.2.2.2.2.2.1))).trans (hHeld.2.2.2.2.2.2.2.2.2.2.1)
          have HS11_ := (hb.cell (World.block_lt_of_cell? _ _ (hHeld.2.2.2.2.2.2.2.2.2.2.2.1))).trans (hHeld.2.2.2.2.2.2.2.2.2.2.2.1)
          have HS12_ := (hb.cell (World.block_lt_of_cell? _ _ (hHeld.2.2.2.2.2.2.2.2.2.2.2.2.1))).trans (hHeld.2.2.2.2.2.2.2.2.2.2.2.2.1)
          have HS13_ := (hb.cell (World.block_lt_of_cell? _ _ (hHeld.2.2.2.2.2.2.2.2.2.2.2.2.2.1))).trans (hHeld.2.2.2.2.2.2.2.2.2.2.2.2.2.1)
          have HS14_ := (hb.cell (World.block_lt_of_cell? _ _ (hHeld.2.2.2.2.2.2.2.2.2.2.2.2.2.2.1))).trans (hHeld.2.2.2.2.2.2.2.2.2.2.2.2.2.2.1)
          have HS15_ := (hb.cell (World.block_lt_of_cell? _ _ (hHeld.2.2.2.2.2.2.2.2.2.2.2.2.2.2.2.1))).trans (hHeld.2.2.2.2.2.2.2.2.2.2.2.2.2.2.2.1)
          have HS16_ := (hb.cell (World.block_lt_of_cell? _ _ (hHeld.2.2.2.2.2.2.2.2.2.2.2.2.2.2.2.2.1))).trans (hHeld.2.2.2.2.2.2.2.2.2.2.2.2.2.2.2.2.1)
          have HS17_ := (hb.cell (World.block_lt_of_cell? _ _ (hHeld.2.2.2.2.2.2.2.2.2.2.2.2.2.2.2.2.2.1))).trans (hHeld.2.2.2.2.2.2.2.2.2.2.2.2.2.2.2.2.2.1)
          have HS18_ := (hb.cell (World.block_lt_of_cell? _ _ (hHeld.2.2.2.2.2.2.2.2.2.2.2.2.2.2.2.2.2.2.1))).trans (hHeld.2.2.2.2.2.2.2.2.2.2.2.2.2.2.2.2.2.2.1)
          have HS19_ := (hb.cell (World.block_lt_of_cell? _ _ (hHeld.2.2.2.2.2.2.2.2.2.2.2.2.2.2.2.2.2.2.2.1))).trans (hHeld.2.2.2.2.2.2.2.2.2.2.2.2.2.2.2.2.2.2.2.1)
          have HS20_ := (hb.cell (World.block_lt_of_cell? _ _ (hHeld.2.2.2.2.2.2.2.2.2.2.2.2.2.2.2.2.2.2.2.2.1))).trans (hHeld.2.2.2.2.2.2.2.2.2.2.2.2.2.2.2.2.2.2.2.2.1)
          have HS21_ := (hb.cell (World.block_lt_of_cell? _ _ (hHeld.2.2.2.2.2.2.2.2.2.2.2.2.2.2.2.2.2.2.2.2.2.1))).trans (hHeld.2.2.2.2.2.2.2.2.2.2.2.2.2.2.2.2.2.2.2.2.2.1)
          have HS22_ := (hb.cell (World.block_lt_of_cell? _ _ (hHeld.2.2.2.2.2.2.2.2.2.2.2.2.2.2.2.2.2.2.2.2.2.2.1))).trans (hHeld.2.2.2.2.2.2.2.2.2.2.2.2.2.2.2.2.2.2.2.2.2.2.1)
          have HS23_ := (hb.cell (World.block_lt_of_cell? _ _ (hHeld.2.2.2.2.2.2.2.2.2.2.2.2.2.2.2.2.2.2.2.2.2.2.2.1))).trans (hHeld.2.2.2.2.2.2.2.2.2.2.2.2.2.2.2.2.2.2.2.2.2.2.2.1)
          have HS24_ := (hb.cell (World.block_lt_of_cell? _ _ (hHeld.2.2.2.2.2.2.2.2.2.2.2.2.2.2.2.2.2.2.2.2.2.2.2.2.1))).trans (hHeld.2.2.2.2.2.2.2.2.2.2.2.2.2.2.2.2.2.2.2.2.2.2.2.2.1)
          have HS25_ := (hb.cell (World.block_lt_of_cell? _ _ (hHeld.2.2.2.2.2.2.2.2.2.2.2.2.2.2.2.2.2.2.2.2.2.2.2.2.2.1))).trans (hHeld.2.2.2.2.2.2.2.2.2.2.2.2.2.2.2.2.2.2.2.2.2.2.2.2.2.1)
          have HS26_ := (hb.cell (World.block_lt_of_cell? _ _ (hHeld.2.2.2.2.2.2.2.2.2.2.2.2.2.2.2.2.2.2.2.2.2.2.2.2.2.2.1))).trans (hHeld.2.2.2.2.2.2.2.2.2.2.2.2.2.2.2.2.2.2.2.2.2.2.2.2.2.2.1)
          have HS27_ := (hb.cell (World.block_lt_of_cell? _ _ (hHeld.2.2.2.2.2.2.2.2.2.2.2.2.2.2.2.2.2.2.2.2.2.2.2.2.2.2.2.1))).trans (hHeld.2.2.2.2.2.2.2.2.2.2.2.2.2.2.2.2.2.2.2.2.2.2.2.2.2.2.2.1)
          have HS28_ := (hb.cell (World.block_lt_of_cell? _ _ (hHeld.2.2.2.2.2.2.2.2.2.2.2.2.2.2.2.2.2.2.2.2.2.2.2.2.2.2.2.2.1))).trans (hHeld.2.2.2.2.2.2.2.2.2.2.2.2.2.2.2.2.2.2.2.2.2.2.2.2.2.2.2.2.1)
          have HS29_ := (hb.cell (World.block_lt_of_cell? _ _ (hHeld.2.2.2.2.2.2.2.2.2.2.2.2.2.2.2.2.2.2.2.2.2.2.2.2.2.2.2.2.2.1))).trans (hHeld.2.2.2.2.2.2.2.2.2.2.2.2.2.2.2.2.2.2.2.2.2.2.2.2.2.2.2.2.2.1)
          have HS30_ := (hb.cell (World.block_lt_of_cell? _ _ (hHeld.2.2.2.2.2.2.2.2.2.2.2.2.2.2.2.2.2.2.2.2.2.2.2.2.2.2.2.2.2.2.1))).trans (hHeld.2.2.2.2.2.2.2.2.2.2.2.2.2.2.2.2.2.2.2.2.2.2.2.2.2.2.2.2.2.2.1)
          have HS31_ := (hb.cell (World.block_lt_of_cell? _ _ (hHeld.2.2.2.2.2.2.2.2.2.2.2.2.2.2.2.2.2.2.2.2.2.2.2.2.2.2.2.2.2.2.2.1))).trans (hHeld.2.2.2.2.2.2.2.2.2.2.2.2.2.2.2.2.2.2.2.2.2.2.2.2.2.2.2.2.2.2.2.1)
          have HS32_ := (hb.cell (World.block_lt_of_cell? _ _ (hHeld.2.2.2.2.2.2.2.2.2.2.2.2.2.2.2.2.2.2.2.2.2.2.2.2.2.2.2.2.2.2.2.2.1))).trans (hHeld.2.2.2.2.2.2.2.2.2.2.2.2.2.2.2.2.2.2.2.2.2.2.2.2.2.2.2.2.2.2.2.2.1)
          have HS33_ := (hb.cell (World.block_lt_of_cell? _ _ (hHeld.2.2.2.2.2.2.2.2.2.2.2.2.2.2.2.2.2.2.2.2.2.2.2.2.2.2.2.2.2.2.2.2.2.1))).trans (hHeld.2.2.2.2.2.2.2.2.2.2.2.2.2.2.2.2.2.2.2.2.2.2.2.2.2.2.2.2.2.2.2.2.2.1)
          have HS34_ := (hb.cell (World.block_lt_of_cell? _ _ (hHeld.2.2.2.2.2.2.2.2.2.2.2.2.2.2.2.2.2.2.2.2.2.2.2.2.2.2.2.2.2.2.2.2.2.2))).trans (hHeld.2.2.2.2.2.2.2.2.2.2.2.2.2.2.2.2.2.2.2.2.2.2.2.2.2.2.2.2.2.2.2.2.2.2)
          clear hg_ hnew_
          (first | rw [← Ny138.out] at ho14 | (simp only [Int.reduceToNat] at ho14; rw [← Ny138.out] at ho14))
          have n0_ := Aside0.mk (Kd.R_elder' (by (with_reducible repeat (first | apply Kd.R_alloc | apply Kd.R_drewN | apply Kd.R_drew)); exact HO_3.out) (Kd.R_base ho14) hb)
          have n1_ := Aside0.mk (Kd.R_below (by (with_reducible repeat (first | apply Kd.R_alloc | apply Kd.R_drewN | apply Kd.R_drew)); exact HO_4.out) hb)
          have n2_ := Aside0.mk (Kd.R_lower (Kd.R_new' ho14 (Kd.R_lt (by (with_reducible repeat (first | apply Kd.R_alloc | apply Kd.R_drewN | apply Kd.R_drew)); exact HO_3.out))) (below_size (by repeat (first | (with_reducible first | exact HB.out | apply below_alloc | apply pw_below_drewN | apply below_drew1) | exact HB.out))))
          have n3_ := Aside0.mk (below_step (by repeat (first | (with_reducible first | exact HB.out | apply below_alloc | apply pw_below_drewN | apply below_drew1) | exact HB.out)) hb)
          clear HO_3
          clear HO_4
          clear HB
          have HO_3 := n0_
          have HO_4 := n1_
          have HO140 := n2_
          have HB := n3_
          clear n0_ n1_ n2_ n3_
          clear hb ho14
          refine hK.out _ _ ⟨HS0_, HS1_, HS2_, HS3_, HS4_, HS5_, HS6_, HS7_, HS8_, HS9_, HS10_, HS11_, HS12_, HS13_, HS14_, HS15_, HS16_, HS17_, HS18_, HS19_, HS20_, HS21_, HS22_, HS23_, HS24_, HS25_, HS26_, HS27_, HS28_, HS29_, HS30_, HS31_, HS32_, HS33_, HS34_⟩ (fun hHeld => ?_)
          clear hK K
          refine norm_ (a' := ?_) ?_ ?_
          rotate_left
          · show Act.put _ (some 54) _ = _
            simp only [Act.put, List.setIfInBounds_toArray, List.set_cons_zero, List.set_cons_succ, i64_w, i32_w]
            rfl
          refine pure_ (i := 36) (N := some 6) (v := ?_) (a' := ?_) #[true, true, true, true, true, true, true, true, true, true, true, true, true, true, true, true, true, true, true, true, true, true, true, true, true, true, true, true, true, true, true, true, true, true, true, true, true] rfl rfl (any_of HT_.out (by kernel_rfl)) (fun _ _ _ h => h) (Or.inl ⟨by rfl, ?_⟩) ?_ ?_
          rotate_left
          · intro w'
            go_simp
            with_reducible rfl
          rotate_left
          · simp only [Act.put, List.setIfInBounds_toArray, List.set_cons_zero, List.set_cons_succ, i64_w, i32_w]
            rfl
          refine done_ (done_of HT_.out (by kernel_rfl)) ?_
          try go_wp2
          go_loopg [3, 7] k1 (fun kq v3 v7 w' => ∃ (x3_2 : List (S54)) (x7_2 : Int), v7 = .int .i64 x7_2 ∧ Aside0 (foliotref13_All.l1 kq x3_2 t127 x5_1 y138 x7_2 = some r) ∧ Aside0 (kq ≤ k1) ∧ Aside0 (Kd.R k54 54 w' w.heap.size (fun k_ => some k_ ≠ (v139 : Value).ownBlock) v3 x3_2) ∧ Aside0 (Kd.R k26 26 w' w.heap.size (fun _ => True) (.slice (some ad130) t127.length co11) t127) ∧ Aside0 (Kd.R k54 54 w' w.heap.size (fun k_ => some k_ ≠ (v3 : Value).ownBlock) v139 y138) ∧ Aside0 (Below w.heap.size w w'))
          case atStart => exact ⟨(x3_1), (0), (by first | rfl | (simp; done) | (simp [*]; done)), H', ⟨Nat.le_refl _⟩, ⟨by (with_reducible repeat (first | apply Kd.R_alloc | apply Kd.R_drewN | apply Kd.R_drew)); exact Kd.R_mono HO_3.out (fun _ hk => hk.2)⟩, ⟨by (with_reducible repeat (first | apply Kd.R_alloc | apply Kd.R_drewN | apply Kd.R_drew)); exact HO_4.out⟩, ⟨by (with_reducible repeat (first | apply Kd.R_alloc | apply Kd.R_drewN | apply Kd.R_drew)); exact Kd.R_mono HO140.out (fun _ hk => hk.2)⟩, ⟨by repeat (first | (with_reducible first | exact HB.out | apply below_alloc | apply pw_below_drewN | apply below_drew1) | exact HB.out)⟩⟩
          case round =>
            clear H'
            try clear c1
            try clear p1
            try clear q1
            try clear hx1
            try clear c2
            try clear p2
            try clear c3
            try clear c6
            try clear c6b0
            try clear p6
            try clear c7
            try clear c7b0
            try clear p13
            try clear q13
            try clear hx13
            try clear hx130_0
            try clear hx130_1
            try clear hx130_2
            try clear hx130_3
            try clear hx130_4
            try clear hx130_5
            try clear hx130_6
            try clear hx131_0
            try clear hx131_1
            try clear hx131_2
            try clear hx131_3
            try clear hx131_4
            try clear hx131_5
            try clear hx131_6
            try clear hx133_0
            try clear hx133_1
            try clear hx133_2
            try clear hx133_3
            try clear hx133_4
            try clear hx133_5
            try clear hx133_6
            try clear hx135_0
            try clear hx135_1
            try clear hx135_2
            try clear hx135_3
            try clear hx135_4
            try clear hx135_5
            try clear hx135_6
            try clear hx136_0
            try clear hx136_1
            try clear hx136_2
            try clear hx136_3
            try clear hx136_4
            try clear hx136_5
            try clear hx136_6
            try clear p130
            try clear p131
            try clear p133
            try clear p135
            try clear p136
            try clear p2
            try clear q130
            try clear q131
            try clear q133
            try clear q135
            try clear q136
            obtain ⟨x3_2, x7_2, rfl, HA, HK2, HO_3, HO_4, HO_6, HB⟩ := hrel
            cases gk with
            | zero => exact absurd HA.out (by simp [foliotref13_All.l1])
            | succ k2 =>
              have H := HA.out
              clear HA
              simp only [foliotref13_All.l1] at H
              by_cases c15 : x7_2 < 3
              · rw [if_pos c15] at H
                have c15b0 : decide (x7_2 < 3) = true := decide_eq_true c15
                clear c15
                have H' := Aside0.mk H
                clear H
                go_wp2
                go_loopg [8] k2 (fun kq v8 w' => ∃ (x8_3 : Int), v8 = .int .i64 x8_3 ∧ Aside0 (foliotref13_All.l2 kq x3_2 t127 x5_1 y138 x7_2 x8_3 = some r) ∧ Aside0 (kq ≤ k2) ∧ Aside0 (Kd.R k54 54 w' w.heap.size (fun k_ => some k_ ≠ (v139 : Value).ownBlock) u3 x3_2) ∧ Aside0 (Kd.R k26 26 w' w.heap.size (fun _ => True) (.slice (some ad130) t127.length co11) t127) ∧ Aside0 (Kd.R k54 54 w' w.heap.size (fun k_ => some k_ ≠ (u3 : Value).ownBlock) v139 y138) ∧ Aside0 (Below w.heap.size w w'))
                case atStart => exact ⟨(0), (by first | rfl | (simp; done) | (simp [*]; done)), H', ⟨Nat.le_refl _⟩, ⟨by (with_reducible repeat (first | apply Kd.R_alloc | apply Kd.R_drewN | apply Kd.R_drew)); exact HO_3.out⟩, ⟨by (with_reducible repeat (first | apply Kd.R_alloc | apply Kd.R_drewN | apply Kd.R_drew)); exact HO_4.out⟩, ⟨by (with_reducible repeat (first | apply Kd.R_alloc | apply Kd.R_drewN | apply Kd.R_drew)); exact HO_6.out⟩, ⟨by repeat (first | (with_reducible first | exact HB.out | apply below_alloc | apply pw_below_drewN | apply below_drew1) | exact HB.out)⟩⟩
                case round =>
                  clear H'
                  try clear c1
                  try clear p1
                  try clear q1
                  try clear hx1
                  try clear c2
                  try clear p2
                  try clear c3
                  try clear c6
                  try clear c6b0
                  try clear p6
                  try clear c7
                  try clear c7b0
                  try clear p13
                  try clear q13
                  try clear hx13
                  try clear c15
                  try clear c15b0
                  try clear hx130_0
                  try clear hx130_1
                  try clear hx130_2
                  try clear hx130_3
                  try clear hx130_4
                  try clear hx130_5
                  try clear hx130_6
                  try clear hx131_0
                  try clear hx131_1
                  try clear hx131_2
                  try clear hx131_3
                  try clear hx131_4
                  try clear hx131_5
                  try clear hx131_6
                  try clear hx133_0
                  try clear hx133_1
                  try clear hx133_2
                  try clear hx133_3
                  try clear hx133_4
                  try clear hx133_5
                  try clear hx133_6
                  try clear hx135_0
                  try clear hx135_1
                  try clear hx135_2
                  try clear hx135_3
                  try clear hx135_4
                  try clear hx135_5
                  try clear hx135_6
                  try clear hx136_0
                  try clear hx136_1
                  try clear hx136_2
                  try clear hx136_3
                  try clear hx136_4
                  try clear hx136_5
                  try clear hx136_6
                  try clear p1
                  try clear p13
                  try clear p130
                  try clear p131
                  try clear p133
                  try clear p135
                  try clear p136
                  try clear p2
                  try clear p6
                  try clear q1
                  try clear q13
                  try clear q130
                  try clear q131
                  try clear q133
                  try clear q135
                  try clear q136
                  obtain ⟨x8_3, rfl, HA, HK3, HO_3, HO_4, HO_6, HB⟩ := hrel
                  cases gk with
                  | zero => exact absurd HA.out (by simp [foliotref13_All.l2])
                  | succ k3 =>
                    have H := HA.out
                    clear HA
                    simp only [foliotref13_All.l2] at H
                    by_cases c16 : x8_3 < (x3_2.length : Int)
                    · rw [if_pos c16] at H
                      have c16b0 : decide (x8_3 < (x3_2.length : Int)) = true := decide_eq_true c16
                      clear c16
                      by_cases c17 : 0 ≤ x7_2
                      · rw [if_pos c17] at H
                        have c17b0 : decide (0 ≤ x7_2) = true := decide_eq_true c17
                        clear c17
                        by_cases c18 : x7_2 < (y138.length : Int)
                        · rw [if_pos c18] at H
                          have c18b0 : decide (x7_2 < (y138.length : Int)) = true := decide_eq_true c18
                          clear c18
                          by_cases c19 : 0 ≤ x8_3
                          · rw [if_pos c19] at H
                            have c19b0 : decide (0 ≤ x8_3) = true := decide_eq_true c19
                            clear c19
                            replace H := Option.bind_eq_some_iff.mp H
                            obtain ⟨t143, A200, H⟩ := H
                            replace H : (if t143 = true then ((some (([] : List (S54)) : List (S54))).bind fun y144 => (if x8_3 ≤ (x3_2.length : Int) then ((some (x3_2.take (x8_3 : Int).toNat : List (S54))).bind fun y147 => (if y144.length + y147.length < 8796093022208 then ((some (y144 ++ y147 : List (S54))).bind fun y151 => (if y151.length < 8796093022208 then ((some (y151 ++ [(⟨(rd_T54 y138 x7_2).f0, (rd_T54 y138 x7_2).f1⟩ : S54)] : List (S54))).bind fun y155 => ((some (x3_2.drop (x8_3 : Int).toNat : List (S54))).bind fun y158 => (if y155.length + y158.length < 8796093022208 then (foliotref13_All.l1 k3 (y155 ++ y158) t127 x5_1 y138 (wrap64 (x7_2 + 1))) else (none)))) else (none))) else (none))) else (none))) else (foliotref13_All.l2 k3 x3_2 t127 x5_1 y138 x7_2 (wrap64 (x8_3 + 1)))) = some r := H
                            have A20 := Aside0.mk A200
                            clear A200
                            by_cases c21 : t143 = true
                            · subst c21
                              have H1 : ((some (([] : List (S54)) : List (S54))).bind fun y144 => (if x8_3 ≤ (x3_2.length : Int) then ((some (x3_2.take (x8_3 : Int).toNat : List (S54))).bind fun y147 => (if y144.length + y147.length < 8796093022208 then ((some (y144 ++ y147 : List (S54))).bind fun y151 => (if y151.length < 8796093022208 then ((some (y151 ++ [(⟨(rd_T54 y138 x7_2).f0, (rd_T54 y138 x7_2).f1⟩ : S54)] : List (S54))).bind fun y155 => ((some (x3_2.drop (x8_3 : Int).toNat : List (S54))).bind fun y158 => (if y155.length + y158.length < 8796093022208 then (foliotref13_All.l1 k3 (y155 ++ y158) t127 x5_1 y138 (wrap64 (x7_2 + 1))) else (none)))) else (none))) else (none))) else (none))) = some r := by rw [if_pos rfl] at H; exact H
                              clear H
                              have H := H1
                              clear H1
                              obtain ⟨y144, hy144⟩ : ∃ y_ : List (S54), y_ = (([] : List (S54))) := ⟨_, rfl⟩
                              replace H : (if x8_3 ≤ (x3_2.length : Int) then ((some (x3_2.take (x8_3 : Int).toNat : List (S54))).bind fun y147 => (if y144.length + y147.length < 8796093022208 then ((some (y144 ++ y147 : List (S54))).bind fun y151 => (if y151.length < 8796093022208 then ((some (y151 ++ [(⟨(rd_T54 y138 x7_2).f0, (rd_T54 y138 x7_2).f1⟩ : S54)] : List (S54))).bind fun y155 => ((some (x3_2.drop (x8_3 : Int).toNat : List (S54))).bind fun y158 => (if y155.length + y158.length < 8796093022208 then (foliotref13_All.l1 k3 (y155 ++ y158) t127 x5_1 y138 (wrap64 (x7_2 + 1))) else (none)))) else (none))) else (none))) else (none)) = some r := by first | (rw [hy144]; with_reducible exact H) | (have H2_ := (Option.bind_some _ _).symm.trans H; rw [hy144]; with_reducible exact H2_) | (have H2_ := (Option.bind_some _ _).symm.trans H; with_reducible exact H2_) | with_reducible exact H | (rw [hy144]; exact H) | exact H
                              have Ny144 := Aside0.mk hy144
                              clear hy144
                              have c22b0 := eq_true (of_decide_eq_true (by first | (with_reducible assumption) | assumption) : 0 ≤ x8_3)
                              by_cases c23 : x8_3 ≤ (x3_2.length : Int)
                              · rw [if_pos c23] at H
                                have c23b0 := eq_true c23
                                have c23b1 : decide (x8_3 ≤ (x3_2.length : Int)) = true := decide_eq_true c23
                                clear c23
                                obtain ⟨y147, hy147⟩ : ∃ y_ : List (S54), y_ = (x3_2.take (x8_3 : Int).toNat) := ⟨_, rfl⟩
                                replace H : (if y144.length + y147.length < 8796093022208 then ((some (y144 ++ y147 : List (S54))).bind fun y151 => (if y151.length < 8796093022208 then ((some (y151 ++ [(⟨(rd_T54 y138 x7_2).f0, (rd_T54 y138 x7_2).f1⟩ : S54)] : List (S54))).bind fun y155 => ((some (x3_2.drop (x8_3 : Int).toNat : List (S54))).bind fun y158 => (if y155.length + y158.length < 8796093022208 then (foliotref13_All.l1 k3 (y155 ++ y158) t127 x5_1 y138 (wrap64 (x7_2 + 1))) else (none)))) else (none))) else (none)) = some r := by first | (rw [hy147]; with_reducible exact H) | (have H2_ := (Option.bind_some _ _).symm.trans H; rw [hy147]; with_reducible exact H2_) | (have H2_ := (Option.bind_some _ _).symm.trans H; with_reducible exact H2_) | with_reducible exact H | (rw [hy147]; exact H) | exact H
                                have Ny147 := Aside0.mk hy147
                                clear hy147
                                by_cases c24 : y144.length + y147.length < 8796093022208
                                · rw [if_pos c24] at H
                                  have LMc24 := Aside0.mk c24
                                  clear c24
                                  obtain ⟨y151, hy151⟩ : ∃ y_ : List (S54), y_ = (y144 ++ y147) := ⟨_, rfl⟩
                                  replace H : (if y151.length < 8796093022208 then ((some (y151 ++ [(⟨(rd_T54 y138 x7_2).f0, (rd_T54 y138 x7_2).f1⟩ : S54)] : List (S54))).bind fun y155 => ((some (x3_2.drop (x8_3 : Int).toNat : List (S54))).bind fun y158 => (if y155.length + y158.length < 8796093022208 then (foliotref13_All.l1 k3 (y155 ++ y158) t127 x5_1 y138 (wrap64 (x7_2 + 1))) else (none)))) else (none)) = some r := by first | (rw [hy151]; with_reducible exact H) | (have H2_ := (Option.bind_some _ _).symm.trans H; rw [hy151]; with_reducible exact H2_) | (have H2_ := (Option.bind_some _ _).symm.trans H; with_reducible exact H2_) | with_reducible exact H | (rw [hy151]; exact H) | exact H
                                  have Ny151 := Aside0.mk hy151
                                  clear hy151
                                  by_cases c25 : y151.length < 8796093022208
                                  · rw [if_pos c25] at H
                                    have LMc25 := Aside0.mk c25
                                    clear c25
                                    obtain ⟨y155, hy155⟩ : ∃ y_ : List (S54), y_ = (y151 ++ [(⟨(rd_T54 y138 x7_2).f0, (rd_T54 y138 x7_2).f1⟩ : S54)]) := ⟨_, rfl⟩
                                    replace H : ((some (x3_2.drop (x8_3 : Int).toNat : List (S54))).bind fun y158 => (if y155.length + y158.length < 8796093022208 then (foliotref13_All.l1 k3 (y155 ++ y158) t127 x5_1 y138 (wrap64 (x7_2 + 1))) else (none))) = some r := by first | (rw [hy155]; with_reducible exact H) | (have H2_ := (Option.bind_some _ _).symm.trans H; rw [hy155]; with_reducible exact H2_) | (have H2_ := (Option.bind_some _ _).symm.trans H; with_reducible exact H2_) | with_reducible exact H | (rw [hy155]; exact H) | exact H
                                    have Ny155 := Aside0.mk hy155
                                    clear hy155
                                    have c26b0 := eq_true (of_decide_eq_true (by first | (with_reducible assumption) | assumption) : 0 ≤ x8_3)
                                    have c27b0 := eq_true (of_decide_eq_true (by first | (with_reducible assumption) | assumption) : x8_3 ≤ (x3_2.length : Int))
                                    obtain ⟨y158, hy158⟩ : ∃ y_ : List (S54), y_ = (x3_2.drop (x8_3 : Int).toNat) := ⟨_, rfl⟩
                                    replace H : (if y155.length + y158.length < 8796093022208 then (foliotref13_All.l1 k3 (y155 ++ y158) t127 x5_1 y138 (wrap64 (x7_2 + 1))) else (none)) = some r := by first | (rw [hy158]; with_reducible exact H) | (have H2_ := (Option.bind_some _ _).symm.trans H; rw [hy158]; with_reducible exact H2_) | (have H2_ := (Option.bind_some _ _).symm.trans H; with_reducible exact H2_) | with_reducible exact H | (rw [hy158]; exact H) | exact H
                                    have Ny158 := Aside0.mk hy158
                                    clear hy158
                                    by_cases c28 : y155.length + y158.length < 8796093022208
                                    · rw [if_pos c28] at H
                                      have LMc28 := Aside0.mk c28
                                      clear c28
                                      obtain ⟨y162, hy162⟩ : ∃ y_ : List (S54), y_ = (y155 ++ y158) := ⟨_, rfl⟩
                                      replace H : (foliotref13_All.l1 k3 y162 t127 x5_1 y138 (wrap64 (x7_2 + 1))) = some r := by first | (rw [hy162]; with_reducible exact H) | (have H2_ := (Option.bind_some _ _).symm.trans H; rw [hy162]; with_reducible exact H2_) | (have H2_ := (Option.bind_some _ _).symm.trans H; with_reducible exact H2_) | with_reducible exact H | (rw [hy162]; exact H) | exact H
                                      have Ny162 := Aside0.mk hy162
                                      clear hy162
                                      have H' := Aside0.mk H
                                      clear H
                                      try go_wp2
                                      have n0_ := Aside0.mk (Kd.R_drew HO_3.out)
                                      have n1_ := Aside0.mk (Kd.R_drew HO_4.out)
                                      have n2_ := Aside0.mk (Kd.R_drew HO_6.out)
                                      have n3_ := Aside0.mk (below_drew1 HB.out)
                                      clear HO_3
                                      clear HO_4
                                      clear HO_6
                                      clear HB
                                      have HO_3 := n0_
                                      have HO_4 := n1_
                                      have HO_6 := n2_
                                      have HB := n3_
                                      clear n0_ n1_ n2_ n3_
                                      obtain ⟨Ao30, co30, eo30⟩ := Kd.R_slice HO_3.out
                                      (first | subst eo30 | (injection eo30 with f1_ f2_ f3_; have f4_ := f1_.symm; have f5_ := f3_.symm; clear f1_ f2_ f3_; subst f4_; subst f5_))
                                      obtain ⟨Ao31, co31, eo31⟩ := Kd.R_slice HO_6.out
                                      (first | subst eo31 | (injection eo31 with f1_ f2_ f3_; have f4_ := f1_.symm; have f5_ := f3_.symm; clear f1_ f2_ f3_; subst f4_; subst f5_))
                                      have p141 : 0 ≤ (x7_2 : Int) := of_decide_eq_true (by first | (with_reducible assumption) | assumption)
                                      have q141 : x7_2 < (y138.length : Int) := of_decide_eq_true (by first | (with_reducible assumption) | assumption)
                                      obtain ⟨ad141, e141, hx141_0, hx141_1⟩ := at_T54 (Kd.R_reads' HO_6.out).2.2 x7_2 p141 q141
                                      cases e141
                                      replace p141 := eq_true p141
                                      replace q141 := eq_true q141
                                      have p142 : 0 ≤ (x8_3 : Int) := of_decide_eq_true (by first | (with_reducible assumption) | assumption)
                                      have q142 : x8_3 < (x3_2.length : Int) := of_decide_eq_true (by first | (with_reducible assumption) | assumption)
                                      obtain ⟨ad142, e142, hx142_0, hx142_1⟩ := at_T54 (Kd.R_reads' HO_3.out).2.2 x8_3 p142 q142
                                      cases e142
                                      replace p142 := eq_true p142
                                      replace q142 := eq_true q142
                                      refine start_ (n := 16) (S := fun w' => w'.cell? (ad141.add ((x7_2).toNat * 2)) = some (.int .i64 ((rd_T54 y138 x7_2).f0)) ∧ w'.cell? ⟨(ad141.add ((x7_2).toNat * 2)).block, (ad141.add ((x7_2).toNat * 2)).off + 1, none⟩ = some (.int .i64 ((rd_T54 y138 x7_2).f1)) ∧ w'.cell? (ad142.add ((x8_3).toNat * 2)) = some (.int .i64 ((rd_T54 x3_2 x8_3).f0)) ∧ w'.cell? ⟨(ad142.add ((x8_3).toNat * 2)).block, (ad142.add ((x8_3).toNat * 2)).off + 1, none⟩ = some (.int .i64 ((rd_T54 x3_2 x8_3).f1))) (ds := []) #[false, false, false, false, false, false, false, false, false, false, false, false, false, false, false, false] (by kernel_rfl) rfl rfl ⟨hx141_0, hx141_1, hx142_0, hx142_1⟩ (fun hHeld => ?_); refine with_tabW foliotref13_All.tab11 foliotref13_All.bits11 (fun HT_ HW_ => ?_)
                                      generalize wr.drew = w29 at HO_3 HO_4 HO_6 HB hx141_0 hx141_1 hx142_0 hx142_1 hHeld ⊢
                                      refine pure_ (i := 0) (N := some 59) (v := ?_) (a' := ?_) #[true, false, false, false, false, false, false, false, false, false, false, false, false, false, false, false] rfl rfl (any_of HT_.out (by kernel_rfl)) (fun _ _ _ h => h) (Or.inl ⟨by rfl, ?_⟩) ?_ ?_
                                      rotate_left
                                      · intro w'
                                        go_simp
                                        with_reducible rfl
                                      rotate_left
                                      · simp only [Act.put, List.setIfInBounds_toArray, List.set_cons_zero, List.set_cons_succ, i64_w, i32_w]
                                        rfl
                                      refine pure_ (i := 1) (N := some 60) (v := ?_) (a' := ?_) #[true, true, false, false, false, false, false, false, false, false, false, false, false, false, false, false] rfl rfl (any_of HT_.out (by kernel_rfl)) (fun _ _ _ h => h) (Or.inl ⟨by rfl, ?_⟩) ?_ ?_
                                      rotate_left
                                      · intro w'
                                        go_simp
                                        with_reducible rfl
                                      rotate_left
                                      · simp only [Act.put, List.setIfInBounds_toArray, List.set_cons_zero, List.set_cons_succ, i64_w, i32_w]
                                        rfl
                                      refine pure_ (i := 2) (N := some 61) (v := ?_) (a' := ?_) #[true, true, true, false, false, false, false, false, false, false, false, false, false, false, false, false] rfl rfl (any_of HT_.out (by kernel_rfl)) (fun _ _ _ h => h) (Or.inl ⟨by rfl, ?_⟩) ?_ ?_
                                      rotate_left
                                      · intro w'
                                        go_simp
                                        with_reducible rfl
                                      rotate_left
                                      · simp only [Act.put, List.setIfInBounds_toArray, List.set_cons_zero, List.set_cons_succ, i64_w, i32_w]
                                        rfl
                                      refine pure_ (i := 3) (N := some 62) (v := ?_) (a' := ?_) #[true, true, true, true, false, false, false, false, false, false, false, false, false, false, false, false] rfl rfl (any_of HT_.out (by kernel_rfl)) (fun _ _ _ h => h) (Or.inl ⟨by rfl, ?_⟩) ?_ ?_
                                      rotate_left
                                      · intro w'
                                        go_simp
                                        with_reducible rfl
                                      rotate_left
                                      · simp only [Act.put, List.setIfInBounds_toArray, List.set_cons_zero, List.set_cons_succ, i64_w, i32_w]
                                        rfl
                                      refine pure_ (i := 4) (N := some 63) (v := ?_) (a' := ?_) #[true, true, true, true, true, false, false, false, false, false, false, false, false, false, false, false] rfl rfl (any_of HT_.out (by kernel_rfl)) (fun _ _ _ h => h) (Or.inl ⟨by rfl, ?_⟩) ?_ ?_
                                      rotate_left
                                      · intro w'
                                        go_simp
                                        with_reducible rfl
                                      rotate_left
                                      · simp only [Act.put, List.setIfInBounds_toArray, List.set_cons_zero, List.set_cons_succ, i64_w, i32_w]
                                        rfl
                                      refine pure_ (i := 5) (N := some 64) (v := ?_) (a' := ?_) #[true, true, true, true, true, true, false, false, false, false, false, false, false, false, false, false] rfl rfl (any_of HT_.out (by kernel_rfl)) (fun _ _ _ h => h) (Or.inl ⟨by rfl, ?_⟩) ?_ ?_
                                      rotate_left
                                      · intro w'
                                        go_simp
                                        with_reducible rfl
                                      rotate_left
                                      · simp only [Act.put, List.setIfInBounds_toArray, List.set_cons_zero, List.set_cons_succ, i64_w, i32_w]
                                        rfl
                                      refine pure_ (i := 6) (N := some 65) (v := ?_) (a' := ?_) #[true, true, true, true, true, true, true, false, false, false, false, false, false, false, false, false] rfl rfl (any_of HT_.out (by kernel_rfl)) (fun _ _ _ h => h) (Or.inl ⟨by rfl, ?_⟩) ?_ ?_
                                      rotate_left
                                      · intro w'
                                        go_simp
                                        with_reducible rfl
                                      rotate_left
                                      · simp only [Act.put, List.setIfInBounds_toArray, List.set_cons_zero, List.set_cons_succ, i64_w, i32_w]
                                        rfl
                                      refine pure_ (i := 7) (N := some 66) (v := ?_) (a' := ?_) #[true, true, true, true, true, true, true, true, false, false, false, false, false, false, false, false] rfl rfl (any_of HT_.out (by kernel_rfl)) (fun _ _ _ h => h) (Or.inl ⟨by rfl, ?_⟩) ?_ ?_
                                      rotate_left
                                      · intro w'
                                        go_simp
                                        with_reducible rfl
                                      rotate_left
                                      · simp only [Act.put, List.setIfInBounds_toArray, List.set_cons_zero, List.set_cons_succ, i64_w, i32_w]
                                        rfl
                                      refine pure_ (i := 9) (N := some 68) (v := ?_) (a' := ?_) #[true, true, true, true, true, true, true, true, false, true, false, false, false, false, false, false] rfl rfl (any_of HT_.out (by kernel_rfl)) (fun _ _ _ h => h) (Or.inl ⟨by rfl, ?_⟩) ?_ ?_
                                      rotate_left
                                      · intro w'
                                        go_simp
                                        with_reducible rfl
                                      rotate_left
                                      · simp only [Act.put, List.setIfInBounds_toArray, List.set_cons_zero, List.set_cons_succ, i64_w, i32_w]
                                        rfl
                                      refine pure_ (i := 10) (N := some 69) (v := ?_) (a' := ?_) #[true, true, true, true, true, true, true, true, false, true, true, false, false, false, false, false] rfl rfl (any_of HT_.out (by kernel_rfl)) (fun _ _ _ h => h) (Or.inl ⟨by rfl, ?_⟩) ?_ ?_
                                      rotate_left
                                      · intro w'
                                        go_simp
                                        with_reducible rfl
                                      rotate_left
                                      · simp only [Act.put, List.setIfInBounds_toArray, List.set_cons_zero, List.set_cons_succ, i64_w, i32_w]
                                        rfl
                                      refine pure_ (i := 11) (N := some 70) (v := ?_) (a' := ?_) #[true, true, true, true, true, true, true, true, false, true, true, true, false, false, false, false] rfl rfl (any_of HT_.out (by kernel_rfl)) (fun _ _ _ h => h) (Or.inl ⟨by rfl, ?_⟩) ?_ ?_
                                      rotate_left
                                      · intro w'
                                        go_simp
                                        with_reducible rfl
                                      rotate_left
                                      · simp only [Act.put, List.setIfInBounds_toArray, List.set_cons_zero, List.set_cons_succ, i64_w, i32_w]
                                        rfl
                                      refine take_ (i := 8) (N := some 67) (v := ?_) (a' := ?_) #[true, true, true, true, true, true, true, true, true, true, true, true, false, false, false, false] rfl rfl (take_ofW HT_.out HW_.out (by kernel_rfl)) (fun _ _ _ h => h) (Or.inl ⟨by rfl, ?_⟩) hHeld ?_ ?_
                                      rotate_left
                                      · rintro w' ⟨s0, s1, s2, s3⟩
                                        go_simp
                                        with_reducible rfl
                                      rotate_left
                                      · simp only [Act.put, List.setIfInBounds_toArray, List.set_cons_zero, List.set_cons_succ, i64_w, i32_w]
                                        rfl
                                      refine take_ (i := 12) (N := some 71) (v := ?_) (a' := ?_) #[true, true, true, true, true, true, true, true, true, true, true, true, true, false, false, false] rfl rfl (take_ofW HT_.out HW_.out (by kernel_rfl)) (fun _ _ _ h => h) (Or.inl ⟨by rfl, ?_⟩) hHeld ?_ ?_
                                      rotate_left
                                      · rintro w' ⟨s0, s1, s2, s3⟩
                                        go_simp
                                        with_reducible rfl
                                      rotate_left
                                      · simp only [Act.put, List.setIfInBounds_toArray, List.set_cons_zero, List.set_cons_succ, i64_w, i32_w]
                                        rfl
                                      refine one_ (i := 13) (N := some 72) #[true, true, true, true, true, true, true, true, true, true, true, true, true, true, false, false] rfl rfl (one_of HT_.out (by kernel_rfl)) (by decide) (fun K hK => ?_)
                                      refine goes_ Try.func32 (by kernel_rfl) rfl #[.agg #[.int .i64 ((rd_T54 y138 x7_2).f0), .int .i64 ((rd_T54 y138 x7_2).f1)], .agg #[.int .i64 ((rd_T54 x3_2 x8_3).f0), .int .i64 ((rd_T54 x3_2 x8_3).f1)]] (by rfl) rfl rfl (by (try simp only [List.map_toArray, List.map_cons, List.map_nil]); first | done | rfl | (simp only [List.length_drop, List.length_take]; rfl)) ?_
                                      with_reducible refine (foliotref13_less.calls ((rd_T54 y138 x7_2).f0) ((rd_T54 y138 x7_2).f1) ((rd_T54 x3_2 x8_3).f0) ((rd_T54 x3_2 x8_3).f1) true _ A20.out).mono ?_
                                      rintro e w32 ⟨rfl, hb⟩
                                      have HS0_ := (hb.cell (World.block_lt_of_cell? _ _ (hHeld.1))).trans (hHeld.1)
                                      have HS1_ := (hb.cell (World.block_lt_of_cell? _ _ (hHeld.2.1))).trans (hHeld.2.1)
                                      have HS2_ := (hb.cell (World.block_lt_of_cell? _ _ (hHeld.2.2.1))).trans (hHeld.2.2.1)
                                      have HS3_ := (hb.cell (World.block_lt_of_cell? _ _ (hHeld.2.2.2))).trans (hHeld.2.2.2)
                                      refine ⟨_, rfl, ?_⟩
                                      have n0_ := Aside0.mk (Kd.R_below (by (with_reducible repeat (first | apply Kd.R_alloc | apply Kd.R_drewN | apply Kd.R_drew)); exact HO_3.out) hb)
                                      have n1_ := Aside0.mk (Kd.R_below (by (with_reducible repeat (first | apply Kd.R_alloc | apply Kd.R_drewN | apply Kd.R_drew)); exact HO_4.out) hb)
                                      have n2_ := Aside0.mk (Kd.R_below (by (with_reducible repeat (first | apply Kd.R_alloc | apply Kd.R_drewN | apply Kd.R_drew)); exact HO_6.out) hb)
                                      have n3_ := Aside0.mk (below_step (by repeat (first | (with_reducible first | exact HB.out | apply below_alloc | apply pw_below_drewN | apply below_drew1) | exact HB.out)) hb)
                                      clear HO_3
                                      clear HO_4
                                      clear HO_6
                                      clear HB
                                      have HO_3 := n0_
                                      have HO_4 := n1_
                                      have HO_6 := n2_
                                      have HB := n3_
                                      clear n0_ n1_ n2_ n3_
                                      (try clear hb)
                                      (try clear hb2)
                                      (try clear hk)
                                      (try clear hi)
                                      refine hK.out _ _ ⟨HS0_, HS1_, HS2_, HS3_⟩ (fun hHeld => ?_)
                                      clear hK K
                                      refine norm_ (a' := ?_) ?_ ?_
                                      rotate_left
                                      · show Act.put _ (some 72) _ = _
                                        simp only [Act.put, List.setIfInBounds_toArray, List.set_cons_zero, List.set_cons_succ, i64_w, i32_w]
                                        rfl
                                      refine pure_ (i := 14) (N := some 73) (v := ?_) (a' := ?_) #[true, true, true, true, true, true, true, true, true, true, true, true, true, true, true, false] rfl rfl (any_of HT_.out (by kernel_rfl)) (fun _ _ _ h => h) (Or.inl ⟨by rfl, ?_⟩) ?_ ?_
                                      rotate_left
                                      · intro w'
                                        go_simp
                                        with_reducible rfl
                                      rotate_left
                                      · simp only [Act.put, List.setIfInBounds_toArray, List.set_cons_zero, List.set_cons_succ, i64_w, i32_w]
                                        rfl
                                      refine pure_ (i := 15) (N := some 74) (v := ?_) (a' := ?_) #[true, true, true, true, true, true, true, true, true, true, true, true, true, true, true, true] rfl rfl (any_of HT_.out (by kernel_rfl)) (fun _ _ _ h => h) (Or.inl ⟨by rfl, ?_⟩) ?_ ?_
                                      rotate_left
                                      · intro w'
                                        go_simp
                                        with_reducible rfl
                                      rotate_left
                                      · simp only [Act.put, List.setIfInBounds_toArray, List.set_cons_zero, List.set_cons_succ, i64_w, i32_w]
                                        rfl
                                      refine done_ (done_of HT_.out (by kernel_rfl)) ?_
                                      try go_wp2_with (first | ((with_reducible refine gate_dst (N := 77) rfl ?_); refine Kd.R_lit k54 _ 54 ?hg (N := 77) ?hd (xs := ([] : List (S54))) (inner := []) (ok := fun _ => True) (okp := fun _ => True) ?hr ?hp (fun _ hk => hk) trivial (Below.refl _ _) (Nat.le_refl _) (by simp) ?_; (case hd => rfl); (case hg => rfl); (case hr => first | (go_simp; done) | (go_simp; rfl)); (case hp => exact (Reps.none _ _)); intro v145 w33 ho34 hb hg_ hnew_; clear hg_ hnew_; (first | rw [← Ny144.out] at ho34 | (simp only [Int.reduceToNat] at ho34; rw [← Ny144.out] at ho34)); have n0_ := Aside0.mk (Kd.R_elder' (by (with_reducible repeat (first | apply Kd.R_alloc | apply Kd.R_drewN | apply Kd.R_drew)); exact HO_3.out) (Kd.R_base ho34) hb); have n1_ := Aside0.mk (Kd.R_below (by (with_reducible repeat (first | apply Kd.R_alloc | apply Kd.R_drewN | apply Kd.R_drew)); exact HO_4.out) hb); have n2_ := Aside0.mk (Kd.R_elder' (by (with_reducible repeat (first | apply Kd.R_alloc | apply Kd.R_drewN | apply Kd.R_drew)); exact HO_6.out) (Kd.R_base ho34) hb); have n3_ := Aside0.mk (Kd.R_lower (Kd.R_new' (Kd.R_new' ho34 (Kd.R_lt (by (with_reducible repeat (first | apply Kd.R_alloc | apply Kd.R_drewN | apply Kd.R_drew)); exact HO_3.out))) (Kd.R_lt (by (with_reducible repeat (first | apply Kd.R_alloc | apply Kd.R_drewN | apply Kd.R_drew)); exact HO_6.out))) (below_size (by repeat (first | (with_reducible first | exact HB.out | apply below_alloc | apply pw_below_drewN | apply below_drew1) | exact HB.out)))); have n4_ := Aside0.mk (below_step (by repeat (first | (with_reducible first | exact HB.out | apply below_alloc | apply pw_below_drewN | apply below_drew1) | exact HB.out)) hb); clear HO_3; clear HO_4; clear HO_6; clear HB; have HO_3 := n0_; have HO_4 := n1_; have HO_6 := n2_; have HO146 := n3_; have HB := n4_; clear n0_ n1_ n2_ n3_ n4_; clear hb ho34; have q35 : (x8_3 : Int) ≤ ((x3_2.length : Int) : Int) := of_decide_eq_true (by first | (with_reducible assumption) | assumption); obtain ⟨i035, hi035, _, hsz35, _⟩ := info_parts info54; have hroom35 : x3_2.length ≤ co30 := (Kd.R_reads' HO_3.out).2.1; have hC35 : Kd.C k54 _ (some ad142) x3_2.length x3_2 := (Kd.R_reads' HO_3.out).2.2; have hcut35 := cut_to (P := Try.prog) 30 54 .i64 Try.underlying30 hi035 (some ad142) x3_2.length co30 x8_3 (of_decide_eq_true (by first | (with_reducible assumption) | assumption)) q35 hroom35; have hr35 := Kd.C_take (m := (x8_3 : Int).toNat) hC35 (by omega); have hy35 : y147.length = (x8_3 : Int).toNat := (by rw [Ny147.out, List.length_take]; omega); rw [← Ny147.out] at hr35; rw [← hy35] at hcut35; have HR150 := Aside0.mk hr35; have HC150 := Aside0.mk (show y147.length ≤ co30 from by omega); clear hr35 hC35 hroom35 hi035 hsz35; have KY35 := Aside0.mk hy35; clear hy35; have KL35 := Aside0.mk (show (x8_3 : Int).toNat ≤ x3_2.length from by omega); replace q35 := eq_true q35) | ((with_reducible refine gate_builtin (b := .append) (xs := #[.tmp 78, .tmp 81]) rfl ?_); at_builtin; refine Kd.R_append_rows k54 (w0 := w) w.heap.size rfl (.tmp 78) (.tmp 81) 30 54 (.agg #[(.int .i64 0), (.int .i64 0)]) 16 rfl Try.underlying30 info54 rfl (by decide) (by omega) v145 y144 y147 _ _ _ (fun k_ => some k_ ≠ (.slice (some ad142) x3_2.length co30 : Value).ownBlock ∧ some k_ ≠ (.slice (some ad141) y138.length co31 : Value).ownBlock) (fun _ => False) rfl rfl ?aO ?aR (fun _ _ h => h) (fun _ h => h.elim) ?aF ?aB ?aS ?aL ?_; (case aR => repeat (first | exact (by repeat (first | (with_reducible exact HR150.out) | (with_reducible refine Kd.C_alloc ?_ _) | (with_reducible refine Kd.C_drewN ?_ _) | (with_reducible refine Kd.C_drew ?_) | exact HR150.out)) | (with_reducible refine Kd.C_alloc ?_ _) | (with_reducible refine Kd.C_drewN ?_ _) | (with_reducible refine Kd.C_drew ?_))); (case aB => exact (by repeat (first | (with_reducible first | exact HB.out | apply below_alloc | apply pw_below_drewN | apply below_drew1) | exact HB.out))); (case aF => exact (fun k_ hk => ⟨Kd.fresh' (Kd.R_lt (by (with_reducible repeat (first | apply Kd.R_alloc | apply Kd.R_drewN | apply Kd.R_drew)); exact HO_3.out)) k_ hk, Kd.fresh' (Kd.R_lt (by (with_reducible repeat (first | apply Kd.R_alloc | apply Kd.R_drewN | apply Kd.R_drew)); exact HO_6.out)) k_ hk⟩)); (case aO => exact (by (with_reducible repeat (first | apply Kd.R_alloc | apply Kd.R_drewN | apply Kd.R_drew)); exact Kd.R_mono HO146.out (fun _ hk => ⟨hk.1.2, hk.2⟩))); (case aS => exact (below_size (by repeat (first | (with_reducible first | exact HB.out | apply below_alloc | apply pw_below_drewN | apply below_drew1) | exact HB.out)))); (case aL => have := LMc24.out; omega); intro v152 w36 ho hb hg hat; rw [← Ny151.out] at ho; have n0_ := Aside0.mk (Kd.R_after (ok := (fun k_ => some k_ ≠ (.slice (some ad141) y138.length co31 : Value).ownBlock)) (by (with_reducible repeat (first | apply Kd.R_alloc | apply Kd.R_drewN | apply Kd.R_drew)); exact HO_3.out) hg hat); have n1_ := Aside0.mk (Kd.R_over' (by (with_reducible repeat (first | apply Kd.R_alloc | apply Kd.R_drewN | apply Kd.R_drew)); exact HO_4.out) (Kd.R_typed (by (with_reducible repeat (first | apply Kd.R_alloc | apply Kd.R_drewN | apply Kd.R_drew)); exact HO146.out)) (by decide) hg); have n2_ := Aside0.mk (Kd.R_after (ok := (fun k_ => some k_ ≠ (.slice (some ad142) x3_2.length co30 : Value).ownBlock)) (by (with_reducible repeat (first | apply Kd.R_alloc | apply Kd.R_drewN | apply Kd.R_drew)); exact HO_6.out) hg hat); have n3_ := Aside0.mk (hb); have n4_ := Aside0.mk ((show Kd.C k54 w36 (some ad142) y147.length y147 from by rw [Ny147.out]; exact Kd.C_take (m := (x8_3 : Int).toNat) ((Kd.R_reads' (Kd.R_after (ok := (fun k_ => some k_ ≠ (.slice (some ad141) y138.length co31 : Value).ownBlock)) (by (with_reducible repeat (first | apply Kd.R_alloc | apply Kd.R_drewN | apply Kd.R_drew)); exact HO_3.out) hg hat)).2.2) KL35.out)); have n5_ := Aside0.mk (ho); clear HO_3; clear HO_4; clear HO_6; clear HB; clear HR150; clear HO146; have HO_3 := n0_; have HO_4 := n1_; have HO_6 := n2_; have HB := n3_; have HR150 := n4_; have HO153 := n5_; clear n0_ n1_ n2_ n3_ n4_ n5_; clear ho hb hg hat; have p154 : 0 ≤ (x7_2 : Int) := of_decide_eq_true (by first | (with_reducible assumption) | assumption); have q154 : x7_2 < (y138.length : Int) := of_decide_eq_true (by first | (with_reducible assumption) | assumption); obtain ⟨ad154, e154, hx154_0, hx154_1⟩ := at_T54 (Kd.R_reads' HO_6.out).2.2 x7_2 p154 q154; obtain rfl : ad141 = ad154 := (by injection e154); replace p154 := eq_true p154; replace q154 := eq_true q154) | ((with_reducible refine gate_builtin (b := .append) (xs := #[.tmp 83, .tmp 88]) rfl ?_); at_builtin; refine Kd.R_append k54 (w0 := w) w.heap.size rfl (.tmp 83) (.tmp 88) 30 54 (.agg #[(.int .i64 0), (.int .i64 0)]) 16 rfl Try.underlying30 info54 rfl (by decide) (by omega) v152 y151 (⟨(rd_T54 y138 x7_2).f0, (rd_T54 y138 x7_2).f1⟩ : S54) [.int .i64 ((rd_T54 y138 x7_2).f0), .int .i64 ((rd_T54 y138 x7_2).f1)] (fun k_ => some k_ ≠ (.slice (some ad142) x3_2.length co30 : Value).ownBlock ∧ some k_ ≠ (.slice (some ad141) y138.length co31 : Value).ownBlock) (fun _ => False) rfl rfl ?aP (fun _ hk => hk.elim) ?aF ?aO ?aB ?aS ?aL ?_; (case aP => exact k54_mkM _ _ _ (⟨(rd_T54 y138 x7_2).f0, (rd_T54 y138 x7_2).f1⟩ : S54)); (case aB => exact (by repeat (first | (with_reducible first | exact HB.out | apply below_alloc | apply pw_below_drewN | apply below_drew1) | exact HB.out))); (case aF => exact (fun k_ hk => ⟨Kd.fresh' (Kd.R_lt (by (with_reducible repeat (first | apply Kd.R_alloc | apply Kd.R_drewN | apply Kd.R_drew)); exact HO_3.out)) k_ hk, Kd.fresh' (Kd.R_lt (by (with_reducible repeat (first | apply Kd.R_alloc | apply Kd.R_drewN | apply Kd.R_drew)); exact HO_6.out)) k_ hk⟩)); (case aO => exact (by (with_reducible repeat (first | apply Kd.R_alloc | apply Kd.R_drewN | apply Kd.R_drew)); exact HO153.out)); (case aS => exact (below_size (by repeat (first | (with_reducible first | exact HB.out | apply below_alloc | apply pw_below_drewN | apply below_drew1) | exact HB.out)))); (case aL => have := LMc25.out; omega); intro v156 w37 ho hb hg hat; rw [← Ny155.out] at ho; have n0_ := Aside0.mk (Kd.R_after (ok := (fun k_ => some k_ ≠ (.slice (some ad141) y138.length co31 : Value).ownBlock)) (by (with_reducible repeat (first | apply Kd.R_alloc | apply Kd.R_drewN | apply Kd.R_drew)); exact HO_3.out) hg hat); have n1_ := Aside0.mk (Kd.R_over' (by (with_reducible repeat (first | apply Kd.R_alloc | apply Kd.R_drewN | apply Kd.R_drew)); exact HO_4.out) (Kd.R_typed (by (with_reducible repeat (first | apply Kd.R_alloc | apply Kd.R_drewN | apply Kd.R_drew)); exact HO153.out)) (by decide) hg); have n2_ := Aside0.mk (Kd.R_after (ok := (fun k_ => some k_ ≠ (.slice (some ad142) x3_2.length co30 : Value).ownBlock)) (by (with_reducible repeat (first | apply Kd.R_alloc | apply Kd.R_drewN | apply Kd.R_drew)); exact HO_6.out) hg hat); have n3_ := Aside0.mk (hb); have n4_ := Aside0.mk ((show Kd.C k54 w37 (some ad142) y147.length y147 from by rw [Ny147.out]; exact Kd.C_take (m := (x8_3 : Int).toNat) ((Kd.R_reads' (Kd.R_after (ok := (fun k_ => some k_ ≠ (.slice (some ad141) y138.length co31 : Value).ownBlock)) (by (with_reducible repeat (first | apply Kd.R_alloc | apply Kd.R_drewN | apply Kd.R_drew)); exact HO_3.out) hg hat)).2.2) KL35.out)); have n5_ := Aside0.mk (ho); clear HO_3; clear HO_4; clear HO_6; clear HB; clear HR150; clear HO153; have HO_3 := n0_; have HO_4 := n1_; have HO_6 := n2_; have HB := n3_; have HR150 := n4_; have HO157 := n5_; clear n0_ n1_ n2_ n3_ n4_ n5_; clear ho hb hg hat; have q38 : (x8_3 : Int) ≤ ((x3_2.length : Int) : Int) := of_decide_eq_true (by first | (with_reducible assumption) | assumption); obtain ⟨i038, hi038, _, hsz38, _⟩ := info_parts info54; have hroom38 : x3_2.length ≤ co30 := (Kd.R_reads' HO_3.out).2.1; have hC38 : Kd.C k54 _ (some ad142) x3_2.length x3_2 := (Kd.R_reads' HO_3.out).2.2; have q038 : (0 : Int) ≤ (x8_3 : Int) := of_decide_eq_true (by first | (with_reducible assumption) | assumption); have hcut38 := cut_from (P := Try.prog) 30 54 .i64 Try.underlying30 hi038 2 hsz38 (some ad142) x3_2.length co30 x8_3 q038 q38; have hr38 := Kd.C_drop (m := (x8_3 : Int).toNat) (c := co30) hC38 (by omega) hroom38; obtain ⟨A38, hA38⟩ : ∃ A1, A1 = (if co30 = (x8_3 : Int).toNat then (some ad142) else ((some ad142) : Option Addr).map (·.add ((x8_3 : Int).toNat * 2))) := ⟨_, rfl⟩; obtain ⟨c38, hc38⟩ : ∃ c1, c1 = co30 - (x8_3 : Int).toNat := ⟨_, rfl⟩; have hy38 : y158.length = x3_2.length - (x8_3 : Int).toNat := (by rw [Ny158.out, List.length_drop] <;> omega); rw [show (x3_2).drop (x8_3 : Int).toNat = y158 from Ny158.out.symm] at hr38; replace hr38 : Kd.C k54 _ A38 y158.length y158 := (by rw [hA38]; exact hr38); rw [← hy38, ← hA38, ← hc38] at hcut38; have HR161 := Aside0.mk hr38; have HC161 := Aside0.mk (show y158.length ≤ c38 from by rw [hy38, hc38]; exact Nat.sub_le_sub_right hroom38 _); clear hr38 hC38 hroom38 hi038 hsz38 hc38; have KY38 := Aside0.mk hy38; have KA38 := Aside0.mk hA38; clear hy38 hA38; have KL38 := Aside0.mk (show (x8_3 : Int).toNat ≤ x3_2.length from by omega); replace q38 := eq_true q38) | ((with_reducible refine gate_builtin (b := .append) (xs := #[.tmp 90, .tmp 93]) rfl ?_); at_builtin; refine Kd.R_append_rows k54 (w0 := w) w.heap.size rfl (.tmp 90) (.tmp 93) 30 54 (.agg #[(.int .i64 0), (.int .i64 0)]) 16 rfl Try.underlying30 info54 rfl (by decide) (by omega) v156 y155 y158 _ _ _ (fun k_ => some k_ ≠ (.slice (some ad142) x3_2.length co30 : Value).ownBlock ∧ some k_ ≠ (.slice (some ad141) y138.length co31 : Value).ownBlock) (fun _ => False) rfl rfl ?aO ?aR (fun _ _ h => h) (fun _ h => h.elim) ?aF ?aB ?aS ?aL ?_; (case aR => repeat (first | exact (by repeat (first | (with_reducible exact HR161.out) | (with_reducible refine Kd.C_alloc ?_ _) | (with_reducible refine Kd.C_drewN ?_ _) | (with_reducible refine Kd.C_drew ?_) | exact HR161.out)) | (with_reducible refine Kd.C_alloc ?_ _) | (with_reducible refine Kd.C_drewN ?_ _) | (with_reducible refine Kd.C_drew ?_))); (case aB => exact (by repeat (first | (with_reducible first | exact HB.out | apply below_alloc | apply pw_below_drewN | apply below_drew1) | exact HB.out))); (case aF => exact (fun k_ hk => ⟨Kd.fresh' (Kd.R_lt (by (with_reducible repeat (first | apply Kd.R_alloc | apply Kd.R_drewN | apply Kd.R_drew)); exact HO_3.out)) k_ hk, Kd.fresh' (Kd.R_lt (by (with_reducible repeat (first | apply Kd.R_alloc | apply Kd.R_drewN | apply Kd.R_drew)); exact HO_6.out)) k_ hk⟩)); (case aO => exact (by (with_reducible repeat (first | apply Kd.R_alloc | apply Kd.R_drewN | apply Kd.R_drew)); exact HO157.out)); (case aS => exact (below_size (by repeat (first | (with_reducible first | exact HB.out | apply below_alloc | apply pw_below_drewN | apply below_drew1) | exact HB.out)))); (case aL => have := LMc28.out; omega); intro v163 w39 ho hb hg hat; rw [← Ny162.out] at ho; have n0_ := Aside0.mk (Kd.R_after (ok := (fun k_ => some k_ ≠ (.slice (some ad141) y138.length co31 : Value).ownBlock)) (by (with_reducible repeat (first | apply Kd.R_alloc | apply Kd.R_drewN | apply Kd.R_drew)); exact HO_3.out) hg hat); have n1_ := Aside0.mk (Kd.R_over' (by (with_reducible repeat (first | apply Kd.R_alloc | apply Kd.R_drewN | apply Kd.R_drew)); exact HO_4.out) (Kd.R_typed (by (with_reducible repeat (first | apply Kd.R_alloc | apply Kd.R_drewN | apply Kd.R_drew)); exact HO157.out)) (by decide) hg); have n2_ := Aside0.mk (Kd.R_after (ok := (fun k_ => some k_ ≠ (.slice (some ad142) x3_2.length co30 : Value).ownBlock)) (by (with_reducible repeat (first | apply Kd.R_alloc | apply Kd.R_drewN | apply Kd.R_drew)); exact HO_6.out) hg hat); have n3_ := Aside0.mk (hb); have n4_ := Aside0.mk ((show Kd.C k54 w39 (some ad142) y147.length y147 from by rw [Ny147.out]; exact Kd.C_take (m := (x8_3 : Int).toNat) ((Kd.R_reads' (Kd.R_after (ok := (fun k_ => some k_ ≠ (.slice (some ad141) y138.length co31 : Value).ownBlock)) (by (with_reducible repeat (first | apply Kd.R_alloc | apply Kd.R_drewN | apply Kd.R_drew)); exact HO_3.out) hg hat)).2.2) KL35.out)); have n5_ := Aside0.mk ((show Kd.C k54 w39 A38 y158.length y158 from by rw [Ny158.out, KA38.out]; exact Kd.C_drop (m := (x8_3 : Int).toNat) (c := co30) ((Kd.R_reads' (Kd.R_after (ok := (fun k_ => some k_ ≠ (.slice (some ad141) y138.length co31 : Value).ownBlock)) (by (with_reducible repeat (first | apply Kd.R_alloc | apply Kd.R_drewN | apply Kd.R_drew)); exact HO_3.out) hg hat)).2.2) KL38.out ((Kd.R_reads' (Kd.R_after (ok := (fun k_ => some k_ ≠ (.slice (some ad141) y138.length co31 : Value).ownBlock)) (by (with_reducible repeat (first | apply Kd.R_alloc | apply Kd.R_drewN | apply Kd.R_drew)); exact HO_3.out) hg hat)).2.1))); have n6_ := Aside0.mk (ho); clear HO_3; clear HO_4; clear HO_6; clear HB; clear HR150; clear HR161; clear HO157; have HO_3 := n0_; have HO_4 := n1_; have HO_6 := n2_; have HB := n3_; have HR150 := n4_; have HR161 := n5_; have HO164 := n6_; clear n0_ n1_ n2_ n3_ n4_ n5_ n6_; clear ho hb hg hat))
                                      go_roundg k3
                                      case measure => have := HK1.out; have := HK2.out; have := HK3.out; omega
                                      case rel => exact ⟨(y162), (wrap64 (x7_2 + 1)), (by first | rfl | (simp; done) | (simp [*]; done)), H', ⟨by have := HK1.out; have := HK2.out; have := HK3.out; omega⟩, ⟨by (with_reducible repeat (first | apply Kd.R_alloc | apply Kd.R_drewN | apply Kd.R_drew)); exact Kd.R_mono HO164.out (fun _ hk => hk.2)⟩, ⟨by (with_reducible repeat (first | apply Kd.R_alloc | apply Kd.R_drewN | apply Kd.R_drew)); exact HO_4.out⟩, ⟨by (with_reducible repeat (first | apply Kd.R_alloc | apply Kd.R_drewN | apply Kd.R_drew)); exact Kd.R_mono HO_6.out (fun _ hk => hk.2)⟩, ⟨by repeat (first | (with_reducible first | exact HB.out | apply below_alloc | apply pw_below_drewN | apply below_drew1) | exact HB.out)⟩⟩
                                    · rw [if_neg c28] at H
                                      exact absurd H (by simp)
                                  · rw [if_neg c25] at H
                                    exact absurd H (by simp)
                                · rw [if_neg c24] at H
                                  exact absurd H (by simp)
                              · rw [if_neg c23] at H
                                exact absurd H (by simp)
                            · replace c21 := Bool.eq_false_iff.mpr c21
                              subst c21
                              have H1 : (foliotref13_All.l2 k3 x3_2 t127 x5_1 y138 x7_2 (wrap64 (x8_3 + 1))) = some r := by rw [if_neg (show ¬ (false = true) by decide)] at H; exact H
                              clear H
                              have H := H1
                              clear H1
                              have H' := Aside0.mk H
                              clear H
                              try go_wp2
                              have n0_ := Aside0.mk (Kd.R_drew HO_3.out)
                              have n1_ := Aside0.mk (Kd.R_drew HO_4.out)
                              have n2_ := Aside0.mk (Kd.R_drew HO_6.out)
                              have n3_ := Aside0.mk (below_drew1 HB.out)
                              clear HO_3
                              clear HO_4
                              clear HO_6
                              clear HB
                              have HO_3 := n0_
                              have HO_4 := n1_
                              have HO_6 := n2_
                              have HB := n3_
                              clear n0_ n1_ n2_ n3_
                              obtain ⟨Ao41, co41, eo41⟩ := Kd.R_slice HO_3.out
                              (first | subst eo41 | (injection eo41 with f1_ f2_ f3_; have f4_ := f1_.symm; have f5_ := f3_.symm; clear f1_ f2_ f3_; subst f4_; subst f5_))
                              obtain ⟨Ao42, co42, eo42⟩ := Kd.R_slice HO_6.out
                              (first | subst eo42 | (injection eo42 with f1_ f2_ f3_; have f4_ := f1_.symm; have f5_ := f3_.symm; clear f1_ f2_ f3_; subst f4_; subst f5_))
                              have p141 : 0 ≤ (x7_2 : Int) := of_decide_eq_true (by first | (with_reducible assumption) | assumption)
                              have q141 : x7_2 < (y138.length : Int) := of_decide_eq_true (by first | (with_reducible assumption) | assumption)
                              obtain ⟨ad141, e141, hx141_0, hx141_1⟩ := at_T54 (Kd.R_reads' HO_6.out).2.2 x7_2 p141 q141
                              cases e141
                              replace p141 := eq_true p141
                              replace q141 := eq_true q141
                              have p142 : 0 ≤ (x8_3 : Int) := of_decide_eq_true (by first | (with_reducible assumption) | assumption)
                              have q142 : x8_3 < (x3_2.length : Int) := of_decide_eq_true (by first | (with_reducible assumption) | assumption)
                              obtain ⟨ad142, e142, hx142_0, hx142_1⟩ := at_T54 (Kd.R_reads' HO_3.out).2.2 x8_3 p142 q142
                              cases e142
                              replace p142 := eq_true p142
                              replace q142 := eq_true q142
                              refine start_ (n := 16) (S := fun w' => w'.cell? (ad141.add ((x7_2).toNat * 2)) = some (.int .i64 ((rd_T54 y138 x7_2).f0)) ∧ w'.cell? ⟨(ad141.add ((x7_2).toNat * 2)).block, (ad141.add ((x7_2).toNat * 2)).off + 1, none⟩ = some (.int .i64 ((rd_T54 y138 x7_2).f1)) ∧ w'.cell? (ad142.add ((x8_3).toNat * 2)) = some (.int .i64 ((rd_T54 x3_2 x8_3).f0)) ∧ w'.cell? ⟨(ad142.add ((x8_3).toNat * 2)).block, (ad142.add ((x8_3).toNat * 2)).off + 1, none⟩ = some (.int .i64 ((rd_T54 x3_2 x8_3).f1))) (ds := []) #[false, false, false, false, false, false, false, false, false, false, false, false, false, false, false, false] (by kernel_rfl) rfl rfl ⟨hx141_0, hx141_1, hx142_0, hx142_1⟩ (fun hHeld => ?_); refine with_tabW foliotref13_All.tab11 foliotref13_All.bits11 (fun HT_ HW_ => ?_)
                              generalize wr.drew = w40 at HO_3 HO_4 HO_6 HB hx141_0 hx141_1 hx142_0 hx142_1 hHeld ⊢
                              refine pure_ (i := 0) (N := some 59) (v := ?_) (a' := ?_) #[true, false, false, false, false, false, false, false, false, false, false, false, false, false, false, false] rfl rfl (any_of HT_.out (by kernel_rfl)) (fun _ _ _ h => h) (Or.inl ⟨by rfl, ?_⟩) ?_ ?_
                              rotate_left
                              · intro w'
                                go_simp
                                with_reducible rfl
                              rotate_left
                              · simp only [Act.put, List.setIfInBounds_toArray, List.set_cons_zero, List.set_cons_succ, i64_w, i32_w]
                                rfl
                              refine pure_ (i := 1) (N := some 60) (v := ?_) (a' := ?_) #[true, true, false, false, false, false, false, false, false, false, false, false, false, false, false, false] rfl rfl (any_of HT_.out (by kernel_rfl)) (fun _ _ _ h => h) (Or.inl ⟨by rfl, ?_⟩) ?_ ?_
                              rotate_left
                              · intro w'
                                go_simp
                                with_reducible rfl
                              rotate_left
                              · simp only [Act.put, List.setIfInBounds_toArray, List.set_cons_zero, List.set_cons_succ, i64_w, i32_w]
                                rfl
                              refine pure_ (i := 2) (N := some 61) (v := ?_) (a' := ?_) #[true, true, true, false, false, false, false, false, false, false, false, false, false, false, false, false] rfl rfl (any_of HT_.out (by kernel_rfl)) (fun _ _ _ h => h) (Or.inl ⟨by rfl, ?_⟩) ?_ ?_
                              rotate_left
                              · intro w'
                                go_simp
                                with_reducible rfl
                              rotate_left
                              · simp only [Act.put, List.setIfInBounds_toArray, List.set_cons_zero, List.set_cons_succ, i64_w, i32_w]
                                rfl
                              refine pure_ (i := 3) (N := some 62) (v := ?_) (a' := ?_) #[true, true, true, true, false, false, false, false, false, false, false, false, false, false, false, false] rfl rfl (any_of HT_.out (by kernel_rfl)) (fun _ _ _ h => h) (Or.inl ⟨by rfl, ?_⟩) ?_ ?_
                              rotate_left
                              · intro w'
                                go_simp
                                with_reducible rfl
                              rotate_left
                              · simp only [Act.put, List.setIfInBounds_toArray, List.set_cons_zero, List.set_cons_succ, i64_w, i32_w]
                                rfl
                              refine pure_ (i := 4) (N := some 63) (v := ?_) (a' := ?_) #[true, true, true, true, true, false, false, false, false, false, false, false, false, false, false, false] rfl rfl (any_of HT_.out (by kernel_rfl)) (fun _ _ _ h => h) (Or.inl ⟨by rfl, ?_⟩) ?_ ?_
                              rotate_left
                              · intro w'
                                go_simp
                                with_reducible rfl
                              rotate_left
                              · simp only [Act.put, List.setIfInBounds_toArray, List.set_cons_zero, List.set_cons_succ, i64_w, i32_w]
                                rfl
                              refine pure_ (i := 5) (N := some 64) (v := ?_) (a' := ?_) #[true, true, true, true, true, true, false, false, false, false, false, false, false, false, false, false] rfl rfl (any_of HT_.out (by kernel_rfl)) (fun _ _ _ h => h) (Or.inl ⟨by rfl, ?_⟩) ?_ ?_
                              rotate_left
                              · intro w'
                                go_simp
                                with_reducible rfl
                              rotate_left
                              · simp only [Act.put, List.setIfInBounds_toArray, List.set_cons_zero, List.set_cons_succ, i64_w, i32_w]
                                rfl
                              refine pure_ (i := 6) (N := some 65) (v := ?_) (a' := ?_) #[true, true, true, true, true, true, true, false, false, false, false, false, false, false, false, false] rfl rfl (any_of HT_.out (by kernel_rfl)) (fun _ _ _ h => h) (Or.inl ⟨by rfl, ?_⟩) ?_ ?_
                              rotate_left
                              · intro w'
                                go_simp
                                with_reducible rfl
                              rotate_left
                              · simp only [Act.put, List.setIfInBounds_toArray, List.set_cons_zero, List.set_cons_succ, i64_w, i32_w]
                                rfl
                              refine pure_ (i := 7) (N := some 66) (v := ?_) (a' := ?_) #[true, true, true, true, true, true, true, true, false, false, false, false, false, false, false, false] rfl rfl (any_of HT_.out (by kernel_rfl)) (fun _ _ _ h => h) (Or.inl ⟨by rfl, ?_⟩) ?_ ?_
                              rotate_left
                              · intro w'
                                go_simp
                                with_reducible rfl
                              rotate_left
                              · simp only [Act.put, List.setIfInBounds_toArray, List.set_cons_zero, List.set_cons_succ, i64_w, i32_w]
                                rfl
                              refine pure_ (i := 9) (N := some 68) (v := ?_) (a' := ?_) #[true, true, true, true, true, true, true, true, false, true, false, false, false, false, false, false] rfl rfl (any_of HT_.out (by kernel_rfl)) (fun _ _ _ h => h) (Or.inl ⟨by rfl, ?_⟩) ?_ ?_
                              rotate_left
                              · intro w'
                                go_simp
                                with_reducible rfl
                              rotate_left
                              · simp only [Act.put, List.setIfInBounds_toArray, List.set_cons_zero, List.set_cons_succ, i64_w, i32_w]
                                rfl
                              refine pure_ (i := 10) (N := some 69) (v := ?_) (a' := ?_) #[true, true, true, true, true, true, true, true, false, true, true, false, false, false, false, false] rfl rfl (any_of HT_.out (by kernel_rfl)) (fun _ _ _ h => h) (Or.inl ⟨by rfl, ?_⟩) ?_ ?_
                              rotate_left
                              · intro w'
                                go_simp
                                with_reducible rfl
                              rotate_left
                              · simp only [Act.put, List.setIfInBounds_toArray, List.set_cons_zero, List.set_cons_succ, i64_w, i32_w]
                                rfl
                              refine pure_ (i := 11) (N := some 70) (v := ?_) (a' := ?_) #[true, true, true, true, true, true, true, true, false, true, true, true, false, false, false, false] rfl rfl (any_of HT_.out (by kernel_rfl)) (fun _ _ _ h => h) (Or.inl ⟨by rfl, ?_⟩) ?_ ?_
                              rotate_left
                              · intro w'
                                go_simp
                                with_reducible rfl
                              rotate_left
                              · simp only [Act.put, List.setIfInBounds_toArray, List.set_cons_zero, List.set_cons_succ, i64_w, i32_w]
                                rfl
                              refine take_ (i := 8) (N := some 67) (v := ?_) (a' := ?_) #[true, true, true, true, true, true, true, true, true, true, true, true, false, false, false, false] rfl rfl (take_ofW HT_.out HW_.out (by kernel_rfl)) (fun _ _ _ h => h) (Or.inl ⟨by rfl, ?_⟩) hHeld ?_ ?_
                              rotate_left
                              · rintro w' ⟨s0, s1, s2, s3⟩
                                go_simp
                                with_reducible rfl
                              rotate_left
                              · simp only [Act.put, List.setIfInBounds_toArray, List.set_cons_zero, List.set_cons_succ, i64_w, i32_w]
                                rfl
                              refine take_ (i := 12) (N := some 71) (v := ?_) (a' := ?_) #[true, true, true, true, true, true, true, true, true, true, true, true, true, false, false, false] rfl rfl (take_ofW HT_.out HW_.out (by kernel_rfl)) (fun _ _ _ h => h) (Or.inl ⟨by rfl, ?_⟩) hHeld ?_ ?_
                              rotate_left
                              · rintro w' ⟨s0, s1, s2, s3⟩
                                go_simp
                                with_reducible rfl
                              rotate_left
                              · simp only [Act.put, List.setIfInBounds_toArray, List.set_cons_zero, List.set_cons_succ, i64_w, i32_w]
                                rfl
                              refine one_ (i := 13) (N := some 72) #[true, true, true, true, true, true, true, true, true, true, true, true, true, true, false, false] rfl rfl (one_of HT_.out (by kernel_rfl)) (by decide) (fun K hK => ?_)
                              refine goes_ Try.func32 (by kernel_rfl) rfl #[.agg #[.int .i64 ((rd_T54 y138 x7_2).f0), .int .i64 ((rd_T54 y138 x7_2).f1)], .agg #[.int .i64 ((rd_T54 x3_2 x8_3).f0), .int .i64 ((rd_T54 x3_2 x8_3).f1)]] (by rfl) rfl rfl (by (try simp only [List.map_toArray, List.map_cons, List.map_nil]); first | done | rfl | (simp only [List.length_drop, List.length_take]; rfl)) ?_
                              with_reducible refine (foliotref13_less.calls ((rd_T54 y138 x7_2).f0) ((rd_T54 y138 x7_2).f1) ((rd_T54 x3_2 x8_3).f0) ((rd_T54 x3_2 x8_3).f1) false _ A20.out).mono ?_
                              rintro e w43 ⟨rfl, hb⟩
                              have HS0_ := (hb.cell (World.block_lt_of_cell? _ _ (hHeld.1))).trans (hHeld.1)
                              have HS1_ := (hb.cell (World.block_lt_of_cell? _ _ (hHeld.2.1))).trans (hHeld.2.1)
                              have HS2_ := (hb.cell (World.block_lt_of_cell? _ _ (hHeld.2.2.1))).trans (hHeld.2.2.1)
                              have HS3_ := (hb.cell (World.block_lt_of_cell? _ _ (hHeld.2.2.2))).trans (hHeld.2.2.2)
                              refine ⟨_, rfl, ?_⟩
                              have n0_ := Aside0.mk (Kd.R_below (by (with_reducible repeat (first | apply Kd.R_alloc | apply Kd.R_drewN | apply Kd.R_drew)); exact HO_3.out) hb)
                              have n1_ := Aside0.mk (Kd.R_below (by (with_reducible repeat (first | apply Kd.R_alloc | apply Kd.R_drewN | apply Kd.R_drew)); exact HO_4.out) hb)
                              have n2_ := Aside0.mk (Kd.R_below (by (with_reducible repeat (first | apply Kd.R_alloc | apply Kd.R_drewN | apply Kd.R_drew)); exact HO_6.out) hb)
                              have n3_ := Aside0.mk (below_step (by repeat (first | (with_reducible first | exact HB.out | apply below_alloc | apply pw_below_drewN | apply below_drew1) | exact HB.out)) hb)
                              clear HO_3
                              clear HO_4
                              clear HO_6
                              clear HB
                              have HO_3 := n0_
                              have HO_4 := n1_
                              have HO_6 := n2_
                              have HB := n3_
                              clear n0_ n1_ n2_ n3_
                              (try clear hb)
                              (try clear hb2)
                              (try clear hk)
                              (try clear hi)
                              refine hK.out _ _ ⟨HS0_, HS1_, HS2_, HS3_⟩ (fun hHeld => ?_)
                              clear hK K
                              refine norm_ (a' := ?_) ?_ ?_
                              rotate_left
                              · show Act.put _ (some 72) _ = _
                                simp only [Act.put, List.setIfInBounds_toArray, List.set_cons_zero, List.set_cons_succ, i64_w, i32_w]
                                rfl
                              refine pure_ (i := 14) (N := some 73) (v := ?_) (a' := ?_) #[true, true, true, true, true, true, true, true, true, true, true, true, true, true, true, false] rfl rfl (any_of HT_.out (by kernel_rfl)) (fun _ _ _ h => h) (Or.inl ⟨by rfl, ?_⟩) ?_ ?_
                              rotate_left
                              · intro w'
                                go_simp
                                with_reducible rfl
                              rotate_left
                              · simp only [Act.put, List.setIfInBounds_toArray, List.set_cons_zero, List.set_cons_succ, i64_w, i32_w]
                                rfl
                              refine pure_ (i := 15) (N := some 74) (v := ?_) (a' := ?_) #[true, true, true, true, true, true, true, true, true, true, true, true, true, true, true, true] rfl rfl (any_of HT_.out (by kernel_rfl)) (fun _ _ _ h => h) (Or.inl ⟨by rfl, ?_⟩) ?_ ?_
                              rotate_left
                              · intro w'
                                go_simp
                                with_reducible rfl
                              rotate_left
                              · simp only [Act.put, List.setIfInBounds_toArray, List.set_cons_zero, List.set_cons_succ, i64_w, i32_w]
                                rfl
                              refine done_ (done_of HT_.out (by kernel_rfl)) ?_
                              try go_wp2
                              go_roundg k3
                              case measure => have := HK1.out; have := HK2.out; have := HK3.out; omega
                              case rel => exact ⟨(wrap64 (x8_3 + 1)), (by first | rfl | (simp; done) | (simp [*]; done)), H', ⟨by have := HK1.out; have := HK2.out; have := HK3.out; omega⟩, ⟨by (with_reducible repeat (first | apply Kd.R_alloc | apply Kd.R_drewN | apply Kd.R_drew)); exact HO_3.out⟩, ⟨by (with_reducible repeat (first | apply Kd.R_alloc | apply Kd.R_drewN | apply Kd.R_drew)); exact HO_4.out⟩, ⟨by (with_reducible repeat (first | apply Kd.R_alloc | apply Kd.R_drewN | apply Kd.R_drew)); exact HO_6.out⟩, ⟨by repeat (first | (with_reducible first | exact HB.out | apply below_alloc | apply pw_below_drewN | apply below_drew1) | exact HB.out)⟩⟩
                          · rw [if_neg c19] at H
                            exact absurd H (by simp)
                        · rw [if_neg c18] at H
                          exact absurd H (by simp)
                      · rw [if_neg c17] at H
                        exact absurd H (by simp)
                    · rw [if_neg c16] at H
                      have c16b0 : decide (x8_3 < (x3_2.length : Int)) = false := decide_eq_false c16
                      clear c16
                      obtain ⟨y165, hy165⟩ : ∃ y_ : List (S54), y_ = (([] : List (S54))) := ⟨_, rfl⟩
                      replace H : (if 0 ≤ x8_3 then (if x8_3 ≤ (x3_2.length : Int) then ((some (x3_2.take (x8_3 : Int).toNat : List (S54))).bind fun y168 => (if y165.length + y168.length < 8796093022208 then ((some (y165 ++ y168 : List (S54))).bind fun y172 => (if 0 ≤ x7_2 then (if x7_2 < (y138.length : Int) then (if y172.length < 8796093022208 then ((some (y172 ++ [(⟨(rd_T54 y138 x7_2).f0, (rd_T54 y138 x7_2).f1⟩ : S54)] : List (S54))).bind fun y176 => ((some (x3_2.drop (x8_3 : Int).toNat : List (S54))).bind fun y179 => (if y176.length + y179.length < 8796093022208 then (foliotref13_All.l1 k3 (y176 ++ y179) t127 x5_1 y138 (wrap64 (x7_2 + 1))) else (none)))) else (none)) else (none)) else (none))) else (none))) else (none)) else (none)) = some r := by first | (rw [hy165]; with_reducible exact H) | (have H2_ := (Option.bind_some _ _).symm.trans H; rw [hy165]; with_reducible exact H2_) | (have H2_ := (Option.bind_some _ _).symm.trans H; with_reducible exact H2_) | with_reducible exact H | (rw [hy165]; exact H) | exact H
                      have Ny165 := Aside0.mk hy165
                      clear hy165
                      by_cases c44 : 0 ≤ x8_3
                      · rw [if_pos c44] at H
                        have c44b0 := eq_true c44
                        have c44b1 : decide (0 ≤ x8_3) = true := decide_eq_true c44
                        clear c44
                        by_cases c45 : x8_3 ≤ (x3_2.length : Int)
                        · rw [if_pos c45] at H
                          have c45b0 := eq_true c45
                          have c45b1 : decide (x8_3 ≤ (x3_2.length : Int)) = true := decide_eq_true c45
                          clear c45
                          obtain ⟨y168, hy168⟩ : ∃ y_ : List (S54), y_ = (x3_2.take (x8_3 : Int).toNat) := ⟨_, rfl⟩
                          replace H : (if y165.length + y168.length < 8796093022208 then ((some (y165 ++ y168 : List (S54))).bind fun y172 => (if 0 ≤ x7_2 then (if x7_2 < (y138.length : Int) then (if y172.length < 8796093022208 then ((some (y172 ++ [(⟨(rd_T54 y138 x7_2).f0, (rd_T54 y138 x7_2).f1⟩ : S54)] : List (S54))).bind fun y176 => ((some (x3_2.drop (x8_3 : Int).toNat : List (S54))).bind fun y179 => (if y176.length + y179.length < 8796093022208 then (foliotref13_All.l1 k3 (y176 ++ y179) t127 x5_1 y138 (wrap64 (x7_2 + 1))) else (none)))) else (none)) else (none)) else (none))) else (none)) = some r := by first | (rw [hy168]; with_reducible exact H) | (have H2_ := (Option.bind_some _ _).symm.trans H; rw [hy168]; with_reducible exact H2_) | (have H2_ := (Option.bind_some _ _).symm.trans H; with_reducible exact H2_) | with_reducible exact H | (rw [hy168]; exact H) | exact H
                          have Ny168 := Aside0.mk hy168
                          clear hy168
                          by_cases c46 : y165.length + y168.length < 8796093022208
                          · rw [if_pos c46] at H
                            have LMc46 := Aside0.mk c46
                            clear c46
                            obtain ⟨y172, hy172⟩ : ∃ y_ : List (S54), y_ = (y165 ++ y168) := ⟨_, rfl⟩
                            replace H : (if 0 ≤ x7_2 then (if x7_2 < (y138.length : Int) then (if y172.length < 8796093022208 then ((some (y172 ++ [(⟨(rd_T54 y138 x7_2).f0, (rd_T54 y138 x7_2).f1⟩ : S54)] : List (S54))).bind fun y176 => ((some (x3_2.drop (x8_3 : Int).toNat : List (S54))).bind fun y179 => (if y176.length + y179.length < 8796093022208 then (foliotref13_All.l1 k3 (y176 ++ y179) t127 x5_1 y138 (wrap64 (x7_2 + 1))) else (none)))) else (none)) else (none)) else (none)) = some r := by first | (rw [hy172]; with_reducible exact H) | (have H2_ := (Option.bind_some _ _).symm.trans H; rw [hy172]; with_reducible exact H2_) | (have H2_ := (Option.bind_some _ _).symm.trans H; with_reducible exact H2_) | with_reducible exact H | (rw [hy172]; exact H) | exact H
                            have Ny172 := Aside0.mk hy172
                            clear hy172
                            by_cases c47 : 0 ≤ x7_2
                            · rw [if_pos c47] at H
                              have c47b0 : decide (0 ≤ x7_2) = true := decide_eq_true c47
                              clear c47
                              by_cases c48 : x7_2 < (y138.length : Int)
                              · rw [if_pos c48] at H
                                have c48b0 : decide (x7_2 < (y138.length : Int)) = true := decide_eq_true c48
                                clear c48
                                by_cases c49 : y172.length < 8796093022208
                                · rw [if_pos c49] at H
                                  have LMc49 := Aside0.mk c49
                                  clear c49
                                  obtain ⟨y176, hy176⟩ : ∃ y_ : List (S54), y_ = (y172 ++ [(⟨(rd_T54 y138 x7_2).f0, (rd_T54 y138 x7_2).f1⟩ : S54)]) := ⟨_, rfl⟩
                                  replace H : ((some (x3_2.drop (x8_3 : Int).toNat : List (S54))).bind fun y179 => (if y176.length + y179.length < 8796093022208 then (foliotref13_All.l1 k3 (y176 ++ y179) t127 x5_1 y138 (wrap64 (x7_2 + 1))) else (none))) = some r := by first | (rw [hy176]; with_reducible exact H) | (have H2_ := (Option.bind_some _ _).symm.trans H; rw [hy176]; with_reducible exact H2_) | (have H2_ := (Option.bind_some _ _).symm.trans H; with_reducible exact H2_) | with_reducible exact H | (rw [hy176]; exact H) | exact H
                                  have Ny176 := Aside0.mk hy176
                                  clear hy176
                                  have c50b0 := eq_true (of_decide_eq_true (by first | (with_reducible assumption) | assumption) : 0 ≤ x8_3)
                                  have c51b0 := eq_true (of_decide_eq_true (by first | (with_reducible assumption) | assumption) : x8_3 ≤ (x3_2.length : Int))
                                  obtain ⟨y179, hy179⟩ : ∃ y_ : List (S54), y_ = (x3_2.drop (x8_3 : Int).toNat) := ⟨_, rfl⟩
                                  replace H : (if y176.length + y179.length < 8796093022208 then (foliotref13_All.l1 k3 (y176 ++ y179) t127 x5_1 y138 (wrap64 (x7_2 + 1))) else (none)) = some r := by first | (rw [hy179]; with_reducible exact H) | (have H2_ := (Option.bind_some _ _).symm.trans H; rw [hy179]; with_reducible exact H2_) | (have H2_ := (Option.bind_some _ _).symm.trans H; with_reducible exact H2_) | with_reducible exact H | (rw [hy179]; exact H) | exact H
                                  have Ny179 := Aside0.mk hy179
                                  clear hy179
                                  by_cases c52 : y176.length + y179.length < 8796093022208
                                  · rw [if_pos c52] at H
                                    have LMc52 := Aside0.mk c52
                                    clear c52
                                    obtain ⟨y183, hy183⟩ : ∃ y_ : List (S54), y_ = (y176 ++ y179) := ⟨_, rfl⟩
                                    replace H : (foliotref13_All.l1 k3 y183 t127 x5_1 y138 (wrap64 (x7_2 + 1))) = some r := by first | (rw [hy183]; with_reducible exact H) | (have H2_ := (Option.bind_some _ _).symm.trans H; rw [hy183]; with_reducible exact H2_) | (have H2_ := (Option.bind_some _ _).symm.trans H; with_reducible exact H2_) | with_reducible exact H | (rw [hy183]; exact H) | exact H
                                    have Ny183 := Aside0.mk hy183
                                    clear hy183
                                    have H' := Aside0.mk H
                                    clear H
                                    try go_wp2
                                    have n0_ := Aside0.mk (Kd.R_drew HO_3.out)
                                    have n1_ := Aside0.mk (Kd.R_drew HO_4.out)
                                    have n2_ := Aside0.mk (Kd.R_drew HO_6.out)
                                    have n3_ := Aside0.mk (below_drew1 HB.out)
                                    clear HO_3
                                    clear HO_4
                                    clear HO_6
                                    clear HB
                                    have HO_3 := n0_
                                    have HO_4 := n1_
                                    have HO_6 := n2_
                                    have HB := n3_
                                    clear n0_ n1_ n2_ n3_
                                    obtain ⟨Ao54, co54, eo54⟩ := Kd.R_slice HO_3.out
                                    (first | subst eo54 | (injection eo54 with f1_ f2_ f3_; have f4_ := f1_.symm; have f5_ := f3_.symm; clear f1_ f2_ f3_; subst f4_; subst f5_))
                                    refine start_ (n := 16) (S := fun w' => True) (ds := []) #[false, false, false, false, false, false, false, false, false, false, false, false, false, false, false, false] (by kernel_rfl) rfl rfl trivial (fun hHeld => ?_); refine with_tabW foliotref13_All.tab11 foliotref13_All.bits11 (fun HT_ HW_ => ?_)
                                    generalize wr.drew = w53 at HO_3 HO_4 HO_6 HB hHeld ⊢
                                    refine pure_ (i := 0) (N := some 59) (v := ?_) (a' := ?_) #[true, false, false, false, false, false, false, false, false, false, false, false, false, false, false, false] rfl rfl (any_of HT_.out (by kernel_rfl)) (fun _ _ _ h => h) (Or.inl ⟨by rfl, ?_⟩) ?_ ?_
                                    rotate_left
                                    · intro w'
                                      go_simp
                                      with_reducible rfl
                                    rotate_left
                                    · simp only [Act.put, List.setIfInBounds_toArray, List.set_cons_zero, List.set_cons_succ, i64_w, i32_w]
                                      rfl
                                    refine pure_ (i := 1) (N := some 60) (v := ?_) (a' := ?_) #[true, true, false, false, false, false, false, false, false, false, false, false, false, false, false, false] rfl rfl (any_of HT_.out (by kernel_rfl)) (fun _ _ _ h => h) (Or.inl ⟨by rfl, ?_⟩) ?_ ?_
                                    rotate_left
                                    · intro w'
                                      go_simp
                                      with_reducible rfl
                                    rotate_left
                                    · simp only [Act.put, List.setIfInBounds_toArray, List.set_cons_zero, List.set_cons_succ, i64_w, i32_w]
                                      rfl
                                    refine pure_ (i := 2) (N := some 61) (v := ?_) (a' := ?_) #[true, true, true, false, false, false, false, false, false, false, false, false, false, false, false, false] rfl rfl (any_of HT_.out (by kernel_rfl)) (fun _ _ _ h => h) (Or.inl ⟨by rfl, ?_⟩) ?_ ?_
                                    rotate_left
                                    · intro w'
                                      go_simp
                                      with_reducible rfl
                                    rotate_left
                                    · simp only [Act.put, List.setIfInBounds_toArray, List.set_cons_zero, List.set_cons_succ, i64_w, i32_w]
                                      rfl
                                    refine pure_ (i := 3) (N := some 62) (v := ?_) (a' := ?_) #[true, true, true, true, false, false, false, false, false, false, false, false, false, false, false, false] rfl rfl (any_of HT_.out (by kernel_rfl)) (fun _ _ _ h => h) (Or.inl ⟨by rfl, ?_⟩) ?_ ?_
                                    rotate_left
                                    · intro w'
                                      go_simp
                                      with_reducible rfl
                                    rotate_left
                                    · simp only [Act.put, List.setIfInBounds_toArray, List.set_cons_zero, List.set_cons_succ, i64_w, i32_w]
                                      rfl
                                    refine pure_ (i := 4) (N := some 63) (v := ?_) (a' := ?_) #[true, true, true, true, true, false, false, false, false, false, false, false, false, false, false, false] rfl rfl (any_of HT_.out (by kernel_rfl)) (fun _ _ _ h => h) (Or.inl ⟨by rfl, ?_⟩) ?_ ?_
                                    rotate_left
                                    · intro w'
                                      go_simp
                                      with_reducible rfl
                                    rotate_left
                                    · simp only [Act.put, List.setIfInBounds_toArray, List.set_cons_zero, List.set_cons_succ, i64_w, i32_w]
                                      rfl
                                    refine pure_ (i := 5) (N := some 64) (v := undef) (a' := ?_) #[true, true, true, true, true, true, false, false, false, false, false, false, false, false, false, false] rfl rfl (any_of HT_.out (by kernel_rfl)) (fun _ _ _ h => h) (Or.inr ⟨by rfl, rfl⟩) ?_ ?_
                                    rotate_left
                                    · simp only [Act.put, List.setIfInBounds_toArray, List.set_cons_zero, List.set_cons_succ, i64_w, i32_w]
                                      rfl
                                    refine pure_ (i := 6) (N := some 65) (v := undef) (a' := ?_) #[true, true, true, true, true, true, true, false, false, false, false, false, false, false, false, false] rfl rfl (any_of HT_.out (by kernel_rfl)) (fun _ _ _ h => h) (Or.inr ⟨by rfl, rfl⟩) ?_ ?_
                                    rotate_left
                                    · simp only [Act.put, List.setIfInBounds_toArray, List.set_cons_zero, List.set_cons_succ, i64_w, i32_w]
                                      rfl
                                    refine pure_ (i := 7) (N := some 66) (v := undef) (a' := ?_) #[true, true, true, true, true, true, true, true, false, false, false, false, false, false, false, false] rfl rfl (any_of HT_.out (by kernel_rfl)) (fun _ _ _ h => h) (Or.inr ⟨by rfl, rfl⟩) ?_ ?_
                                    rotate_left
                                    · simp only [Act.put, List.setIfInBounds_toArray, List.set_cons_zero, List.set_cons_succ, i64_w, i32_w]
                                      rfl
                                    refine pure_ (i := 8) (N := some 67) (v := undef) (a' := ?_) #[true, true, true, true, true, true, true, true, true, false, false, false, false, false, false, false] rfl rfl (any_of HT_.out (by kernel_rfl)) (fun _ _ _ h => h) (Or.inr ⟨by rfl, rfl⟩) ?_ ?_
                                    rotate_left
                                    · simp only [Act.put, List.setIfInBounds_toArray, List.set_cons_zero, List.set_cons_succ, i64_w, i32_w]
                                      rfl
                                    refine pure_ (i := 9) (N := some 68) (v := undef) (a' := ?_) #[true, true, true, true, true, true, true, true, true, true, false, false, false, false, false, false] rfl rfl (any_of HT_.out (by kernel_rfl)) (fun _ _ _ h => h) (Or.inr ⟨by rfl, rfl⟩) ?_ ?_
                                    rotate_left
                                    · simp only [Act.put, List.setIfInBounds_toArray, List.set_cons_zero, List.set_cons_succ, i64_w, i32_w]
                                      rfl
                                    refine pure_ (i := 10) (N := some 69) (v := undef) (a' := ?_) #[true, true, true, true, true, true, true, true, true, true, true, false, false, false, false, false] rfl rfl (any_of HT_.out (by kernel_rfl)) (fun _ _ _ h => h) (Or.inr ⟨by rfl, rfl⟩) ?_ ?_
                                    rotate_left
                                    · simp only [Act.put, List.setIfInBounds_toArray, List.set_cons_zero, List.set_cons_succ, i64_w, i32_w]
                                      rfl
                                    refine pure_ (i := 11) (N := some 70) (v := undef) (a' := ?_) #[true, true, true, true, true, true, true, true, true, true, true, true, false, false, false, false] rfl rfl (any_of HT_.out (by kernel_rfl)) (fun _ _ _ h => h) (Or.inr ⟨by rfl, rfl⟩) ?_ ?_
                                    rotate_left
                                    · simp only [Act.put, List.setIfInBounds_toArray, List.set_cons_zero, List.set_cons_succ, i64_w, i32_w]
                                      rfl
                                    refine pure_ (i := 12) (N := some 71) (v := undef) (a' := ?_) #[true, true, true, true, true, true, true, true, true, true, true, true, true, false, false, false] rfl rfl (any_of HT_.out (by kernel_rfl)) (fun _ _ _ h => h) (Or.inr ⟨by rfl, rfl⟩) ?_ ?_
                                    rotate_left
                                    · simp only [Act.put, List.setIfInBounds_toArray, List.set_cons_zero, List.set_cons_succ, i64_w, i32_w]
                                      rfl
                                    refine pure_ (i := 13) (N := some 72) (v := undef) (a' := ?_) #[true, true, true, true, true, true, true, true, true, true, true, true, true, true, false, false] rfl rfl (any_of HT_.out (by kernel_rfl)) (fun _ _ _ h => h) (Or.inr ⟨by rfl, rfl⟩) ?_ ?_
                                    rotate_left
                                    · simp only [Act.put, List.setIfInBounds_toArray, List.set_cons_zero, List.set_cons_succ, i64_w, i32_w]
                                      rfl
                                    refine pure_ (i := 14) (N := some 73) (v := undef) (a' := ?_) #[true, true, true, true, true, true, true, true, true, true, true, true, true, true, true, false] rfl rfl (any_of HT_.out (by kernel_rfl)) (fun _ _ _ h => h) (Or.inr ⟨by rfl, rfl⟩) ?_ ?_
                                    rotate_left
                                    · simp only [Act.put, List.setIfInBounds_toArray, List.set_cons_zero, List.set_cons_succ, i64_w, i32_w]
                                      rfl
                                    refine pure_ (i := 15) (N := some 74) (v := ?_) (a' := ?_) #[true, true, true, true, true, true, true, true, true, true, true, true, true, true, true, true] rfl rfl (any_of HT_.out (by kernel_rfl)) (fun _ _ _ h => h) (Or.inl ⟨by rfl, ?_⟩) ?_ ?_
                                    rotate_left
                                    · intro w'
                                      go_simp
                                      with_reducible rfl
                                    rotate_left
                                    · simp only [Act.put, List.setIfInBounds_toArray, List.set_cons_zero, List.set_cons_succ, i64_w, i32_w]
                                      rfl
                                    refine done_ (done_of HT_.out (by kernel_rfl)) ?_
                                    try go_wp2_with (first | ((with_reducible refine gate_dst (N := 77) rfl ?_); refine Kd.R_lit k54 _ 54 ?hg (N := 77) ?hd (xs := ([] : List (S54))) (inner := []) (ok := fun _ => True) (okp := fun _ => True) ?hr ?hp (fun _ hk => hk) trivial (Below.refl _ _) (Nat.le_refl _) (by simp) ?_; (case hd => rfl); (case hg => rfl); (case hr => first | (go_simp; done) | (go_simp; rfl)); (case hp => exact (Reps.none _ _)); intro v166 w55 ho56 hb hg_ hnew_; clear hg_ hnew_; (first | rw [← Ny165.out] at ho56 | (simp only [Int.reduceToNat] at ho56; rw [← Ny165.out] at ho56)); have n0_ := Aside0.mk (Kd.R_elder' (by (with_reducible repeat (first | apply Kd.R_alloc | apply Kd.R_drewN | apply Kd.R_drew)); exact HO_3.out) (Kd.R_base ho56) hb); have n1_ := Aside0.mk (Kd.R_below (by (with_reducible repeat (first | apply Kd.R_alloc | apply Kd.R_drewN | apply Kd.R_drew)); exact HO_4.out) hb); have n2_ := Aside0.mk (Kd.R_elder' (by (with_reducible repeat (first | apply Kd.R_alloc | apply Kd.R_drewN | apply Kd.R_drew)); exact HO_6.out) (Kd.R_base ho56) hb); have n3_ := Aside0.mk (Kd.R_lower (Kd.R_new' (Kd.R_new' ho56 (Kd.R_lt (by (with_reducible repeat (first | apply Kd.R_alloc | apply Kd.R_drewN | apply Kd.R_drew)); exact HO_3.out))) (Kd.R_lt (by (with_reducible repeat (first | apply Kd.R_alloc | apply Kd.R_drewN | apply Kd.R_drew)); exact HO_6.out))) (below_size (by repeat (first | (with_reducible first | exact HB.out | apply below_alloc | apply pw_below_drewN | apply below_drew1) | exact HB.out)))); have n4_ := Aside0.mk (below_step (by repeat (first | (with_reducible first | exact HB.out | apply below_alloc | apply pw_below_drewN | apply below_drew1) | exact HB.out)) hb); clear HO_3; clear HO_4; clear HO_6; clear HB; have HO_3 := n0_; have HO_4 := n1_; have HO_6 := n2_; have HO167 := n3_; have HB := n4_; clear n0_ n1_ n2_ n3_ n4_; clear hb ho56; have q57 : (x8_3 : Int) ≤ ((x3_2.length : Int) : Int) := of_decide_eq_true (by first | (with_reducible assumption) | assumption); obtain ⟨i057, hi057, _, hsz57, _⟩ := info_parts info54; have hroom57 : x3_2.length ≤ co54 := (Kd.R_reads' HO_3.out).2.1; have hC57 : Kd.C k54 _ Ao54 x3_2.length x3_2 := (Kd.R_reads' HO_3.out).2.2; have hcut57 := cut_to (P := Try.prog) 30 54 .i64 Try.underlying30 hi057 Ao54 x3_2.length co54 x8_3 (of_decide_eq_true (by first | (with_reducible assumption) | assumption)) q57 hroom57; have hr57 := Kd.C_take (m := (x8_3 : Int).toNat) hC57 (by omega); have hy57 : y168.length = (x8_3 : Int).toNat := (by rw [Ny168.out, List.length_take]; omega); rw [← Ny168.out] at hr57; rw [← hy57] at hcut57; have HR171 := Aside0.mk hr57; have HC171 := Aside0.mk (show y168.length ≤ co54 from by omega); clear hr57 hC57 hroom57 hi057 hsz57; have KY57 := Aside0.mk hy57; clear hy57; have KL57 := Aside0.mk (show (x8_3 : Int).toNat ≤ x3_2.length from by omega); replace q57 := eq_true q57) | ((with_reducible refine gate_builtin (b := .append) (xs := #[.tmp 78, .tmp 81]) rfl ?_); at_builtin; refine Kd.R_append_rows k54 (w0 := w) w.heap.size rfl (.tmp 78) (.tmp 81) 30 54 (.agg #[(.int .i64 0), (.int .i64 0)]) 16 rfl Try.underlying30 info54 rfl (by decide) (by omega) v166 y165 y168 _ _ _ (fun k_ => some k_ ≠ (.slice Ao54 x3_2.length co54 : Value).ownBlock ∧ some k_ ≠ (v139 : Value).ownBlock) (fun _ => False) rfl rfl ?aO ?aR (fun _ _ h => h) (fun _ h => h.elim) ?aF ?aB ?aS ?aL ?_; (case aR => repeat (first | exact (by repeat (first | (with_reducible exact HR171.out) | (with_reducible refine Kd.C_alloc ?_ _) | (with_reducible refine Kd.C_drewN ?_ _) | (with_reducible refine Kd.C_drew ?_) | exact HR171.out)) | (with_reducible refine Kd.C_alloc ?_ _) | (with_reducible refine Kd.C_drewN ?_ _) | (with_reducible refine Kd.C_drew ?_))); (case aB => exact (by repeat (first | (with_reducible first | exact HB.out | apply below_alloc | apply pw_below_drewN | apply below_drew1) | exact HB.out))); (case aF => exact (fun k_ hk => ⟨Kd.fresh' (Kd.R_lt (by (with_reducible repeat (first | apply Kd.R_alloc | apply Kd.R_drewN | apply Kd.R_drew)); exact HO_3.out)) k_ hk, Kd.fresh' (Kd.R_lt (by (with_reducible repeat (first | apply Kd.R_alloc | apply Kd.R_drewN | apply Kd.R_drew)); exact HO_6.out)) k_ hk⟩)); (case aO => exact (by (with_reducible repeat (first | apply Kd.R_alloc | apply Kd.R_drewN | apply Kd.R_drew)); exact Kd.R_mono HO167.out (fun _ hk => ⟨hk.1.2, hk.2⟩))); (case aS => exact (below_size (by repeat (first | (with_reducible first | exact HB.out | apply below_alloc | apply pw_below_drewN | apply below_drew1) | exact HB.out)))); (case aL => have := LMc46.out; omega); intro v173 w58 ho hb hg hat; rw [← Ny172.out] at ho; have n0_ := Aside0.mk (Kd.R_after (ok := (fun k_ => some k_ ≠ (v139 : Value).ownBlock)) (by (with_reducible repeat (first | apply Kd.R_alloc | apply Kd.R_drewN | apply Kd.R_drew)); exact HO_3.out) hg hat); have n1_ := Aside0.mk (Kd.R_over' (by (with_reducible repeat (first | apply Kd.R_alloc | apply Kd.R_drewN | apply Kd.R_drew)); exact HO_4.out) (Kd.R_typed (by (with_reducible repeat (first | apply Kd.R_alloc | apply Kd.R_drewN | apply Kd.R_drew)); exact HO167.out)) (by decide) hg); have n2_ := Aside0.mk (Kd.R_after (ok := (fun k_ => some k_ ≠ (.slice Ao54 x3_2.length co54 : Value).ownBlock)) (by (with_reducible repeat (first | apply Kd.R_alloc | apply Kd.R_drewN | apply Kd.R_drew)); exact HO_6.out) hg hat); have n3_ := Aside0.mk (hb); have n4_ := Aside0.mk ((show Kd.C k54 w58 Ao54 y168.length y168 from by rw [Ny168.out]; exact Kd.C_take (m := (x8_3 : Int).toNat) ((Kd.R_reads' (Kd.R_after (ok := (fun k_ => some k_ ≠ (v139 : Value).ownBlock)) (by (with_reducible repeat (first | apply Kd.R_alloc | apply Kd.R_drewN | apply Kd.R_drew)); exact HO_3.out) hg hat)).2.2) KL57.out)); have n5_ := Aside0.mk (ho); clear HO_3; clear HO_4; clear HO_6; clear HB; clear HR171; clear HO167; have HO_3 := n0_; have HO_4 := n1_; have HO_6 := n2_; have HB := n3_; have HR171 := n4_; have HO174 := n5_; clear n0_ n1_ n2_ n3_ n4_ n5_; clear ho hb hg hat; obtain ⟨Ao59, co59, eo59⟩ := Kd.R_slice HO_6.out; subst eo59; have p175 : 0 ≤ (x7_2 : Int) := of_decide_eq_true (by first | (with_reducible assumption) | assumption); have q175 : x7_2 < (y138.length : Int) := of_decide_eq_true (by first | (with_reducible assumption) | assumption); obtain ⟨ad175, e175, hx175_0, hx175_1⟩ := at_T54 (Kd.R_reads' HO_6.out).2.2 x7_2 p175 q175; cases e175; replace p175 := eq_true p175; replace q175 := eq_true q175) | ((with_reducible refine gate_builtin (b := .append) (xs := #[.tmp 83, .tmp 88]) rfl ?_); at_builtin; refine Kd.R_append k54 (w0 := w) w.heap.size rfl (.tmp 83) (.tmp 88) 30 54 (.agg #[(.int .i64 0), (.int .i64 0)]) 16 rfl Try.underlying30 info54 rfl (by decide) (by omega) v173 y172 (⟨(rd_T54 y138 x7_2).f0, (rd_T54 y138 x7_2).f1⟩ : S54) [.int .i64 ((rd_T54 y138 x7_2).f0), .int .i64 ((rd_T54 y138 x7_2).f1)] (fun k_ => some k_ ≠ (.slice Ao54 x3_2.length co54 : Value).ownBlock ∧ some k_ ≠ (.slice (some ad175) y138.length co59 : Value).ownBlock) (fun _ => False) rfl rfl ?aP (fun _ hk => hk.elim) ?aF ?aO ?aB ?aS ?aL ?_; (case aP => exact k54_mkM _ _ _ (⟨(rd_T54 y138 x7_2).f0, (rd_T54 y138 x7_2).f1⟩ : S54)); (case aB => exact (by repeat (first | (with_reducible first | exact HB.out | apply below_alloc | apply pw_below_drewN | apply below_drew1) | exact HB.out))); (case aF => exact (fun k_ hk => ⟨Kd.fresh' (Kd.R_lt (by (with_reducible repeat (first | apply Kd.R_alloc | apply Kd.R_drewN | apply Kd.R_drew)); exact HO_3.out)) k_ hk, Kd.fresh' (Kd.R_lt (by (with_reducible repeat (first | apply Kd.R_alloc | apply Kd.R_drewN | apply Kd.R_drew)); exact HO_6.out)) k_ hk⟩)); (case aO => exact (by (with_reducible repeat (first | apply Kd.R_alloc | apply Kd.R_drewN | apply Kd.R_drew)); exact HO174.out)); (case aS => exact (below_size (by repeat (first | (with_reducible first | exact HB.out | apply below_alloc | apply pw_below_drewN | apply below_drew1) | exact HB.out)))); (case aL => have := LMc49.out; omega); intro v177 w60 ho hb hg hat; rw [← Ny176.out] at ho; have n0_ := Aside0.mk (Kd.R_after (ok := (fun k_ => some k_ ≠ (.slice (some ad175) y138.length co59 : Value).ownBlock)) (by (with_reducible repeat (first | apply Kd.R_alloc | apply Kd.R_drewN | apply Kd.R_drew)); exact HO_3.out) hg hat); have n1_ := Aside0.mk (Kd.R_over' (by (with_reducible repeat (first | apply Kd.R_alloc | apply Kd.R_drewN | apply Kd.R_drew)); exact HO_4.out) (Kd.R_typed (by (with_reducible repeat (first | apply Kd.R_alloc | apply Kd.R_drewN | apply Kd.R_drew)); exact HO174.out)) (by decide) hg); have n2_ := Aside0.mk (Kd.R_after (ok := (fun k_ => some k_ ≠ (.slice Ao54 x3_2.length co54 : Value).ownBlock)) (by (with_reducible repeat (first | apply Kd.R_alloc | apply Kd.R_drewN | apply Kd.R_drew)); exact HO_6.out) hg hat); have n3_ := Aside0.mk (hb); have n4_ := Aside0.mk ((show Kd.C k54 w60 Ao54 y168.length y168 from by rw [Ny168.out]; exact Kd.C_take (m := (x8_3 : Int).toNat) ((Kd.R_reads' (Kd.R_after (ok := (fun k_ => some k_ ≠ (.slice (some ad175) y138.length co59 : Value).ownBlock)) (by (with_reducible repeat (first | apply Kd.R_alloc | apply Kd.R_drewN | apply Kd.R_drew)); exact HO_3.out) hg hat)).2.2) KL57.out)); have n5_ := Aside0.mk (ho); clear HO_3; clear HO_4; clear HO_6; clear HB; clear HR171; clear HO174; have HO_3 := n0_; have HO_4 := n1_; have HO_6 := n2_; have HB := n3_; have HR171 := n4_; have HO178 := n5_; clear n0_ n1_ n2_ n3_ n4_ n5_; clear ho hb hg hat; have q61 : (x8_3 : Int) ≤ ((x3_2.length : Int) : Int) := of_decide_eq_true (by first | (with_reducible assumption) | assumption); obtain ⟨i061, hi061, _, hsz61, _⟩ := info_parts info54; have hroom61 : x3_2.length ≤ co54 := (Kd.R_reads' HO_3.out).2.1; have hC61 : Kd.C k54 _ Ao54 x3_2.length x3_2 := (Kd.R_reads' HO_3.out).2.2; have q061 : (0 : Int) ≤ (x8_3 : Int) := of_decide_eq_true (by first | (with_reducible assumption) | assumption); have hcut61 := cut_from (P := Try.prog) 30 54 .i64 Try.underlying30 hi061 2 hsz61 Ao54 x3_2.length co54 x8_3 q061 q61; have hr61 := Kd.C_drop (m := (x8_3 : Int).toNat) (c := co54) hC61 (by omega) hroom61; obtain ⟨A61, hA61⟩ : ∃ A1, A1 = (if co54 = (x8_3 : Int).toNat then Ao54 else (Ao54 : Option Addr).map (·.add ((x8_3 : Int).toNat * 2))) := ⟨_, rfl⟩; obtain ⟨c61, hc61⟩ : ∃ c1, c1 = co54 - (x8_3 : Int).toNat := ⟨_, rfl⟩; have hy61 : y179.length = x3_2.length - (x8_3 : Int).toNat := (by rw [Ny179.out, List.length_drop] <;> omega); rw [show (x3_2).drop (x8_3 : Int).toNat = y179 from Ny179.out.symm] at hr61; replace hr61 : Kd.C k54 _ A61 y179.length y179 := (by rw [hA61]; exact hr61); rw [← hy61, ← hA61, ← hc61] at hcut61; have HR182 := Aside0.mk hr61; have HC182 := Aside0.mk (show y179.length ≤ c61 from by rw [hy61, hc61]; exact Nat.sub_le_sub_right hroom61 _); clear hr61 hC61 hroom61 hi061 hsz61 hc61; have KY61 := Aside0.mk hy61; have KA61 := Aside0.mk hA61; clear hy61 hA61; have KL61 := Aside0.mk (show (x8_3 : Int).toNat ≤ x3_2.length from by omega); replace q61 := eq_true q61) | ((with_reducible refine gate_builtin (b := .append) (xs := #[.tmp 90, .tmp 93]) rfl ?_); at_builtin; refine Kd.R_append_rows k54 (w0 := w) w.heap.size rfl (.tmp 90) (.tmp 93) 30 54 (.agg #[(.int .i64 0), (.int .i64 0)]) 16 rfl Try.underlying30 info54 rfl (by decide) (by omega) v177 y176 y179 _ _ _ (fun k_ => some k_ ≠ (.slice Ao54 x3_2.length co54 : Value).ownBlock ∧ some k_ ≠ (.slice (some ad175) y138.length co59 : Value).ownBlock) (fun _ => False) rfl rfl ?aO ?aR (fun _ _ h => h) (fun _ h => h.elim) ?aF ?aB ?aS ?aL ?_; (case aR => repeat (first | exact (by repeat (first | (with_reducible exact HR182.out) | (with_reducible refine Kd.C_alloc ?_ _) | (with_reducible refine Kd.C_drewN ?_ _) | (with_reducible refine Kd.C_drew ?_) | exact HR182.out)) | (with_reducible refine Kd.C_alloc ?_ _) | (with_reducible refine Kd.C_drewN ?_ _) | (with_reducible refine Kd.C_drew ?_))); (case aB => exact (by repeat (first | (with_reducible first | exact HB.out | apply below_alloc | apply pw_below_drewN | apply below_drew1) | exact HB.out))); (case aF => exact (fun k_ hk => ⟨Kd.fresh' (Kd.R_lt (by (with_reducible repeat (first | apply Kd.R_alloc | apply Kd.R_drewN | apply Kd.R_drew)); exact HO_3.out)) k_ hk, Kd.fresh' (Kd.R_lt (by (with_reducible repeat (first | apply Kd.R_alloc | apply Kd.R_drewN | apply Kd.R_drew)); exact HO_6.out)) k_ hk⟩)); (case aO => exact (by (with_reducible repeat (first | apply Kd.R_alloc | apply Kd.R_drewN | apply Kd.R_drew)); exact HO178.out)); (case aS => exact (below_size (by repeat (first | (with_reducible first | exact HB.out | apply below_alloc | apply pw_below_drewN | apply below_drew1) | exact HB.out)))); (case aL => have := LMc52.out; omega); intro v184 w62 ho hb hg hat; rw [← Ny183.out] at ho; have n0_ := Aside0.mk (Kd.R_after (ok := (fun k_ => some k_ ≠ (.slice (some ad175) y138.length co59 : Value).ownBlock)) (by (with_reducible repeat (first | apply Kd.R_alloc | apply Kd.R_drewN | apply Kd.R_drew)); exact HO_3.out) hg hat); have n1_ := Aside0.mk (Kd.R_over' (by (with_reducible repeat (first | apply Kd.R_alloc | apply Kd.R_drewN | apply Kd.R_drew)); exact HO_4.out) (Kd.R_typed (by (with_reducible repeat (first | apply Kd.R_alloc | apply Kd.R_drewN | apply Kd.R_drew)); exact HO178.out)) (by decide) hg); have n2_ := Aside0.mk (Kd.R_after (ok := (fun k_ => some k_ ≠ (.slice Ao54 x3_2.length co54 : Value).ownBlock)) (by (with_reducible repeat (first | apply Kd.R_alloc | apply Kd.R_drewN | apply Kd.R_drew)); exact HO_6.out) hg hat); have n3_ := Aside0.mk (hb); have n4_ := Aside0.mk ((show Kd.C k54 w62 Ao54 y168.length y168 from by rw [Ny168.out]; exact Kd.C_take (m := (x8_3 : Int).toNat) ((Kd.R_reads' (Kd.R_after (ok := (fun k_ => some k_ ≠ (.slice (some ad175) y138.length co59 : Value).ownBlock)) (by (with_reducible repeat (first | apply Kd.R_alloc | apply Kd.R_drewN | apply Kd.R_drew)); exact HO_3.out) hg hat)).2.2) KL57.out)); have n5_ := Aside0.mk ((show Kd.C k54 w62 A61 y179.length y179 from by rw [Ny179.out, KA61.out]; exact Kd.C_drop (m := (x8_3 : Int).toNat) (c := co54) ((Kd.R_reads' (Kd.R_after (ok := (fun k_ => some k_ ≠ (.slice (some ad175) y138.length co59 : Value).ownBlock)) (by (with_reducible repeat (first | apply Kd.R_alloc | apply Kd.R_drewN | apply Kd.R_drew)); exact HO_3.out) hg hat)).2.2) KL61.out ((Kd.R_reads' (Kd.R_after (ok := (fun k_ => some k_ ≠ (.slice (some ad175) y138.length co59 : Value).ownBlock)) (by (with_reducible repeat (first | apply Kd.R_alloc | apply Kd.R_drewN | apply Kd.R_drew)); exact HO_3.out) hg hat)).2.1))); have n6_ := Aside0.mk (ho); clear HO_3; clear HO_4; clear HO_6; clear HB; clear HR171; clear HR182; clear HO178; have HO_3 := n0_; have HO_4 := n1_; have HO_6 := n2_; have HB := n3_; have HR171 := n4_; have HR182 := n5_; have HO185 := n6_; clear n0_ n1_ n2_ n3_ n4_ n5_ n6_; clear ho hb hg hat))
                                    go_roundg k3
                                    case measure => have := HK1.out; have := HK2.out; have := HK3.out; omega
                                    case rel => exact ⟨(y183), (wrap64 (x7_2 + 1)), (by first | rfl | (simp; done) | (simp [*]; done)), H', ⟨by have := HK1.out; have := HK2.out; have := HK3.out; omega⟩, ⟨by (with_reducible repeat (first | apply Kd.R_alloc | apply Kd.R_drewN | apply Kd.R_drew)); exact Kd.R_mono HO185.out (fun _ hk => hk.2)⟩, ⟨by (with_reducible repeat (first | apply Kd.R_alloc | apply Kd.R_drewN | apply Kd.R_drew)); exact HO_4.out⟩, ⟨by (with_reducible repeat (first | apply Kd.R_alloc | apply Kd.R_drewN | apply Kd.R_drew)); exact Kd.R_mono HO_6.out (fun _ hk => hk.2)⟩, ⟨by repeat (first | (with_reducible first | exact HB.out | apply below_alloc | apply pw_below_drewN | apply below_drew1) | exact HB.out)⟩⟩
                                  · rw [if_neg c52] at H
                                    exact absurd H (by simp)
                                · rw [if_neg c49] at H
                                  exact absurd H (by simp)
                              · rw [if_neg c48] at H
                                exact absurd H (by simp)
                            · rw [if_neg c47] at H
                              exact absurd H (by simp)
                          · rw [if_neg c46] at H
                            exact absurd H (by simp)
                        · rw [if_neg c45] at H
                          exact absurd H (by simp)
                      · rw [if_neg c44] at H
                        exact absurd H (by simp)
              · rw [if_neg c15] at H
                have c15b0 : decide (x7_2 < 3) = false := decide_eq_false c15
                clear c15
                have H' := Aside0.mk H
                clear H
                go_wp2
                go_roundg k2
                case measure => have := HK1.out; have := HK2.out; omega
                case rel => exact ⟨(x3_2), (wrap64 (x5_1 + 1)), (by first | rfl | (simp; done) | (simp [*]; done)), H', ⟨by have := HK1.out; have := HK2.out; omega⟩, ⟨by (with_reducible repeat (first | apply Kd.R_alloc | apply Kd.R_drewN | apply Kd.R_drew)); exact Kd.R_mono HO_3.out (fun _ hk => trivial)⟩, ⟨by (with_reducible repeat (first | apply Kd.R_alloc | apply Kd.R_drewN | apply Kd.R_drew)); exact HO_4.out⟩, ⟨by repeat (first | (with_reducible first | exact HB.out | apply below_alloc | apply pw_below_drewN | apply below_drew1) | exact HB.out)⟩⟩
        · rw [if_neg c7] at H
          exact absurd H (by simp)
      · rw [if_neg c6] at H
        have c6b0 : decide (x5_1 < (t127.length : Int)) = false := decide_eq_false c6
        clear c6
        obtain rfl := Option.some.inj H
        obtain ⟨Ao63, co63, eo63⟩ := Kd.R_slice HO_4.out
        subst eo63
        go_wp2
        go_ret
        exact ⟨_, by first | rfl | (simp [errW_none, errW_some] <;> rfl) | (simp [*, errW_none, errW_some] <;> rfl), by (with_reducible repeat (first | apply Kd.R_alloc | apply Kd.R_drewN | apply Kd.R_drew)); exact HO_3.out, by repeat (first | (with_reducible first | exact HB.out | apply below_alloc | apply pw_below_drewN | apply below_drew1) | exact HB.out)⟩

end Go.Proofs.Ytlhecfleanppmaa.Pr
end
section
namespace Go.Proofs.Ytlhecfleanppmaa.Pr
open Go.RowKit Go.Proofs.YtlhecfleanppmaaW.PrintWords Go.Proofs.YtlhecfleanppmaaW.PrintLast Go.Proofs.YtlhecfleanppmaaW.PrintMore
attribute [local go_sem] max2_int min2_int max_two min_two max_three min_three max_four min_four   -- for this text's walks alone
set_option linter.unusedVariables false
set_option linter.unusedSimpArgs false

/-! ### foliotref13_Meet: function 18 -/
mutual
def foliotref13_Meet.l0 : Nat → List (S54) → Int → Int → Option (Int × Int × Bool)
  | 0, _, _, _ => none
  | k + 1, x5, x6, x7 => if (wrap64 (2 * x7)) < x6 then (foliotref13_Meet.l1 k x5 x6 x7 0 (-1) 0 0) else (some (0, 0, false))
def foliotref13_Meet.l1 : Nat → List (S54) → Int → Int → Int → Int → Int → Int → Option (Int × Int × Bool)
  | 0, _, _, _, _, _, _, _ => none
  | k + 1, x5, x6, x7, x8, x9, x10, x11 => if x11 < (x5.length : Int) then (foliotref13_Meet.j2 k x5 x6 x7 x8 x9 x10 x11 (decide (x9 < 0))) else (foliotref13_Meet.j2 k x5 x6 x7 x8 x9 x10 x11 false)
def foliotref13_Meet.j2 : Nat → List (S54) → Int → Int → Int → Int → Int → Int → Bool → Option (Int × Int × Bool)
  | 0, _, _, _, _, _, _, _, _ => none
  | k + 1, x5, x6, x7, x8, x9, x10, x11, x32 => if x32 = true then (if 0 ≤ x11 then (if x11 < (x5.length : Int) then (if ((rd_T54 x5 x11).f1) = 0 then (if (wrap64 (x10 - ((rd_T54 x5 x11).f1))) = (wrap64 (x6 - x7)) then (foliotref13_Meet.l1 k x5 x6 x7 (wrap64 (x8 + 1)) x11 (wrap64 (x10 - ((rd_T54 x5 x11).f1))) (wrap64 (x11 + 1))) else (foliotref13_Meet.l1 k x5 x6 x7 (wrap64 (x8 + 1)) x9 (wrap64 (x10 - ((rd_T54 x5 x11).f1))) (wrap64 (x11 + 1)))) else (if (wrap64 (x10 - ((rd_T54 x5 x11).f1))) = (wrap64 (x6 - x7)) then (foliotref13_Meet.l1 k x5 x6 x7 x8 x11 (wrap64 (x10 - ((rd_T54 x5 x11).f1))) (wrap64 (x11 + 1))) else (foliotref13_Meet.l1 k x5 x6 x7 x8 x9 (wrap64 (x10 - ((rd_T54 x5 x11).f1))) (wrap64 (x11 + 1))))) else (none)) else (none)) else (if x9 < 0 then (foliotref13_Meet.l0 k x5 x6 (wrap64 (x7 + 1))) else (foliotref13_Meet.l2 k x5 x6 x7 x8 x9 0 (-1) (wrap64 ((x5.length : Int) - 1))))
def foliotref13_Meet.l2 : Nat → List (S54) → Int → Int → Int → Int → Int → Int → Int → Option (Int × Int × Bool)
  | 0, _, _, _, _, _, _, _, _ => none
  | k + 1, x5, x6, x7, x8, x9, x10, x12, x13 => if x13 ≥ 0 then (foliotref13_Meet.j4 k x5 x6 x7 x8 x9 x10 x12 x13 (decide (x12 < 0))) else (foliotref13_Meet.j4 k x5 x6 x7 x8 x9 x10 x12 x13 false)
def foliotref13_Meet.j4 : Nat → List (S54) → Int → Int → Int → Int → Int → Int → Int → Bool → Option (Int × Int × Bool)
  | 0, _, _, _, _, _, _, _, _, _ => none
  | k + 1, x5, x6, x7, x8, x9, x10, x12, x13, x66 => if x66 = true then (if 0 ≤ x13 then (if x13 < (x5.length : Int) then (if ((rd_T54 x5 x13).f1) = 0 then (if (wrap64 (x10 + ((rd_T54 x5 x13).f1))) = (wrap64 (x6 - x7)) then (foliotref13_Meet.l2 k x5 x6 x7 (wrap64 (x8 + 1)) x9 (wrap64 (x10 + ((rd_T54 x5 x13).f1))) x13 (wrap64 (x13 - 1))) else (foliotref13_Meet.l2 k x5 x6 x7 (wrap64 (x8 + 1)) x9 (wrap64 (x10 + ((rd_T54 x5 x13).f1))) x12 (wrap64 (x13 - 1)))) else (if (wrap64 (x10 + ((rd_T54 x5 x13).f1))) = (wrap64 (x6 - x7)) then (foliotref13_Meet.l2 k x5 x6 x7 x8 x9 (wrap64 (x10 + ((rd_T54 x5 x13).f1))) x13 (wrap64 (x13 - 1))) else (foliotref13_Meet.l2 k x5 x6 x7 x8 x9 (wrap64 (x10 + ((rd_T54 x5 x13).f1))) x12 (wrap64 (x13 - 1))))) else (none)) else (none)) else (if x12 ≥ 0 then (if x8 ≤ x7 then (if 0 ≤ x9 then (if x9 < (x5.length : Int) then (if 0 ≤ x12 then (if x12 < (x5.length : Int) then (if ((rd_T54 x5 x9).f0) ≤ ((rd_T54 x5 x12).f0) then (some (wrap64 (((rd_T54 x5 x9).f0) * 65536), wrap64 (((rd_T54 x5 x12).f0) * 65536), true)) else (foliotref13_Meet.l0 k x5 x6 (wrap64 (x7 + 1)))) else (none)) else (none)) else (none)) else (none)) else (foliotref13_Meet.l0 k x5 x6 (wrap64 (x7 + 1)))) else (foliotref13_Meet.l0 k x5 x6 (wrap64 (x7 + 1))))
end
def foliotref13_Meet.f (k : Nat) (l0 : List (S26)) : Option (Int × Int × Bool) := (foliotref13_All.f k l0).bind fun t197 => ((foliotref13_those.f k l0).bind fun t200 => (foliotref13_Meet.l0 k t197 (t200.length : Int) 0))
theorem foliotref13_Meet.mono_l : ∀ k, (∀ y0 y1 y2, LeO (foliotref13_Meet.l0 k y0 y1 y2) (foliotref13_Meet.l0 (k + 1) y0 y1 y2)) ∧ (∀ y0 y1 y2 y3 y4 y5 y6, LeO (foliotref13_Meet.l1 k y0 y1 y2 y3 y4 y5 y6) (foliotref13_Meet.l1 (k + 1) y0 y1 y2 y3 y4 y5 y6)) ∧ (∀ y0 y1 y2 y3 y4 y5 y6 y7, LeO (foliotref13_Meet.j2 k y0 y1 y2 y3 y4 y5 y6 y7) (foliotref13_Meet.j2 (k + 1) y0 y1 y2 y3 y4 y5 y6 y7)) ∧ (∀ y0 y1 y2 y3 y4 y5 y6 y7, LeO (foliotref13_Meet.l2 k y0 y1 y2 y3 y4 y5 y6 y7) (foliotref13_Meet.l2 (k + 1) y0 y1 y2 y3 y4 y5 y6 y7)) ∧ (∀ y0 y1 y2 y3 y4 y5 y6 y7 y8, LeO (foliotref13_Meet.j4 k y0 y1 y2 y3 y4 y5 y6 y7 y8) (foliotref13_Meet.j4 (k + 1) y0 y1 y2 y3 y4 y5 y6 y7 y8))
  | 0 => ⟨fun _ _ _ r h => by simp [foliotref13_Meet.l0] at h, fun _ _ _ _ _ _ _ r h => by simp [foliotref13_Meet.l1] at h, fun _ _ _ _ _ _ _ _ r h => by simp [foliotref13_Meet.j2] at h, fun _ _ _ _ _ _ _ _ r h => by simp [foliotref13_Meet.l2] at h, fun _ _ _ _ _ _ _ _ _ r h => by simp [foliotref13_Meet.j4] at h⟩
  | k + 1 => by
    obtain ⟨ih0, ih1, ih2, ih3, ih4⟩ := foliotref13_Meet.mono_l k
    refine ⟨?_, ?_, ?_, ?_, ?_⟩
    · intro y0 y1 y2
      unfold foliotref13_Meet.l0
      repeat' first
      | (with_reducible exact ih0 _ _ _)
      | (with_reducible exact ih1 _ _ _ _ _ _ _)
      | (with_reducible exact ih2 _ _ _ _ _ _ _ _)
      | (with_reducible exact ih3 _ _ _ _ _ _ _ _)
      | (with_reducible exact ih4 _ _ _ _ _ _ _ _ _)
      | (with_reducible exact foliotref13_All.mono _ _)
      | (with_reducible exact foliotref13_those.mono _ _)
      | (with_reducible exact LeO.refl _)
      | (with_reducible exact LeO.none _)
      | (with_reducible refine LeO.ite ?_ ?_)
      | (with_reducible refine LeO.bind ?_ (fun _ => ?_))
      | exact ih0 _ _ _
      | exact ih1 _ _ _ _ _ _ _
      | exact ih2 _ _ _ _ _ _ _ _
      | exact ih3 _ _ _ _ _ _ _ _
      | exact ih4 _ _ _ _ _ _ _ _ _
      | exact foliotref13_All.mono _ _
      | exact foliotref13_those.mono _ _
      | exact LeO.none _
      | refine LeO.ite ?_ ?_
      | refine LeO.bind ?_ (fun _ => ?_)
    · intro y0 y1 y2 y3 y4 y5 y6
      unfold foliotref13_Meet.l1
      repeat' first
      | (with_reducible exact ih0 _ _ _)
      | (with_reducible exact ih1 _ _ _ _ _ _ _)
      | (with_reducible exact ih2 _ _ _ _ _ _ _ _)
      | (with_reducible exact ih3 _ _ _ _ _ _ _ _)
      | (with_reducible exact ih4 _ _ _ _ _ _ _ _ _)
      | (with_reducible exact foliotref13_All.mono _ _)
      | (with_reducible exact foliotref13_those.mono _ _)
      | (with_reducible exact LeO.refl _)
      | (with_reducible exact LeO.none _)
      | (with_reducible refine LeO.ite ?_ ?_)
      | (with_reducible refine LeO.bind ?_ (fun _ => ?_))
      | exact ih0 _ _ _
      | exact ih1 _ _ _ _ _ _ _
      | exact ih2 _ _ _ _ _ _ _ _
      | exact ih3 _ _ _ _ _ _ _ _
      | exact ih4 _ _ _ _ _ _ _ _ _
      | exact foliotref13_All.mono _ _
      | exact foliotref13_those.mono _ _
      | exact LeO.none _
      | refine LeO.ite ?_ ?_
      | refine LeO.bind ?_ (fun _ => ?_)
    · intro y0 y1 y2 y3 y4 y5 y6 y7
      unfold foliotref13_Meet.j2
      repeat' first
      | (with_reducible exact ih0 _ _ _)
      | (with_reducible exact ih1 _ _ _ _ _ _ _)
      | (with_reducible exact ih2 _ _ _ _ _ _ _ _)
      | (with_reducible exact ih3 _ _ _ _ _ _ _ _)
      | (with_reducible exact ih4 _ _ _ _ _ _ _ _ _)
      | (with_reducible exact foliotref13_All.mono _ _)
      | (with_reducible exact foliotref13_those.mono _ _)
      | (with_reducible exact LeO.refl _)
      | (with_reducible exact LeO.none _)
      | (with_reducible refine LeO.ite ?_ ?_)
      | (with_reducible refine LeO.bind ?_ (fun _ => ?_))
      | exact ih0 _ _ _
      | exact ih1 _ _ _ _ _ _ _
      | exact ih2 _ _ _ _ _ _ _ _
      | exact ih3 _ _ _ _ _ _ _ _
      | exact ih4 _ _ _ _ _ _ _ _ _
      | exact foliotref13_All.mono _ _
      | exact foliotref13_those.mono _ _
      | exact LeO.none _
      | refine LeO.ite ?_ ?_
      | refine LeO.bind ?_ (fun _ => ?_)
    · intro y0 y1 y2 y3 y4 y5 y6 y7
      unfold foliotref13_Meet.l2
      repeat' first
      | (with_reducible exact ih0 _ _ _)
      | (with_reducible exact ih1 _ _ _ _ _ _ _)
      | (with_reducible exact ih2 _ _ _ _ _ _ _ _)
      | (with_reducible exact ih3 _ _ _ _ _ _ _ _)
      | (with_reducible exact ih4 _ _ _ _ _ _ _ _ _)
      | (with_reducible exact foliotref13_All.mono _ _)
      | (with_reducible exact foliotref13_those.mono _ _)
      | (with_reducible exact LeO.refl _)
      | (with_reducible exact LeO.none _)
      | (with_reducible refine LeO.ite ?_ ?_)
      | (with_reducible refine LeO.bind ?_ (fun _ => ?_))
      | exact ih0 _ _ _
      | exact ih1 _ _ _ _ _ _ _
      | exact ih2 _ _ _ _ _ _ _ _
      | exact ih3 _ _ _ _ _ _ _ _
      | exact ih4 _ _ _ _ _ _ _ _ _
      | exact foliotref13_All.mono _ _
      | exact foliotref13_those.mono _ _
      | exact LeO.none _
      | refine LeO.ite ?_ ?_
      | refine LeO.bind ?_ (fun _ => ?_)
    · intro y0 y1 y2 y3 y4 y5 y6 y7 y8
      unfold foliotref13_Meet.j4
      repeat' first
      | (with_reducible exact ih0 _ _ _)
      | (with_reducible exact ih1 _ _ _ _ _ _ _)
      | (with_reducible exact ih2 _ _ _ _ _ _ _ _)
      | (with_reducible exact ih3 _ _ _ _ _ _ _ _)
      | (with_reducible exact ih4 _ _ _ _ _ _ _ _ _)
      | (with_reducible exact foliotref13_All.mono _ _)
      | (with_reducible exact foliotref13_those.mono _ _)
      | (with_reducible exact LeO.refl _)
      | (with_reducible exact LeO.none _)
      | (with_reducible refine LeO.ite ?_ ?_)
      | (with_reducible refine LeO.bind ?_ (fun _ => ?_))
      | exact ih0 _ _ _
      | exact ih1 _ _ _ _ _ _ _
      | exact ih2 _ _ _ _ _ _ _ _
      | exact ih3 _ _ _ _ _ _ _ _
      | exact ih4 _ _ _ _ _ _ _ _ _
      | exact foliotref13_All.mono _ _
      | exact foliotref13_those.mono _ _
      | exact LeO.none _
      | refine LeO.ite ?_ ?_
      | refine LeO.bind ?_ (fun _ => ?_)
theorem foliotref13_Meet.mono : ∀ a0 k, LeO (foliotref13_Meet.f k a0) (foliotref13_Meet.f (k + 1) a0) := by
  intro a0 k
  obtain ⟨ih0, ih1, ih2, ih3, ih4⟩ := foliotref13_Meet.mono_l k
  unfold foliotref13_Meet.f
  repeat' first
      | (with_reducible exact ih0 _ _ _)
      | (with_reducible exact ih1 _ _ _ _ _ _ _)
      | (with_reducible exact ih2 _ _ _ _ _ _ _ _)
      | (with_reducible exact ih3 _ _ _ _ _ _ _ _)
      | (with_reducible exact ih4 _ _ _ _ _ _ _ _ _)
      | (with_reducible exact foliotref13_All.mono _ _)
      | (with_reducible exact foliotref13_those.mono _ _)
      | (with_reducible exact LeO.refl _)
      | (with_reducible exact LeO.none _)
      | (with_reducible refine LeO.ite ?_ ?_)
      | (with_reducible refine LeO.bind ?_ (fun _ => ?_))
      | exact ih0 _ _ _
      | exact ih1 _ _ _ _ _ _ _
      | exact ih2 _ _ _ _ _ _ _ _
      | exact ih3 _ _ _ _ _ _ _ _
      | exact ih4 _ _ _ _ _ _ _ _ _
      | exact foliotref13_All.mono _ _
      | exact foliotref13_those.mono _ _
      | exact LeO.none _
      | refine LeO.ite ?_ ?_
      | refine LeO.bind ?_ (fun _ => ?_)
set_option maxHeartbeats 8000000 in
set_option maxRecDepth 100000 in
theorem foliotref13_Meet.calls (k : Nat) (A0 : Option Addr) (c0 : Nat) (l0 : List (S26)) (r1 : Int) (r2 : Int) (r3 : Bool) (w : World) (hr0 : Kd.C k26 w A0 l0.length l0) (hc0 : l0.length ≤ c0) (h : foliotref13_Meet.f k l0 = some (r1, r2, r3)) :
    Calls Try.prog 18 #[.slice A0 l0.length c0] w fun e w' => e = .returned (.tuple #[.int .i64 r1, .int .i64 r2, .bool r3]) ∧ Below w.heap.size w w' := by
  have HR0 := Aside0.mk hr0
  have HC0 := Aside0.mk hc0
  clear hr0 hc0
  have HB := Aside0.mk (Below.refl w.heap.size w)
  have H : ((foliotref13_All.f k l0).bind fun t197 => ((foliotref13_those.f k l0).bind fun t200 => (foliotref13_Meet.l0 k t197 (t200.length : Int) 0))) = some (r1, r2, r3) := h
  clear h
  replace H := Option.bind_eq_some_iff.mp H
  obtain ⟨t197, A20, H⟩ := H
  replace H : ((foliotref13_those.f k l0).bind fun t200 => (foliotref13_Meet.l0 k t197 (t200.length : Int) 0)) = some (r1, r2, r3) := H
  have A2 := Aside0.mk A20
  clear A20
  replace H := Option.bind_eq_some_iff.mp H
  obtain ⟨t200, A30, H⟩ := H
  replace H : (foliotref13_Meet.l0 k t197 (t200.length : Int) 0) = some (r1, r2, r3) := H
  have A3 := Aside0.mk A30
  clear A30
  have H' := Aside0.mk H
  clear H
  go_enter Try.func18, Try.ntmps18
  go_wp2_with (first | (go_at_call 15; (with_reducible refine (foliotref13_All.calls k _ _ l0 t197 _ ?side1 ?side2 A2.out).mono ?_); (case side1 => repeat (first | exact HR0.out | (with_reducible refine Kd.C_alloc ?_ _) | (with_reducible refine Kd.C_drewN ?_ _) | (with_reducible refine Kd.C_drew ?_))); (case side2 => exact HC0.out); rintro e w4 ⟨v198, rfl, ho0, hb⟩; have n0_ := Aside0.mk (Kd.R_lower ho0 (below_size (by repeat (first | (with_reducible first | exact HB.out | apply below_alloc | apply pw_below_drewN | apply below_drew1) | exact HB.out)))); have n1_ := Aside0.mk (below_step (by repeat (first | (with_reducible first | exact HB.out | apply below_alloc | apply pw_below_drewN | apply below_drew1) | exact HB.out)) hb); clear HB; have HO199 := n0_; have HB := n1_; clear n0_ n1_; (try clear hb); (try clear hb2); (try clear hk); (try clear hi); (try clear ho0)) | (go_at_call 30; (with_reducible refine (foliotref13_those.calls k _ _ l0 t200 _ ?side1 ?side2 A3.out).mono ?_); (case side1 => repeat (first | exact (Kd.C_below HR0.out HB.out) | (with_reducible refine Kd.C_alloc ?_ _) | (with_reducible refine Kd.C_drewN ?_ _) | (with_reducible refine Kd.C_drew ?_))); (case side2 => exact HC0.out); rintro e w5 ⟨v201, rfl, ho0, hb⟩; have n0_ := Aside0.mk (Kd.R_below (by (with_reducible repeat (first | apply Kd.R_alloc | apply Kd.R_drewN | apply Kd.R_drew)); exact HO199.out) hb); have n1_ := Aside0.mk (Kd.R_lower ho0 (below_size (by repeat (first | (with_reducible first | exact HB.out | apply below_alloc | apply pw_below_drewN | apply below_drew1) | exact HB.out)))); have n2_ := Aside0.mk (below_step (by repeat (first | (with_reducible first | exact HB.out | apply below_alloc | apply pw_below_drewN | apply below_drew1) | exact HB.out)) hb); clear HO199; clear HB; have HO199 := n0_; have HO202 := n1_; have HB := n2_; clear n0_ n1_ n2_; (try clear hb); (try clear hb2); (try clear hk); (try clear hi); (try clear ho0); obtain ⟨Ao6, co6, eo6⟩ := Kd.R_slice HO202.out; subst eo6))
  repeat (go_quiet (first | (go_at_call 15; (with_reducible refine (foliotref13_All.calls k _ _ l0 t197 _ ?side1 ?side2 A2.out).mono ?_); (case side1 => repeat (first | exact HR0.out | (with_reducible refine Kd.C_alloc ?_ _) | (with_reducible refine Kd.C_drewN ?_ _) | (with_reducible refine Kd.C_drew ?_))); (case side2 => exact HC0.out); rintro e w4 ⟨v198, rfl, ho0, hb⟩; have n0_ := Aside0.mk (Kd.R_lower ho0 (below_size (by repeat (first | (with_reducible first | exact HB.out | apply below_alloc | apply pw_below_drewN | apply below_drew1) | exact HB.out)))); have n1_ := Aside0.mk (below_step (by repeat (first | (with_reducible first | exact HB.out | apply below_alloc | apply pw_below_drewN | apply below_drew1) | exact HB.out)) hb); clear HB; have HO199 := n0_; have HB := n1_; clear n0_ n1_; (try clear hb); (try clear hb2); (try clear hk); (try clear hi); (try clear ho0)) | (go_at_call 30; (with_reducible refine (foliotref13_those.calls k _ _ l0 t200 _ ?side1 ?side2 A3.out).mono ?_); (case side1 => repeat (first | exact (Kd.C_below HR0.out HB.out) | (with_reducible refine Kd.C_alloc ?_ _) | (with_reducible refine Kd.C_drewN ?_ _) | (with_reducible refine Kd.C_drew ?_))); (case side2 => exact HC0.out); rintro e w5 ⟨v201, rfl, ho0, hb⟩; have n0_ := Aside0.mk (Kd.R_below (by (with_reducible repeat (first | apply Kd.R_alloc | apply Kd.R_drewN | apply Kd.R_drew)); exact HO199.out) hb); have n1_ := Aside0.mk (Kd.R_lower ho0 (below_size (by repeat (first | (with_reducible first | exact HB.out | apply below_alloc | apply pw_below_drewN | apply below_drew1) | exact HB.out)))); have n2_ := Aside0.mk (below_step (by repeat (first | (with_reducible first | exact HB.out | apply below_alloc | apply pw_below_drewN | apply below_drew1) | exact HB.out)) hb); clear HO199; clear HB; have HO199 := n0_; have HO202 := n1_; have HB := n2_; clear n0_ n1_ n2_; (try clear hb); (try clear hb2); (try clear hk); (try clear hi); (try clear ho0); obtain ⟨Ao6, co6, eo6⟩ := Kd.R_slice HO202.out; subst eo6)); try go_wp2_with (first | (go_at_call 15; (with_reducible refine (foliotref13_All.calls k _ _ l0 t197 _ ?side1 ?side2 A2.out).mono ?_); (case side1 => repeat (first | exact HR0.out | (with_reducible refine Kd.C_alloc ?_ _) | (with_reducible refine Kd.C_drewN ?_ _) | (with_reducible refine Kd.C_drew ?_))); (case side2 => exact HC0.out); rintro e w4 ⟨v198, rfl, ho0, hb⟩; have n0_ := Aside0.mk (Kd.R_lower ho0 (below_size (by repeat (first | (with_reducible first | exact HB.out | apply below_alloc | apply pw_below_drewN | apply below_drew1) | exact HB.out)))); have n1_ := Aside0.mk (below_step (by repeat (first | (with_reducible first | exact HB.out | apply below_alloc | apply pw_below_drewN | apply below_drew1) | exact HB.out)) hb); clear HB; have HO199 := n0_; have HB := n1_; clear n0_ n1_; (try clear hb); (try clear hb2); (try clear hk); (try clear hi); (try clear ho0)) | (go_at_call 30; (with_reducible refine (foliotref13_those.calls k _ _ l0 t200 _ ?side1 ?side2 A3.out).mono ?_); (case side1 => repeat (first | exact (Kd.C_below HR0.out HB.out) | (with_reducible refine Kd.C_alloc ?_ _) | (with_reducible refine Kd.C_drewN ?_ _) | (with_reducible refine Kd.C_drew ?_))); (case side2 => exact HC0.out); rintro e w5 ⟨v201, rfl, ho0, hb⟩; have n0_ := Aside0.mk (Kd.R_below (by (with_reducible repeat (first | apply Kd.R_alloc | apply Kd.R_drewN | apply Kd.R_drew)); exact HO199.out) hb); have n1_ := Aside0.mk (Kd.R_lower ho0 (below_size (by repeat (first | (with_reducible first | exact HB.out | apply below_alloc | apply pw_below_drewN | apply below_drew1) | exact HB.out)))); have n2_ := Aside0.mk (below_step (by repeat (first | (with_reducible first | exact HB.out | apply below_alloc | apply pw_below_drewN | apply below_drew1) | exact HB.out)) hb); clear HO199; clear HB; have HO199 := n0_; have HO202 := n1_; have HB := n2_; clear n0_ n1_ n2_; (try clear hb); (try clear hb2); (try clear hk); (try clear hi); (try clear ho0); obtain ⟨Ao6, co6, eo6⟩ := Kd.R_slice HO202.out; subst eo6)))
  go_loopg [7] k (fun kq v7 w' => ∃ (x7_1 : Int), v7 = .int .i64 x7_1 ∧ Aside0 (foliotref13_Meet.l0 kq t197 (t200.length : Int) x7_1 = some (r1, r2, r3)) ∧ Aside0 (kq ≤ k) ∧ Aside0 (Kd.R k54 54 w' w.heap.size (fun _ => True) v198 t197) ∧ Aside0 (Below w.heap.size w w'))
  case atStart => exact ⟨(0), (by first | rfl | (simp; done) | (simp [*]; done)), H', ⟨Nat.le_refl _⟩, ⟨by (with_reducible repeat (first | apply Kd.R_alloc | apply Kd.R_drewN | apply Kd.R_drew)); exact HO199.out⟩, ⟨by repeat (first | (with_reducible first | exact HB.out | apply below_alloc | apply pw_below_drewN | apply below_drew1) | exact HB.out)⟩⟩
  case round =>
    clear H'
    try clear c1
    try clear p2
    obtain ⟨x7_1, rfl, HA, HK1, HO_5, HB⟩ := hrel
    cases gk with
    | zero => exact absurd HA.out (by simp [foliotref13_Meet.l0])
    | succ k1 =>
      have H := HA.out
      clear HA
      simp only [foliotref13_Meet.l0] at H
      by_cases c7 : (wrap64 (2 * x7_1)) < (t200.length : Int)
      · rw [if_pos c7] at H
        have c7b0 : decide ((wrap64 (2 * x7_1)) < (t200.length : Int)) = true := decide_eq_true c7
        clear c7
        have H' := Aside0.mk H
        clear H
        go_wp2
        repeat (go_quiet (fail); try go_wp2)
        go_loopg [8, 9, 10, 11] k1 (fun kq v8 v9 v10 v11 w' => ∃ (x8_2 : Int) (x9_2 : Int) (x10_2 : Int) (x11_2 : Int), v8 = .int .i64 x8_2 ∧ v9 = .int .i64 x9_2 ∧ v10 = .int .i64 x10_2 ∧ v11 = .int .i64 x11_2 ∧ Aside0 (foliotref13_Meet.l1 kq t197 (t200.length : Int) x7_1 x8_2 x9_2 x10_2 x11_2 = some (r1, r2, r3)) ∧ Aside0 (kq ≤ k1) ∧ Aside0 (Kd.R k54 54 w' w.heap.size (fun _ => True) v198 t197) ∧ Aside0 (Below w.heap.size w w'))
        case atStart => exact ⟨(0), ((-1)), (0), (0), (by first | rfl | (simp; done) | (simp [*]; done)), (by first | rfl | (simp; done) | (simp [*]; done)), (by first | rfl | (simp; done) | (simp [*]; done)), (by first | rfl | (simp; done) | (simp [*]; done)), H', ⟨Nat.le_refl _⟩, ⟨by (with_reducible repeat (first | apply Kd.R_alloc | apply Kd.R_drewN | apply Kd.R_drew)); exact HO_5.out⟩, ⟨by repeat (first | (with_reducible first | exact HB.out | apply below_alloc | apply pw_below_drewN | apply below_drew1) | exact HB.out)⟩⟩
        case round =>
          clear H'
          try clear c1
          try clear p2
          try clear p6
          try clear c7
          try clear c7b0
          try clear p2
          obtain ⟨x8_2, x9_2, x10_2, x11_2, rfl, rfl, rfl, rfl, HA, HK2, HO_5, HB⟩ := hrel
          cases gk with
          | zero => exact absurd HA.out (by simp [foliotref13_Meet.l1])
          | succ k2 =>
            have H := HA.out
            clear HA
            simp only [foliotref13_Meet.l1] at H
            have HC8 := Aside0.mk H
            clear H
            go_upto_region 10 with (fail)
            repeat (go_quiet (fail); go_upto_region 10 with (fail))
            go_cut [32] (fun v32 wc => ∃ (kq : Nat) (x32_7 : Bool), v32 = .bool x32_7 ∧ Aside0 (foliotref13_Meet.j2 kq t197 (t200.length : Int) x7_1 x8_2 x9_2 x10_2 x11_2 x32_7 = some (r1, r2, r3)) ∧ Aside0 (kq ≤ k2) ∧ Aside0 (Kd.R k54 54 wc w.heap.size (fun _ => True) v198 t197) ∧ Aside0 (Below w.heap.size w wc))
            case first =>
              have H := HC8.out
              clear HC8
              by_cases c9 : x11_2 < (t197.length : Int)
              · rw [if_pos c9] at H
                have c9b0 : decide (x11_2 < (t197.length : Int)) = true := decide_eq_true c9
                clear c9
                (first | rw [c9b0] | (simp only [i64_w, i32_w]; rw [c9b0]) | skip)
                have H' := Aside0.mk H
                clear H
                obtain ⟨Ao10, co10, eo10⟩ := Kd.R_slice HO_5.out
                subst eo10
                go_wp2
                repeat (go_quiet (fail); try go_wp2)
                go_meet
                case rel => exact ⟨_, (decide (x9_2 < 0)), (by first | rfl | (simp; done) | (simp [*]; done)), H', ⟨by have := HK1.out; have := HK2.out; first | omega | exact Nat.le_refl _⟩, ⟨by (with_reducible repeat (first | apply Kd.R_alloc | apply Kd.R_drewN | apply Kd.R_drew)); exact HO_5.out⟩, ⟨by repeat (first | (with_reducible first | exact HB.out | apply below_alloc | apply pw_below_drewN | apply below_drew1) | exact HB.out)⟩⟩
              · rw [if_neg c9] at H
                have c9b0 : decide (x11_2 < (t197.length : Int)) = false := decide_eq_false c9
                clear c9
                (first | rw [c9b0] | (simp only [i64_w, i32_w]; rw [c9b0]) | skip)
                have H' := Aside0.mk H
                clear H
                obtain ⟨Ao11, co11, eo11⟩ := Kd.R_slice HO_5.out
                subst eo11
                go_wp2
                repeat (go_quiet (fail); try go_wp2)
                go_meet
                case rel => exact ⟨_, (false), (by first | rfl | (simp; done) | (simp [*]; done)), H', ⟨by have := HK1.out; have := HK2.out; first | omega | exact Nat.le_refl _⟩, ⟨by (with_reducible repeat (first | apply Kd.R_alloc | apply Kd.R_drewN | apply Kd.R_drew)); exact HO_5.out⟩, ⟨by repeat (first | (with_reducible first | exact HB.out | apply below_alloc | apply pw_below_drewN | apply below_drew1) | exact HB.out)⟩⟩
            case rest =>
              clear HC8
              try clear c1
              try clear p2
              try clear p6
              try clear c7
              try clear c7b0
              try clear c9
              try clear c9b0
              try clear p2
              try clear p6
              obtain ⟨kq, x32_7, rfl, HA, HJ7, HO_5, HB⟩ := hcut
              cases kq with
              | zero => exact absurd HA.out (by simp [foliotref13_Meet.j2])
              | succ kj7 =>
                have H := HA.out
                clear HA
                simp only [foliotref13_Meet.j2] at H
                by_cases c12 : x32_7 = true
                · subst c12
                  have H1 : (if 0 ≤ x11_2 then (if x11_2 < (t197.length : Int) then (if ((rd_T54 t197 x11_2).f1) = 0 then (if (wrap64 (x10_2 - ((rd_T54 t197 x11_2).f1))) = (wrap64 ((t200.length : Int) - x7_1)) then (foliotref13_Meet.l1 kj7 t197 (t200.length : Int) x7_1 (wrap64 (x8_2 + 1)) x11_2 (wrap64 (x10_2 - ((rd_T54 t197 x11_2).f1))) (wrap64 (x11_2 + 1))) else (foliotref13_Meet.l1 kj7 t197 (t200.length : Int) x7_1 (wrap64 (x8_2 + 1)) x9_2 (wrap64 (x10_2 - ((rd_T54 t197 x11_2).f1))) (wrap64 (x11_2 + 1)))) else (if (wrap64 (x10_2 - ((rd_T54 t197 x11_2).f1))) = (wrap64 ((t200.length : Int) - x7_1)) then (foliotref13_Meet.l1 kj7 t197 (t200.length : Int) x7_1 x8_2 x11_2 (wrap64 (x10_2 - ((rd_T54 t197 x11_2).f1))) (wrap64 (x11_2 + 1))) else (foliotref13_Meet.l1 kj7 t197 (t200.length : Int) x7_1 x8_2 x9_2 (wrap64 (x10_2 - ((rd_T54 t197 x11_2).f1))) (wrap64 (x11_2 + 1))))) else (none)) else (none)) = some (r1, r2, r3) := by rw [if_pos rfl] at H; exact H
                  clear H
                  have H := H1
                  clear H1
                  by_cases c13 : 0 ≤ x11_2
                  · rw [if_pos c13] at H
                    have c13b0 : decide (0 ≤ x11_2) = true := decide_eq_true c13
                    clear c13
                    by_cases c14 : x11_2 < (t197.length : Int)
                    · rw [if_pos c14] at H
                      have c14b0 : decide (x11_2 < (t197.length : Int)) = true := decide_eq_true c14
                      clear c14
                      by_cases c15 : ((rd_T54 t197 x11_2).f1) = 0
                      · rw [if_pos c15] at H
                        have c15b0 : (((rd_T54 t197 x11_2).f1) == 0) = true := beq_iff_eq.mpr c15
                        have c15b1 : (((rd_T54 t197 x11_2).f1) != 0) = false := bne_eq_false_iff_eq.mpr c15
                        clear c15
                        by_cases c16 : (wrap64 (x10_2 - ((rd_T54 t197 x11_2).f1))) = (wrap64 ((t200.length : Int) - x7_1))
                        · rw [if_pos c16] at H
                          have c16b0 : ((wrap64 (x10_2 - ((rd_T54 t197 x11_2).f1))) == (wrap64 ((t200.length : Int) - x7_1))) = true := beq_iff_eq.mpr c16
                          have c16b1 : ((wrap64 (x10_2 - ((rd_T54 t197 x11_2).f1))) != (wrap64 ((t200.length : Int) - x7_1))) = false := bne_eq_false_iff_eq.mpr c16
                          clear c16
                          have H' := Aside0.mk H
                          clear H
                          obtain ⟨Ao17, co17, eo17⟩ := Kd.R_slice HO_5.out
                          subst eo17
                          have p203 : 0 ≤ (x11_2 : Int) := of_decide_eq_true (by first | (with_reducible assumption) | assumption)
                          have q203 : x11_2 < (t197.length : Int) := of_decide_eq_true (by first | (with_reducible assumption) | assumption)
                          obtain ⟨ad203, e203, hx203_0, hx203_1⟩ := at_T54 (Kd.R_reads' HO_5.out).2.2 x11_2 p203 q203
                          cases e203
                          replace p203 := eq_true p203
                          replace q203 := eq_true q203
                          have p204 : 0 ≤ (x11_2 : Int) := of_decide_eq_true (by first | (with_reducible assumption) | assumption)
                          have q204 : x11_2 < (t197.length : Int) := of_decide_eq_true (by first | (with_reducible assumption) | assumption)
                          obtain ⟨ad204, e204, hx204_0, hx204_1⟩ := at_T54 (Kd.R_reads' HO_5.out).2.2 x11_2 p204 q204
                          obtain rfl : ad203 = ad204 := (by injection e204)
                          replace p204 := eq_true p204
                          replace q204 := eq_true q204
                          go_wp2
                          repeat (go_quiet (fail); try go_wp2)
                          go_roundg kj7
                          case measure => have := HK1.out; have := HK2.out; have := HJ7.out; omega
                          case rel => exact ⟨(wrap64 (x8_2 + 1)), (x11_2), (wrap64 (x10_2 - ((rd_T54 t197 x11_2).f1))), (wrap64 (x11_2 + 1)), (by first | rfl | (simp; done) | (simp [*]; done)), (by first | rfl | (simp; done) | (simp [*]; done)), (by first | rfl | (simp; done) | (simp [*]; done)), (by first | rfl | (simp; done) | (simp [*]; done)), H', ⟨by have := HK1.out; have := HK2.out; have := HJ7.out; omega⟩, ⟨by (with_reducible repeat (first | apply Kd.R_alloc | apply Kd.R_drewN | apply Kd.R_drew)); exact HO_5.out⟩, ⟨by repeat (first | (with_reducible first | exact HB.out | apply below_alloc | apply pw_below_drewN | apply below_drew1) | exact HB.out)⟩⟩
                        · rw [if_neg c16] at H
                          have c16b0 : ((wrap64 (x10_2 - ((rd_T54 t197 x11_2).f1))) == (wrap64 ((t200.length : Int) - x7_1))) = false := beq_eq_false_iff_ne.mpr c16
                          have c16b1 : ((wrap64 (x10_2 - ((rd_T54 t197 x11_2).f1))) != (wrap64 ((t200.length : Int) - x7_1))) = true := bne_iff_ne.mpr c16
                          have H' := Aside0.mk H
                          clear H
                          obtain ⟨Ao18, co18, eo18⟩ := Kd.R_slice HO_5.out
                          subst eo18
                          have p203 : 0 ≤ (x11_2 : Int) := of_decide_eq_true (by first | (with_reducible assumption) | assumption)
                          have q203 : x11_2 < (t197.length : Int) := of_decide_eq_true (by first | (with_reducible assumption) | assumption)
                          obtain ⟨ad203, e203, hx203_0, hx203_1⟩ := at_T54 (Kd.R_reads' HO_5.out).2.2 x11_2 p203 q203
                          cases e203
                          replace p203 := eq_true p203
                          replace q203 := eq_true q203
                          have p204 : 0 ≤ (x11_2 : Int) := of_decide_eq_true (by first | (with_reducible assumption) | assumption)
                          have q204 : x11_2 < (t197.length : Int) := of_decide_eq_true (by first | (with_reducible assumption) | assumption)
                          obtain ⟨ad204, e204, hx204_0, hx204_1⟩ := at_T54 (Kd.R_reads' HO_5.out).2.2 x11_2 p204 q204
                          obtain rfl : ad203 = ad204 := (by injection e204)
                          replace p204 := eq_true p204
                          replace q204 := eq_true q204
                          go_wp2
                          repeat (go_quiet (fail); try go_wp2)
                          go_roundg kj7
                          case measure => have := HK1.out; have := HK2.out; have := HJ7.out; omega
                          case rel => exact ⟨(wrap64 (x8_2 + 1)), (x9_2), (wrap64 (x10_2 - ((rd_T54 t197 x11_2).f1))), (wrap64 (x11_2 + 1)), (by first | rfl | (simp; done) | (simp [*]; done)), (by first | rfl | (simp; done) | (simp [*]; done)), (by first | rfl | (simp; done) | (simp [*]; done)), (by first | rfl | (simp; done) | (simp [*]; done)), H', ⟨by have := HK1.out; have := HK2.out; have := HJ7.out; omega⟩, ⟨by (with_reducible repeat (first | apply Kd.R_alloc | apply Kd.R_drewN | apply Kd.R_drew)); exact HO_5.out⟩, ⟨by repeat (first | (with_reducible first | exact HB.out | apply below_alloc | apply pw_below_drewN | apply below_drew1) | exact HB.out)⟩⟩
                      · rw [if_neg c15] at H
                        have c15b0 : (((rd_T54 t197 x11_2).f1) == 0) = false := beq_eq_false_iff_ne.mpr c15
                        have c15b1 : (((rd_T54 t197 x11_2).f1) != 0) = true := bne_iff_ne.mpr c15
                        by_cases c19 : (wrap64 (x10_2 - ((rd_T54 t197 x11_2).f1))) = (wrap64 ((t200.length : Int) - x7_1))
                        · rw [if_pos c19] at H
                          have c19b0 : ((wrap64 (x10_2 - ((rd_T54 t197 x11_2).f1))) == (wrap64 ((t200.length : Int) - x7_1))) = true := beq_iff_eq.mpr c19
                          have c19b1 : ((wrap64 (x10_2 - ((rd_T54 t197 x11_2).f1))) != (wrap64 ((t200.length : Int) - x7_1))) = false := bne_eq_false_iff_eq.mpr c19
                          clear c19
                          have H' := Aside0.mk H
                          clear H
                          obtain ⟨Ao20, co20, eo20⟩ := Kd.R_slice HO_5.out
                          subst eo20
                          have p203 : 0 ≤ (x11_2 : Int) := of_decide_eq_true (by first | (with_reducible assumption) | assumption)
                          have q203 : x11_2 < (t197.length : Int) := of_decide_eq_true (by first | (with_reducible assumption) | assumption)
                          obtain ⟨ad203, e203, hx203_0, hx203_1⟩ := at_T54 (Kd.R_reads' HO_5.out).2.2 x11_2 p203 q203
                          cases e203
                          replace p203 := eq_true p203
                          replace q203 := eq_true q203
                          have p204 : 0 ≤ (x11_2 : Int) := of_decide_eq_true (by first | (with_reducible assumption) | assumption)
                          have q204 : x11_2 < (t197.length : Int) := of_decide_eq_true (by first | (with_reducible assumption) | assumption)
                          obtain ⟨ad204, e204, hx204_0, hx204_1⟩ := at_T54 (Kd.R_reads' HO_5.out).2.2 x11_2 p204 q204
                          obtain rfl : ad203 = ad204 := (by injection e204)
                          replace p204 := eq_true p204
                          replace q204 := eq_true q204
                          go_wp2
                          repeat (go_quiet (fail); try go_wp2)
                          go_roundg kj7
                          case measure => have := HK1.out; have := HK2.out; have := HJ7.out; omega
                          case rel => exact ⟨(x8_2), (x11_2), (wrap64 (x10_2 - ((rd_T54 t197 x11_2).f1))), (wrap64 (x11_2 + 1)), (by first | rfl | (simp; done) | (simp [*]; done)), (by first | rfl | (simp; done) | (simp [*]; done)), (by first | rfl | (simp; done) | (simp [*]; done)), (by first | rfl | (simp; done) | (simp [*]; done)), H', ⟨by have := HK1.out; have := HK2.out; have := HJ7.out; omega⟩, ⟨by (with_reducible repeat (first | apply Kd.R_alloc | apply Kd.R_drewN | apply Kd.R_drew)); exact HO_5.out⟩, ⟨by repeat (first | (with_reducible first | exact HB.out | apply below_alloc | apply pw_below_drewN | apply below_drew1) | exact HB.out)⟩⟩
                        · rw [if_neg c19] at H
                          have c19b0 : ((wrap64 (x10_2 - ((rd_T54 t197 x11_2).f1))) == (wrap64 ((t200.length : Int) - x7_1))) = false := beq_eq_false_iff_ne.mpr c19
                          have c19b1 : ((wrap64 (x10_2 - ((rd_T54 t197 x11_2).f1))) != (wrap64 ((t200.length : Int) - x7_1))) = true := bne_iff_ne.mpr c19
                          have H' := Aside0.mk H
                          clear H
                          obtain ⟨Ao21, co21, eo21⟩ := Kd.R_slice HO_5.out
                          subst eo21
                          have p203 : 0 ≤ (x11_2 : Int) := of_decide_eq_true (by first | (with_reducible assumption) | assumption)
                          have q203 : x11_2 < (t197.length : Int) := of_decide_eq_true (by first | (with_reducible assumption) | assumption)
                          obtain ⟨ad203, e203, hx203_0, hx203_1⟩ := at_T54 (Kd.R_reads' HO_5.out).2.2 x11_2 p203 q203
                          cases e203
                          replace p203 := eq_true p203
                          replace q203 := eq_true q203
                          have p204 : 0 ≤ (x11_2 : Int) := of_decide_eq_true (by first | (with_reducible assumption) | assumption)
                          have q204 : x11_2 < (t197.length : Int) := of_decide_eq_true (by first | (with_reducible assumption) | assumption)
                          obtain ⟨ad204, e204, hx204_0, hx204_1⟩ := at_T54 (Kd.R_reads' HO_5.out).2.2 x11_2 p204 q204
                          obtain rfl : ad203 = ad204 := (by injection e204)
                          replace p204 := eq_true p204
                          replace q204 := eq_true q204
                          go_wp2
                          repeat (go_quiet (fail); try go_wp2)
                          go_roundg kj7
                          case measure => have := HK1.out; have := HK2.out; have := HJ7.out; omega
                          case rel => exact ⟨(x8_2), (x9_2), (wrap64 (x10_2 - ((rd_T54 t197 x11_2).f1))), (wrap64 (x11_2 + 1)), (by first | rfl | (simp; done) | (simp [*]; done)), (by first | rfl | (simp; done) | (simp [*]; done)), (by first | rfl | (simp; done) | (simp [*]; done)), (by first | rfl | (simp; done) | (simp [*]; done)), H', ⟨by have := HK1.out; have := HK2.out; have := HJ7.out; omega⟩, ⟨by (with_reducible repeat (first | apply Kd.R_alloc | apply Kd.R_drewN | apply Kd.R_drew)); exact HO_5.out⟩, ⟨by repeat (first | (with_reducible first | exact HB.out | apply below_alloc | apply pw_below_drewN | apply below_drew1) | exact HB.out)⟩⟩
                    · rw [if_neg c14] at H
                      exact absurd H (by simp)
                  · rw [if_neg c13] at H
                    exact absurd H (by simp)
                · replace c12 := Bool.eq_false_iff.mpr c12
                  subst c12
                  have H1 : (if x9_2 < 0 then (foliotref13_Meet.l0 kj7 t197 (t200.length : Int) (wrap64 (x7_1 + 1))) else (foliotref13_Meet.l2 kj7 t197 (t200.length : Int) x7_1 x8_2 x9_2 0 (-1) (wrap64 ((t197.length : Int) - 1)))) = some (r1, r2, r3) := by rw [if_neg (show ¬ (false = true) by decide)] at H; exact H
                  clear H
                  have H := H1
                  clear H1
                  by_cases c22 : x9_2 < 0
                  · rw [if_pos c22] at H
                    have c22b0 : decide (x9_2 < 0) = true := decide_eq_true c22
                    clear c22
                    have H' := Aside0.mk H
                    clear H
                    go_wp2
                    repeat (go_quiet (fail); try go_wp2)
                    go_roundg kj7
                    case measure => have := HK1.out; have := HK2.out; have := HJ7.out; omega
                    case rel => exact ⟨(wrap64 (x7_1 + 1)), (by first | rfl | (simp; done) | (simp [*]; done)), H', ⟨by have := HK1.out; have := HK2.out; have := HJ7.out; omega⟩, ⟨by (with_reducible repeat (first | apply Kd.R_alloc | apply Kd.R_drewN | apply Kd.R_drew)); exact HO_5.out⟩, ⟨by repeat (first | (with_reducible first | exact HB.out | apply below_alloc | apply pw_below_drewN | apply below_drew1) | exact HB.out)⟩⟩
                  · rw [if_neg c22] at H
                    have c22b0 : decide (x9_2 < 0) = false := decide_eq_false c22
                    clear c22
                    have H' := Aside0.mk H
                    clear H
                    obtain ⟨Ao23, co23, eo23⟩ := Kd.R_slice HO_5.out
                    subst eo23
                    go_wp2
                    repeat (go_quiet (fail); try go_wp2)
                    go_loopg [8, 10, 12, 13] kj7 (fun kq v8 v10 v12 v13 w' => ∃ (x8_4 : Int) (x10_4 : Int) (x12_4 : Int) (x13_4 : Int), v8 = .int .i64 x8_4 ∧ v10 = .int .i64 x10_4 ∧ v12 = .int .i64 x12_4 ∧ v13 = .int .i64 x13_4 ∧ Aside0 (foliotref13_Meet.l2 kq t197 (t200.length : Int) x7_1 x8_4 x9_2 x10_4 x12_4 x13_4 = some (r1, r2, r3)) ∧ Aside0 (kq ≤ kj7) ∧ Aside0 (Kd.R k54 54 w' w.heap.size (fun _ => True) (.slice Ao23 t197.length co23) t197) ∧ Aside0 (Below w.heap.size w w'))
                    case atStart => exact ⟨(x8_2), (0), ((-1)), (wrap64 ((t197.length : Int) - 1)), (by first | rfl | (simp; done) | (simp [*]; done)), (by first | rfl | (simp; done) | (simp [*]; done)), (by first | rfl | (simp; done) | (simp [*]; done)), (by first | rfl | (simp; done) | (simp [*]; done)), H', ⟨Nat.le_refl _⟩, ⟨by (with_reducible repeat (first | apply Kd.R_alloc | apply Kd.R_drewN | apply Kd.R_drew)); exact HO_5.out⟩, ⟨by repeat (first | (with_reducible first | exact HB.out | apply below_alloc | apply pw_below_drewN | apply below_drew1) | exact HB.out)⟩⟩
                    case round =>
                      clear H'
                      try clear c1
                      try clear c2
                      try clear p2
                      try clear q2
                      try clear hx2
                      try clear p6
                      try clear c7
                      try clear c7b0
                      try clear c9
                      try clear c9b0
                      try clear c12
                      try clear c13
                      try clear c13b0
                      try clear c14
                      try clear c14b0
                      try clear c15
                      try clear c15b0
                      try clear c15b1
                      try clear c16
                      try clear c16b0
                      try clear c16b1
                      try clear c18
                      try clear c19
                      try clear c19b0
                      try clear c19b1
                      try clear p20
                      try clear q20
                      try clear hx20
                      try clear c22
                      try clear c22b0
                      try clear hx203_0
                      try clear hx203_1
                      try clear hx204_0
                      try clear hx204_1
                      try clear p2
                      try clear p203
                      try clear p204
                      try clear p6
                      try clear q203
                      try clear q204
                      obtain ⟨x8_4, x10_4, x12_4, x13_4, rfl, rfl, rfl, rfl, HA, HK4, HO_5, HB⟩ := hrel
                      cases gk with
                      | zero => exact absurd HA.out (by simp [foliotref13_Meet.l2])
                      | succ k4 =>
                        have H := HA.out
                        clear HA
                        simp only [foliotref13_Meet.l2] at H
                        have HC24 := Aside0.mk H
                        clear H
                        go_upto_region 21 with (fail)
                        repeat (go_quiet (fail); go_upto_region 21 with (fail))
                        go_cut [66] (fun v66 wc => ∃ (kq : Nat) (x66_23 : Bool), v66 = .bool x66_23 ∧ Aside0 (foliotref13_Meet.j4 kq t197 (t200.length : Int) x7_1 x8_4 x9_2 x10_4 x12_4 x13_4 x66_23 = some (r1, r2, r3)) ∧ Aside0 (kq ≤ k4) ∧ Aside0 (Kd.R k54 54 wc w.heap.size (fun _ => True) (.slice Ao23 t197.length co23) t197) ∧ Aside0 (Below w.heap.size w wc))
                        case first =>
                          have H := HC24.out
                          clear HC24
                          by_cases c25 : x13_4 ≥ 0
                          · rw [if_pos c25] at H
                            have c25b0 : decide (0 ≤ x13_4) = true := decide_eq_true c25
                            clear c25
                            (first | rw [c25b0] | (simp only [i64_w, i32_w]; rw [c25b0]) | skip)
                            have H' := Aside0.mk H
                            clear H
                            go_wp2
                            repeat (go_quiet (fail); try go_wp2)
                            go_meet
                            case rel => exact ⟨_, (decide (x12_4 < 0)), (by first | rfl | (simp; done) | (simp [*]; done)), H', ⟨by have := HK1.out; have := HK2.out; have := HJ7.out; have := HK4.out; first | omega | exact Nat.le_refl _⟩, ⟨by (with_reducible repeat (first | apply Kd.R_alloc | apply Kd.R_drewN | apply Kd.R_drew)); exact HO_5.out⟩, ⟨by repeat (first | (with_reducible first | exact HB.out | apply below_alloc | apply pw_below_drewN | apply below_drew1) | exact HB.out)⟩⟩
                          · rw [if_neg c25] at H
                            have c25b0 : decide (0 ≤ x13_4) = false := decide_eq_false c25
                            clear c25
                            (first | rw [c25b0] | (simp only [i64_w, i32_w]; rw [c25b0]) | skip)
                            have H' := Aside0.mk H
                            clear H
                            go_wp2
                            repeat (go_quiet (fail); try go_wp2)
                            go_meet
                            case rel => exact ⟨_, (false), (by first | rfl | (simp; done) | (simp [*]; done)), H', ⟨by have := HK1.out; have := HK2.out; have := HJ7.out; have := HK4.out; first | omega | exact Nat.le_refl _⟩, ⟨by (with_reducible repeat (first | apply Kd.R_alloc | apply Kd.R_drewN | apply Kd.R_drew)); exact HO_5.out⟩, ⟨by repeat (first | (with_reducible first | exact HB.out | apply below_alloc | apply pw_below_drewN | apply below_drew1) | exact HB.out)⟩⟩
                        case rest =>
                          clear HC24
                          try clear c1
                          try clear c2
                          try clear p2
                          try clear q2
                          try clear hx2
                          try clear p6
                          try clear c7
                          try clear c7b0
                          try clear c9
                          try clear c9b0
                          try clear c12
                          try clear c13
                          try clear c13b0
                          try clear c14
                          try clear c14b0
                          try clear c15
                          try clear c15b0
                          try clear c15b1
                          try clear c16
                          try clear c16b0
                          try clear c16b1
                          try clear c18
                          try clear c19
                          try clear c19b0
                          try clear c19b1
                          try clear p20
                          try clear q20
                          try clear hx20
                          try clear c22
                          try clear c22b0
                          try clear c25
                          try clear c25b0
                          try clear hx203_0
                          try clear hx203_1
                          try clear hx204_0
                          try clear hx204_1
                          try clear p2
                          try clear p20
                          try clear p203
                          try clear p204
                          try clear p6
                          try clear q2
                          try clear q20
                          try clear q203
                          try clear q204
                          obtain ⟨kq, x66_23, rfl, HA, HJ23, HO_5, HB⟩ := hcut
                          cases kq with
                          | zero => exact absurd HA.out (by simp [foliotref13_Meet.j4])
                          | succ kj23 =>
                            have H := HA.out
                            clear HA
                            simp only [foliotref13_Meet.j4] at H
                            by_cases c26 : x66_23 = true
                            · subst c26
                              have H1 : (if 0 ≤ x13_4 then (if x13_4 < (t197.length : Int) then (if ((rd_T54 t197 x13_4).f1) = 0 then (if (wrap64 (x10_4 + ((rd_T54 t197 x13_4).f1))) = (wrap64 ((t200.length : Int) - x7_1)) then (foliotref13_Meet.l2 kj23 t197 (t200.length : Int) x7_1 (wrap64 (x8_4 + 1)) x9_2 (wrap64 (x10_4 + ((rd_T54 t197 x13_4).f1))) x13_4 (wrap64 (x13_4 - 1))) else (foliotref13_Meet.l2 kj23 t197 (t200.length : Int) x7_1 (wrap64 (x8_4 + 1)) x9_2 (wrap64 (x10_4 + ((rd_T54 t197 x13_4).f1))) x12_4 (wrap64 (x13_4 - 1)))) else (if (wrap64 (x10_4 + ((rd_T54 t197 x13_4).f1))) = (wrap64 ((t200.length : Int) - x7_1)) then (foliotref13_Meet.l2 kj23 t197 (t200.length : Int) x7_1 x8_4 x9_2 (wrap64 (x10_4 + ((rd_T54 t197 x13_4).f1))) x13_4 (wrap64 (x13_4 - 1))) else (foliotref13_Meet.l2 kj23 t197 (t200.length : Int) x7_1 x8_4 x9_2 (wrap64 (x10_4 + ((rd_T54 t197 x13_4).f1))) x12_4 (wrap64 (x13_4 - 1))))) else (none)) else (none)) = some (r1, r2, r3) := by rw [if_pos rfl] at H; exact H
                              clear H
                              have H := H1
                              clear H1
                              by_cases c27 : 0 ≤ x13_4
                              · rw [if_pos c27] at H
                                have c27b0 : decide (0 ≤ x13_4) = true := decide_eq_true c27
                                clear c27
                                by_cases c28 : x13_4 < (t197.length : Int)
                                · rw [if_pos c28] at H
                                  have c28b0 : decide (x13_4 < (t197.length : Int)) = true := decide_eq_true c28
                                  clear c28
                                  by_cases c29 : ((rd_T54 t197 x13_4).f1) = 0
                                  · rw [if_pos c29] at H
                                    have c29b0 : (((rd_T54 t197 x13_4).f1) == 0) = true := beq_iff_eq.mpr c29
                                    have c29b1 : (((rd_T54 t197 x13_4).f1) != 0) = false := bne_eq_false_iff_eq.mpr c29
                                    clear c29
                                    by_cases c30 : (wrap64 (x10_4 + ((rd_T54 t197 x13_4).f1))) = (wrap64 ((t200.length : Int) - x7_1))
                                    · rw [if_pos c30] at H
                                      have c30b0 : ((wrap64 (x10_4 + ((rd_T54 t197 x13_4).f1))) == (wrap64 ((t200.length : Int) - x7_1))) = true := beq_iff_eq.mpr c30
                                      have c30b1 : ((wrap64 (x10_4 + ((rd_T54 t197 x13_4).f1))) != (wrap64 ((t200.length : Int) - x7_1))) = false := bne_eq_false_iff_eq.mpr c30
                                      clear c30
                                      have H' := Aside0.mk H
                                      clear H
                                      have p209 : 0 ≤ (x13_4 : Int) := of_decide_eq_true (by first | (with_reducible assumption) | assumption)
                                      have q209 : x13_4 < (t197.length : Int) := of_decide_eq_true (by first | (with_reducible assumption) | assumption)
                                      obtain ⟨ad209, e209, hx209_0, hx209_1⟩ := at_T54 (Kd.R_reads' HO_5.out).2.2 x13_4 p209 q209
                                      cases e209
                                      replace p209 := eq_true p209
                                      replace q209 := eq_true q209
                                      have p210 : 0 ≤ (x13_4 : Int) := of_decide_eq_true (by first | (with_reducible assumption) | assumption)
                                      have q210 : x13_4 < (t197.length : Int) := of_decide_eq_true (by first | (with_reducible assumption) | assumption)
                                      obtain ⟨ad210, e210, hx210_0, hx210_1⟩ := at_T54 (Kd.R_reads' HO_5.out).2.2 x13_4 p210 q210
                                      obtain rfl : ad209 = ad210 := (by injection e210)
                                      replace p210 := eq_true p210
                                      replace q210 := eq_true q210
                                      go_wp2
                                      repeat (go_quiet (fail); try go_wp2)
                                      go_roundg kj23
                                      case measure => have := HK1.out; have := HK2.out; have := HJ7.out; have := HK4.out; have := HJ23.out; omega
                                      case rel => exact ⟨(wrap64 (x8_4 + 1)), (wrap64 (x10_4 + ((rd_T54 t197 x13_4).f1))), (x13_4), (wrap64 (x13_4 - 1)), (by first | rfl | (simp; done) | (simp [*]; done)), (by first | rfl | (simp; done) | (simp [*]; done)), (by first | rfl | (simp; done) | (simp [*]; done)), (by first | rfl | (simp; done) | (simp [*]; done)), H', ⟨by have := HK1.out; have := HK2.out; have := HJ7.out; have := HK4.out; have := HJ23.out; omega⟩, ⟨by (with_reducible repeat (first | apply Kd.R_alloc | apply Kd.R_drewN | apply Kd.R_drew)); exact HO_5.out⟩, ⟨by repeat (first | (with_reducible first | exact HB.out | apply below_alloc | apply pw_below_drewN | apply below_drew1) | exact HB.out)⟩⟩
                                    · rw [if_neg c30] at H
                                      have c30b0 : ((wrap64 (x10_4 + ((rd_T54 t197 x13_4).f1))) == (wrap64 ((t200.length : Int) - x7_1))) = false := beq_eq_false_iff_ne.mpr c30
                                      have c30b1 : ((wrap64 (x10_4 + ((rd_T54 t197 x13_4).f1))) != (wrap64 ((t200.length : Int) - x7_1))) = true := bne_iff_ne.mpr c30
                                      have H' := Aside0.mk H
                                      clear H
                                      have p209 : 0 ≤ (x13_4 : Int) := of_decide_eq_true (by first | (with_reducible assumption) | assumption)
                                      have q209 : x13_4 < (t197.length : Int) := of_decide_eq_true (by first | (with_reducible assumption) | assumption)
                                      obtain ⟨ad209, e209, hx209_0, hx209_1⟩ := at_T54 (Kd.R_reads' HO_5.out).2.2 x13_4 p209 q209
                                      cases e209
                                      replace p209 := eq_true p209
                                      replace q209 := eq_true q209
                                      have p210 : 0 ≤ (x13_4 : Int) := of_decide_eq_true (by first | (with_reducible assumption) | assumption)
                                      have q210 : x13_4 < (t197.length : Int) := of_decide_eq_true (by first | (with_reducible assumption) | assumption)
                                      obtain ⟨ad210, e210, hx210_0, hx210_1⟩ := at_T54 (Kd.R_reads' HO_5.out).2.2 x13_4 p210 q210
                                      obtain rfl : ad209 = ad210 := (by injection e210)
                                      replace p210 := eq_true p210
                                      replace q210 := eq_true q210
                                      go_wp2
                                      repeat (go_quiet (fail); try go_wp2)
                                      go_roundg kj23
                                      case measure => have := HK1.out; have := HK2.out; have := HJ7.out; have := HK4.out; have := HJ23.out; omega
                                      case rel => exact ⟨(wrap64 (x8_4 + 1)), (wrap64 (x10_4 + ((rd_T54 t197 x13_4).f1))), (x12_4), (wrap64 (x13_4 - 1)), (by first | rfl | (simp; done) | (simp [*]; done)), (by first | rfl | (simp; done) | (simp [*]; done)), (by first | rfl | (simp; done) | (simp [*]; done)), (by first | rfl | (simp; done) | (simp [*]; done)), H', ⟨by have := HK1.out; have := HK2.out; have := HJ7.out; have := HK4.out; have := HJ23.out; omega⟩, ⟨by (with_reducible repeat (first | apply Kd.R_alloc | apply Kd.R_drewN | apply Kd.R_drew)); exact HO_5.out⟩, ⟨by repeat (first | (with_reducible first | exact HB.out | apply below_alloc | apply pw_below_drewN | apply below_drew1) | exact HB.out)⟩⟩
                                  · rw [if_neg c29] at H
                                    have c29b0 : (((rd_T54 t197 x13_4).f1) == 0) = false := beq_eq_false_iff_ne.mpr c29
                                    have c29b1 : (((rd_T54 t197 x13_4).f1) != 0) = true := bne_iff_ne.mpr c29
                                    by_cases c31 : (wrap64 (x10_4 + ((rd_T54 t197 x13_4).f1))) = (wrap64 ((t200.length : Int) - x7_1))
                                    · rw [if_pos c31] at H
                                      have c31b0 : ((wrap64 (x10_4 + ((rd_T54 t197 x13_4).f1))) == (wrap64 ((t200.length : Int) - x7_1))) = true := beq_iff_eq.mpr c31
                                      have c31b1 : ((wrap64 (x10_4 + ((rd_T54 t197 x13_4).f1))) != (wrap64 ((t200.length : Int) - x7_1))) = false := bne_eq_false_iff_eq.mpr c31
                                      clear c31
                                      have H' := Aside0.mk H
                                      clear H
                                      have p209 : 0 ≤ (x13_4 : Int) := of_decide_eq_true (by first | (with_reducible assumption) | assumption)
                                      have q209 : x13_4 < (t197.length : Int) := of_decide_eq_true (by first | (with_reducible assumption) | assumption)
                                      obtain ⟨ad209, e209, hx209_0, hx209_1⟩ := at_T54 (Kd.R_reads' HO_5.out).2.2 x13_4 p209 q209
                                      cases e209
                                      replace p209 := eq_true p209
                                      replace q209 := eq_true q209
                                      have p210 : 0 ≤ (x13_4 : Int) := of_decide_eq_true (by first | (with_reducible assumption) | assumption)
                                      have q210 : x13_4 < (t197.length : Int) := of_decide_eq_true (by first | (with_reducible assumption) | assumption)
                                      obtain ⟨ad210, e210, hx210_0, hx210_1⟩ := at_T54 (Kd.R_reads' HO_5.out).2.2 x13_4 p210 q210
                                      obtain rfl : ad209 = ad210 := (by injection e210)
                                      replace p210 := eq_true p210
                                      replace q210 := eq_true q210
                                      go_wp2
                                      repeat (go_quiet (fail); try go_wp2)
                                      go_roundg kj23
                                      case measure => have := HK1.out; have := HK2.out; have := HJ7.out; have := HK4.out; have := HJ23.out; omega
                                      case rel => exact ⟨(x8_4), (wrap64 (x10_4 + ((rd_T54 t197 x13_4).f1))), (x13_4), (wrap64 (x13_4 - 1)), (by first | rfl | (simp; done) | (simp [*]; done)), (by first | rfl | (simp; done) | (simp [*]; done)), (by first | rfl | (simp; done) | (simp [*]; done)), (by first | rfl | (simp; done) | (simp [*]; done)), H', ⟨by have := HK1.out; have := HK2.out; have := HJ7.out; have := HK4.out; have := HJ23.out; omega⟩, ⟨by (with_reducible repeat (first | apply Kd.R_alloc | apply Kd.R_drewN | apply Kd.R_drew)); exact HO_5.out⟩, ⟨by repeat (first | (with_reducible first | exact HB.out | apply below_alloc | apply pw_below_drewN | apply below_drew1) | exact HB.out)⟩⟩
                                    · rw [if_neg c31] at H
                                      have c31b0 : ((wrap64 (x10_4 + ((rd_T54 t197 x13_4).f1))) == (wrap64 ((t200.length : Int) - x7_1))) = false := beq_eq_false_iff_ne.mpr c31
                                      have c31b1 : ((wrap64 (x10_4 + ((rd_T54 t197 x13_4).f1))) != (wrap64 ((t200.length : Int) - x7_1))) = true := bne_iff_ne.mpr c31
                                      have H' := Aside0.mk H
                                      clear H
                                      have p209 : 0 ≤ (x13_4 : Int) := of_decide_eq_true (by first | (with_reducible assumption) | assumption)
                                      have q209 : x13_4 < (t197.length : Int) := of_decide_eq_true (by first | (with_reducible assumption) | assumption)
                                      obtain ⟨ad209, e209, hx209_0, hx209_1⟩ := at_T54 (Kd.R_reads' HO_5.out).2.2 x13_4 p209 q209
                                      cases e209
                                      replace p209 := eq_true p209
                                      replace q209 := eq_true q209
                                      have p210 : 0 ≤ (x13_4 : Int) := of_decide_eq_true (by first | (with_reducible assumption) | assumption)
                                      have q210 : x13_4 < (t197.length : Int) := of_decide_eq_true (by first | (with_reducible assumption) | assumption)
                                      obtain ⟨ad210, e210, hx210_0, hx210_1⟩ := at_T54 (Kd.R_reads' HO_5.out).2.2 x13_4 p210 q210
                                      obtain rfl : ad209 = ad210 := (by injection e210)
                                      replace p210 := eq_true p210
                                      replace q210 := eq_true q210
                                      go_wp2
                                      repeat (go_quiet (fail); try go_wp2)
                                      go_roundg kj23
                                      case measure => have := HK1.out; have := HK2.out; have := HJ7.out; have := HK4.out; have := HJ23.out; omega
                                      case rel => exact ⟨(x8_4), (wrap64 (x10_4 + ((rd_T54 t197 x13_4).f1))), (x12_4), (wrap64 (x13_4 - 1)), (by first | rfl | (simp; done) | (simp [*]; done)), (by first | rfl | (simp; done) | (simp [*]; done)), (by first | rfl | (simp; done) | (simp [*]; done)), (by first | rfl | (simp; done) | (simp [*]; done)), H', ⟨by have := HK1.out; have := HK2.out; have := HJ7.out; have := HK4.out; have := HJ23.out; omega⟩, ⟨by (with_reducible repeat (first | apply Kd.R_alloc | apply Kd.R_drewN | apply Kd.R_drew)); exact HO_5.out⟩, ⟨by repeat (first | (with_reducible first | exact HB.out | apply below_alloc | apply pw_below_drewN | apply below_drew1) | exact HB.out)⟩⟩
                                · rw [if_neg c28] at H
                                  exact absurd H (by simp)
                              · rw [if_neg c27] at H
                                exact absurd H (by simp)
                            · replace c26 := Bool.eq_false_iff.mpr c26
                              subst c26
                              have H1 : (if x12_4 ≥ 0 then (if x8_4 ≤ x7_1 then (if 0 ≤ x9_2 then (if x9_2 < (t197.length : Int) then (if 0 ≤ x12_4 then (if x12_4 < (t197.length : Int) then (if ((rd_T54 t197 x9_2).f0) ≤ ((rd_T54 t197 x12_4).f0) then (some (wrap64 (((rd_T54 t197 x9_2).f0) * 65536), wrap64 (((rd_T54 t197 x12_4).f0) * 65536), true)) else (foliotref13_Meet.l0 kj23 t197 (t200.length : Int) (wrap64 (x7_1 + 1)))) else (none)) else (none)) else (none)) else (none)) else (foliotref13_Meet.l0 kj23 t197 (t200.length : Int) (wrap64 (x7_1 + 1)))) else (foliotref13_Meet.l0 kj23 t197 (t200.length : Int) (wrap64 (x7_1 + 1)))) = some (r1, r2, r3) := by rw [if_neg (show ¬ (false = true) by decide)] at H; exact H
                              clear H
                              have H := H1
                              clear H1
                              by_cases c32 : x12_4 ≥ 0
                              · rw [if_pos c32] at H
                                have c32b0 : decide (0 ≤ x12_4) = true := decide_eq_true c32
                                clear c32
                                by_cases c33 : x8_4 ≤ x7_1
                                · rw [if_pos c33] at H
                                  have c33b0 : decide (x8_4 ≤ x7_1) = true := decide_eq_true c33
                                  clear c33
                                  by_cases c34 : 0 ≤ x9_2
                                  · rw [if_pos c34] at H
                                    have c34b0 : decide (0 ≤ x9_2) = true := decide_eq_true c34
                                    clear c34
                                    by_cases c35 : x9_2 < (t197.length : Int)
                                    · rw [if_pos c35] at H
                                      have c35b0 : decide (x9_2 < (t197.length : Int)) = true := decide_eq_true c35
                                      clear c35
                                      by_cases c36 : 0 ≤ x12_4
                                      · rw [if_pos c36] at H
                                        have c36b0 : decide (0 ≤ x12_4) = true := decide_eq_true c36
                                        clear c36
                                        by_cases c37 : x12_4 < (t197.length : Int)
                                        · rw [if_pos c37] at H
                                          have c37b0 : decide (x12_4 < (t197.length : Int)) = true := decide_eq_true c37
                                          clear c37
                                          by_cases c38 : ((rd_T54 t197 x9_2).f0) ≤ ((rd_T54 t197 x12_4).f0)
                                          · rw [if_pos c38] at H
                                            have c38b0 : decide (((rd_T54 t197 x9_2).f0) ≤ ((rd_T54 t197 x12_4).f0)) = true := decide_eq_true c38
                                            clear c38
                                            simp only [Option.some.injEq, Prod.mk.injEq] at H
                                            obtain ⟨rfl, rfl, rfl⟩ := H
                                            have p205 : 0 ≤ (x9_2 : Int) := of_decide_eq_true (by first | (with_reducible assumption) | assumption)
                                            have q205 : x9_2 < (t197.length : Int) := of_decide_eq_true (by first | (with_reducible assumption) | assumption)
                                            obtain ⟨ad205, e205, hx205_0, hx205_1⟩ := at_T54 (Kd.R_reads' HO_5.out).2.2 x9_2 p205 q205
                                            cases e205
                                            replace p205 := eq_true p205
                                            replace q205 := eq_true q205
                                            have p206 : 0 ≤ (x12_4 : Int) := of_decide_eq_true (by first | (with_reducible assumption) | assumption)
                                            have q206 : x12_4 < (t197.length : Int) := of_decide_eq_true (by first | (with_reducible assumption) | assumption)
                                            obtain ⟨ad206, e206, hx206_0, hx206_1⟩ := at_T54 (Kd.R_reads' HO_5.out).2.2 x12_4 p206 q206
                                            obtain rfl : ad205 = ad206 := (by injection e206)
                                            replace p206 := eq_true p206
                                            replace q206 := eq_true q206
                                            have p207 : 0 ≤ (x9_2 : Int) := of_decide_eq_true (by first | (with_reducible assumption) | assumption)
                                            have q207 : x9_2 < (t197.length : Int) := of_decide_eq_true (by first | (with_reducible assumption) | assumption)
                                            obtain ⟨ad207, e207, hx207_0, hx207_1⟩ := at_T54 (Kd.R_reads' HO_5.out).2.2 x9_2 p207 q207
                                            obtain rfl : ad205 = ad207 := (by injection e207)
                                            replace p207 := eq_true p207
                                            replace q207 := eq_true q207
                                            have p208 : 0 ≤ (x12_4 : Int) := of_decide_eq_true (by first | (with_reducible assumption) | assumption)
                                            have q208 : x12_4 < (t197.length : Int) := of_decide_eq_true (by first | (with_reducible assumption) | assumption)
                                            obtain ⟨ad208, e208, hx208_0, hx208_1⟩ := at_T54 (Kd.R_reads' HO_5.out).2.2 x12_4 p208 q208
                                            obtain rfl : ad205 = ad208 := (by injection e208)
                                            replace p208 := eq_true p208
                                            replace q208 := eq_true q208
                                            go_wp2
                                            repeat (go_quiet (fail); try go_wp2)
                                            go_ret3
                                            exact ⟨by first | rfl | (simp [errW_none, errW_some] <;> rfl) | (simp [*, errW_none, errW_some] <;> rfl), by repeat (first | (with_reducible first | exact HB.out | apply below_alloc | apply pw_below_drewN | apply below_drew1) | exact HB.out)⟩
                                          · rw [if_neg c38] at H
                                            have c38b0 : decide (((rd_T54 t197 x9_2).f0) ≤ ((rd_T54 t197 x12_4).f0)) = false := decide_eq_false c38
                                            clear c38
                                            have H' := Aside0.mk H
                                            clear H
                                            have p205 : 0 ≤ (x9_2 : Int) := of_decide_eq_true (by first | (with_reducible assumption) | assumption)
                                            have q205 : x9_2 < (t197.length : Int) := of_decide_eq_true (by first | (with_reducible assumption) | assumption)
                                            obtain ⟨ad205, e205, hx205_0, hx205_1⟩ := at_T54 (Kd.R_reads' HO_5.out).2.2 x9_2 p205 q205
                                            cases e205
                                            replace p205 := eq_true p205
                                            replace q205 := eq_true q205
                                            have p206 : 0 ≤ (x12_4 : Int) := of_decide_eq_true (by first | (with_reducible assumption) | assumption)
                                            have q206 : x12_4 < (t197.length : Int) := of_decide_eq_true (by first | (with_reducible assumption) | assumption)
                                            obtain ⟨ad206, e206, hx206_0, hx206_1⟩ := at_T54 (Kd.R_reads' HO_5.out).2.2 x12_4 p206 q206
                                            obtain rfl : ad205 = ad206 := (by injection e206)
                                            replace p206 := eq_true p206
                                            replace q206 := eq_true q206
                                            go_wp2
                                            repeat (go_quiet (fail); try go_wp2)
                                            go_roundg kj23
                                            case measure => have := HK1.out; have := HK2.out; have := HJ7.out; have := HK4.out; have := HJ23.out; omega
                                            case rel => exact ⟨(wrap64 (x7_1 + 1)), (by first | rfl | (simp; done) | (simp [*]; done)), H', ⟨by have := HK1.out; have := HK2.out; have := HJ7.out; have := HK4.out; have := HJ23.out; omega⟩, ⟨by (with_reducible repeat (first | apply Kd.R_alloc | apply Kd.R_drewN | apply Kd.R_drew)); exact HO_5.out⟩, ⟨by repeat (first | (with_reducible first | exact HB.out | apply below_alloc | apply pw_below_drewN | apply below_drew1) | exact HB.out)⟩⟩
                                        · rw [if_neg c37] at H
                                          exact absurd H (by simp)
                                      · rw [if_neg c36] at H
                                        exact absurd H (by simp)
                                    · rw [if_neg c35] at H
                                      exact absurd H (by simp)
                                  · rw [if_neg c34] at H
                                    exact absurd H (by simp)
                                · rw [if_neg c33] at H
                                  have c33b0 : decide (x8_4 ≤ x7_1) = false := decide_eq_false c33
                                  clear c33
                                  have H' := Aside0.mk H
                                  clear H
                                  go_wp2
                                  repeat (go_quiet (fail); try go_wp2)
                                  go_roundg kj23
                                  case measure => have := HK1.out; have := HK2.out; have := HJ7.out; have := HK4.out; have := HJ23.out; omega
                                  case rel => exact ⟨(wrap64 (x7_1 + 1)), (by first | rfl | (simp; done) | (simp [*]; done)), H', ⟨by have := HK1.out; have := HK2.out; have := HJ7.out; have := HK4.out; have := HJ23.out; omega⟩, ⟨by (with_reducible repeat (first | apply Kd.R_alloc | apply Kd.R_drewN | apply Kd.R_drew)); exact HO_5.out⟩, ⟨by repeat (first | (with_reducible first | exact HB.out | apply below_alloc | apply pw_below_drewN | apply below_drew1) | exact HB.out)⟩⟩
                              · rw [if_neg c32] at H
                                have c32b0 : decide (0 ≤ x12_4) = false := decide_eq_false c32
                                clear c32
                                have H' := Aside0.mk H
                                clear H
                                go_wp2
                                repeat (go_quiet (fail); try go_wp2)
                                go_roundg kj23
                                case measure => have := HK1.out; have := HK2.out; have := HJ7.out; have := HK4.out; have := HJ23.out; omega
                                case rel => exact ⟨(wrap64 (x7_1 + 1)), (by first | rfl | (simp; done) | (simp [*]; done)), H', ⟨by have := HK1.out; have := HK2.out; have := HJ7.out; have := HK4.out; have := HJ23.out; omega⟩, ⟨by (with_reducible repeat (first | apply Kd.R_alloc | apply Kd.R_drewN | apply Kd.R_drew)); exact HO_5.out⟩, ⟨by repeat (first | (with_reducible first | exact HB.out | apply below_alloc | apply pw_below_drewN | apply below_drew1) | exact HB.out)⟩⟩
      · rw [if_neg c7] at H
        have c7b0 : decide ((wrap64 (2 * x7_1)) < (t200.length : Int)) = false := decide_eq_false c7
        clear c7
        simp only [Option.some.injEq, Prod.mk.injEq] at H
        obtain ⟨rfl, rfl, rfl⟩ := H
        go_wp2
        repeat (go_quiet (fail); try go_wp2)
        go_ret3
        exact ⟨by first | rfl | (simp [errW_none, errW_some] <;> rfl) | (simp [*, errW_none, errW_some] <;> rfl), by repeat (first | (with_reducible first | exact HB.out | apply below_alloc | apply pw_below_drewN | apply below_drew1) | exact HB.out)⟩

end Go.Proofs.Ytlhecfleanppmaa.Pr
end
