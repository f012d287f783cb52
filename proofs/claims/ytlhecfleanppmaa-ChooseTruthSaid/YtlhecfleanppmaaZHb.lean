/- The machine's call of choose.Ends. -/
import Derived.Test.YtlhecfleanppmaaZHa
import Derived.StillTailTactics
import Derived.BigRegion
namespace Go.Proofs.Ytlhecfleanppmaa.Pr
open Go.RowKit Go.Proofs.YtlhecfleanppmaaW.PrintWords Go.Proofs.YtlhecfleanppmaaW.PrintLast Go.Proofs.YtlhecfleanppmaaW.PrintMore Go.Proofs.YFl

theorem run_store_complex (P : Program) (w : World) (a : Addr) (m : Mode) (k : FloatKind) (x y : Nat) : (store a (.complex k x y) m).run P w = stored P w a (.complex k x y) m := run_store P w a _ m rfl
attribute [local go_sem] run_store_complex
theorem info51 : (Try.prog.info? 51).map (fun i => (i.zero, i.size, i.bytes)) = some (some (.complex .f64 0 0), 1, 16) := by kernel_rfl

def swp (xs : List Cx) (k : Nat) : List Cx := (xs.set k (xs.getD (k + 1) zcx)).set (k + 1) (xs.getD k zcx)
def insAt : Nat → List Cx → List Cx
  | 0, xs => xs
  | k + 1, xs => if aheadB (xs.getD (k + 1) zcx) (xs.getD k zcx) = true then insAt k (swp xs k) else xs
def srt : Nat → Nat → List Cx → List Cx
  | 0, _, xs => xs
  | n + 1, i, xs => srt n (i + 1) (insAt i xs)

def thatOf (l : List S26) : List S26 := (l.filter fun x => decide (0 ≤ x.f2) && decide (x.f2 ≤ 4503599627370496) && decide (-1152921504606846976 ≤ x.f1) && decide (x.f1 ≤ 1152921504606846976)).take 64
def three (x : S26) : List Cx := [⟨(x.f1 - x.f2) / 65536, -1⟩, ⟨x.f1 / 65536, 0⟩, ⟨-(-(x.f1 + x.f2) / 65536), 1⟩]
def rawEnds (l : List S26) : List Cx := (thatOf l).flatMap three
def endsOf (l : List S26) : List Cx := srt ((rawEnds l).length - 1) 1 (rawEnds l)

def AllSmall (xs : List Cx) : Prop := ∀ x ∈ xs, Small x.re ∧ Small x.im
theorem small_zero : Small 0 := by unfold Small; omega
theorem AllSmall.getD {xs : List Cx} (h : AllSmall xs) (i : Nat) : Small (xs.getD i zcx).re ∧ Small (xs.getD i zcx).im := by
  rw [List.getD_eq_getElem?_getD]
  rcases hi : xs[i]? with _ | x
  · exact ⟨small_zero, small_zero⟩
  · obtain ⟨hl, rfl⟩ := List.getElem?_eq_some_iff.1 hi
    exact h _ (List.getElem_mem hl)
theorem AllSmall.swp {xs : List Cx} (h : AllSmall xs) (m : Nat) : AllSmall (swp xs m) := by
  intro x hx
  unfold Pr.swp at hx
  rcases List.mem_or_eq_of_mem_set hx with hx | rfl
  · rcases List.mem_or_eq_of_mem_set hx with hx | rfl
    · exact h _ hx
    · exact h.getD _
  · exact h.getD _
theorem own_drewN {w : World} {base : Nat} {e : TypeId} {size n : Nat} {v : Value} {xs : List Value} (h : w.ownsRow base e size v n xs) (k : Nat) : (w.drewN k).ownsRow base e size v n xs := h
theorem insAt_succ (m : Nat) (xs : List Cx) : insAt (m + 1) xs = if aheadB (xs.getD (m + 1) zcx) (xs.getD m zcx) = true then insAt m (swp xs m) else xs := rfl
theorem R_of_own {w : World} {b base n : Nat} {v : Value} {xs : List Cx} (hl : xs.length = n) (h : w.ownsRow b 51 1 v n (xs.map encx)) (hb : base ≤ b) : Kd.R kcx 51 w base (fun _ => True) v xs := by
  subst hl
  have hs : kcx.sz = 1 := rfl
  refine ⟨fun _ _ => trivial, xs.map encx, own_weaken h hb, ⟨by rw [hs, List.length_map, Nat.mul_one], fun j q hq => ?_⟩⟩
  show _ = _
  rw [hs, Nat.mul_one, ← List.map_drop, ← List.map_take]
  obtain ⟨hlt, rfl⟩ := List.getElem?_eq_some_iff.1 hq
  rw [List.drop_eq_getElem_cons hlt]
  rfl

set_option maxHeartbeats 1000000 in
theorem ends_walk (A0 : Option Addr) (c0 : Nat) (l0 : List S26) (w : World) (hr0 : Kd.C k26 w A0 l0.length l0) (hc0 : l0.length ≤ c0) (t : List S26) (kk : Nat) (ht : choose_that.f kk l0 = some t) (htl : t.length ≤ 64) (hsmall : AllSmall (t.flatMap three)) (hlen : (t.flatMap three).length ≤ 192) (hend : srt ((t.flatMap three).length - 1) 1 (t.flatMap three) = endsOf l0) (hbd : ∀ x ∈ t, 0 ≤ x.f2 ∧ x.f2 ≤ 4503599627370496 ∧ -1152921504606846976 ≤ x.f1 ∧ x.f1 ≤ 1152921504606846976) :
    Calls Try.prog 14 #[.slice A0 l0.length c0] w fun e w' => ∃ v0_ : Value, e = .returned (v0_) ∧ Kd.R kcx 51 w' w.heap.size (fun _ => True) v0_ (endsOf l0) ∧ Below w.heap.size w w' := by
  obtain ⟨i0, hi0, hz0, hz1, hz2⟩ := info_parts info51
  have hu26 := Try.underlying26
  have HR0 := Aside0.mk hr0
  have HC0 := Aside0.mk hc0
  clear hr0 hc0
  have HT := Aside0.mk ht
  clear ht
  have HBD := Aside0.mk hbd
  have HTL := Aside0.mk htl
  have HLEN := Aside0.mk hlen
  have HSM := Aside0.mk hsmall
  have HEND := Aside0.mk hend
  clear hbd htl hlen hend hsmall
  go_enter Try.func14, Try.ntmps14
  go_wp2
  go_step3
  go_wp2_with (go_at_call 27; (with_reducible refine (choose_that.calls kk _ _ l0 t _ HR0.out HC0.out HT.out).mono ?_); rintro e w1 ⟨v1, rfl, ho, hb⟩; obtain ⟨A1, c1, e1⟩ := Kd.R_slice ho; subst e1; have HO := Aside0.mk ho; have HB := Aside0.mk hb; clear ho hb)
  go_loopg [3, 11] t.length (fun kq v3 v11 w' => ∃ (j : Nat), v11 = .int .i64 j ∧ Aside0 (j + kq = t.length) ∧ Aside0 (w'.ownsRow w1.heap.size 51 1 v3 ((t.take j).flatMap three).length (((t.take j).flatMap three).map encx)) ∧ Aside0 (Below w1.heap.size w1 w'))
  case atStart => exact ⟨0, rfl, ⟨by omega⟩, ⟨own_nil _ _ _ _⟩, ⟨Below.refl _ _⟩⟩
  case round =>
    obtain ⟨j, rfl, HJ, HE, HB1⟩ := hrel
    by_cases hlt : j < t.length
    · have p0 : 0 ≤ (j : Int) := by omega
      have q0 : (j : Int) < (t.length : Int) := by omega
      obtain ⟨ad, ea, hx0, hx1, hx2, hx3, hx4, hx5, hx6⟩ := at_T26 (Kd.R_reads' HO.out).2.2 (j : Int) p0 q0
      cases ea
      replace hx0 := pw_cell_below HB1.out hx0
      replace hx1 := pw_cell_below HB1.out hx1
      replace hx2 := pw_cell_below HB1.out hx2
      replace hx3 := pw_cell_below HB1.out hx3
      replace hx4 := pw_cell_below HB1.out hx4
      replace hx5 := pw_cell_below HB1.out hx5
      replace hx6 := pw_cell_below HB1.out hx6
      rw [Int.toNat_natCast] at hx0 hx1 hx2 hx3 hx4 hx5 hx6
      have hmem : rd_T26 t (j : Int) ∈ t := by
        unfold rd_T26
        rw [Int.toNat_natCast, List.getD_eq_getElem?_getD, List.getElem?_eq_getElem hlt]
        exact List.getElem_mem hlt
      have htk : (t.take (j + 1)).flatMap three = (t.take j).flatMap three ++ three (rd_T26 t (j : Int)) := by
        have e1 : t.take (j + 1) = t.take j ++ [rd_T26 t (j : Int)] := by
          rw [List.take_succ_eq_append_getElem hlt]
          congr 2
          unfold rd_T26
          rw [Int.toNat_natCast, List.getD_eq_getElem?_getD, List.getElem?_eq_getElem hlt]
          rfl
        rw [e1, List.flatMap_append]
        simp
      have hlen : ((t.take j).flatMap three).length ≤ 3 * j := by
        have e : ∀ l : List S26, (l.flatMap three).length = 3 * l.length := by
          intro l
          induction l with
          | nil => rfl
          | cons a l ih => rw [List.flatMap_cons, List.length_append, ih]; simp [three]; omega
        rw [e, List.length_take]
        omega
      generalize (t.take j).flatMap three = acc at HE htk hlen
      have HTK := Aside0.mk htk
      have HLN := Aside0.mk hlen
      clear htk hlen
      obtain ⟨b1, b2, b3, b4⟩ := HBD.out _ hmem
      clear hmem
      generalize rd_T26 t (j : Int) = x at hx0 hx1 hx2 hx3 hx4 hx5 hx6 HTK b1 b2 b3 b4
      go_wp2
      have hc1 : (wr.alloc (.cells #[Value.int IntKind.i64 x.f0, Value.int IntKind.i64 x.f1, Value.int IntKind.i64 x.f2, Value.int IntKind.i64 x.f3, Value.int IntKind.i64 x.f4, Value.bool x.f5, Value.bool x.f6] 26)).cell? ⟨wr.heap.size, 1, none⟩ = some (.int .i64 x.f1) := (blk_cell (heap_alloc_new wr _) 1).trans rfl
      have hc2 : (wr.alloc (.cells #[Value.int IntKind.i64 x.f0, Value.int IntKind.i64 x.f1, Value.int IntKind.i64 x.f2, Value.int IntKind.i64 x.f3, Value.int IntKind.i64 x.f4, Value.bool x.f5, Value.bool x.f6] 26)).cell? ⟨wr.heap.size, 2, none⟩ = some (.int .i64 x.f2) := (blk_cell (heap_alloc_new wr _) 2).trans rfl
      have HE2 := World.ownsRow.alloc HE.out (.cells #[Value.int IntKind.i64 x.f0, Value.int IntKind.i64 x.f1, Value.int IntKind.i64 x.f2, Value.int IntKind.i64 x.f3, Value.int IntKind.i64 x.f4, Value.bool x.f5, Value.bool x.f6] 26)
      have HB2 := below_alloc HB1.out (.cells #[Value.int IntKind.i64 x.f0, Value.int IntKind.i64 x.f1, Value.int IntKind.i64 x.f2, Value.int IntKind.i64 x.f3, Value.int IntKind.i64 x.f4, Value.bool x.f5, Value.bool x.f6] 26)
      have hsz : wr.heap.size < (wr.alloc (.cells #[Value.int IntKind.i64 x.f0, Value.int IntKind.i64 x.f1, Value.int IntKind.i64 x.f2, Value.int IntKind.i64 x.f3, Value.int IntKind.i64 x.f4, Value.bool x.f5, Value.bool x.f6] 26)).heap.size := by simp
      have hge : w1.heap.size ≤ wr.heap.size := HB1.out.size
      have hne : u3.ownBlock ≠ some wr.heap.size := fun hk => by have := own_lt HE.out _ hk; omega
      clear HE HB1 hx0 hx1 hx2 hx3 hx4 hx5 hx6
      generalize wr.alloc _ = W at hc1 hc2 HE2 HB2 hsz ⊢
      have HE := Aside0.mk HE2
      have HB1 := Aside0.mk HB2
      have HSZ := Aside0.mk hsz
      have HGE := Aside0.mk hge
      have HNE := Aside0.mk hne
      clear HE2 HB2 hsz hge hne
      generalize wr.heap.size = gb at hc1 hc2 HSZ HGE HNE ⊢
      have z1 : IntKind.i64.wrap (x.f1 - x.f2) = x.f1 - x.f2 := IntWalk.i64_in _ (by omega)
      have z2 : IntKind.i64.wrap (x.f1 + x.f2) = x.f1 + x.f2 := IntWalk.i64_in _ (by omega)
      have z3 : IntKind.i64.wrap (-(x.f1 + x.f2)) = -(x.f1 + x.f2) := IntWalk.i64_in _ (by omega)
      have z4 : IntKind.i64.wrap (-(-(x.f1 + x.f2) / 65536)) = -(-(x.f1 + x.f2) / 65536) := IntWalk.i64_in _ (by omega)
      go_region_held3 (fun w' => w'.cell? ⟨gb, 1, none⟩ = some (.int .i64 x.f1) ∧ w'.cell? ⟨gb, 2, none⟩ = some (.int .i64 x.f2))
        (first | go_keep | (go_split_ands; refine ⟨?_, ?_⟩ <;> (rw [hgrow.cell_far _ (by have := HSZ.out; simp; omega) (Ne.symm HNE.out)]; assumption)))
        (first | (go_at_call 28; refine (end_calls _ _ _).mono ?_; rintro e w' ⟨rfl, rfl⟩) | (refine step_append_lies _ (by rfl) _ _ _ (by rfl) w1.heap.size 51 i0 _ 1 16 Try.underlying28 hi0 hz0 hz1 hz2 rfl (by omega) u3 acc.length (acc.map encx) (by rfl) ((World.ownsRow.drew HE.out).alloc _) ⟨W.heap.size, 0, none⟩ 3 3 [.complex .f64 (fl ((x.f1 - x.f2) / 65536)) 13830554455654793216, .complex .f64 (fl (x.f1 / 65536)) 0, .complex .f64 (fl (-(-(x.f1 + x.f2) / 65536))) 4607182418800017408] (by rfl) (by rfl) (World.news_of_block (cs := #[.complex .f64 (fl ((x.f1 - x.f2) / 65536)) 13830554455654793216, .complex .f64 (fl (x.f1 / 65536)) 0, .complex .f64 (fl (-(-(x.f1 + x.f2) / 65536))) 4607182418800017408]) (t := 51) (fr := (0, 0)) (heap_alloc_new W _)) (by simp [Value.oneCell']) (by omega) (by have := HLN.out; have := HTL.out; unfold maxLen; omega) (by have := HLN.out; have := HTL.out; omega) (by have := HGE.out; have := HSZ.out; simp; omega) (W.heap.size + 1) (by simp) ?_; intro gg cap w2 hown1 hgrow hat hltt))
      clear z1 z2 z3 z4 hc1 hc2
      have HH1 := Aside0.mk hown1
      have HH2 := Aside0.mk hgrow
      have HH3 := Aside0.mk hat
      clear hown1 hgrow hat hltt
      have htl := HTL.out
      go_wp2
      go_roundg (gk - 1)
      case measure => have := HJ.out; omega
      case rel =>
        refine ⟨j + 1, by go_num, ⟨by have := HJ.out; omega⟩, ⟨?_⟩, ⟨?_⟩⟩
        · rw [HTK.out, List.map_append, List.length_append]
          have e : (three x).map encx = [.complex .f64 (fl ((x.f1 - x.f2) / 65536)) 13830554455654793216, .complex .f64 (fl (x.f1 / 65536)) 0, .complex .f64 (fl (-(-(x.f1 + x.f2) / 65536))) 4607182418800017408] := by
            simp only [three, List.map_cons, List.map_nil, encx, fl_neg, fl_zero, fl_one]
          rw [e]
          exact HH1.out
        · exact pw_below_grown (below_drew (below_alloc HB1.out _)) _ (by have := HGE.out; have := HSZ.out; simp; omega) HH2.out (fun k hk => own_base HE.out k hk)
    · obtain rfl : j = t.length := by have := HJ.out; omega
      have hE := HE.out
      rw [List.take_length] at hE
      clear HE
      obtain ⟨A3, c3, e3⟩ : ∃ A c, u3 = .slice A (t.flatMap three).length c := by
        rcases hE.2 with ⟨h1, h2⟩ | ⟨g, cap, cur, h1, _⟩
        · exact ⟨none, 0, by rw [h1, h2]⟩
        · exact ⟨_, _, h1⟩
      subst e3
      have HE := Aside0.mk hE
      clear hE
      go_wp2
      go_step3
      go_wp2
      obtain ⟨n, hn⟩ : ∃ n, n = (t.flatMap three).length := ⟨_, rfl⟩
      rw [← hn] at HE
      rw [← hn]
      have HN : Aside0 (n ≤ 192) := ⟨by rw [hn]; exact HLEN.out⟩
      have HXS : Aside0 (∃ xs : List Cx, AllSmall xs ∧ xs.length = n ∧ srt (n - 1) 1 xs = endsOf l0 ∧ wr.ownsRow w1.heap.size 51 1 (.slice A3 n c3) n (xs.map encx)) := ⟨⟨t.flatMap three, HSM.out, hn.symm, by rw [hn]; exact HEND.out, HE.out⟩⟩
      clear HE hn
      go_loopg [6] (n - 1) (fun kq v6 w' => ∃ (i : Nat), v6 = .int .i64 i ∧ Aside0 (1 ≤ i) ∧ Aside0 (kq = n - i) ∧ Aside0 (∃ xs : List Cx, AllSmall xs ∧ xs.length = n ∧ srt (n - i) i xs = endsOf l0 ∧ w'.ownsRow w1.heap.size 51 1 (.slice A3 n c3) n (xs.map encx)) ∧ Aside0 (Below w1.heap.size w1 w'))
      case atStart => exact ⟨1, rfl, ⟨Nat.le_refl _⟩, ⟨rfl⟩, HXS, HB1⟩
      case round =>
        clear HXS HB1
        obtain ⟨i, rfl, HI, HG, HX, HB1⟩ := hrel
        by_cases hin : i < n
        · obtain ⟨xs0, hsm0, hxl0, hs0, ho0⟩ := HX.out
          have h192 := HN.out
          have HXS : Aside0 (∃ xs : List Cx, AllSmall xs ∧ xs.length = n ∧ srt (n - (i + 1)) (i + 1) (insAt i xs) = endsOf l0 ∧ wr.ownsRow w1.heap.size 51 1 (.slice A3 n c3) n (xs.map encx)) :=
            ⟨⟨xs0, hsm0, hxl0, by rw [show n - i = (n - (i + 1)) + 1 from by omega] at hs0; exact hs0, ho0⟩⟩
          clear HX hsm0 hxl0 hs0 ho0
          go_wp2
          go_loopg [7] i (fun kq v7 w' => ∃ (k : Nat), v7 = .int .i64 k ∧ Aside0 (k ≤ i) ∧ Aside0 (kq = k) ∧ Aside0 (∃ xs : List Cx, AllSmall xs ∧ xs.length = n ∧ srt (n - (i + 1)) (i + 1) (insAt k xs) = endsOf l0 ∧ w'.ownsRow w1.heap.size 51 1 (.slice A3 n c3) n (xs.map encx)) ∧ Aside0 (Below w1.heap.size w1 w'))
          case atStart => exact ⟨i, rfl, ⟨Nat.le_refl _⟩, ⟨rfl⟩, HXS, HB1⟩
          case round =>
            clear HXS HB1
            obtain ⟨k, rfl, HK, HKQ, HX, HB1⟩ := hrel
            by_cases hk : 0 < k
            · obtain ⟨m, rfl⟩ : ∃ m, k = m + 1 := ⟨k - 1, by omega⟩
              obtain ⟨xs, hsm, hxl, hs, ho⟩ := HX.out
              have hmi := HK.out
              obtain ⟨g, cap, ev, hgb, hgl⟩ := ho.form (by omega)
              cases ev
              have hcA : wr.cell? ⟨g, m, none⟩ = some (encx (xs.getD m zcx)) := by
                rw [ho.cellAt m (by omega), List.getElem?_map, List.getElem?_eq_getElem (by omega), List.getD_eq_getElem?_getD, List.getElem?_eq_getElem (by omega)]
                rfl
              have hcB : wr.cell? ⟨g, m + 1, none⟩ = some (encx (xs.getD (m + 1) zcx)) := by
                rw [ho.cellAt (m + 1) (by omega), List.getElem?_map, List.getElem?_eq_getElem (by omega), List.getD_eq_getElem?_getD, List.getElem?_eq_getElem (by omega)]
                rfl
              have hfA := ho.frozenAt m
              have hfB := ho.frozenAt (m + 1)
              have hst1 := ho.stored m
              have HS := Aside0.mk hs
              have HSX := Aside0.mk hsm
              have HXL := Aside0.mk hxl
              have HOW := Aside0.mk ho
              have HST := Aside0.mk hst1
              clear hs hsm hxl ho hst1 HX hk
              obtain ⟨p, hp⟩ : ∃ p, p = xs.getD m zcx := ⟨_, rfl⟩
              obtain ⟨q, hq⟩ : ∃ q, q = xs.getD (m + 1) zcx := ⟨_, rfl⟩
              rw [← hp] at hcA
              rw [← hq] at hcB
              have HP := Aside0.mk hp
              have HQ := Aside0.mk hq
              clear hp hq
              have k1 : (0 : Int) ≤ ((m + 1 : Nat) : Int) := by omega
              have k2 : ((m + 1 : Nat) : Int) < (n : Int) := by omega
              have k3 : (0 : Int) ≤ ((m + 1 : Nat) : Int) - 1 := by omega
              have k4 : ((m + 1 : Nat) : Int) - 1 < (n : Int) := by omega
              have k5 : (((m + 1 : Nat) : Int) - 1).toNat = m := by omega
              have k6 : ((m + 1 : Nat) : Int).toNat = m + 1 := by omega
              have k7 : (0 : Int) ≤ (m : Int) + 1 := by omega
              have k8 : (m : Int) + 1 < (n : Int) := by omega
              unfold encx at hcA hcB
              cases hah : aheadBits (fl q.re) (fl q.im) (fl p.re) (fl p.im)
              · have HAH := Aside0.mk hah
                clear hah
                go_wp2
                go_quiet ((go_at_call 29; exact Calls.quiet_of_same (ahead_is _ _ _ _ _ HAH.out _)))
                go_wp2
                go_roundg (n - (i + 1))
                case measure => have := HG.out; omega
                case rel =>
                  refine ⟨i + 1, by go_num, ⟨by omega⟩, ⟨rfl⟩, ⟨xs, HSX.out, HXL.out, ?_, ?_⟩, ?_⟩
                  · have h1 := HS.out
                    have h2 := HAH.out
                    have s1 := HSX.out.getD (m + 1)
                    have s2 := HSX.out.getD m
                    rw [HP.out, HQ.out, aheadBits_fl _ _ s1.1 s2.1 s1.2 s2.2] at h2
                    rw [insAt_succ, h2, if_neg (by decide)] at h1
                    exact h1
                  · exact own_drewN HOW.out _
                  · exact ⟨pw_below_drewN HB1.out _⟩
              · have HAH := Aside0.mk hah
                clear hah
                go_wp2
                go_quiet ((go_at_call 29; exact Calls.quiet_of_same (ahead_is _ _ _ _ _ HAH.out _)))
                go_wp2
                go_region
                go_wp2
                go_roundg m
                case measure => have := HKQ.out; omega
                case rel =>
                  refine ⟨m, by go_num, ⟨by omega⟩, ⟨rfl⟩, ⟨swp xs m, HSX.out.swp m, ?_, ?_, ?_⟩, ?_⟩
                  · unfold swp
                    rw [List.length_set, List.length_set, HXL.out]
                  · have h1 := HS.out
                    have h2 := HAH.out
                    have s1 := HSX.out.getD (m + 1)
                    have s2 := HSX.out.getD m
                    rw [HP.out, HQ.out, aheadBits_fl _ _ s1.1 s2.1 s1.2 s2.2] at h2
                    rw [insAt_succ, h2, if_pos rfl] at h1
                    exact h1
                  · have e : (swp xs m).map encx = ((xs.map encx).set m (.complex .f64 (fl q.re) (fl q.im))).set (m + 1) (.complex .f64 (fl p.re) (fl p.im)) := by
                      unfold swp
                      rw [List.map_set, List.map_set, ← HP.out, ← HQ.out]
                      rfl
                    rw [e]
                    exact ((own_drewN HOW.out _).stored m _).1.stored (m + 1) _ |>.1
                  · exact ⟨Below.setCell (p := ⟨g, m + 1, none⟩) (Below.setCell (p := ⟨g, m, none⟩) (pw_below_drewN HB1.out _) hgb _) hgb _⟩
            · obtain rfl : k = 0 := by omega
              go_wp2
              go_roundg (n - (i + 1))
              case measure => have := HG.out; omega
              case rel => exact ⟨i + 1, by go_num, ⟨by omega⟩, ⟨rfl⟩, ⟨HX.out⟩, HB1⟩
        · go_wp2
          rw [Exit.noGoto_ret]
          go_ret
          obtain ⟨xs, hsm, hxl, hs, ho⟩ := HX.out
          rw [show n - i = 0 from by omega] at hs
          obtain rfl : xs = endsOf l0 := hs
          exact ⟨_, rfl, R_of_own hxl ho HB.out.size, below_then HB.out HB.out.size HB1.out⟩
end Go.Proofs.Ytlhecfleanppmaa.Pr
