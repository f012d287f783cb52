/- The machine's call of choose.Meet. -/
import Derived.Test.YtlhecfleanppmaaHf
set_option linter.unusedVariables false
namespace Go.Proofs.Ytlhecfleanppmaa.Pr
open Go.RowKit Go.Proofs.YtlhecfleanppmaaW.PrintWords Go.Proofs.YtlhecfleanppmaaW.PrintLast Go.Proofs.YtlhecfleanppmaaW.PrintMore Go.Proofs.YFl

def Near (n : Int) : Prop := -35184372088832 ≤ n ∧ n ≤ 35184372088832
theorem Near.small {n : Int} (h : Near n) : Small n := by unfold Near at h; unfold Small; omega
theorem three_near {x : S26} (h : cnt x = true) : ∀ y ∈ three x, Near y.re := by
  have hb := cnt_bounds h
  intro y hy
  simp only [three, List.mem_cons, List.not_mem_nil, or_false] at hy
  unfold Near
  rcases hy with rfl | rfl | rfl <;> refine ⟨?_, ?_⟩ <;> dsimp only <;> omega
theorem ends_near (l : List S26) : ∀ x ∈ endsOf l, Near x.re := by
  intro y hy
  obtain ⟨x, hx, hy⟩ := List.mem_flatMap.1 ((ends_perm l).mem_iff.1 hy)
  exact three_near (thatOf_cnt l x hx) y hy
theorem ptf_mem (side wanted : Int) : ∀ (l : List Cx) (c m a b : Int), ptf side wanted l c m = some (a, b) → (∃ x ∈ l, x.re = a) ∧ m ≤ b ∧ b ≤ m + l.length
  | [], c, m, a, b, h => by simp [ptf] at h
  | e :: l, c, m, a, b, h => by
    unfold ptf at h
    by_cases hc : c - side * e.im = wanted
    · rw [if_pos hc] at h
      simp only [Option.some.injEq, Prod.mk.injEq] at h
      refine ⟨⟨e, by simp, h.1⟩, ?_, ?_⟩
      · split at h <;> omega
      · rw [List.length_cons]
        split at h <;> omega
    · rw [if_neg hc] at h
      obtain ⟨⟨x, hx, h1⟩, h2, h3⟩ := ptf_mem side wanted l _ _ a b h
      refine ⟨⟨x, List.mem_cons_of_mem _ hx, h1⟩, ?_, ?_⟩
      · split at h2 <;> omega
      · rw [List.length_cons]
        split at h3 <;> omega
theorem ptRes_near {xs : List Cx} (hx : ∀ x ∈ xs, Near x.re) (side wanted : Int) : Near (ptRes (ptf side wanted xs 0 0)).1 ∧ 0 ≤ (ptRes (ptf side wanted xs 0 0)).2.1 ∧ (ptRes (ptf side wanted xs 0 0)).2.1 ≤ xs.length := by
  rcases h : ptf side wanted xs 0 0 with _ | ⟨a, b⟩
  · exact ⟨by unfold Near ptRes; simp, by unfold ptRes; simp, by unfold ptRes; simp⟩
  · obtain ⟨⟨x, hm, rfl⟩, h2, h3⟩ := ptf_mem side wanted xs 0 0 a b h
    exact ⟨hx x hm, h2, by show b ≤ _; omega⟩

def goodF (u v : Int × Int × Bool) (f : Int) : Bool := u.2.2 && (v.2.2 && (decide (u.2.1 + v.2.1 ≤ f) && decide (u.1 ≤ v.1)))
def meetL (e : List Cx) (n : Nat) : Nat → Nat → Int × Int × Bool
  | 0, _ => (0, 0, false)
  | d + 1, f => if 2 * f < n then
      if goodF (ptRes (ptf 1 ((n : Int) - f) e 0 0)) (ptRes (ptf (-1) ((n : Int) - f) e.reverse 0 0)) f = true then ((ptRes (ptf 1 ((n : Int) - f) e 0 0)).1 * 65536, (ptRes (ptf (-1) ((n : Int) - f) e.reverse 0 0)).1 * 65536, true)
      else meetL e n d (f + 1)
    else (0, 0, false)
def meetOf (l : List S26) : Int × Int × Bool := meetL (endsOf l) (thatOf l).length 65 0
def choose_Meet.f (l : List S26) : Option (Int × Int × Bool) := some (meetOf l)

set_option maxHeartbeats 2000000 in
theorem meet_walk (A0 : Option Addr) (c0 : Nat) (l0 : List S26) (w : World) (hr0 : Kd.C k26 w A0 l0.length l0) (hc0 : l0.length ≤ c0) (n : Nat) (hn : n ≤ 64) (hel : (endsOf l0).length = 3 * n) (e : List Cx) (he : endsOf l0 = e) (res : Int × Int × Bool) (hres : meetL e n 65 0 = res) (hke : Kinds e) (hne : ∀ x ∈ e, Near x.re) :
    Calls Try.prog 17 #[.slice A0 l0.length c0] w fun e w' => e = .returned (.tuple #[.int .i64 res.1, .int .i64 res.2.1, .bool res.2.2]) ∧ Below w.heap.size w w' := by
  have HR0 := Aside0.mk hr0
  have HC0 := Aside0.mk hc0
  have HEF : Aside0 (choose_Ends.f l0 = some e) := ⟨congrArg some he⟩
  rw [he] at hel
  have HEL := Aside0.mk hel
  have HRES := Aside0.mk hres
  have HKE := Aside0.mk hke
  have HNE := Aside0.mk hne
  clear hr0 hc0 he hel hres hke hne
  go_enter Try.func17, Try.ntmps17
  go_wp2_with (go_at_call 14; (with_reducible refine (choose_Ends.calls _ _ l0 e _ HR0.out HC0.out HEF.out).mono ?_); rintro e1 w1 ⟨v1, rfl, ho, hb⟩; obtain ⟨A1, c1, e1⟩ := Kd.R_slice ho; subst e1; have HO := Aside0.mk ho; have HB := Aside0.mk hb; have hle : e.length ≤ 192 := (by have := HEL.out; omega); clear ho hb)
  have hq : ((e.length : Int) / 3) = (n : Int) := by have := HEL.out; omega
  have HQ := Aside0.mk hq
  clear hq
  have HF1 : Aside0 (∀ (wn : Int) (W : World), 0 ≤ wn → wn ≤ 192 → Below w1.heap.size w1 W → Calls Try.prog 33 #[.slice A1 e.length c1, .int .i64 1, .int .i64 wn] W fun e' w' => e' = .returned (.tuple #[.float .f64 (fl (ptRes (ptf 1 wn e 0 0)).1), .int .i64 (ptRes (ptf 1 wn e 0 0)).2.1, .bool (ptRes (ptf 1 wn e 0 0)).2.2]) ∧ w' = W) :=
    ⟨fun wn W h0 h1 hb => point_up A1 c1 e wn W ((Kd.R_reads' (Kd.R_below HO.out hb)).2.2) (Kd.R_reads' HO.out).2.1 hle HKE.out ⟨h0, h1⟩ _ rfl⟩
  have HF2 : Aside0 (∀ (wn : Int) (W : World), 0 ≤ wn → wn ≤ 192 → Below w1.heap.size w1 W → Calls Try.prog 33 #[.slice A1 e.length c1, .int .i64 (-1), .int .i64 wn] W fun e' w' => e' = .returned (.tuple #[.float .f64 (fl (ptRes (ptf (-1) wn e.reverse 0 0)).1), .int .i64 (ptRes (ptf (-1) wn e.reverse 0 0)).2.1, .bool (ptRes (ptf (-1) wn e.reverse 0 0)).2.2]) ∧ w' = W) :=
    ⟨fun wn W h0 h1 hb => point_dn A1 c1 e wn W ((Kd.R_reads' (Kd.R_below HO.out hb)).2.2) (Kd.R_reads' HO.out).2.1 hle HKE.out ⟨h0, h1⟩ _ (by unfold leftDn; rw [List.take_length])⟩
  have HD : Aside0 (Drawn0 w1 w1) := ⟨Drawn0.refl _⟩
  go_wp2
  rw [HQ.out]
  go_loopg [7] 64 (fun kq v7 w' => ∃ (f : Nat), v7 = .int .i64 f ∧ Aside0 (f + kq = 64) ∧ Aside0 (meetL e n (kq + 1) f = res) ∧ w' = w1)
  case atStart => exact ⟨0, rfl, ⟨rfl⟩, HRES, rfl⟩
  case round =>
    clear HRES
    obtain ⟨f, rfl, HK, HM, hw⟩ := hrel
    subst hw
    have hm := HM.out
    unfold meetL at hm
    have hf64 : f ≤ 64 := by have := HK.out; omega
    by_cases hlt : 2 * f < n
    · rw [if_pos hlt] at hm
      have t1 : (0 : Int) ≤ (n : Int) - (f : Int) := by omega
      have t2 : (n : Int) - (f : Int) ≤ 192 := by omega
      have n1 := ptRes_near HNE.out 1 ((n : Int) - f)
      have n2 := ptRes_near (fun x hx => HNE.out x (List.mem_reverse.1 hx) : ∀ x ∈ e.reverse, Near x.re) (-1) ((n : Int) - f)
      rw [List.length_reverse] at n2
      have C1 := HF1.out _ wr t1 t2 (Below.refl _ _)
      have C2 := HF2.out _ wr t1 t2 (Below.refl _ _)
      generalize ptRes (ptf 1 ((n : Int) - f) e 0 0) = u at C1 n1 hm
      generalize ptRes (ptf (-1) ((n : Int) - f) e.reverse 0 0) = v at C2 n2 hm
      obtain ⟨u0, u1, u2⟩ := u
      obtain ⟨v0, v1, v2⟩ := v
      obtain ⟨s1, s2, s3⟩ := n1
      obtain ⟨r1, r2, r3⟩ := n2
      dsimp only at C1 C2 s1 s2 s3 r1 r2 r3 hm
      have HC1 := Aside0.mk C1
      have HC2 := Aside0.mk C2
      have HM1 := Aside0.mk hm
      clear C1 C2 hm HM
      have HNU := Aside0.mk s1
      have HNV := Aside0.mk r1
      unfold Near at s1 r1
      obtain ⟨s4, s5⟩ := s1
      obtain ⟨r4, r5⟩ := r1
      have hcu : ∀ W : World, (convert 52 23 (.float .f64 (fl u0))).run Try.prog W = .ok (.int .i64 u0) W := fun W => run_convert_float_int W 52 23 .f64 .i64 _ _ rfl Try.underlying23 (toInt_fl _ HNU.out.small)
      have hcv : ∀ W : World, (convert 52 23 (.float .f64 (fl v0))).run Try.prog W = .ok (.int .i64 v0) W := fun W => run_convert_float_int W 52 23 .f64 .i64 _ _ rfl Try.underlying23 (toInt_fl _ HNV.out.small)
      cases u2 with
      | false =>
        have HG : Aside0 (goodF (u0, u1, false) (v0, v1, v2) f = false) := ⟨rfl⟩
        go_wp2_with fail
        refine (HC1.out).mono ?_
        rintro e' w2 ⟨rfl, rfl⟩
        go_wp2_with fail
        refine (HC2.out).mono ?_
        rintro e' w3 ⟨rfl, rfl⟩
        go_wp2
        go_roundg (gk - 1)
        case measure => have := HK.out; omega
        case rel =>
          refine ⟨f + 1, by go_num, ⟨by have := HK.out; omega⟩, ⟨?_⟩, rfl⟩
          have h1 := HM1.out
          rw [HG.out, if_neg (by decide)] at h1
          rw [show gk - 1 + 1 = gk from by have := HK.out; omega]
          exact h1
      | true =>
        cases v2 with
        | false =>
          have HG : Aside0 (goodF (u0, u1, true) (v0, v1, false) f = false) := ⟨by unfold goodF; simp⟩
          go_wp2_with fail
          refine (HC1.out).mono ?_
          rintro e' w2 ⟨rfl, rfl⟩
          go_wp2_with fail
          refine (HC2.out).mono ?_
          rintro e' w3 ⟨rfl, rfl⟩
          go_wp2
          go_roundg (gk - 1)
          case measure => have := HK.out; omega
          case rel =>
            refine ⟨f + 1, by go_num, ⟨by have := HK.out; omega⟩, ⟨?_⟩, rfl⟩
            have h1 := HM1.out
            rw [HG.out, if_neg (by decide)] at h1
            rw [show gk - 1 + 1 = gk from by have := HK.out; omega]
            exact h1
        | true =>
          by_cases h1 : u1 + v1 ≤ (f : Int)
          · have hlq : (FloatKind.f64.format.order (fl u0) (fl v0) == some .lt || FloatKind.f64.format.order (fl u0) (fl v0) == some .eq) = decide (u0 ≤ v0) := by
              rw [lt_fl _ _ HNU.out.small HNV.out.small, eq_fl _ _ HNU.out.small HNV.out.small]
              by_cases g1 : u0 < v0
              · have : u0 ≤ v0 := by omega
                simp [g1, this]
              · by_cases g2 : u0 = v0
                · simp [g2]
                · have : ¬ (u0 ≤ v0) := by omega
                  simp [g1, g2, this]
            have hd1 : decide (u1 + v1 ≤ (f : Int)) = true := decide_eq_true h1
            by_cases h2 : u0 ≤ v0
            · rw [decide_eq_true h2] at hlq
              have HG : Aside0 (goodF (u0, u1, true) (v0, v1, true) f = true) := ⟨by unfold goodF; simp [h1, h2]⟩
              clear h1 h2
              go_wp2_with fail
              refine (HC1.out).mono ?_
              rintro e' w2 ⟨rfl, rfl⟩
              go_wp2_with fail
              refine (HC2.out).mono ?_
              rintro e' w3 ⟨rfl, rfl⟩
              go_wp2
              go_ret3
              have h1 := HM1.out
              rw [HG.out, if_pos rfl] at h1
              rw [← h1]
              exact ⟨rfl, HB.out⟩
            · rw [decide_eq_false h2] at hlq
              have HG : Aside0 (goodF (u0, u1, true) (v0, v1, true) f = false) := ⟨by unfold goodF; simp [h1, h2]⟩
              clear h1 h2
              go_wp2_with fail
              refine (HC1.out).mono ?_
              rintro e' w2 ⟨rfl, rfl⟩
              go_wp2_with fail
              refine (HC2.out).mono ?_
              rintro e' w3 ⟨rfl, rfl⟩
              go_wp2
              go_roundg (gk - 1)
              case measure => have := HK.out; omega
              case rel =>
                refine ⟨f + 1, by go_num, ⟨by have := HK.out; omega⟩, ⟨?_⟩, rfl⟩
                have h1 := HM1.out
                rw [HG.out, if_neg (by decide)] at h1
                rw [show gk - 1 + 1 = gk from by have := HK.out; omega]
                exact h1
          · have hd1 : decide (u1 + v1 ≤ (f : Int)) = false := decide_eq_false h1
            have HG : Aside0 (goodF (u0, u1, true) (v0, v1, true) f = false) := ⟨by unfold goodF; simp [h1]⟩
            clear h1
            go_wp2_with fail
            refine (HC1.out).mono ?_
            rintro e' w2 ⟨rfl, rfl⟩
            go_wp2_with fail
            refine (HC2.out).mono ?_
            rintro e' w3 ⟨rfl, rfl⟩
            go_wp2
            go_roundg (gk - 1)
            case measure => have := HK.out; omega
            case rel =>
              refine ⟨f + 1, by go_num, ⟨by have := HK.out; omega⟩, ⟨?_⟩, rfl⟩
              have h1 := HM1.out
              rw [HG.out, if_neg (by decide)] at h1
              rw [show gk - 1 + 1 = gk from by have := HK.out; omega]
              exact h1
    · rw [if_neg hlt] at hm
      have HM1 := Aside0.mk hm
      clear hm HM
      go_wp2
      go_ret3
      rw [← HM1.out]
      exact ⟨rfl, HB.out⟩
end Go.Proofs.Ytlhecfleanppmaa.Pr
