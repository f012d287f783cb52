/- The document's examples hold. -/
import Derived.Test.YtbondhnhiinlbaaNPrx21
import Derived.Test.YtbondhnhiinlbaaNK0
import Derived.Laws.Bits64
section
set_option linter.unusedVariables false
set_option linter.unusedSimpArgs false
namespace Go.Proofs.Ytbondhnhiinlbaa.Pr
open Go.RowKit Go.Proofs.YtbondhnhiinlbaaW.PrintWords Go.Proofs.YtbondhnhiinlbaaW.PrintLast Go.Proofs.YtbondhnhiinlbaaW.PrintMore
theorem Ev.two {α β : Type} {g : Nat → Option α} {f : Nat → Option β} {r : α} {q : β} (h : Ev f q) (hs : ∀ k, f k = some q → g (k + 1) = some r) : Ev g r := by
  obtain ⟨K, hK⟩ := h
  refine ⟨K + 1, fun k hk => ?_⟩
  obtain ⟨m, rfl⟩ : ∃ m, k = m + 1 := ⟨k - 1, by omega⟩
  exact hs m (hK m (by omega))
theorem Ev.three {α β : Type} {g : Nat → Option α} {f : Nat → Option β} {r : α} {q : β} (h : Ev f q) (hs : ∀ k, f k = some q → g (k + 2) = some r) : Ev g r := by
  obtain ⟨K, hK⟩ := h
  refine ⟨K + 2, fun k hk => ?_⟩
  obtain ⟨m, rfl⟩ : ∃ m, k = m + 2 := ⟨k - 2, by omega⟩
  exact hs m (hK m (by omega))
theorem Ev.zero {α β : Type} {g : Nat → Option α} {f : Nat → Option β} {r : α} {q : β} (h : Ev f q) (hs : ∀ k, f k = some q → g k = some r) : Ev g r := by
  obtain ⟨K, hK⟩ := h
  exact ⟨K, fun k hk => hs k (hK k hk)⟩
theorem Ev.end1 {α : Type} {g : Nat → Option α} {r : α} (hs : ∀ k, g (k + 1) = some r) : Ev g r :=
  ⟨1, fun k hk => by obtain ⟨m, rfl⟩ : ∃ m, k = m + 1 := ⟨k - 1, by omega⟩; exact hs m⟩
theorem Ev.all {α : Type} {g : Nat → Option α} {r : α} (hs : ∀ k, g k = some r) : Ev g r := ⟨0, fun k _ => hs k⟩
theorem Ev.of_mono {α : Type} {g : Nat → Option α} {r : α} (K : Nat) (h : g K = some r) (hm : ∀ k, LeO (g k) (g (k + 1))) : Ev g r := by
  refine ⟨K, fun k hk => ?_⟩
  induction k with
  | zero => rw [show K = 0 from by omega] at h; exact h
  | succ k ih =>
    by_cases hk' : K ≤ k
    · exact hm k _ (ih hk')
    · rw [show K = k + 1 from by omega] at h
      exact h
theorem shown_20 : foliotlaw02_shown.f 20 = some true := by decide +kernel
theorem shown_ev : Ev (fun k => foliotlaw02_shown.f k) true := Ev.of_mono 20 shown_20 (fun k => foliotlaw02_shown.mono k)
end Go.Proofs.Ytbondhnhiinlbaa.Pr
end
section
set_option linter.unusedVariables false
set_option linter.unusedSimpArgs false
namespace Go.Proofs.Ytbondhnhiinlbaa.Pr
open Go.RowKit Go.Proofs.YtbondhnhiinlbaaW.PrintWords Go.Proofs.YtbondhnhiinlbaaW.PrintLast Go.Proofs.YtbondhnhiinlbaaW.PrintMore
theorem u64_mod (n : Int) : IntKind.u64.wrap n = n % 18446744073709551616 := IntKind.wrap_u64 n
theorem add_zero_eq (k : Nat) (v : Int) (h0 : -4611686018427387904 ≤ v) (h1 : v ≤ 4611686018427387904) : fixed_Add.f (k + 1) v 0 = some v := by
  unfold fixed_Add.f fixed_sum.f
  rw [if_pos ⟨⟨by omega, by omega⟩, by decide, by decide⟩, Int.add_zero]
  by_cases hv : v < 0
  · rw [if_pos hv, Option.bind_some]
    rw [show -v / 18446744073709551616 = 0 from by omega, show -v % 18446744073709551616 = -v from by omega]
    unfold fixed_whole_span.f fixed_whole_cut.f
    dsimp only
    rw [if_pos rfl]
    by_cases hl : -v < 4611686018427387904
    · rw [decide_eq_true (by rw [u64_mod]; omega)]
      simp only [fixed_whole_cut.j0, if_true, Option.bind_some]
      congr 1
      unfold wrap64
      omega
    · rw [decide_eq_false (by rw [u64_mod]; omega)]
      simp only [fixed_whole_cut.j0, if_true, Option.bind_some]
      rw [if_neg (by decide)]
      simp only [Option.bind_some]
      congr 1
      unfold wrap64
      omega
  · rw [if_neg hv, Option.bind_some]
    unfold fixed_whole_span.f fixed_whole_cut.f
    dsimp only
    rw [if_pos rfl]
    by_cases hl : v < 4611686018427387904
    · rw [decide_eq_true (by rw [u64_mod]; omega)]
      simp only [fixed_whole_cut.j0, if_true, Option.bind_some]
      rw [if_neg (by decide)]
      simp only [Option.bind_some]
      congr 1
      unfold wrap64
      omega
    · rw [decide_eq_false (by rw [u64_mod]; omega)]
      simp only [fixed_whole_cut.j0, Option.bind_some]
      rw [if_neg (by decide), if_neg (by decide)]
      simp only [Option.bind_some]
      congr 1
      omega
theorem clamp_eq (k : Nat) (a : Int) : fixed_Clamp.f (k + 1) a 4611686018427387904 = some (mx (-4611686018427387904) (mn a 4611686018427387904)) := by
  unfold fixed_Clamp.f
  rw [if_neg (by decide)]
  have e : mx (mn a 4611686018427387904) (wrap64 (-4611686018427387904)) = mx (-4611686018427387904) (mn a 4611686018427387904) := by
    unfold mx mn wrap64
    repeat' split
    all_goals omega
  rw [e, add_zero_eq k _ (by unfold mx mn; repeat' split
                             all_goals omega) (by unfold mx mn; repeat' split
                                                  all_goals omega)]
  rfl
theorem since_eq (k : Nat) (a b : Int) : stamp_Since.f (k + 1) a b = some (mx (-4611686018427387904) (mn (wrap64 (IntKind.u64.wrap (a - b))) 4611686018427387904)) := by
  unfold stamp_Since.f
  rw [clamp_eq]
  rfl
theorem refsince_eq (a b : Int) : foliotref02_Since.f a b = some (mx (-4611686018427387904) (mn (wrap64 (IntKind.u64.wrap (a - b))) 4611686018427387904)) := by
  unfold foliotref02_Since.f foliotref02_Cut.f
  rfl
theorem since_cut (k : Nat) (a b d : Int) (hd : wrap64 (IntKind.u64.wrap (a - b)) = d) (h0 : -4611686018427387904 ≤ d) (h1 : d ≤ 4611686018427387904) : stamp_Since.f (k + 1) a b = some d := by
  rw [since_eq, hd]
  congr 1
  unfold mx mn
  repeat' split
  all_goals omega
end Go.Proofs.Ytbondhnhiinlbaa.Pr
end
