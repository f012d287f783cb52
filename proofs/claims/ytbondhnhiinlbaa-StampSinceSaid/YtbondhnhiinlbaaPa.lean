/- The document's examples hold. -/
import Derived.Test.YtbondhnhiinlbaaPrx21
set_option linter.unusedVariables false
set_option linter.unusedSimpArgs false
namespace Go.Proofs.Ytbondhnhiinlbaa.Pr
open Go.RowKit Go.Proofs.YtbondhnhiinlbaaW.PrintWords Go.Proofs.YtbondhnhiinlbaaW.PrintLast Go.Proofs.YtbondhnhiinlbaaW.PrintMore
theorem Ev.two {α β : Type} {g : Nat → Option α} {f : Nat → Option β} {r : α} {q : β} (h : Ev f q) (hs : ∀ k, f k = some q → g (k + 1) = some r) : Ev g r := by
  obtain ⟨K, hK⟩ := h
  refine ⟨K + 1, fun k hk => ?_⟩
  obtain ⟨m, rfl⟩ : ∃ m, k = m + 1 := ⟨k - 1, by omega⟩
  exact hs m (hK m (by omega))
theorem Ev.three {α β : Type} {g : Nat → Option α} {f : Nat → Option β} {r : α} {q : β} (h : Ev f q) (hs : ∀ k, f k = some q → g (k + 2) = some r) : Ev g r := by
  obtain ⟨K, hK⟩ := h
  refine ⟨K + 2, fun k hk => ?_⟩
  obtain ⟨m, rfl⟩ : ∃ m, k = m + 2 := ⟨k - 2, by omega⟩
  exact hs m (hK m (by omega))
theorem Ev.zero {α β : Type} {g : Nat → Option α} {f : Nat → Option β} {r : α} {q : β} (h : Ev f q) (hs : ∀ k, f k = some q → g k = some r) : Ev g r := by
  obtain ⟨K, hK⟩ := h
  exact ⟨K, fun k hk => hs k (hK k hk)⟩
theorem Ev.end1 {α : Type} {g : Nat → Option α} {r : α} (hs : ∀ k, g (k + 1) = some r) : Ev g r :=
  ⟨1, fun k hk => by obtain ⟨m, rfl⟩ : ∃ m, k = m + 1 := ⟨k - 1, by omega⟩; exact hs m⟩
theorem Ev.all {α : Type} {g : Nat → Option α} {r : α} (hs : ∀ k, g k = some r) : Ev g r := ⟨0, fun k _ => hs k⟩
theorem Ev.of_mono {α : Type} {g : Nat → Option α} {r : α} (K : Nat) (h : g K = some r) (hm : ∀ k, LeO (g k) (g (k + 1))) : Ev g r := by
  refine ⟨K, fun k hk => ?_⟩
  induction k with
  | zero => rw [show K = 0 from by omega] at h; exact h
  | succ k ih =>
    by_cases hk' : K ≤ k
    · exact hm k _ (ih hk')
    · rw [show K = k + 1 from by omega] at h
      exact h
theorem shown_20 : foliotlaw02_shown.f 20 = some true := by decide +kernel
theorem shown_ev : Ev (fun k => foliotlaw02_shown.f k) true := Ev.of_mono 20 shown_20 (fun k => foliotlaw02_shown.mono k)
end Go.Proofs.Ytbondhnhiinlbaa.Pr
