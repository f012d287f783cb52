/- The machine's calls of choose.end and choose.ahead, on floats that are whole numbers. -/
import Derived.Test.YtlhecfleanppmaaZK0
import Derived.Deep.QuietTactic
import Derived.BigQuiet
import Derived.Outline
namespace Go.Proofs.Ytlhecfleanppmaa.Pr
open Go.RowKit Go.Proofs.YtlhecfleanppmaaW.PrintWords Go.Proofs.YtlhecfleanppmaaW.PrintLast Go.Proofs.YtlhecfleanppmaaW.PrintMore Go.Proofs.YFl

theorem end_calls (n : Int) (b : Nat) (w : World) :
    Calls Try.prog 28 #[.int .i64 n, .float .f64 b] w fun e w' => e = .returned (.complex .f64 (fl n) b) ∧ w' = w := by
  go_enter Try.func28, Try.ntmps28
  go_wp2
  go_ret
  exact ⟨rfl, rfl⟩

/-- does an end stand ahead of another one? -/
def aheadB (a b : Cx) : Bool := decide (a.re < b.re) || (decide (a.re = b.re) && decide (a.im < b.im))
def fltB (a b : Nat) : Bool := FloatKind.f64.format.order a b == some .lt
def feqB (a b : Nat) : Bool := FloatKind.f64.format.order a b == some .eq

theorem ahead_bits (a b c d : Nat) (w : World) :
    Calls Try.prog 29 #[.complex .f64 a b, .complex .f64 c d] w fun e w' => e = .returned (.bool (fltB a c || (feqB a c && fltB b d))) ∧ w' = w := by
  cases h1 : fltB a c
  · have h1' : (FloatKind.f64.format.order a c == some .lt) = false := h1
    cases h2 : feqB a c
    · have h2' : (FloatKind.f64.format.order a c == some .eq) = false := h2
      have H1 := Aside0.mk h1
      have H2 := Aside0.mk h2
      clear h1 h2
      go_enter Try.func29, Try.ntmps29
      go_wp2
      repeat (go_quiet (fail); try go_wp2)
      go_ret
      exact ⟨by simp, rfl⟩
    · have h2' : (FloatKind.f64.format.order a c == some .eq) = true := h2
      have H1 := Aside0.mk h1
      have H2 := Aside0.mk h2
      clear h1 h2
      go_enter Try.func29, Try.ntmps29
      go_wp2
      repeat (go_quiet (fail); try go_wp2)
      go_ret
      exact ⟨by simp [fltB], rfl⟩
  · have h1' : (FloatKind.f64.format.order a c == some .lt) = true := h1
    have H1 := Aside0.mk h1
    clear h1
    go_enter Try.func29, Try.ntmps29
    go_wp2
    repeat (go_quiet (fail); try go_wp2)
    go_ret
    exact ⟨by simp, rfl⟩
def aheadBits (a b c d : Nat) : Bool := fltB a c || (feqB a c && fltB b d)
theorem ahead_is (a b c d : Nat) (r : Bool) (h : aheadBits a b c d = r) (w : World) :
    Calls Try.prog 29 #[.complex .f64 a b, .complex .f64 c d] w fun e w' => e = .returned (.bool r) ∧ w' = w := by
  subst h
  exact ahead_bits a b c d w
theorem aheadBits_fl (x y : Cx) (h1 : Small x.re) (h2 : Small y.re) (h3 : Small x.im) (h4 : Small y.im) : aheadBits (fl x.re) (fl x.im) (fl y.re) (fl y.im) = aheadB x y := by
  unfold aheadBits aheadB fltB feqB
  rw [lt_fl _ _ h1 h2, eq_fl _ _ h1 h2, lt_fl _ _ h3 h4]
end Go.Proofs.Ytlhecfleanppmaa.Pr
