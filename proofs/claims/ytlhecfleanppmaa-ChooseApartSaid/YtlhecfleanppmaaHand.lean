/- The machine's calls of choose.Ends and choose.Meet, in the form that the printed texts ask for. -/
import Derived.Test.YtlhecfleanppmaaHg
namespace Go.Proofs.Ytlhecfleanppmaa.Pr
open Go.RowKit Go.Proofs.YtlhecfleanppmaaW.PrintWords Go.Proofs.YtlhecfleanppmaaW.PrintLast Go.Proofs.YtlhecfleanppmaaW.PrintMore Go.Proofs.YFl
theorem choose_Meet.calls (A0 : Option Addr) (c0 : Nat) (l0 : List S26) (r1 r2 : Int) (r3 : Bool) (w : World) (hr0 : Kd.C k26 w A0 l0.length l0) (hc0 : l0.length ≤ c0) (h : choose_Meet.f l0 = some (r1, r2, r3)) :
    Calls Try.prog 17 #[.slice A0 l0.length c0] w fun e w' => e = .returned (.tuple #[.int .i64 r1, .int .i64 r2, .bool r3]) ∧ Below w.heap.size w w' :=
  meet_walk A0 c0 l0 w hr0 hc0 (thatOf l0).length (thatOf_length l0) (ends_length l0) (endsOf l0) rfl (r1, r2, r3) (Option.some.inj h) (ends_kinds l0) (ends_near l0)
end Go.Proofs.Ytlhecfleanppmaa.Pr
