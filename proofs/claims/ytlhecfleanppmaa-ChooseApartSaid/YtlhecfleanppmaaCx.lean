/- Complex numbers whose parts are whole numbers, as values of the machine. -/
import Derived.Test.YtlhecfleanppmaaFl
import Derived.Test.YtlhecfleanppmaaWWords
namespace Go.Proofs.Ytlhecfleanppmaa.Pr
open Go.RowKit Go.Proofs.YtlhecfleanppmaaW.PrintWords Go.Proofs.YFl
structure Cx where
  re : Int
  im : Int
def zcx : Cx := ⟨0, 0⟩
def encx (x : Cx) : Value := .complex .f64 (fl x.re) (fl x.im)
def kcx : Kd Cx := Kd.scalar encx (fun _ => rfl)
end Go.Proofs.Ytlhecfleanppmaa.Pr
