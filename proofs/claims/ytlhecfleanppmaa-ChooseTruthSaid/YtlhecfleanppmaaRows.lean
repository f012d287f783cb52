/-
  No cell of these rows narrows 'for every input' (looked for: loops, veiled, ifaces, maps, wideKeys, modest, calm, conditions, laid).
  DERIVED. THE GIVEN ROWS OF THIS SEAT. 8 by the template 'for every input the law returns true; each argument reads behind the call as it read before'; 0 by the template 'total and deterministic' (their statements: YtlhecfleanppmaaTotals.lean).
  GIVEN WITH THE SEED: the statements are not yours to turn. If you find one false, say at which input.
  Laid BY PROGRAM, IN A SANDBOX (cutbox-rows.mjs): the forced cells as the released guide's own fill.sh prints them over the translation cd95a9aab28df070… (all of the seat's roots in one cut). By AI agents, Wed Nov 11 2026. No macro, syntax, notation, axiom, sorry.
-/
import Derived.Test.YtlhecfleanppmaaChecked
import GoSem.Claim
import GoSem.ClaimJoined
import GoSem.ClaimMapViews
import Derived.JoinedTies
import Derived.KernelRfl
namespace Go.Proofs.Ytlhecfleanppmaa
/- THE CELL 'sum', in the pinned program and in every row, IS THE sha256 OF THE DUMP (.gsa) THAT YtlhecfleanppmaaProg.lean LOADS. Nothing in Lean hashes anything: it is a label: what it is worth is what the hold of that sum in a sandbox is worth. -/
noncomputable def Try.pinned : Pinned := { name := "ytlhecfleanppmaa", sum := "cd95a9aab28df07093358ddd8c70073e1c77ca881ee643cd2372ecb8bf0b95b7", checked := Try.checked }
namespace Rows
def none {H : Type} : Left H := { results := [], args := [] }

/-- 'foliotlaw13.ChooseEnds': WHATEVER THE INPUT: true; the input reads as it did. -/
def chooseEndsSpec : ChangeSpec := { name := "chooseEnds", fn := fun _ => fun
  | [d1, d2] => { results := [.lit (.bool true)], args := [d1, d2] }
  | _ => none }
def chooseEndsRow : OpenClaim := { program := "ytlhecfleanppmaa", sum := "cd95a9aab28df07093358ddd8c70073e1c77ca881ee643cd2372ecb8bf0b95b7", func := "foliot/foliotlaw13.ChooseEnds", spec := "chooseEnds", apart := false }
def ChooseEndsSaid : Prop := chooseEndsRow.holds Try.pinned (OpenSpec.ofChange chooseEndsSpec)

/-- ITS FALSE NEIGHBOUR: 'it returns false'. Refute it at one input. -/
def chooseEndsWrong : ChangeSpec := { name := "chooseEnds", fn := fun _ => fun
  | [d1, d2] => { results := [.lit (.bool false)], args := [d1, d2] }
  | _ => none }
def ChooseEndsWrongFalsely : Prop := chooseEndsRow.holds Try.pinned (OpenSpec.ofChange chooseEndsWrong)

/-- 'foliotlaw13.ChooseAll': WHATEVER THE INPUT: true; the input reads as it did. -/
def chooseAllSpec : ChangeSpec := { name := "chooseAll", fn := fun _ => fun
  | [d1, d2] => { results := [.lit (.bool true)], args := [d1, d2] }
  | _ => none }
def chooseAllRow : OpenClaim := { program := "ytlhecfleanppmaa", sum := "cd95a9aab28df07093358ddd8c70073e1c77ca881ee643cd2372ecb8bf0b95b7", func := "foliot/foliotlaw13.ChooseAll", spec := "chooseAll", apart := false }
def ChooseAllSaid : Prop := chooseAllRow.holds Try.pinned (OpenSpec.ofChange chooseAllSpec)

/-- ITS FALSE NEIGHBOUR: 'it returns false'. Refute it at one input. -/
def chooseAllWrong : ChangeSpec := { name := "chooseAll", fn := fun _ => fun
  | [d1, d2] => { results := [.lit (.bool false)], args := [d1, d2] }
  | _ => none }
def ChooseAllWrongFalsely : Prop := chooseAllRow.holds Try.pinned (OpenSpec.ofChange chooseAllWrong)

/-- 'foliotlaw13.ChooseCounts': WHATEVER THE INPUT: true; the input reads as it did. -/
def chooseCountsSpec : ChangeSpec := { name := "chooseCounts", fn := fun _ => fun
  | [d] => { results := [.lit (.bool true)], args := [d] }
  | _ => none }
def chooseCountsRow : OpenClaim := { program := "ytlhecfleanppmaa", sum := "cd95a9aab28df07093358ddd8c70073e1c77ca881ee643cd2372ecb8bf0b95b7", func := "foliot/foliotlaw13.ChooseCounts", spec := "chooseCounts", apart := false }
def ChooseCountsSaid : Prop := chooseCountsRow.holds Try.pinned (OpenSpec.ofChange chooseCountsSpec)

/-- ITS FALSE NEIGHBOUR: 'it returns false'. Refute it at one input. -/
def chooseCountsWrong : ChangeSpec := { name := "chooseCounts", fn := fun _ => fun
  | [d] => { results := [.lit (.bool false)], args := [d] }
  | _ => none }
def ChooseCountsWrongFalsely : Prop := chooseCountsRow.holds Try.pinned (OpenSpec.ofChange chooseCountsWrong)

/-- 'foliotlaw13.ChooseSame': WHATEVER THE INPUT: true; the input reads as it did. -/
def chooseSameSpec : ChangeSpec := { name := "chooseSame", fn := fun _ => fun
  | [d1, d2] => { results := [.lit (.bool true)], args := [d1, d2] }
  | _ => none }
def chooseSameRow : OpenClaim := { program := "ytlhecfleanppmaa", sum := "cd95a9aab28df07093358ddd8c70073e1c77ca881ee643cd2372ecb8bf0b95b7", func := "foliot/foliotlaw13.ChooseSame", spec := "chooseSame", apart := false }
def ChooseSameSaid : Prop := chooseSameRow.holds Try.pinned (OpenSpec.ofChange chooseSameSpec)

/-- ITS FALSE NEIGHBOUR: 'it returns false'. Refute it at one input. -/
def chooseSameWrong : ChangeSpec := { name := "chooseSame", fn := fun _ => fun
  | [d1, d2] => { results := [.lit (.bool false)], args := [d1, d2] }
  | _ => none }
def ChooseSameWrongFalsely : Prop := chooseSameRow.holds Try.pinned (OpenSpec.ofChange chooseSameWrong)

/-- 'foliotlaw13.ChooseApart': WHATEVER THE INPUT: true; the input reads as it did. -/
def chooseApartSpec : ChangeSpec := { name := "chooseApart", fn := fun _ => fun
  | [d1, d2] => { results := [.lit (.bool true)], args := [d1, d2] }
  | _ => none }
def chooseApartRow : OpenClaim := { program := "ytlhecfleanppmaa", sum := "cd95a9aab28df07093358ddd8c70073e1c77ca881ee643cd2372ecb8bf0b95b7", func := "foliot/foliotlaw13.ChooseApart", spec := "chooseApart", apart := false }
def ChooseApartSaid : Prop := chooseApartRow.holds Try.pinned (OpenSpec.ofChange chooseApartSpec)

/-- ITS FALSE NEIGHBOUR: 'it returns false'. Refute it at one input. -/
def chooseApartWrong : ChangeSpec := { name := "chooseApart", fn := fun _ => fun
  | [d1, d2] => { results := [.lit (.bool false)], args := [d1, d2] }
  | _ => none }
def ChooseApartWrongFalsely : Prop := chooseApartRow.holds Try.pinned (OpenSpec.ofChange chooseApartWrong)

/-- 'foliotlaw13.ChooseMeets': WHATEVER THE INPUT: true; the input reads as it did. -/
def chooseMeetsSpec : ChangeSpec := { name := "chooseMeets", fn := fun _ => fun
  | [d] => { results := [.lit (.bool true)], args := [d] }
  | _ => none }
def chooseMeetsRow : OpenClaim := { program := "ytlhecfleanppmaa", sum := "cd95a9aab28df07093358ddd8c70073e1c77ca881ee643cd2372ecb8bf0b95b7", func := "foliot/foliotlaw13.ChooseMeets", spec := "chooseMeets", apart := false }
def ChooseMeetsSaid : Prop := chooseMeetsRow.holds Try.pinned (OpenSpec.ofChange chooseMeetsSpec)

/-- ITS FALSE NEIGHBOUR: 'it returns false'. Refute it at one input. -/
def chooseMeetsWrong : ChangeSpec := { name := "chooseMeets", fn := fun _ => fun
  | [d] => { results := [.lit (.bool false)], args := [d] }
  | _ => none }
def ChooseMeetsWrongFalsely : Prop := chooseMeetsRow.holds Try.pinned (OpenSpec.ofChange chooseMeetsWrong)

/-- 'foliotlaw13.ChooseTruth': WHATEVER THE INPUT: true; the input reads as it did. -/
def chooseTruthSpec : ChangeSpec := { name := "chooseTruth", fn := fun _ => fun
  | [d1, d2, d3] => { results := [.lit (.bool true)], args := [d1, d2, d3] }
  | _ => none }
def chooseTruthRow : OpenClaim := { program := "ytlhecfleanppmaa", sum := "cd95a9aab28df07093358ddd8c70073e1c77ca881ee643cd2372ecb8bf0b95b7", func := "foliot/foliotlaw13.ChooseTruth", spec := "chooseTruth", apart := false }
def ChooseTruthSaid : Prop := chooseTruthRow.holds Try.pinned (OpenSpec.ofChange chooseTruthSpec)

/-- ITS FALSE NEIGHBOUR: 'it returns false'. Refute it at one input. -/
def chooseTruthWrong : ChangeSpec := { name := "chooseTruth", fn := fun _ => fun
  | [d1, d2, d3] => { results := [.lit (.bool false)], args := [d1, d2, d3] }
  | _ => none }
def ChooseTruthWrongFalsely : Prop := chooseTruthRow.holds Try.pinned (OpenSpec.ofChange chooseTruthWrong)

/-- 'foliotlaw13.ChooseOrder': WHATEVER THE INPUT: true; the input reads as it did. -/
def chooseOrderSpec : ChangeSpec := { name := "chooseOrder", fn := fun _ => fun
  | [d1, d2] => { results := [.lit (.bool true)], args := [d1, d2] }
  | _ => none }
def chooseOrderRow : OpenClaim := { program := "ytlhecfleanppmaa", sum := "cd95a9aab28df07093358ddd8c70073e1c77ca881ee643cd2372ecb8bf0b95b7", func := "foliot/foliotlaw13.ChooseOrder", spec := "chooseOrder", apart := false }
def ChooseOrderSaid : Prop := chooseOrderRow.holds Try.pinned (OpenSpec.ofChange chooseOrderSpec)

/-- ITS FALSE NEIGHBOUR: 'it returns false'. Refute it at one input. -/
def chooseOrderWrong : ChangeSpec := { name := "chooseOrder", fn := fun _ => fun
  | [d1, d2] => { results := [.lit (.bool false)], args := [d1, d2] }
  | _ => none }
def ChooseOrderWrongFalsely : Prop := chooseOrderRow.holds Try.pinned (OpenSpec.ofChange chooseOrderWrong)

/- THE SECOND FORM. 'bulk': how many values and letters a reading holds, each counted each time it is reached (what is shared counts as often as it is met; a slice's spare places count too). A statement '..UptoSaid' is the law's where the arguments, and the package variables that the reading takes, are together of bulk at most 1048576: NARROWER than '..Said'. Prove '..Said' where nothing that the law and all that it calls make is longer than what came in: it says more and counts as full. Else prove '..UptoSaid'. A law counts once. -/
mutual
def uptoBulk {H : Type} : DataW H → Nat
  | .lit (.string bytes) => bytes.length + 1
  | .lit _ => 1
  | .nil => 1
  | .ptr d => uptoBulk d + 1
  | .slice elems spare => uptoBulkAll elems + uptoBulkAll spare + 1
  | .agg parts => uptoBulkAll parts + 1
  | .iface _ d => uptoBulk d + 1
  | .map entries => uptoBulkEntries entries + 1
  | .held _ => 1
def uptoBulkAll {H : Type} : List (DataW H) → Nat
  | [] => 0
  | d :: r => uptoBulk d + uptoBulkAll r
def uptoBulkEntries {H : Type} : List (Lit × DataW H) → Nat
  | [] => 0
  | x :: r => uptoBulkEntry x + uptoBulkEntries r
def uptoBulkEntry {H : Type} : Lit × DataW H → Nat
  | (.string bytes, d) => bytes.length + uptoBulk d + 1
  | (_, d) => uptoBulk d + 1
 end
def uptoSmall : (H : Type) → List (DataW H) → Bool := fun _ ds => decide (uptoBulkAll ds ≤ 1048576)
def OpenSpec.upto (s : _root_.Go.ChangeSpec) : _root_.Go.OpenSpec := { _root_.Go.OpenSpec.ofChange s with cond := some uptoSmall }

/-- 'foliotlaw13.ChooseEnds', WHERE WHAT IT READS IS OF BULK AT MOST 1048576: true; the input reads as it did. -/
def chooseEndsUptoRow : OpenClaim := { program := "ytlhecfleanppmaa", sum := "cd95a9aab28df07093358ddd8c70073e1c77ca881ee643cd2372ecb8bf0b95b7", func := "foliot/foliotlaw13.ChooseEnds", spec := "chooseEnds", apart := false, narrowed := true }
def ChooseEndsUptoSaid : Prop := chooseEndsUptoRow.holds Try.pinned (OpenSpec.upto chooseEndsSpec)

/-- 'foliotlaw13.ChooseAll', WHERE WHAT IT READS IS OF BULK AT MOST 1048576: true; the input reads as it did. -/
def chooseAllUptoRow : OpenClaim := { program := "ytlhecfleanppmaa", sum := "cd95a9aab28df07093358ddd8c70073e1c77ca881ee643cd2372ecb8bf0b95b7", func := "foliot/foliotlaw13.ChooseAll", spec := "chooseAll", apart := false, narrowed := true }
def ChooseAllUptoSaid : Prop := chooseAllUptoRow.holds Try.pinned (OpenSpec.upto chooseAllSpec)

/-- 'foliotlaw13.ChooseCounts', WHERE WHAT IT READS IS OF BULK AT MOST 1048576: true; the input reads as it did. -/
def chooseCountsUptoRow : OpenClaim := { program := "ytlhecfleanppmaa", sum := "cd95a9aab28df07093358ddd8c70073e1c77ca881ee643cd2372ecb8bf0b95b7", func := "foliot/foliotlaw13.ChooseCounts", spec := "chooseCounts", apart := false, narrowed := true }
def ChooseCountsUptoSaid : Prop := chooseCountsUptoRow.holds Try.pinned (OpenSpec.upto chooseCountsSpec)

/-- 'foliotlaw13.ChooseSame', WHERE WHAT IT READS IS OF BULK AT MOST 1048576: true; the input reads as it did. -/
def chooseSameUptoRow : OpenClaim := { program := "ytlhecfleanppmaa", sum := "cd95a9aab28df07093358ddd8c70073e1c77ca881ee643cd2372ecb8bf0b95b7", func := "foliot/foliotlaw13.ChooseSame", spec := "chooseSame", apart := false, narrowed := true }
def ChooseSameUptoSaid : Prop := chooseSameUptoRow.holds Try.pinned (OpenSpec.upto chooseSameSpec)

/-- 'foliotlaw13.ChooseApart', WHERE WHAT IT READS IS OF BULK AT MOST 1048576: true; the input reads as it did. -/
def chooseApartUptoRow : OpenClaim := { program := "ytlhecfleanppmaa", sum := "cd95a9aab28df07093358ddd8c70073e1c77ca881ee643cd2372ecb8bf0b95b7", func := "foliot/foliotlaw13.ChooseApart", spec := "chooseApart", apart := false, narrowed := true }
def ChooseApartUptoSaid : Prop := chooseApartUptoRow.holds Try.pinned (OpenSpec.upto chooseApartSpec)

/-- 'foliotlaw13.ChooseMeets', WHERE WHAT IT READS IS OF BULK AT MOST 1048576: true; the input reads as it did. -/
def chooseMeetsUptoRow : OpenClaim := { program := "ytlhecfleanppmaa", sum := "cd95a9aab28df07093358ddd8c70073e1c77ca881ee643cd2372ecb8bf0b95b7", func := "foliot/foliotlaw13.ChooseMeets", spec := "chooseMeets", apart := false, narrowed := true }
def ChooseMeetsUptoSaid : Prop := chooseMeetsUptoRow.holds Try.pinned (OpenSpec.upto chooseMeetsSpec)

/-- 'foliotlaw13.ChooseTruth', WHERE WHAT IT READS IS OF BULK AT MOST 1048576: true; the input reads as it did. -/
def chooseTruthUptoRow : OpenClaim := { program := "ytlhecfleanppmaa", sum := "cd95a9aab28df07093358ddd8c70073e1c77ca881ee643cd2372ecb8bf0b95b7", func := "foliot/foliotlaw13.ChooseTruth", spec := "chooseTruth", apart := false, narrowed := true }
def ChooseTruthUptoSaid : Prop := chooseTruthUptoRow.holds Try.pinned (OpenSpec.upto chooseTruthSpec)

/-- 'foliotlaw13.ChooseOrder', WHERE WHAT IT READS IS OF BULK AT MOST 1048576: true; the input reads as it did. -/
def chooseOrderUptoRow : OpenClaim := { program := "ytlhecfleanppmaa", sum := "cd95a9aab28df07093358ddd8c70073e1c77ca881ee643cd2372ecb8bf0b95b7", func := "foliot/foliotlaw13.ChooseOrder", spec := "chooseOrder", apart := false, narrowed := true }
def ChooseOrderUptoSaid : Prop := chooseOrderUptoRow.holds Try.pinned (OpenSpec.upto chooseOrderSpec)

end Rows
end Go.Proofs.Ytlhecfleanppmaa
