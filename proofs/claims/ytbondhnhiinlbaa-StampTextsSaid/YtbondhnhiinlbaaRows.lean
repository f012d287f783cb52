/-
  No cell of these rows narrows 'for every input' (looked for: loops, veiled, ifaces, maps, wideKeys, modest, calm, conditions, laid).
  DERIVED. THE GIVEN ROWS OF THIS SEAT. 10 by the template 'for every input the law returns true; each argument reads behind the call as it read before'; 0 by the template 'total and deterministic' (their statements: YtbondhnhiinlbaaTotals.lean).
  GIVEN WITH THE SEED: the statements are not yours to turn. If you find one false, say at which input.
  Laid BY PROGRAM, IN A SANDBOX (cutbox-rows.mjs): the forced cells as the released guide's own fill.sh prints them over the translation 5214c7c250e57a76… (all of the seat's roots in one cut). By AI agents, Wed Nov 11 2026. No macro, syntax, notation, axiom, sorry.
-/
import Derived.Test.YtbondhnhiinlbaaChecked
import GoSem.Claim
import GoSem.ClaimJoined
import GoSem.ClaimMapViews
import Derived.JoinedTies
import Derived.KernelRfl
namespace Go.Proofs.Ytbondhnhiinlbaa
/- THE CELL 'sum', in the pinned program and in every row, IS THE sha256 OF THE DUMP (.gsa) THAT YtbondhnhiinlbaaProg.lean LOADS. Nothing in Lean hashes anything: it is a label: what it is worth is what the hold of that sum in a sandbox is worth. -/
noncomputable def Try.pinned : Pinned := { name := "ytbondhnhiinlbaa", sum := "5214c7c250e57a7628a6813113db24cc24ce4aef324917811d25b8878d9902f3", checked := Try.checked }
namespace Rows
def none {H : Type} : Left H := { results := [], args := [] }

/-- 'foliotlaw02.StampDates': WHATEVER THE INPUT: true; the input reads as it did. -/
def stampDatesSpec : ChangeSpec := { name := "stampDates", fn := fun _ => fun
  | [d1, d2] => { results := [.lit (.bool true)], args := [d1, d2] }
  | _ => none }
def stampDatesRow : OpenClaim := { program := "ytbondhnhiinlbaa", sum := "5214c7c250e57a7628a6813113db24cc24ce4aef324917811d25b8878d9902f3", func := "foliot/foliotlaw02.StampDates", spec := "stampDates", inPlace := ["math/bits.Add64"], apart := false }
def StampDatesSaid : Prop := stampDatesRow.holds Try.pinned (OpenSpec.ofChange stampDatesSpec)

/-- ITS FALSE NEIGHBOUR: 'it returns false'. Refute it at one input. -/
def stampDatesWrong : ChangeSpec := { name := "stampDates", fn := fun _ => fun
  | [d1, d2] => { results := [.lit (.bool false)], args := [d1, d2] }
  | _ => none }
def StampDatesWrongFalsely : Prop := stampDatesRow.holds Try.pinned (OpenSpec.ofChange stampDatesWrong)

/-- 'foliotlaw02.StampBack': WHATEVER THE INPUT: true; the input reads as it did. -/
def stampBackSpec : ChangeSpec := { name := "stampBack", fn := fun _ => fun
  | [d1, d2] => { results := [.lit (.bool true)], args := [d1, d2] }
  | _ => none }
def stampBackRow : OpenClaim := { program := "ytbondhnhiinlbaa", sum := "5214c7c250e57a7628a6813113db24cc24ce4aef324917811d25b8878d9902f3", func := "foliot/foliotlaw02.StampBack", spec := "stampBack", inPlace := ["math/bits.Add64"], apart := false }
def StampBackSaid : Prop := stampBackRow.holds Try.pinned (OpenSpec.ofChange stampBackSpec)

/-- ITS FALSE NEIGHBOUR: 'it returns false'. Refute it at one input. -/
def stampBackWrong : ChangeSpec := { name := "stampBack", fn := fun _ => fun
  | [d1, d2] => { results := [.lit (.bool false)], args := [d1, d2] }
  | _ => none }
def StampBackWrongFalsely : Prop := stampBackRow.holds Try.pinned (OpenSpec.ofChange stampBackWrong)

/-- 'foliotlaw02.StampNext': WHATEVER THE INPUT: true; the input reads as it did. -/
def stampNextSpec : ChangeSpec := { name := "stampNext", fn := fun _ => fun
  | [d] => { results := [.lit (.bool true)], args := [d] }
  | _ => none }
def stampNextRow : OpenClaim := { program := "ytbondhnhiinlbaa", sum := "5214c7c250e57a7628a6813113db24cc24ce4aef324917811d25b8878d9902f3", func := "foliot/foliotlaw02.StampNext", spec := "stampNext", inPlace := ["math/bits.Add64"], apart := false }
def StampNextSaid : Prop := stampNextRow.holds Try.pinned (OpenSpec.ofChange stampNextSpec)

/-- ITS FALSE NEIGHBOUR: 'it returns false'. Refute it at one input. -/
def stampNextWrong : ChangeSpec := { name := "stampNext", fn := fun _ => fun
  | [d] => { results := [.lit (.bool false)], args := [d] }
  | _ => none }
def StampNextWrongFalsely : Prop := stampNextRow.holds Try.pinned (OpenSpec.ofChange stampNextWrong)

/-- 'foliotlaw02.StampTexts': WHATEVER THE INPUT: true; the input reads as it did. -/
def stampTextsSpec : ChangeSpec := { name := "stampTexts", fn := fun _ => fun
  | [d1, d2] => { results := [.lit (.bool true)], args := [d1, d2] }
  | _ => none }
def stampTextsRow : OpenClaim := { program := "ytbondhnhiinlbaa", sum := "5214c7c250e57a7628a6813113db24cc24ce4aef324917811d25b8878d9902f3", func := "foliot/foliotlaw02.StampTexts", spec := "stampTexts", inPlace := ["math/bits.Add64"], apart := false }
def StampTextsSaid : Prop := stampTextsRow.holds Try.pinned (OpenSpec.ofChange stampTextsSpec)

/-- ITS FALSE NEIGHBOUR: 'it returns false'. Refute it at one input. -/
def stampTextsWrong : ChangeSpec := { name := "stampTexts", fn := fun _ => fun
  | [d1, d2] => { results := [.lit (.bool false)], args := [d1, d2] }
  | _ => none }
def StampTextsWrongFalsely : Prop := stampTextsRow.holds Try.pinned (OpenSpec.ofChange stampTextsWrong)

/-- 'foliotlaw02.StampPrints': WHATEVER THE INPUT: true; the input reads as it did. -/
def stampPrintsSpec : ChangeSpec := { name := "stampPrints", fn := fun _ => fun
  | [d1, d2] => { results := [.lit (.bool true)], args := [d1, d2] }
  | _ => none }
def stampPrintsRow : OpenClaim := { program := "ytbondhnhiinlbaa", sum := "5214c7c250e57a7628a6813113db24cc24ce4aef324917811d25b8878d9902f3", func := "foliot/foliotlaw02.StampPrints", spec := "stampPrints", inPlace := ["math/bits.Add64"], apart := false }
def StampPrintsSaid : Prop := stampPrintsRow.holds Try.pinned (OpenSpec.ofChange stampPrintsSpec)

/-- ITS FALSE NEIGHBOUR: 'it returns false'. Refute it at one input. -/
def stampPrintsWrong : ChangeSpec := { name := "stampPrints", fn := fun _ => fun
  | [d1, d2] => { results := [.lit (.bool false)], args := [d1, d2] }
  | _ => none }
def StampPrintsWrongFalsely : Prop := stampPrintsRow.holds Try.pinned (OpenSpec.ofChange stampPrintsWrong)

/-- 'foliotlaw02.StampSpans': WHATEVER THE INPUT: true; the input reads as it did. -/
def stampSpansSpec : ChangeSpec := { name := "stampSpans", fn := fun _ => fun
  | [d1, d2, d3] => { results := [.lit (.bool true)], args := [d1, d2, d3] }
  | _ => none }
def stampSpansRow : OpenClaim := { program := "ytbondhnhiinlbaa", sum := "5214c7c250e57a7628a6813113db24cc24ce4aef324917811d25b8878d9902f3", func := "foliot/foliotlaw02.StampSpans", spec := "stampSpans", inPlace := ["math/bits.Add64"], apart := false }
def StampSpansSaid : Prop := stampSpansRow.holds Try.pinned (OpenSpec.ofChange stampSpansSpec)

/-- ITS FALSE NEIGHBOUR: 'it returns false'. Refute it at one input. -/
def stampSpansWrong : ChangeSpec := { name := "stampSpans", fn := fun _ => fun
  | [d1, d2, d3] => { results := [.lit (.bool false)], args := [d1, d2, d3] }
  | _ => none }
def StampSpansWrongFalsely : Prop := stampSpansRow.holds Try.pinned (OpenSpec.ofChange stampSpansWrong)

/-- 'foliotlaw02.StampSince': WHATEVER THE INPUT: true; the input reads as it did. -/
def stampSinceSpec : ChangeSpec := { name := "stampSince", fn := fun _ => fun
  | [d1, d2] => { results := [.lit (.bool true)], args := [d1, d2] }
  | _ => none }
def stampSinceRow : OpenClaim := { program := "ytbondhnhiinlbaa", sum := "5214c7c250e57a7628a6813113db24cc24ce4aef324917811d25b8878d9902f3", func := "foliot/foliotlaw02.StampSince", spec := "stampSince", inPlace := ["math/bits.Add64"], apart := false }
def StampSinceSaid : Prop := stampSinceRow.holds Try.pinned (OpenSpec.ofChange stampSinceSpec)

/-- ITS FALSE NEIGHBOUR: 'it returns false'. Refute it at one input. -/
def stampSinceWrong : ChangeSpec := { name := "stampSince", fn := fun _ => fun
  | [d1, d2] => { results := [.lit (.bool false)], args := [d1, d2] }
  | _ => none }
def StampSinceWrongFalsely : Prop := stampSinceRow.holds Try.pinned (OpenSpec.ofChange stampSinceWrong)

/-- 'foliotlaw02.StampShort': WHATEVER THE INPUT: true; the input reads as it did. -/
def stampShortSpec : ChangeSpec := { name := "stampShort", fn := fun _ => fun
  | [d1, d2] => { results := [.lit (.bool true)], args := [d1, d2] }
  | _ => none }
def stampShortRow : OpenClaim := { program := "ytbondhnhiinlbaa", sum := "5214c7c250e57a7628a6813113db24cc24ce4aef324917811d25b8878d9902f3", func := "foliot/foliotlaw02.StampShort", spec := "stampShort", inPlace := ["math/bits.Add64"], apart := false }
def StampShortSaid : Prop := stampShortRow.holds Try.pinned (OpenSpec.ofChange stampShortSpec)

/-- ITS FALSE NEIGHBOUR: 'it returns false'. Refute it at one input. -/
def stampShortWrong : ChangeSpec := { name := "stampShort", fn := fun _ => fun
  | [d1, d2] => { results := [.lit (.bool false)], args := [d1, d2] }
  | _ => none }
def StampShortWrongFalsely : Prop := stampShortRow.holds Try.pinned (OpenSpec.ofChange stampShortWrong)

/-- 'foliotlaw02.StampUnfolds': WHATEVER THE INPUT: true; the input reads as it did. -/
def stampUnfoldsSpec : ChangeSpec := { name := "stampUnfolds", fn := fun _ => fun
  | [d1, d2] => { results := [.lit (.bool true)], args := [d1, d2] }
  | _ => none }
def stampUnfoldsRow : OpenClaim := { program := "ytbondhnhiinlbaa", sum := "5214c7c250e57a7628a6813113db24cc24ce4aef324917811d25b8878d9902f3", func := "foliot/foliotlaw02.StampUnfolds", spec := "stampUnfolds", inPlace := ["math/bits.Add64"], apart := false }
def StampUnfoldsSaid : Prop := stampUnfoldsRow.holds Try.pinned (OpenSpec.ofChange stampUnfoldsSpec)

/-- ITS FALSE NEIGHBOUR: 'it returns false'. Refute it at one input. -/
def stampUnfoldsWrong : ChangeSpec := { name := "stampUnfolds", fn := fun _ => fun
  | [d1, d2] => { results := [.lit (.bool false)], args := [d1, d2] }
  | _ => none }
def StampUnfoldsWrongFalsely : Prop := stampUnfoldsRow.holds Try.pinned (OpenSpec.ofChange stampUnfoldsWrong)

/-- 'foliotlaw02.StampEras': WHATEVER THE INPUT: true; the input reads as it did. -/
def stampErasSpec : ChangeSpec := { name := "stampEras", fn := fun _ => fun
  | [d1, d2] => { results := [.lit (.bool true)], args := [d1, d2] }
  | _ => none }
def stampErasRow : OpenClaim := { program := "ytbondhnhiinlbaa", sum := "5214c7c250e57a7628a6813113db24cc24ce4aef324917811d25b8878d9902f3", func := "foliot/foliotlaw02.StampEras", spec := "stampEras", inPlace := ["math/bits.Add64"], apart := false }
def StampErasSaid : Prop := stampErasRow.holds Try.pinned (OpenSpec.ofChange stampErasSpec)

/-- ITS FALSE NEIGHBOUR: 'it returns false'. Refute it at one input. -/
def stampErasWrong : ChangeSpec := { name := "stampEras", fn := fun _ => fun
  | [d1, d2] => { results := [.lit (.bool false)], args := [d1, d2] }
  | _ => none }
def StampErasWrongFalsely : Prop := stampErasRow.holds Try.pinned (OpenSpec.ofChange stampErasWrong)

/- THE SECOND FORM. 'bulk': how many values and letters a reading holds, each counted each time it is reached (what is shared counts as often as it is met; a slice's spare places count too). A statement '..UptoSaid' is the law's where the arguments, and the package variables that the reading takes, are together of bulk at most 1048576: NARROWER than '..Said'. Prove '..Said' where nothing that the law and all that it calls make is longer than what came in: it says more and counts as full. Else prove '..UptoSaid'. A law counts once. -/
mutual
def uptoBulk {H : Type} : DataW H → Nat
  | .lit (.string bytes) => bytes.length + 1
  | .lit _ => 1
  | .nil => 1
  | .ptr d => uptoBulk d + 1
  | .slice elems spare => uptoBulkAll elems + uptoBulkAll spare + 1
  | .agg parts => uptoBulkAll parts + 1
  | .iface _ d => uptoBulk d + 1
  | .map entries => uptoBulkEntries entries + 1
  | .held _ => 1
def uptoBulkAll {H : Type} : List (DataW H) → Nat
  | [] => 0
  | d :: r => uptoBulk d + uptoBulkAll r
def uptoBulkEntries {H : Type} : List (Lit × DataW H) → Nat
  | [] => 0
  | x :: r => uptoBulkEntry x + uptoBulkEntries r
def uptoBulkEntry {H : Type} : Lit × DataW H → Nat
  | (.string bytes, d) => bytes.length + uptoBulk d + 1
  | (_, d) => uptoBulk d + 1
 end
def uptoSmall : (H : Type) → List (DataW H) → Bool := fun _ ds => decide (uptoBulkAll ds ≤ 1048576)
def OpenSpec.upto (s : _root_.Go.ChangeSpec) : _root_.Go.OpenSpec := { _root_.Go.OpenSpec.ofChange s with cond := some uptoSmall }

/-- 'foliotlaw02.StampDates', WHERE WHAT IT READS IS OF BULK AT MOST 1048576: true; the input reads as it did. -/
def stampDatesUptoRow : OpenClaim := { program := "ytbondhnhiinlbaa", sum := "5214c7c250e57a7628a6813113db24cc24ce4aef324917811d25b8878d9902f3", func := "foliot/foliotlaw02.StampDates", spec := "stampDates", inPlace := ["math/bits.Add64"], apart := false, narrowed := true }
def StampDatesUptoSaid : Prop := stampDatesUptoRow.holds Try.pinned (OpenSpec.upto stampDatesSpec)

/-- 'foliotlaw02.StampBack', WHERE WHAT IT READS IS OF BULK AT MOST 1048576: true; the input reads as it did. -/
def stampBackUptoRow : OpenClaim := { program := "ytbondhnhiinlbaa", sum := "5214c7c250e57a7628a6813113db24cc24ce4aef324917811d25b8878d9902f3", func := "foliot/foliotlaw02.StampBack", spec := "stampBack", inPlace := ["math/bits.Add64"], apart := false, narrowed := true }
def StampBackUptoSaid : Prop := stampBackUptoRow.holds Try.pinned (OpenSpec.upto stampBackSpec)

/-- 'foliotlaw02.StampNext', WHERE WHAT IT READS IS OF BULK AT MOST 1048576: true; the input reads as it did. -/
def stampNextUptoRow : OpenClaim := { program := "ytbondhnhiinlbaa", sum := "5214c7c250e57a7628a6813113db24cc24ce4aef324917811d25b8878d9902f3", func := "foliot/foliotlaw02.StampNext", spec := "stampNext", inPlace := ["math/bits.Add64"], apart := false, narrowed := true }
def StampNextUptoSaid : Prop := stampNextUptoRow.holds Try.pinned (OpenSpec.upto stampNextSpec)

/-- 'foliotlaw02.StampTexts', WHERE WHAT IT READS IS OF BULK AT MOST 1048576: true; the input reads as it did. -/
def stampTextsUptoRow : OpenClaim := { program := "ytbondhnhiinlbaa", sum := "5214c7c250e57a7628a6813113db24cc24ce4aef324917811d25b8878d9902f3", func := "foliot/foliotlaw02.StampTexts", spec := "stampTexts", inPlace := ["math/bits.Add64"], apart := false, narrowed := true }
def StampTextsUptoSaid : Prop := stampTextsUptoRow.holds Try.pinned (OpenSpec.upto stampTextsSpec)

/-- 'foliotlaw02.StampPrints', WHERE WHAT IT READS IS OF BULK AT MOST 1048576: true; the input reads as it did. -/
def stampPrintsUptoRow : OpenClaim := { program := "ytbondhnhiinlbaa", sum := "5214c7c250e57a7628a6813113db24cc24ce4aef324917811d25b8878d9902f3", func := "foliot/foliotlaw02.StampPrints", spec := "stampPrints", inPlace := ["math/bits.Add64"], apart := false, narrowed := true }
def StampPrintsUptoSaid : Prop := stampPrintsUptoRow.holds Try.pinned (OpenSpec.upto stampPrintsSpec)

/-- 'foliotlaw02.StampSpans', WHERE WHAT IT READS IS OF BULK AT MOST 1048576: true; the input reads as it did. -/
def stampSpansUptoRow : OpenClaim := { program := "ytbondhnhiinlbaa", sum := "5214c7c250e57a7628a6813113db24cc24ce4aef324917811d25b8878d9902f3", func := "foliot/foliotlaw02.StampSpans", spec := "stampSpans", inPlace := ["math/bits.Add64"], apart := false, narrowed := true }
def StampSpansUptoSaid : Prop := stampSpansUptoRow.holds Try.pinned (OpenSpec.upto stampSpansSpec)

/-- 'foliotlaw02.StampSince', WHERE WHAT IT READS IS OF BULK AT MOST 1048576: true; the input reads as it did. -/
def stampSinceUptoRow : OpenClaim := { program := "ytbondhnhiinlbaa", sum := "5214c7c250e57a7628a6813113db24cc24ce4aef324917811d25b8878d9902f3", func := "foliot/foliotlaw02.StampSince", spec := "stampSince", inPlace := ["math/bits.Add64"], apart := false, narrowed := true }
def StampSinceUptoSaid : Prop := stampSinceUptoRow.holds Try.pinned (OpenSpec.upto stampSinceSpec)

/-- 'foliotlaw02.StampShort', WHERE WHAT IT READS IS OF BULK AT MOST 1048576: true; the input reads as it did. -/
def stampShortUptoRow : OpenClaim := { program := "ytbondhnhiinlbaa", sum := "5214c7c250e57a7628a6813113db24cc24ce4aef324917811d25b8878d9902f3", func := "foliot/foliotlaw02.StampShort", spec := "stampShort", inPlace := ["math/bits.Add64"], apart := false, narrowed := true }
def StampShortUptoSaid : Prop := stampShortUptoRow.holds Try.pinned (OpenSpec.upto stampShortSpec)

/-- 'foliotlaw02.StampUnfolds', WHERE WHAT IT READS IS OF BULK AT MOST 1048576: true; the input reads as it did. -/
def stampUnfoldsUptoRow : OpenClaim := { program := "ytbondhnhiinlbaa", sum := "5214c7c250e57a7628a6813113db24cc24ce4aef324917811d25b8878d9902f3", func := "foliot/foliotlaw02.StampUnfolds", spec := "stampUnfolds", inPlace := ["math/bits.Add64"], apart := false, narrowed := true }
def StampUnfoldsUptoSaid : Prop := stampUnfoldsUptoRow.holds Try.pinned (OpenSpec.upto stampUnfoldsSpec)

/-- 'foliotlaw02.StampEras', WHERE WHAT IT READS IS OF BULK AT MOST 1048576: true; the input reads as it did. -/
def stampErasUptoRow : OpenClaim := { program := "ytbondhnhiinlbaa", sum := "5214c7c250e57a7628a6813113db24cc24ce4aef324917811d25b8878d9902f3", func := "foliot/foliotlaw02.StampEras", spec := "stampEras", inPlace := ["math/bits.Add64"], apart := false, narrowed := true }
def StampErasUptoSaid : Prop := stampErasUptoRow.holds Try.pinned (OpenSpec.upto stampErasSpec)

end Rows
end Go.Proofs.Ytbondhnhiinlbaa
