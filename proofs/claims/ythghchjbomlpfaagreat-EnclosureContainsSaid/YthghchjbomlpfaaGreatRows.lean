/-
  No cell of these rows narrows 'for every input' (looked for: loops, veiled, ifaces, maps, wideKeys, modest, calm, conditions, laid).
  DERIVED. THE GIVEN ROWS OF THIS SEAT. 10 by the template 'for every input the law returns true; each argument reads behind the call as it read before'; 0 by the template 'total and deterministic' (their statements: YthghchjbomlpfaaGreatTotals.lean).
  GIVEN WITH THE SEED: the statements are not yours to turn. If you find one false, say at which input.
  Laid BY PROGRAM, IN A SANDBOX (cutbox-rows.mjs): the forced cells as the released guide's own fill.sh prints them over the translation b0b1c02c2a90b950… (all of the seat's roots in one cut). By AI agents, Wed Nov 11 2026. No macro, syntax, notation, axiom, sorry.
-/
import Derived.Test.YthghchjbomlpfaaGreatChecked
import GoSem.Claim
import GoSem.ClaimJoined
import GoSem.ClaimMapViews
import Derived.JoinedTies
import Derived.KernelRfl
namespace Go.Proofs.YthghchjbomlpfaaGreat
/- THE CELL 'sum', in the pinned program and in every row, IS THE sha256 OF THE DUMP (.gsa) THAT YthghchjbomlpfaaGreatProg.lean LOADS. Nothing in Lean hashes anything: it is a label: what it is worth is what the hold of that sum in a sandbox is worth. -/
noncomputable def Tryz.pinned : Pinned := { name := "ythghchjbomlpfaagreat", sum := "b0b1c02c2a90b950ddec9edc1487d697a9a5d49854fa926f8fa2d90fe8cb7d5b", checked := Tryz.checked }
namespace Rows
def none {H : Type} : Left H := { results := [], args := [] }

/-- 'galoislaw19.EnclosureChecks': WHATEVER THE INPUT: true; the input reads as it did. -/
def enclosureChecksSpec : ChangeSpec := { name := "enclosureChecks", fn := fun _ => fun
  | [d1, d2] => { results := [.lit (.bool true)], args := [d1, d2] }
  | _ => none }
def enclosureChecksRow : OpenClaim := { program := "ythghchjbomlpfaagreat", sum := "b0b1c02c2a90b950ddec9edc1487d697a9a5d49854fa926f8fa2d90fe8cb7d5b", func := "galois/galoislaw19.EnclosureChecks", spec := "enclosureChecks", inPlace := ["math/bits.Add64", "math/bits.Sub64"], named := ["math/bits.divideError", "math/bits.overflowError"], apart := false }
def EnclosureChecksSaid : Prop := enclosureChecksRow.holds Tryz.pinned (OpenSpec.ofChange enclosureChecksSpec)

/-- ITS FALSE NEIGHBOUR: 'it returns false'. Refute it at one input. -/
def enclosureChecksWrong : ChangeSpec := { name := "enclosureChecks", fn := fun _ => fun
  | [d1, d2] => { results := [.lit (.bool false)], args := [d1, d2] }
  | _ => none }
def EnclosureChecksWrongFalsely : Prop := enclosureChecksRow.holds Tryz.pinned (OpenSpec.ofChange enclosureChecksWrong)

/-- 'galoislaw19.EnclosureEvaluates': WHATEVER THE INPUT: true; the input reads as it did. -/
def enclosureEvaluatesSpec : ChangeSpec := { name := "enclosureEvaluates", fn := fun _ => fun
  | [d1, d2, d3] => { results := [.lit (.bool true)], args := [d1, d2, d3] }
  | _ => none }
def enclosureEvaluatesRow : OpenClaim := { program := "ythghchjbomlpfaagreat", sum := "b0b1c02c2a90b950ddec9edc1487d697a9a5d49854fa926f8fa2d90fe8cb7d5b", func := "galois/galoislaw19.EnclosureEvaluates", spec := "enclosureEvaluates", inPlace := ["math/bits.Add64", "math/bits.Sub64"], unfollowed := true, recurses := true, named := ["math/bits.divideError", "math/bits.overflowError"], apart := false }
def EnclosureEvaluatesSaid : Prop := enclosureEvaluatesRow.holds Tryz.pinned (OpenSpec.ofChange enclosureEvaluatesSpec)

/-- ITS FALSE NEIGHBOUR: 'it returns false'. Refute it at one input. -/
def enclosureEvaluatesWrong : ChangeSpec := { name := "enclosureEvaluates", fn := fun _ => fun
  | [d1, d2, d3] => { results := [.lit (.bool false)], args := [d1, d2, d3] }
  | _ => none }
def EnclosureEvaluatesWrongFalsely : Prop := enclosureEvaluatesRow.holds Tryz.pinned (OpenSpec.ofChange enclosureEvaluatesWrong)

/-- 'galoislaw19.EnclosureRounds': WHATEVER THE INPUT: true; the input reads as it did. -/
def enclosureRoundsSpec : ChangeSpec := { name := "enclosureRounds", fn := fun _ => fun
  | [d1, d2, d3] => { results := [.lit (.bool true)], args := [d1, d2, d3] }
  | _ => none }
def enclosureRoundsRow : OpenClaim := { program := "ythghchjbomlpfaagreat", sum := "b0b1c02c2a90b950ddec9edc1487d697a9a5d49854fa926f8fa2d90fe8cb7d5b", func := "galois/galoislaw19.EnclosureRounds", spec := "enclosureRounds", inPlace := ["math/bits.Add64", "math/bits.Sub64"], unfollowed := true, recurses := true, named := ["math/bits.divideError", "math/bits.overflowError"], apart := false }
def EnclosureRoundsSaid : Prop := enclosureRoundsRow.holds Tryz.pinned (OpenSpec.ofChange enclosureRoundsSpec)

/-- ITS FALSE NEIGHBOUR: 'it returns false'. Refute it at one input. -/
def enclosureRoundsWrong : ChangeSpec := { name := "enclosureRounds", fn := fun _ => fun
  | [d1, d2, d3] => { results := [.lit (.bool false)], args := [d1, d2, d3] }
  | _ => none }
def EnclosureRoundsWrongFalsely : Prop := enclosureRoundsRow.holds Tryz.pinned (OpenSpec.ofChange enclosureRoundsWrong)

/-- 'galoislaw19.EnclosureArithmetic': WHATEVER THE INPUT: true; the input reads as it did. -/
def enclosureArithmeticSpec : ChangeSpec := { name := "enclosureArithmetic", fn := fun _ => fun
  | [d1, d2] => { results := [.lit (.bool true)], args := [d1, d2] }
  | _ => none }
def enclosureArithmeticRow : OpenClaim := { program := "ythghchjbomlpfaagreat", sum := "b0b1c02c2a90b950ddec9edc1487d697a9a5d49854fa926f8fa2d90fe8cb7d5b", func := "galois/galoislaw19.EnclosureArithmetic", spec := "enclosureArithmetic", inPlace := ["math/bits.Add64", "math/bits.Sub64"], unfollowed := true, recurses := true, named := ["math/bits.divideError", "math/bits.overflowError"], apart := false }
def EnclosureArithmeticSaid : Prop := enclosureArithmeticRow.holds Tryz.pinned (OpenSpec.ofChange enclosureArithmeticSpec)

/-- ITS FALSE NEIGHBOUR: 'it returns false'. Refute it at one input. -/
def enclosureArithmeticWrong : ChangeSpec := { name := "enclosureArithmetic", fn := fun _ => fun
  | [d1, d2] => { results := [.lit (.bool false)], args := [d1, d2] }
  | _ => none }
def EnclosureArithmeticWrongFalsely : Prop := enclosureArithmeticRow.holds Tryz.pinned (OpenSpec.ofChange enclosureArithmeticWrong)

/-- 'galoislaw19.EnclosureContains': WHATEVER THE INPUT: true; the input reads as it did. -/
def enclosureContainsSpec : ChangeSpec := { name := "enclosureContains", fn := fun _ => fun
  | [d1, d2, d3] => { results := [.lit (.bool true)], args := [d1, d2, d3] }
  | _ => none }
def enclosureContainsRow : OpenClaim := { program := "ythghchjbomlpfaagreat", sum := "b0b1c02c2a90b950ddec9edc1487d697a9a5d49854fa926f8fa2d90fe8cb7d5b", func := "galois/galoislaw19.EnclosureContains", spec := "enclosureContains", inPlace := ["math/bits.Add64", "math/bits.Sub64"], named := ["math/bits.divideError", "math/bits.overflowError"], apart := false }
def EnclosureContainsSaid : Prop := enclosureContainsRow.holds Tryz.pinned (OpenSpec.ofChange enclosureContainsSpec)

/-- ITS FALSE NEIGHBOUR: 'it returns false'. Refute it at one input. -/
def enclosureContainsWrong : ChangeSpec := { name := "enclosureContains", fn := fun _ => fun
  | [d1, d2, d3] => { results := [.lit (.bool false)], args := [d1, d2, d3] }
  | _ => none }
def EnclosureContainsWrongFalsely : Prop := enclosureContainsRow.holds Tryz.pinned (OpenSpec.ofChange enclosureContainsWrong)

/-- 'galoislaw19.EnclosureEvalBox': WHATEVER THE INPUT: true; the input reads as it did. -/
def enclosureEvalBoxSpec : ChangeSpec := { name := "enclosureEvalBox", fn := fun _ => fun
  | [d1, d2, d3] => { results := [.lit (.bool true)], args := [d1, d2, d3] }
  | _ => none }
def enclosureEvalBoxRow : OpenClaim := { program := "ythghchjbomlpfaagreat", sum := "b0b1c02c2a90b950ddec9edc1487d697a9a5d49854fa926f8fa2d90fe8cb7d5b", func := "galois/galoislaw19.EnclosureEvalBox", spec := "enclosureEvalBox", inPlace := ["math/bits.Add64", "math/bits.Sub64"], unfollowed := true, recurses := true, named := ["math/bits.divideError", "math/bits.overflowError"], apart := false }
def EnclosureEvalBoxSaid : Prop := enclosureEvalBoxRow.holds Tryz.pinned (OpenSpec.ofChange enclosureEvalBoxSpec)

/-- ITS FALSE NEIGHBOUR: 'it returns false'. Refute it at one input. -/
def enclosureEvalBoxWrong : ChangeSpec := { name := "enclosureEvalBox", fn := fun _ => fun
  | [d1, d2, d3] => { results := [.lit (.bool false)], args := [d1, d2, d3] }
  | _ => none }
def EnclosureEvalBoxWrongFalsely : Prop := enclosureEvalBoxRow.holds Tryz.pinned (OpenSpec.ofChange enclosureEvalBoxWrong)

/-- 'galoislaw19.EnclosureShrinks': WHATEVER THE INPUT: true; the input reads as it did. -/
def enclosureShrinksSpec : ChangeSpec := { name := "enclosureShrinks", fn := fun _ => fun
  | [d1, d2, d3] => { results := [.lit (.bool true)], args := [d1, d2, d3] }
  | _ => none }
def enclosureShrinksRow : OpenClaim := { program := "ythghchjbomlpfaagreat", sum := "b0b1c02c2a90b950ddec9edc1487d697a9a5d49854fa926f8fa2d90fe8cb7d5b", func := "galois/galoislaw19.EnclosureShrinks", spec := "enclosureShrinks", inPlace := ["math/bits.Add64", "math/bits.Sub64"], named := ["math/bits.divideError", "math/bits.overflowError"], apart := false }
def EnclosureShrinksSaid : Prop := enclosureShrinksRow.holds Tryz.pinned (OpenSpec.ofChange enclosureShrinksSpec)

/-- ITS FALSE NEIGHBOUR: 'it returns false'. Refute it at one input. -/
def enclosureShrinksWrong : ChangeSpec := { name := "enclosureShrinks", fn := fun _ => fun
  | [d1, d2, d3] => { results := [.lit (.bool false)], args := [d1, d2, d3] }
  | _ => none }
def EnclosureShrinksWrongFalsely : Prop := enclosureShrinksRow.holds Tryz.pinned (OpenSpec.ofChange enclosureShrinksWrong)

/-- 'galoislaw19.EnclosureComplex': WHATEVER THE INPUT: true; the input reads as it did. -/
def enclosureComplexSpec : ChangeSpec := { name := "enclosureComplex", fn := fun _ => fun
  | [d1, d2, d3] => { results := [.lit (.bool true)], args := [d1, d2, d3] }
  | _ => none }
def enclosureComplexRow : OpenClaim := { program := "ythghchjbomlpfaagreat", sum := "b0b1c02c2a90b950ddec9edc1487d697a9a5d49854fa926f8fa2d90fe8cb7d5b", func := "galois/galoislaw19.EnclosureComplex", spec := "enclosureComplex", inPlace := ["math/bits.Add64", "math/bits.Sub64"], unfollowed := true, recurses := true, named := ["math/bits.divideError", "math/bits.overflowError"], apart := false }
def EnclosureComplexSaid : Prop := enclosureComplexRow.holds Tryz.pinned (OpenSpec.ofChange enclosureComplexSpec)

/-- ITS FALSE NEIGHBOUR: 'it returns false'. Refute it at one input. -/
def enclosureComplexWrong : ChangeSpec := { name := "enclosureComplex", fn := fun _ => fun
  | [d1, d2, d3] => { results := [.lit (.bool false)], args := [d1, d2, d3] }
  | _ => none }
def EnclosureComplexWrongFalsely : Prop := enclosureComplexRow.holds Tryz.pinned (OpenSpec.ofChange enclosureComplexWrong)

/-- 'galoislaw19.EnclosureBoxes': WHATEVER THE INPUT: true; the input reads as it did. -/
def enclosureBoxesSpec : ChangeSpec := { name := "enclosureBoxes", fn := fun _ => fun
  | [d1, d2, d3] => { results := [.lit (.bool true)], args := [d1, d2, d3] }
  | _ => none }
def enclosureBoxesRow : OpenClaim := { program := "ythghchjbomlpfaagreat", sum := "b0b1c02c2a90b950ddec9edc1487d697a9a5d49854fa926f8fa2d90fe8cb7d5b", func := "galois/galoislaw19.EnclosureBoxes", spec := "enclosureBoxes", inPlace := ["math/bits.Add64", "math/bits.Sub64"], unfollowed := true, recurses := true, named := ["math/bits.divideError", "math/bits.overflowError"], apart := false }
def EnclosureBoxesSaid : Prop := enclosureBoxesRow.holds Tryz.pinned (OpenSpec.ofChange enclosureBoxesSpec)

/-- ITS FALSE NEIGHBOUR: 'it returns false'. Refute it at one input. -/
def enclosureBoxesWrong : ChangeSpec := { name := "enclosureBoxes", fn := fun _ => fun
  | [d1, d2, d3] => { results := [.lit (.bool false)], args := [d1, d2, d3] }
  | _ => none }
def EnclosureBoxesWrongFalsely : Prop := enclosureBoxesRow.holds Tryz.pinned (OpenSpec.ofChange enclosureBoxesWrong)

/-- 'galoislaw19.EnclosureSets': WHATEVER THE INPUT: true; the input reads as it did. -/
def enclosureSetsSpec : ChangeSpec := { name := "enclosureSets", fn := fun _ => fun
  | [d1, d2, d3] => { results := [.lit (.bool true)], args := [d1, d2, d3] }
  | _ => none }
def enclosureSetsRow : OpenClaim := { program := "ythghchjbomlpfaagreat", sum := "b0b1c02c2a90b950ddec9edc1487d697a9a5d49854fa926f8fa2d90fe8cb7d5b", func := "galois/galoislaw19.EnclosureSets", spec := "enclosureSets", inPlace := ["math/bits.Add64", "math/bits.Sub64"], unfollowed := true, recurses := true, named := ["math/bits.divideError", "math/bits.overflowError"], apart := false }
def EnclosureSetsSaid : Prop := enclosureSetsRow.holds Tryz.pinned (OpenSpec.ofChange enclosureSetsSpec)

/-- ITS FALSE NEIGHBOUR: 'it returns false'. Refute it at one input. -/
def enclosureSetsWrong : ChangeSpec := { name := "enclosureSets", fn := fun _ => fun
  | [d1, d2, d3] => { results := [.lit (.bool false)], args := [d1, d2, d3] }
  | _ => none }
def EnclosureSetsWrongFalsely : Prop := enclosureSetsRow.holds Tryz.pinned (OpenSpec.ofChange enclosureSetsWrong)

/- THE SECOND FORM. 'bulk': how many values and letters a reading holds, each counted each time it is reached (what is shared counts as often as it is met; a slice's spare places count too). A statement '..UptoSaid' is the law's where the arguments, and the package variables that the reading takes, are together of bulk at most 1048576: NARROWER than '..Said'. Prove '..Said' where nothing that the law and all that it calls make is longer than what came in: it says more and counts as full. Else prove '..UptoSaid'. A law counts once. -/
mutual
def uptoBulk {H : Type} : DataW H → Nat
  | .lit (.string bytes) => bytes.length + 1
  | .lit _ => 1
  | .nil => 1
  | .ptr d => uptoBulk d + 1
  | .slice elems spare => uptoBulkAll elems + uptoBulkAll spare + 1
  | .agg parts => uptoBulkAll parts + 1
  | .iface _ d => uptoBulk d + 1
  | .map entries => uptoBulkEntries entries + 1
  | .held _ => 1
def uptoBulkAll {H : Type} : List (DataW H) → Nat
  | [] => 0
  | d :: r => uptoBulk d + uptoBulkAll r
def uptoBulkEntries {H : Type} : List (Lit × DataW H) → Nat
  | [] => 0
  | x :: r => uptoBulkEntry x + uptoBulkEntries r
def uptoBulkEntry {H : Type} : Lit × DataW H → Nat
  | (.string bytes, d) => bytes.length + uptoBulk d + 1
  | (_, d) => uptoBulk d + 1
 end
def uptoSmall : (H : Type) → List (DataW H) → Bool := fun _ ds => decide (uptoBulkAll ds ≤ 1048576)
def OpenSpec.upto (s : _root_.Go.ChangeSpec) : _root_.Go.OpenSpec := { _root_.Go.OpenSpec.ofChange s with cond := some uptoSmall }

/-- 'galoislaw19.EnclosureChecks', WHERE WHAT IT READS IS OF BULK AT MOST 1048576: true; the input reads as it did. -/
def enclosureChecksUptoRow : OpenClaim := { program := "ythghchjbomlpfaagreat", sum := "b0b1c02c2a90b950ddec9edc1487d697a9a5d49854fa926f8fa2d90fe8cb7d5b", func := "galois/galoislaw19.EnclosureChecks", spec := "enclosureChecks", inPlace := ["math/bits.Add64", "math/bits.Sub64"], named := ["math/bits.divideError", "math/bits.overflowError"], apart := false, narrowed := true }
def EnclosureChecksUptoSaid : Prop := enclosureChecksUptoRow.holds Tryz.pinned (OpenSpec.upto enclosureChecksSpec)

/-- 'galoislaw19.EnclosureEvaluates', WHERE WHAT IT READS IS OF BULK AT MOST 1048576: true; the input reads as it did. -/
def enclosureEvaluatesUptoRow : OpenClaim := { program := "ythghchjbomlpfaagreat", sum := "b0b1c02c2a90b950ddec9edc1487d697a9a5d49854fa926f8fa2d90fe8cb7d5b", func := "galois/galoislaw19.EnclosureEvaluates", spec := "enclosureEvaluates", inPlace := ["math/bits.Add64", "math/bits.Sub64"], unfollowed := true, recurses := true, named := ["math/bits.divideError", "math/bits.overflowError"], apart := false, narrowed := true }
def EnclosureEvaluatesUptoSaid : Prop := enclosureEvaluatesUptoRow.holds Tryz.pinned (OpenSpec.upto enclosureEvaluatesSpec)

/-- 'galoislaw19.EnclosureRounds', WHERE WHAT IT READS IS OF BULK AT MOST 1048576: true; the input reads as it did. -/
def enclosureRoundsUptoRow : OpenClaim := { program := "ythghchjbomlpfaagreat", sum := "b0b1c02c2a90b950ddec9edc1487d697a9a5d49854fa926f8fa2d90fe8cb7d5b", func := "galois/galoislaw19.EnclosureRounds", spec := "enclosureRounds", inPlace := ["math/bits.Add64", "math/bits.Sub64"], unfollowed := true, recurses := true, named := ["math/bits.divideError", "math/bits.overflowError"], apart := false, narrowed := true }
def EnclosureRoundsUptoSaid : Prop := enclosureRoundsUptoRow.holds Tryz.pinned (OpenSpec.upto enclosureRoundsSpec)

/-- 'galoislaw19.EnclosureArithmetic', WHERE WHAT IT READS IS OF BULK AT MOST 1048576: true; the input reads as it did. -/
def enclosureArithmeticUptoRow : OpenClaim := { program := "ythghchjbomlpfaagreat", sum := "b0b1c02c2a90b950ddec9edc1487d697a9a5d49854fa926f8fa2d90fe8cb7d5b", func := "galois/galoislaw19.EnclosureArithmetic", spec := "enclosureArithmetic", inPlace := ["math/bits.Add64", "math/bits.Sub64"], unfollowed := true, recurses := true, named := ["math/bits.divideError", "math/bits.overflowError"], apart := false, narrowed := true }
def EnclosureArithmeticUptoSaid : Prop := enclosureArithmeticUptoRow.holds Tryz.pinned (OpenSpec.upto enclosureArithmeticSpec)

/-- 'galoislaw19.EnclosureContains', WHERE WHAT IT READS IS OF BULK AT MOST 1048576: true; the input reads as it did. -/
def enclosureContainsUptoRow : OpenClaim := { program := "ythghchjbomlpfaagreat", sum := "b0b1c02c2a90b950ddec9edc1487d697a9a5d49854fa926f8fa2d90fe8cb7d5b", func := "galois/galoislaw19.EnclosureContains", spec := "enclosureContains", inPlace := ["math/bits.Add64", "math/bits.Sub64"], named := ["math/bits.divideError", "math/bits.overflowError"], apart := false, narrowed := true }
def EnclosureContainsUptoSaid : Prop := enclosureContainsUptoRow.holds Tryz.pinned (OpenSpec.upto enclosureContainsSpec)

/-- 'galoislaw19.EnclosureEvalBox', WHERE WHAT IT READS IS OF BULK AT MOST 1048576: true; the input reads as it did. -/
def enclosureEvalBoxUptoRow : OpenClaim := { program := "ythghchjbomlpfaagreat", sum := "b0b1c02c2a90b950ddec9edc1487d697a9a5d49854fa926f8fa2d90fe8cb7d5b", func := "galois/galoislaw19.EnclosureEvalBox", spec := "enclosureEvalBox", inPlace := ["math/bits.Add64", "math/bits.Sub64"], unfollowed := true, recurses := true, named := ["math/bits.divideError", "math/bits.overflowError"], apart := false, narrowed := true }
def EnclosureEvalBoxUptoSaid : Prop := enclosureEvalBoxUptoRow.holds Tryz.pinned (OpenSpec.upto enclosureEvalBoxSpec)

/-- 'galoislaw19.EnclosureShrinks', WHERE WHAT IT READS IS OF BULK AT MOST 1048576: true; the input reads as it did. -/
def enclosureShrinksUptoRow : OpenClaim := { program := "ythghchjbomlpfaagreat", sum := "b0b1c02c2a90b950ddec9edc1487d697a9a5d49854fa926f8fa2d90fe8cb7d5b", func := "galois/galoislaw19.EnclosureShrinks", spec := "enclosureShrinks", inPlace := ["math/bits.Add64", "math/bits.Sub64"], named := ["math/bits.divideError", "math/bits.overflowError"], apart := false, narrowed := true }
def EnclosureShrinksUptoSaid : Prop := enclosureShrinksUptoRow.holds Tryz.pinned (OpenSpec.upto enclosureShrinksSpec)

/-- 'galoislaw19.EnclosureComplex', WHERE WHAT IT READS IS OF BULK AT MOST 1048576: true; the input reads as it did. -/
def enclosureComplexUptoRow : OpenClaim := { program := "ythghchjbomlpfaagreat", sum := "b0b1c02c2a90b950ddec9edc1487d697a9a5d49854fa926f8fa2d90fe8cb7d5b", func := "galois/galoislaw19.EnclosureComplex", spec := "enclosureComplex", inPlace := ["math/bits.Add64", "math/bits.Sub64"], unfollowed := true, recurses := true, named := ["math/bits.divideError", "math/bits.overflowError"], apart := false, narrowed := true }
def EnclosureComplexUptoSaid : Prop := enclosureComplexUptoRow.holds Tryz.pinned (OpenSpec.upto enclosureComplexSpec)

/-- 'galoislaw19.EnclosureBoxes', WHERE WHAT IT READS IS OF BULK AT MOST 1048576: true; the input reads as it did. -/
def enclosureBoxesUptoRow : OpenClaim := { program := "ythghchjbomlpfaagreat", sum := "b0b1c02c2a90b950ddec9edc1487d697a9a5d49854fa926f8fa2d90fe8cb7d5b", func := "galois/galoislaw19.EnclosureBoxes", spec := "enclosureBoxes", inPlace := ["math/bits.Add64", "math/bits.Sub64"], unfollowed := true, recurses := true, named := ["math/bits.divideError", "math/bits.overflowError"], apart := false, narrowed := true }
def EnclosureBoxesUptoSaid : Prop := enclosureBoxesUptoRow.holds Tryz.pinned (OpenSpec.upto enclosureBoxesSpec)

/-- 'galoislaw19.EnclosureSets', WHERE WHAT IT READS IS OF BULK AT MOST 1048576: true; the input reads as it did. -/
def enclosureSetsUptoRow : OpenClaim := { program := "ythghchjbomlpfaagreat", sum := "b0b1c02c2a90b950ddec9edc1487d697a9a5d49854fa926f8fa2d90fe8cb7d5b", func := "galois/galoislaw19.EnclosureSets", spec := "enclosureSets", inPlace := ["math/bits.Add64", "math/bits.Sub64"], unfollowed := true, recurses := true, named := ["math/bits.divideError", "math/bits.overflowError"], apart := false, narrowed := true }
def EnclosureSetsUptoSaid : Prop := enclosureSetsUptoRow.holds Tryz.pinned (OpenSpec.upto enclosureSetsSpec)

end Rows
end Go.Proofs.YthghchjbomlpfaaGreat
