/-
  No cell of these rows narrows 'for every input' (looked for: loops, veiled, ifaces, maps, wideKeys, modest, calm, conditions, laid).
  DERIVED. THE GIVEN ROWS OF THIS SEAT. 11 by the template 'for every input the law returns true; each argument reads behind the call as it read before'; 0 by the template 'total and deterministic' (their statements: YtepmacimknblpaaTotals.lean).
  GIVEN WITH THE SEED: the statements are not yours to turn. If you find one false, say at which input.
  Laid BY PROGRAM, IN A SANDBOX (cutbox-rows.mjs): the forced cells as the released guide's own fill.sh prints them over the translation 742297fa11bfae42… (all of the seat's roots in one cut). By AI agents, Wed Nov 11 2026. No macro, syntax, notation, axiom, sorry.
-/
import Derived.Test.YtepmacimknblpaaChecked
import GoSem.Claim
import GoSem.ClaimJoined
import GoSem.ClaimMapViews
import Derived.JoinedTies
import Derived.KernelRfl
namespace Go.Proofs.Ytepmacimknblpaa
/- THE CELL 'sum', in the pinned program and in every row, IS THE sha256 OF THE DUMP (.gsa) THAT YtepmacimknblpaaProg.lean LOADS. Nothing in Lean hashes anything: it is a label: what it is worth is what the hold of that sum in a sandbox is worth. -/
noncomputable def Try.pinned : Pinned := { name := "ytepmacimknblpaa", sum := "742297fa11bfae42543c9d672f54622079622ed768d2292b0f2b28c81304623c", checked := Try.checked }
namespace Rows
def none {H : Type} : Left H := { results := [], args := [] }

/-- 'mandrellaw02.NumUnary': WHATEVER THE INPUT: true; the input reads as it did. -/
def numUnarySpec : ChangeSpec := { name := "numUnary", fn := fun _ => fun
  | [d1, d2, d3] => { results := [.lit (.bool true)], args := [d1, d2, d3] }
  | _ => none }
def numUnaryRow : OpenClaim := { program := "ytepmacimknblpaa", sum := "742297fa11bfae42543c9d672f54622079622ed768d2292b0f2b28c81304623c", func := "mandrel/mandrellaw02.NumUnary", spec := "numUnary", inPlace := ["math.Float32frombits", "math.sqrt", "math.Float32bits", "math.archFloor", "math.Float64bits", "math.Float64frombits", "math.archTrunc"], recurses := true, apart := false }
def NumUnarySaid : Prop := numUnaryRow.holds Try.pinned (OpenSpec.ofChange numUnarySpec)

/-- ITS FALSE NEIGHBOUR: 'it returns false'. Refute it at one input. -/
def numUnaryWrong : ChangeSpec := { name := "numUnary", fn := fun _ => fun
  | [d1, d2, d3] => { results := [.lit (.bool false)], args := [d1, d2, d3] }
  | _ => none }
def NumUnaryWrongFalsely : Prop := numUnaryRow.holds Try.pinned (OpenSpec.ofChange numUnaryWrong)

/-- 'mandrellaw02.NumBinary': WHATEVER THE INPUT: true; the input reads as it did. -/
def numBinarySpec : ChangeSpec := { name := "numBinary", fn := fun _ => fun
  | [d1, d2, d3] => { results := [.lit (.bool true)], args := [d1, d2, d3] }
  | _ => none }
def numBinaryRow : OpenClaim := { program := "ytepmacimknblpaa", sum := "742297fa11bfae42543c9d672f54622079622ed768d2292b0f2b28c81304623c", func := "mandrel/mandrellaw02.NumBinary", spec := "numBinary", inPlace := ["math.Float32frombits", "math.Float32bits", "math.sqrt", "math.archFloor", "math.Float64bits", "math.Float64frombits", "math.archTrunc"], apart := false }
def NumBinarySaid : Prop := numBinaryRow.holds Try.pinned (OpenSpec.ofChange numBinarySpec)

/-- ITS FALSE NEIGHBOUR: 'it returns false'. Refute it at one input. -/
def numBinaryWrong : ChangeSpec := { name := "numBinary", fn := fun _ => fun
  | [d1, d2, d3] => { results := [.lit (.bool false)], args := [d1, d2, d3] }
  | _ => none }
def NumBinaryWrongFalsely : Prop := numBinaryRow.holds Try.pinned (OpenSpec.ofChange numBinaryWrong)

/-- 'mandrellaw02.NumCast': WHATEVER THE INPUT: true; the input reads as it did. -/
def numCastSpec : ChangeSpec := { name := "numCast", fn := fun _ => fun
  | [d1, d2, d3] => { results := [.lit (.bool true)], args := [d1, d2, d3] }
  | _ => none }
def numCastRow : OpenClaim := { program := "ytepmacimknblpaa", sum := "742297fa11bfae42543c9d672f54622079622ed768d2292b0f2b28c81304623c", func := "mandrel/mandrellaw02.NumCast", spec := "numCast", inPlace := ["math.Float32bits", "math.Float32frombits", "math.sqrt", "math.archFloor", "math.Float64bits", "math.Float64frombits", "math.archTrunc"], apart := false }
def NumCastSaid : Prop := numCastRow.holds Try.pinned (OpenSpec.ofChange numCastSpec)

/-- ITS FALSE NEIGHBOUR: 'it returns false'. Refute it at one input. -/
def numCastWrong : ChangeSpec := { name := "numCast", fn := fun _ => fun
  | [d1, d2, d3] => { results := [.lit (.bool false)], args := [d1, d2, d3] }
  | _ => none }
def NumCastWrongFalsely : Prop := numCastRow.holds Try.pinned (OpenSpec.ofChange numCastWrong)

/-- 'mandrellaw02.NumStays': WHATEVER THE INPUT: true; the input reads as it did. -/
def numStaysSpec : ChangeSpec := { name := "numStays", fn := fun _ => fun
  | [d1, d2, d3] => { results := [.lit (.bool true)], args := [d1, d2, d3] }
  | _ => none }
def numStaysRow : OpenClaim := { program := "ytepmacimknblpaa", sum := "742297fa11bfae42543c9d672f54622079622ed768d2292b0f2b28c81304623c", func := "mandrel/mandrellaw02.NumStays", spec := "numStays", inPlace := ["math.Float32frombits", "math.sqrt", "math.Float32bits", "math.archFloor", "math.Float64bits", "math.Float64frombits", "math.archTrunc"], apart := false }
def NumStaysSaid : Prop := numStaysRow.holds Try.pinned (OpenSpec.ofChange numStaysSpec)

/-- ITS FALSE NEIGHBOUR: 'it returns false'. Refute it at one input. -/
def numStaysWrong : ChangeSpec := { name := "numStays", fn := fun _ => fun
  | [d1, d2, d3] => { results := [.lit (.bool false)], args := [d1, d2, d3] }
  | _ => none }
def NumStaysWrongFalsely : Prop := numStaysRow.holds Try.pinned (OpenSpec.ofChange numStaysWrong)

/-- 'mandrellaw02.NumTurns': WHATEVER THE INPUT: true; the input reads as it did. -/
def numTurnsSpec : ChangeSpec := { name := "numTurns", fn := fun _ => fun
  | [d1, d2, d3] => { results := [.lit (.bool true)], args := [d1, d2, d3] }
  | _ => none }
def numTurnsRow : OpenClaim := { program := "ytepmacimknblpaa", sum := "742297fa11bfae42543c9d672f54622079622ed768d2292b0f2b28c81304623c", func := "mandrel/mandrellaw02.NumTurns", spec := "numTurns", inPlace := ["math.Float32frombits", "math.Float32bits", "math.sqrt", "math.archFloor", "math.Float64bits", "math.Float64frombits", "math.archTrunc"], apart := false }
def NumTurnsSaid : Prop := numTurnsRow.holds Try.pinned (OpenSpec.ofChange numTurnsSpec)

/-- ITS FALSE NEIGHBOUR: 'it returns false'. Refute it at one input. -/
def numTurnsWrong : ChangeSpec := { name := "numTurns", fn := fun _ => fun
  | [d1, d2, d3] => { results := [.lit (.bool false)], args := [d1, d2, d3] }
  | _ => none }
def NumTurnsWrongFalsely : Prop := numTurnsRow.holds Try.pinned (OpenSpec.ofChange numTurnsWrong)

/-- 'mandrellaw02.NumLess': WHATEVER THE INPUT: true; the input reads as it did. -/
def numLessSpec : ChangeSpec := { name := "numLess", fn := fun _ => fun
  | [d1, d2] => { results := [.lit (.bool true)], args := [d1, d2] }
  | _ => none }
def numLessRow : OpenClaim := { program := "ytepmacimknblpaa", sum := "742297fa11bfae42543c9d672f54622079622ed768d2292b0f2b28c81304623c", func := "mandrel/mandrellaw02.NumLess", spec := "numLess", inPlace := ["math.Float32frombits", "math.Float32bits", "math.sqrt", "math.archFloor", "math.Float64bits", "math.Float64frombits", "math.archTrunc"], apart := false }
def NumLessSaid : Prop := numLessRow.holds Try.pinned (OpenSpec.ofChange numLessSpec)

/-- ITS FALSE NEIGHBOUR: 'it returns false'. Refute it at one input. -/
def numLessWrong : ChangeSpec := { name := "numLess", fn := fun _ => fun
  | [d1, d2] => { results := [.lit (.bool false)], args := [d1, d2] }
  | _ => none }
def NumLessWrongFalsely : Prop := numLessRow.holds Try.pinned (OpenSpec.ofChange numLessWrong)

/-- 'mandrellaw02.NumTwice': WHATEVER THE INPUT: true; the input reads as it did. -/
def numTwiceSpec : ChangeSpec := { name := "numTwice", fn := fun _ => fun
  | [d1, d2, d3] => { results := [.lit (.bool true)], args := [d1, d2, d3] }
  | _ => none }
def numTwiceRow : OpenClaim := { program := "ytepmacimknblpaa", sum := "742297fa11bfae42543c9d672f54622079622ed768d2292b0f2b28c81304623c", func := "mandrel/mandrellaw02.NumTwice", spec := "numTwice", inPlace := ["math.Float32frombits", "math.sqrt", "math.Float32bits", "math.archFloor", "math.Float64bits", "math.Float64frombits", "math.archTrunc"], apart := false }
def NumTwiceSaid : Prop := numTwiceRow.holds Try.pinned (OpenSpec.ofChange numTwiceSpec)

/-- ITS FALSE NEIGHBOUR: 'it returns false'. Refute it at one input. -/
def numTwiceWrong : ChangeSpec := { name := "numTwice", fn := fun _ => fun
  | [d1, d2, d3] => { results := [.lit (.bool false)], args := [d1, d2, d3] }
  | _ => none }
def NumTwiceWrongFalsely : Prop := numTwiceRow.holds Try.pinned (OpenSpec.ofChange numTwiceWrong)

/-- 'mandrellaw02.NumThere': WHATEVER THE INPUT: true; the input reads as it did. -/
def numThereSpec : ChangeSpec := { name := "numThere", fn := fun _ => fun
  | [d] => { results := [.lit (.bool true)], args := [d] }
  | _ => none }
def numThereRow : OpenClaim := { program := "ytepmacimknblpaa", sum := "742297fa11bfae42543c9d672f54622079622ed768d2292b0f2b28c81304623c", func := "mandrel/mandrellaw02.NumThere", spec := "numThere", inPlace := ["math.Float32bits", "math.Float32frombits", "math.sqrt", "math.archFloor", "math.Float64bits", "math.Float64frombits", "math.archTrunc"], apart := false }
def NumThereSaid : Prop := numThereRow.holds Try.pinned (OpenSpec.ofChange numThereSpec)

/-- ITS FALSE NEIGHBOUR: 'it returns false'. Refute it at one input. -/
def numThereWrong : ChangeSpec := { name := "numThere", fn := fun _ => fun
  | [d] => { results := [.lit (.bool false)], args := [d] }
  | _ => none }
def NumThereWrongFalsely : Prop := numThereRow.holds Try.pinned (OpenSpec.ofChange numThereWrong)

/-- 'mandrellaw02.NumMinus': WHATEVER THE INPUT: true; the input reads as it did. -/
def numMinusSpec : ChangeSpec := { name := "numMinus", fn := fun _ => fun
  | [d1, d2] => { results := [.lit (.bool true)], args := [d1, d2] }
  | _ => none }
def numMinusRow : OpenClaim := { program := "ytepmacimknblpaa", sum := "742297fa11bfae42543c9d672f54622079622ed768d2292b0f2b28c81304623c", func := "mandrel/mandrellaw02.NumMinus", spec := "numMinus", inPlace := ["math.Float32frombits", "math.Float32bits", "math.sqrt", "math.archFloor", "math.Float64bits", "math.Float64frombits", "math.archTrunc"], apart := false }
def NumMinusSaid : Prop := numMinusRow.holds Try.pinned (OpenSpec.ofChange numMinusSpec)

/-- ITS FALSE NEIGHBOUR: 'it returns false'. Refute it at one input. -/
def numMinusWrong : ChangeSpec := { name := "numMinus", fn := fun _ => fun
  | [d1, d2] => { results := [.lit (.bool false)], args := [d1, d2] }
  | _ => none }
def NumMinusWrongFalsely : Prop := numMinusRow.holds Try.pinned (OpenSpec.ofChange numMinusWrong)

/-- 'mandrellaw02.NumAbs': WHATEVER THE INPUT: true; the input reads as it did. -/
def numAbsSpec : ChangeSpec := { name := "numAbs", fn := fun _ => fun
  | [d1, d2] => { results := [.lit (.bool true)], args := [d1, d2] }
  | _ => none }
def numAbsRow : OpenClaim := { program := "ytepmacimknblpaa", sum := "742297fa11bfae42543c9d672f54622079622ed768d2292b0f2b28c81304623c", func := "mandrel/mandrellaw02.NumAbs", spec := "numAbs", inPlace := ["math.Float32frombits", "math.sqrt", "math.Float32bits", "math.archFloor", "math.Float64bits", "math.Float64frombits", "math.archTrunc"], apart := false }
def NumAbsSaid : Prop := numAbsRow.holds Try.pinned (OpenSpec.ofChange numAbsSpec)

/-- ITS FALSE NEIGHBOUR: 'it returns false'. Refute it at one input. -/
def numAbsWrong : ChangeSpec := { name := "numAbs", fn := fun _ => fun
  | [d1, d2] => { results := [.lit (.bool false)], args := [d1, d2] }
  | _ => none }
def NumAbsWrongFalsely : Prop := numAbsRow.holds Try.pinned (OpenSpec.ofChange numAbsWrong)

/-- 'mandrellaw02.NumBoth': WHATEVER THE INPUT: true; the input reads as it did. -/
def numBothSpec : ChangeSpec := { name := "numBoth", fn := fun _ => fun
  | [d1, d2] => { results := [.lit (.bool true)], args := [d1, d2] }
  | _ => none }
def numBothRow : OpenClaim := { program := "ytepmacimknblpaa", sum := "742297fa11bfae42543c9d672f54622079622ed768d2292b0f2b28c81304623c", func := "mandrel/mandrellaw02.NumBoth", spec := "numBoth", inPlace := ["math.Float32frombits", "math.Float32bits", "math.sqrt", "math.archFloor", "math.Float64bits", "math.Float64frombits", "math.archTrunc"], apart := false }
def NumBothSaid : Prop := numBothRow.holds Try.pinned (OpenSpec.ofChange numBothSpec)

/-- ITS FALSE NEIGHBOUR: 'it returns false'. Refute it at one input. -/
def numBothWrong : ChangeSpec := { name := "numBoth", fn := fun _ => fun
  | [d1, d2] => { results := [.lit (.bool false)], args := [d1, d2] }
  | _ => none }
def NumBothWrongFalsely : Prop := numBothRow.holds Try.pinned (OpenSpec.ofChange numBothWrong)

/- THE SECOND FORM. 'bulk': how many values and letters a reading holds, each counted each time it is reached (what is shared counts as often as it is met; a slice's spare places count too). A statement '..UptoSaid' is the law's where the arguments, and the package variables that the reading takes, are together of bulk at most 1048576: NARROWER than '..Said'. Prove '..Said' where nothing that the law and all that it calls make is longer than what came in: it says more and counts as full. Else prove '..UptoSaid'. A law counts once. -/
mutual
def uptoBulk {H : Type} : DataW H → Nat
  | .lit (.string bytes) => bytes.length + 1
  | .lit _ => 1
  | .nil => 1
  | .ptr d => uptoBulk d + 1
  | .slice elems spare => uptoBulkAll elems + uptoBulkAll spare + 1
  | .agg parts => uptoBulkAll parts + 1
  | .iface _ d => uptoBulk d + 1
  | .map entries => uptoBulkEntries entries + 1
  | .held _ => 1
def uptoBulkAll {H : Type} : List (DataW H) → Nat
  | [] => 0
  | d :: r => uptoBulk d + uptoBulkAll r
def uptoBulkEntries {H : Type} : List (Lit × DataW H) → Nat
  | [] => 0
  | x :: r => uptoBulkEntry x + uptoBulkEntries r
def uptoBulkEntry {H : Type} : Lit × DataW H → Nat
  | (.string bytes, d) => bytes.length + uptoBulk d + 1
  | (_, d) => uptoBulk d + 1
 end
def uptoSmall : (H : Type) → List (DataW H) → Bool := fun _ ds => decide (uptoBulkAll ds ≤ 1048576)
def OpenSpec.upto (s : _root_.Go.ChangeSpec) : _root_.Go.OpenSpec := { _root_.Go.OpenSpec.ofChange s with cond := some uptoSmall }

/-- 'mandrellaw02.NumUnary', WHERE WHAT IT READS IS OF BULK AT MOST 1048576: true; the input reads as it did. -/
def numUnaryUptoRow : OpenClaim := { program := "ytepmacimknblpaa", sum := "742297fa11bfae42543c9d672f54622079622ed768d2292b0f2b28c81304623c", func := "mandrel/mandrellaw02.NumUnary", spec := "numUnary", inPlace := ["math.Float32frombits", "math.sqrt", "math.Float32bits", "math.archFloor", "math.Float64bits", "math.Float64frombits", "math.archTrunc"], recurses := true, apart := false, narrowed := true }
def NumUnaryUptoSaid : Prop := numUnaryUptoRow.holds Try.pinned (OpenSpec.upto numUnarySpec)

/-- 'mandrellaw02.NumBinary', WHERE WHAT IT READS IS OF BULK AT MOST 1048576: true; the input reads as it did. -/
def numBinaryUptoRow : OpenClaim := { program := "ytepmacimknblpaa", sum := "742297fa11bfae42543c9d672f54622079622ed768d2292b0f2b28c81304623c", func := "mandrel/mandrellaw02.NumBinary", spec := "numBinary", inPlace := ["math.Float32frombits", "math.Float32bits", "math.sqrt", "math.archFloor", "math.Float64bits", "math.Float64frombits", "math.archTrunc"], apart := false, narrowed := true }
def NumBinaryUptoSaid : Prop := numBinaryUptoRow.holds Try.pinned (OpenSpec.upto numBinarySpec)

/-- 'mandrellaw02.NumCast', WHERE WHAT IT READS IS OF BULK AT MOST 1048576: true; the input reads as it did. -/
def numCastUptoRow : OpenClaim := { program := "ytepmacimknblpaa", sum := "742297fa11bfae42543c9d672f54622079622ed768d2292b0f2b28c81304623c", func := "mandrel/mandrellaw02.NumCast", spec := "numCast", inPlace := ["math.Float32bits", "math.Float32frombits", "math.sqrt", "math.archFloor", "math.Float64bits", "math.Float64frombits", "math.archTrunc"], apart := false, narrowed := true }
def NumCastUptoSaid : Prop := numCastUptoRow.holds Try.pinned (OpenSpec.upto numCastSpec)

/-- 'mandrellaw02.NumStays', WHERE WHAT IT READS IS OF BULK AT MOST 1048576: true; the input reads as it did. -/
def numStaysUptoRow : OpenClaim := { program := "ytepmacimknblpaa", sum := "742297fa11bfae42543c9d672f54622079622ed768d2292b0f2b28c81304623c", func := "mandrel/mandrellaw02.NumStays", spec := "numStays", inPlace := ["math.Float32frombits", "math.sqrt", "math.Float32bits", "math.archFloor", "math.Float64bits", "math.Float64frombits", "math.archTrunc"], apart := false, narrowed := true }
def NumStaysUptoSaid : Prop := numStaysUptoRow.holds Try.pinned (OpenSpec.upto numStaysSpec)

/-- 'mandrellaw02.NumTurns', WHERE WHAT IT READS IS OF BULK AT MOST 1048576: true; the input reads as it did. -/
def numTurnsUptoRow : OpenClaim := { program := "ytepmacimknblpaa", sum := "742297fa11bfae42543c9d672f54622079622ed768d2292b0f2b28c81304623c", func := "mandrel/mandrellaw02.NumTurns", spec := "numTurns", inPlace := ["math.Float32frombits", "math.Float32bits", "math.sqrt", "math.archFloor", "math.Float64bits", "math.Float64frombits", "math.archTrunc"], apart := false, narrowed := true }
def NumTurnsUptoSaid : Prop := numTurnsUptoRow.holds Try.pinned (OpenSpec.upto numTurnsSpec)

/-- 'mandrellaw02.NumLess', WHERE WHAT IT READS IS OF BULK AT MOST 1048576: true; the input reads as it did. -/
def numLessUptoRow : OpenClaim := { program := "ytepmacimknblpaa", sum := "742297fa11bfae42543c9d672f54622079622ed768d2292b0f2b28c81304623c", func := "mandrel/mandrellaw02.NumLess", spec := "numLess", inPlace := ["math.Float32frombits", "math.Float32bits", "math.sqrt", "math.archFloor", "math.Float64bits", "math.Float64frombits", "math.archTrunc"], apart := false, narrowed := true }
def NumLessUptoSaid : Prop := numLessUptoRow.holds Try.pinned (OpenSpec.upto numLessSpec)

/-- 'mandrellaw02.NumTwice', WHERE WHAT IT READS IS OF BULK AT MOST 1048576: true; the input reads as it did. -/
def numTwiceUptoRow : OpenClaim := { program := "ytepmacimknblpaa", sum := "742297fa11bfae42543c9d672f54622079622ed768d2292b0f2b28c81304623c", func := "mandrel/mandrellaw02.NumTwice", spec := "numTwice", inPlace := ["math.Float32frombits", "math.sqrt", "math.Float32bits", "math.archFloor", "math.Float64bits", "math.Float64frombits", "math.archTrunc"], apart := false, narrowed := true }
def NumTwiceUptoSaid : Prop := numTwiceUptoRow.holds Try.pinned (OpenSpec.upto numTwiceSpec)

/-- 'mandrellaw02.NumThere', WHERE WHAT IT READS IS OF BULK AT MOST 1048576: true; the input reads as it did. -/
def numThereUptoRow : OpenClaim := { program := "ytepmacimknblpaa", sum := "742297fa11bfae42543c9d672f54622079622ed768d2292b0f2b28c81304623c", func := "mandrel/mandrellaw02.NumThere", spec := "numThere", inPlace := ["math.Float32bits", "math.Float32frombits", "math.sqrt", "math.archFloor", "math.Float64bits", "math.Float64frombits", "math.archTrunc"], apart := false, narrowed := true }
def NumThereUptoSaid : Prop := numThereUptoRow.holds Try.pinned (OpenSpec.upto numThereSpec)

/-- 'mandrellaw02.NumMinus', WHERE WHAT IT READS IS OF BULK AT MOST 1048576: true; the input reads as it did. -/
def numMinusUptoRow : OpenClaim := { program := "ytepmacimknblpaa", sum := "742297fa11bfae42543c9d672f54622079622ed768d2292b0f2b28c81304623c", func := "mandrel/mandrellaw02.NumMinus", spec := "numMinus", inPlace := ["math.Float32frombits", "math.Float32bits", "math.sqrt", "math.archFloor", "math.Float64bits", "math.Float64frombits", "math.archTrunc"], apart := false, narrowed := true }
def NumMinusUptoSaid : Prop := numMinusUptoRow.holds Try.pinned (OpenSpec.upto numMinusSpec)

/-- 'mandrellaw02.NumAbs', WHERE WHAT IT READS IS OF BULK AT MOST 1048576: true; the input reads as it did. -/
def numAbsUptoRow : OpenClaim := { program := "ytepmacimknblpaa", sum := "742297fa11bfae42543c9d672f54622079622ed768d2292b0f2b28c81304623c", func := "mandrel/mandrellaw02.NumAbs", spec := "numAbs", inPlace := ["math.Float32frombits", "math.sqrt", "math.Float32bits", "math.archFloor", "math.Float64bits", "math.Float64frombits", "math.archTrunc"], apart := false, narrowed := true }
def NumAbsUptoSaid : Prop := numAbsUptoRow.holds Try.pinned (OpenSpec.upto numAbsSpec)

/-- 'mandrellaw02.NumBoth', WHERE WHAT IT READS IS OF BULK AT MOST 1048576: true; the input reads as it did. -/
def numBothUptoRow : OpenClaim := { program := "ytepmacimknblpaa", sum := "742297fa11bfae42543c9d672f54622079622ed768d2292b0f2b28c81304623c", func := "mandrel/mandrellaw02.NumBoth", spec := "numBoth", inPlace := ["math.Float32frombits", "math.Float32bits", "math.sqrt", "math.archFloor", "math.Float64bits", "math.Float64frombits", "math.archTrunc"], apart := false, narrowed := true }
def NumBothUptoSaid : Prop := numBothUptoRow.holds Try.pinned (OpenSpec.upto numBothSpec)

end Rows
end Go.Proofs.Ytepmacimknblpaa
