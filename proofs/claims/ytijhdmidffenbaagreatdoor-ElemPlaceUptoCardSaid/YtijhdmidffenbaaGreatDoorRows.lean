/-
  NARROWER THAN 'FOR EVERY INPUT', by the rows' own cells (each row's printed sentence says how): InferNames: laid · InferMay: laid · ElemMay: laid · ElemPlace: laid · ElemTurned: laid · ReduceMay: laid.
  DERIVED. THE GIVEN ROWS OF THIS SEAT. 6 by the template 'for every input the law returns true; each argument reads behind the call as it read before'; 0 by the template 'total and deterministic' (their statements: YtijhdmidffenbaaGreatDoorTotals.lean).
  GIVEN WITH THE SEED: the statements are not yours to turn. If you find one false, say at which input.
  Laid BY PROGRAM, IN A SANDBOX (cutbox-rows.mjs): the forced cells as the released guide's own fill.sh prints them over the translation 57db395007eb3487… (all of the seat's roots in one cut). By AI agents, Wed Nov 11 2026. No macro, syntax, notation, axiom, sorry.
-/
import Derived.Test.YtijhdmidffenbaaGreatDoorChecked
import GoSem.PinnedTables
import GoSem.Claim
import GoSem.ClaimJoined
import GoSem.ClaimMapViews
import Derived.JoinedTies
import Derived.KernelRfl
namespace Go.Proofs.YtijhdmidffenbaaGreatDoor
/- THE CELL 'sum', in the pinned program and in every row, IS THE sha256 OF THE DUMP (.gsa) THAT YtijhdmidffenbaaGreatDoorProg.lean LOADS. Nothing in Lean hashes anything: it is a label: what it is worth is what the hold of that sum in a sandbox is worth. -/
noncomputable def Tryz.pinned : Pinned := { name := "ytijhdmidffenbaagreatdoor", sum := "57db395007eb3487067444fd5288b1e48154f764c611fcdb38515166449a17c4", checked := Tryz.checked }
namespace Rows
def none {H : Type} : Left H := { results := [], args := [] }

/- WHAT THE LISTED PACKAGE-LEVEL VARIABLES READ AS WHEN THE CALL BEGINS. Each datum BY PROGRAM (the guide's laid-datum.mjs) off the statement by which the dump's own 'gosem.cut.vars' lays the variable. In a bare row this is a premise. The card (YtijhdmidffenbaaGreatDoorCards.lean) ties it to the program's text. -/
def laid_unicode_utf8_acceptRanges {H : Type} : DataW H := .agg [.agg [.lit (.int .u8 128), .lit (.int .u8 191)], .agg [.lit (.int .u8 160), .lit (.int .u8 191)], .agg [.lit (.int .u8 128), .lit (.int .u8 159)], .agg [.lit (.int .u8 144), .lit (.int .u8 191)], .agg [.lit (.int .u8 128), .lit (.int .u8 143)], .agg [.lit (.int .u8 0), .lit (.int .u8 0)], .agg [.lit (.int .u8 0), .lit (.int .u8 0)], .agg [.lit (.int .u8 0), .lit (.int .u8 0)], .agg [.lit (.int .u8 0), .lit (.int .u8 0)], .agg [.lit (.int .u8 0), .lit (.int .u8 0)], .agg [.lit (.int .u8 0), .lit (.int .u8 0)], .agg [.lit (.int .u8 0), .lit (.int .u8 0)], .agg [.lit (.int .u8 0), .lit (.int .u8 0)], .agg [.lit (.int .u8 0), .lit (.int .u8 0)], .agg [.lit (.int .u8 0), .lit (.int .u8 0)], .agg [.lit (.int .u8 0), .lit (.int .u8 0)]]
def laid_mandrel_schema_ones {H : Type} : DataW H := .agg [.lit (.string [73, 100, 101, 110, 116, 105, 116, 121]), .lit (.string [78, 101, 103]), .lit (.string [65, 98, 115]), .lit (.string [78, 111, 116]), .lit (.string [82, 101, 108, 117]), .lit (.string [83, 113, 114, 116]), .lit (.string [70, 108, 111, 111, 114]), .lit (.string [69, 120, 112]), .lit (.string [83, 105, 103, 109, 111, 105, 100]), .lit (.string [84, 97, 110, 104])]
/-- One of Go's own tables, pinned by name: the form's constant. -/
def laid_unicode_utf8_first : DataW Unit := Go.Pinned.utf8First

/-- 'mandrellaw08.InferNames': WHATEVER THE INPUT: true; the input reads as it did. -/
def inferNamesSpec : ChangeSpec := { name := "inferNames", fn := fun _ => fun
  | [d1, d2, d3] => { results := [.lit (.bool true)], args := [d1, d2, d3] }
  | _ => none }
def inferNamesRow : OpenClaim := { program := "ytijhdmidffenbaagreatdoor", sum := "57db395007eb3487067444fd5288b1e48154f764c611fcdb38515166449a17c4", func := "mandrel/mandrellaw08.InferNames", spec := "inferNames", inPlace := ["internal/bytealg.CountString", "internal/bytealg.IndexByteString", "internal/bytealg.IndexString", "math.Float32frombits", "math.sqrt", "math.Float32bits", "math.archFloor", "math.Float64bits", "math.Float64frombits", "math.archTrunc", "slices.overlaps[int]"], unfollowed := true, recurses := true, named := ["mandrel/schema.ones", "unicode/utf8.first", "unicode/utf8.acceptRanges", "internal/bytealg.MaxLen"], apart := false, laid := [("unicode/utf8.acceptRanges", laid_unicode_utf8_acceptRanges), ("mandrel/schema.ones", laid_mandrel_schema_ones), ("unicode/utf8.first", laid_unicode_utf8_first)] }
def InferNamesSaid : Prop := inferNamesRow.holds Tryz.pinned (OpenSpec.ofChange inferNamesSpec)

/-- ITS FALSE NEIGHBOUR: 'it returns false'. Refute it at one input. -/
def inferNamesWrong : ChangeSpec := { name := "inferNames", fn := fun _ => fun
  | [d1, d2, d3] => { results := [.lit (.bool false)], args := [d1, d2, d3] }
  | _ => none }
def InferNamesWrongFalsely : Prop := inferNamesRow.holds Tryz.pinned (OpenSpec.ofChange inferNamesWrong)

/-- 'mandrellaw08.InferMay': WHATEVER THE INPUT: true; the input reads as it did. -/
def inferMaySpec : ChangeSpec := { name := "inferMay", fn := fun _ => fun
  | [d1, d2] => { results := [.lit (.bool true)], args := [d1, d2] }
  | _ => none }
def inferMayRow : OpenClaim := { program := "ytijhdmidffenbaagreatdoor", sum := "57db395007eb3487067444fd5288b1e48154f764c611fcdb38515166449a17c4", func := "mandrel/mandrellaw08.InferMay", spec := "inferMay", inPlace := ["internal/bytealg.CountString", "internal/bytealg.IndexByteString", "internal/bytealg.IndexString", "math.Float32frombits", "math.sqrt", "math.Float32bits", "math.archFloor", "math.Float64bits", "math.Float64frombits", "math.archTrunc", "slices.overlaps[int]"], unfollowed := true, recurses := true, named := ["mandrel/schema.ones", "unicode/utf8.first", "unicode/utf8.acceptRanges", "internal/bytealg.MaxLen"], apart := false, laid := [("unicode/utf8.acceptRanges", laid_unicode_utf8_acceptRanges), ("mandrel/schema.ones", laid_mandrel_schema_ones), ("unicode/utf8.first", laid_unicode_utf8_first)] }
def InferMaySaid : Prop := inferMayRow.holds Tryz.pinned (OpenSpec.ofChange inferMaySpec)

/-- ITS FALSE NEIGHBOUR: 'it returns false'. Refute it at one input. -/
def inferMayWrong : ChangeSpec := { name := "inferMay", fn := fun _ => fun
  | [d1, d2] => { results := [.lit (.bool false)], args := [d1, d2] }
  | _ => none }
def InferMayWrongFalsely : Prop := inferMayRow.holds Tryz.pinned (OpenSpec.ofChange inferMayWrong)

/-- 'mandrellaw09.ElemMay': WHATEVER THE INPUT: true; the input reads as it did. -/
def elemMaySpec : ChangeSpec := { name := "elemMay", fn := fun _ => fun
  | [d1, d2] => { results := [.lit (.bool true)], args := [d1, d2] }
  | _ => none }
def elemMayRow : OpenClaim := { program := "ytijhdmidffenbaagreatdoor", sum := "57db395007eb3487067444fd5288b1e48154f764c611fcdb38515166449a17c4", func := "mandrel/mandrellaw09.ElemMay", spec := "elemMay", inPlace := ["internal/bytealg.CountString", "internal/bytealg.IndexByteString", "internal/bytealg.IndexString", "math.Float32frombits", "math.sqrt", "math.Float32bits", "math.archFloor", "math.Float64bits", "math.Float64frombits", "math.archTrunc", "slices.overlaps[int]"], unfollowed := true, recurses := true, named := ["mandrel/schema.ones", "unicode/utf8.first", "unicode/utf8.acceptRanges", "internal/bytealg.MaxLen"], apart := false, laid := [("unicode/utf8.acceptRanges", laid_unicode_utf8_acceptRanges), ("mandrel/schema.ones", laid_mandrel_schema_ones), ("unicode/utf8.first", laid_unicode_utf8_first)] }
def ElemMaySaid : Prop := elemMayRow.holds Tryz.pinned (OpenSpec.ofChange elemMaySpec)

/-- ITS FALSE NEIGHBOUR: 'it returns false'. Refute it at one input. -/
def elemMayWrong : ChangeSpec := { name := "elemMay", fn := fun _ => fun
  | [d1, d2] => { results := [.lit (.bool false)], args := [d1, d2] }
  | _ => none }
def ElemMayWrongFalsely : Prop := elemMayRow.holds Tryz.pinned (OpenSpec.ofChange elemMayWrong)

/-- 'mandrellaw09.ElemPlace': WHATEVER THE INPUT: true; the input reads as it did. -/
def elemPlaceSpec : ChangeSpec := { name := "elemPlace", fn := fun _ => fun
  | [d1, d2, d3] => { results := [.lit (.bool true)], args := [d1, d2, d3] }
  | _ => none }
def elemPlaceRow : OpenClaim := { program := "ytijhdmidffenbaagreatdoor", sum := "57db395007eb3487067444fd5288b1e48154f764c611fcdb38515166449a17c4", func := "mandrel/mandrellaw09.ElemPlace", spec := "elemPlace", inPlace := ["internal/bytealg.CountString", "internal/bytealg.IndexByteString", "internal/bytealg.IndexString", "math.Float32frombits", "math.sqrt", "math.Float32bits", "math.archFloor", "math.Float64bits", "math.Float64frombits", "math.archTrunc", "slices.overlaps[int]"], unfollowed := true, recurses := true, named := ["mandrel/schema.ones", "unicode/utf8.first", "unicode/utf8.acceptRanges", "internal/bytealg.MaxLen"], apart := false, laid := [("unicode/utf8.acceptRanges", laid_unicode_utf8_acceptRanges), ("mandrel/schema.ones", laid_mandrel_schema_ones), ("unicode/utf8.first", laid_unicode_utf8_first)] }
def ElemPlaceSaid : Prop := elemPlaceRow.holds Tryz.pinned (OpenSpec.ofChange elemPlaceSpec)

/-- ITS FALSE NEIGHBOUR: 'it returns false'. Refute it at one input. -/
def elemPlaceWrong : ChangeSpec := { name := "elemPlace", fn := fun _ => fun
  | [d1, d2, d3] => { results := [.lit (.bool false)], args := [d1, d2, d3] }
  | _ => none }
def ElemPlaceWrongFalsely : Prop := elemPlaceRow.holds Tryz.pinned (OpenSpec.ofChange elemPlaceWrong)

/-- 'mandrellaw09.ElemTurned': WHATEVER THE INPUT: true; the input reads as it did. -/
def elemTurnedSpec : ChangeSpec := { name := "elemTurned", fn := fun _ => fun
  | [d1, d2] => { results := [.lit (.bool true)], args := [d1, d2] }
  | _ => none }
def elemTurnedRow : OpenClaim := { program := "ytijhdmidffenbaagreatdoor", sum := "57db395007eb3487067444fd5288b1e48154f764c611fcdb38515166449a17c4", func := "mandrel/mandrellaw09.ElemTurned", spec := "elemTurned", inPlace := ["internal/bytealg.CountString", "internal/bytealg.IndexByteString", "internal/bytealg.IndexString", "math.Float32frombits", "math.sqrt", "math.Float32bits", "math.archFloor", "math.Float64bits", "math.Float64frombits", "math.archTrunc", "slices.overlaps[int]"], unfollowed := true, recurses := true, named := ["mandrel/schema.ones", "unicode/utf8.first", "unicode/utf8.acceptRanges", "internal/bytealg.MaxLen"], apart := false, laid := [("unicode/utf8.acceptRanges", laid_unicode_utf8_acceptRanges), ("mandrel/schema.ones", laid_mandrel_schema_ones), ("unicode/utf8.first", laid_unicode_utf8_first)] }
def ElemTurnedSaid : Prop := elemTurnedRow.holds Tryz.pinned (OpenSpec.ofChange elemTurnedSpec)

/-- ITS FALSE NEIGHBOUR: 'it returns false'. Refute it at one input. -/
def elemTurnedWrong : ChangeSpec := { name := "elemTurned", fn := fun _ => fun
  | [d1, d2] => { results := [.lit (.bool false)], args := [d1, d2] }
  | _ => none }
def ElemTurnedWrongFalsely : Prop := elemTurnedRow.holds Tryz.pinned (OpenSpec.ofChange elemTurnedWrong)

/-- 'mandrellaw11.ReduceMay': WHATEVER THE INPUT: true; the input reads as it did. -/
def reduceMaySpec : ChangeSpec := { name := "reduceMay", fn := fun _ => fun
  | [d1, d2] => { results := [.lit (.bool true)], args := [d1, d2] }
  | _ => none }
def reduceMayRow : OpenClaim := { program := "ytijhdmidffenbaagreatdoor", sum := "57db395007eb3487067444fd5288b1e48154f764c611fcdb38515166449a17c4", func := "mandrel/mandrellaw11.ReduceMay", spec := "reduceMay", inPlace := ["internal/bytealg.CountString", "internal/bytealg.IndexByteString", "internal/bytealg.IndexString", "math.Float32frombits", "math.sqrt", "math.Float32bits", "math.archFloor", "math.Float64bits", "math.Float64frombits", "math.archTrunc", "slices.overlaps[int]"], unfollowed := true, recurses := true, named := ["mandrel/schema.ones", "unicode/utf8.first", "unicode/utf8.acceptRanges", "internal/bytealg.MaxLen"], apart := false, laid := [("unicode/utf8.acceptRanges", laid_unicode_utf8_acceptRanges), ("mandrel/schema.ones", laid_mandrel_schema_ones), ("unicode/utf8.first", laid_unicode_utf8_first)] }
def ReduceMaySaid : Prop := reduceMayRow.holds Tryz.pinned (OpenSpec.ofChange reduceMaySpec)

/-- ITS FALSE NEIGHBOUR: 'it returns false'. Refute it at one input. -/
def reduceMayWrong : ChangeSpec := { name := "reduceMay", fn := fun _ => fun
  | [d1, d2] => { results := [.lit (.bool false)], args := [d1, d2] }
  | _ => none }
def ReduceMayWrongFalsely : Prop := reduceMayRow.holds Tryz.pinned (OpenSpec.ofChange reduceMayWrong)

/- THE SECOND FORM. 'bulk': how many values and letters a reading holds, each counted each time it is reached (what is shared counts as often as it is met; a slice's spare places count too). A statement '..UptoSaid' is the law's where the arguments, and the package variables that the reading takes, are together of bulk at most 1048576: NARROWER than '..Said'. Prove '..Said' where nothing that the law and all that it calls make is longer than what came in: it says more and counts as full. Else prove '..UptoSaid'. A law counts once. -/
mutual
def uptoBulk {H : Type} : DataW H → Nat
  | .lit (.string bytes) => bytes.length + 1
  | .lit _ => 1
  | .nil => 1
  | .ptr d => uptoBulk d + 1
  | .slice elems spare => uptoBulkAll elems + uptoBulkAll spare + 1
  | .agg parts => uptoBulkAll parts + 1
  | .iface _ d => uptoBulk d + 1
  | .map entries => uptoBulkEntries entries + 1
  | .held _ => 1
def uptoBulkAll {H : Type} : List (DataW H) → Nat
  | [] => 0
  | d :: r => uptoBulk d + uptoBulkAll r
def uptoBulkEntries {H : Type} : List (Lit × DataW H) → Nat
  | [] => 0
  | x :: r => uptoBulkEntry x + uptoBulkEntries r
def uptoBulkEntry {H : Type} : Lit × DataW H → Nat
  | (.string bytes, d) => bytes.length + uptoBulk d + 1
  | (_, d) => uptoBulk d + 1
 end
def uptoSmall : (H : Type) → List (DataW H) → Bool := fun _ ds => decide (uptoBulkAll ds ≤ 1048576)
def OpenSpec.upto (s : _root_.Go.ChangeSpec) : _root_.Go.OpenSpec := { _root_.Go.OpenSpec.ofChange s with cond := some uptoSmall }

/-- 'mandrellaw08.InferNames', WHERE WHAT IT READS IS OF BULK AT MOST 1048576: true; the input reads as it did. -/
def inferNamesUptoRow : OpenClaim := { program := "ytijhdmidffenbaagreatdoor", sum := "57db395007eb3487067444fd5288b1e48154f764c611fcdb38515166449a17c4", func := "mandrel/mandrellaw08.InferNames", spec := "inferNames", inPlace := ["internal/bytealg.CountString", "internal/bytealg.IndexByteString", "internal/bytealg.IndexString", "math.Float32frombits", "math.sqrt", "math.Float32bits", "math.archFloor", "math.Float64bits", "math.Float64frombits", "math.archTrunc", "slices.overlaps[int]"], unfollowed := true, recurses := true, named := ["mandrel/schema.ones", "unicode/utf8.first", "unicode/utf8.acceptRanges", "internal/bytealg.MaxLen"], apart := false, laid := [("unicode/utf8.acceptRanges", laid_unicode_utf8_acceptRanges), ("mandrel/schema.ones", laid_mandrel_schema_ones), ("unicode/utf8.first", laid_unicode_utf8_first)], narrowed := true }
def InferNamesUptoSaid : Prop := inferNamesUptoRow.holds Tryz.pinned (OpenSpec.upto inferNamesSpec)

/-- 'mandrellaw08.InferMay', WHERE WHAT IT READS IS OF BULK AT MOST 1048576: true; the input reads as it did. -/
def inferMayUptoRow : OpenClaim := { program := "ytijhdmidffenbaagreatdoor", sum := "57db395007eb3487067444fd5288b1e48154f764c611fcdb38515166449a17c4", func := "mandrel/mandrellaw08.InferMay", spec := "inferMay", inPlace := ["internal/bytealg.CountString", "internal/bytealg.IndexByteString", "internal/bytealg.IndexString", "math.Float32frombits", "math.sqrt", "math.Float32bits", "math.archFloor", "math.Float64bits", "math.Float64frombits", "math.archTrunc", "slices.overlaps[int]"], unfollowed := true, recurses := true, named := ["mandrel/schema.ones", "unicode/utf8.first", "unicode/utf8.acceptRanges", "internal/bytealg.MaxLen"], apart := false, laid := [("unicode/utf8.acceptRanges", laid_unicode_utf8_acceptRanges), ("mandrel/schema.ones", laid_mandrel_schema_ones), ("unicode/utf8.first", laid_unicode_utf8_first)], narrowed := true }
def InferMayUptoSaid : Prop := inferMayUptoRow.holds Tryz.pinned (OpenSpec.upto inferMaySpec)

/-- 'mandrellaw09.ElemMay', WHERE WHAT IT READS IS OF BULK AT MOST 1048576: true; the input reads as it did. -/
def elemMayUptoRow : OpenClaim := { program := "ytijhdmidffenbaagreatdoor", sum := "57db395007eb3487067444fd5288b1e48154f764c611fcdb38515166449a17c4", func := "mandrel/mandrellaw09.ElemMay", spec := "elemMay", inPlace := ["internal/bytealg.CountString", "internal/bytealg.IndexByteString", "internal/bytealg.IndexString", "math.Float32frombits", "math.sqrt", "math.Float32bits", "math.archFloor", "math.Float64bits", "math.Float64frombits", "math.archTrunc", "slices.overlaps[int]"], unfollowed := true, recurses := true, named := ["mandrel/schema.ones", "unicode/utf8.first", "unicode/utf8.acceptRanges", "internal/bytealg.MaxLen"], apart := false, laid := [("unicode/utf8.acceptRanges", laid_unicode_utf8_acceptRanges), ("mandrel/schema.ones", laid_mandrel_schema_ones), ("unicode/utf8.first", laid_unicode_utf8_first)], narrowed := true }
def ElemMayUptoSaid : Prop := elemMayUptoRow.holds Tryz.pinned (OpenSpec.upto elemMaySpec)

/-- 'mandrellaw09.ElemPlace', WHERE WHAT IT READS IS OF BULK AT MOST 1048576: true; the input reads as it did. -/
def elemPlaceUptoRow : OpenClaim := { program := "ytijhdmidffenbaagreatdoor", sum := "57db395007eb3487067444fd5288b1e48154f764c611fcdb38515166449a17c4", func := "mandrel/mandrellaw09.ElemPlace", spec := "elemPlace", inPlace := ["internal/bytealg.CountString", "internal/bytealg.IndexByteString", "internal/bytealg.IndexString", "math.Float32frombits", "math.sqrt", "math.Float32bits", "math.archFloor", "math.Float64bits", "math.Float64frombits", "math.archTrunc", "slices.overlaps[int]"], unfollowed := true, recurses := true, named := ["mandrel/schema.ones", "unicode/utf8.first", "unicode/utf8.acceptRanges", "internal/bytealg.MaxLen"], apart := false, laid := [("unicode/utf8.acceptRanges", laid_unicode_utf8_acceptRanges), ("mandrel/schema.ones", laid_mandrel_schema_ones), ("unicode/utf8.first", laid_unicode_utf8_first)], narrowed := true }
def ElemPlaceUptoSaid : Prop := elemPlaceUptoRow.holds Tryz.pinned (OpenSpec.upto elemPlaceSpec)

/-- 'mandrellaw09.ElemTurned', WHERE WHAT IT READS IS OF BULK AT MOST 1048576: true; the input reads as it did. -/
def elemTurnedUptoRow : OpenClaim := { program := "ytijhdmidffenbaagreatdoor", sum := "57db395007eb3487067444fd5288b1e48154f764c611fcdb38515166449a17c4", func := "mandrel/mandrellaw09.ElemTurned", spec := "elemTurned", inPlace := ["internal/bytealg.CountString", "internal/bytealg.IndexByteString", "internal/bytealg.IndexString", "math.Float32frombits", "math.sqrt", "math.Float32bits", "math.archFloor", "math.Float64bits", "math.Float64frombits", "math.archTrunc", "slices.overlaps[int]"], unfollowed := true, recurses := true, named := ["mandrel/schema.ones", "unicode/utf8.first", "unicode/utf8.acceptRanges", "internal/bytealg.MaxLen"], apart := false, laid := [("unicode/utf8.acceptRanges", laid_unicode_utf8_acceptRanges), ("mandrel/schema.ones", laid_mandrel_schema_ones), ("unicode/utf8.first", laid_unicode_utf8_first)], narrowed := true }
def ElemTurnedUptoSaid : Prop := elemTurnedUptoRow.holds Tryz.pinned (OpenSpec.upto elemTurnedSpec)

/-- 'mandrellaw11.ReduceMay', WHERE WHAT IT READS IS OF BULK AT MOST 1048576: true; the input reads as it did. -/
def reduceMayUptoRow : OpenClaim := { program := "ytijhdmidffenbaagreatdoor", sum := "57db395007eb3487067444fd5288b1e48154f764c611fcdb38515166449a17c4", func := "mandrel/mandrellaw11.ReduceMay", spec := "reduceMay", inPlace := ["internal/bytealg.CountString", "internal/bytealg.IndexByteString", "internal/bytealg.IndexString", "math.Float32frombits", "math.sqrt", "math.Float32bits", "math.archFloor", "math.Float64bits", "math.Float64frombits", "math.archTrunc", "slices.overlaps[int]"], unfollowed := true, recurses := true, named := ["mandrel/schema.ones", "unicode/utf8.first", "unicode/utf8.acceptRanges", "internal/bytealg.MaxLen"], apart := false, laid := [("unicode/utf8.acceptRanges", laid_unicode_utf8_acceptRanges), ("mandrel/schema.ones", laid_mandrel_schema_ones), ("unicode/utf8.first", laid_unicode_utf8_first)], narrowed := true }
def ReduceMayUptoSaid : Prop := reduceMayUptoRow.holds Tryz.pinned (OpenSpec.upto reduceMaySpec)

end Rows
end Go.Proofs.YtijhdmidffenbaaGreatDoor
