/-
  NARROWER THAN 'FOR EVERY INPUT', by the rows' own cells (each row's printed sentence says how): InferBatch: laid · ElemDouble: laid · ElemNot: laid · ReducePoints: laid · ReduceInts: laid · ReduceMost: laid · ReduceKeep: laid.
  DERIVED. THE GIVEN ROWS OF THIS SEAT. 7 by the template 'for every input the law returns true; each argument reads behind the call as it read before'; 0 by the template 'total and deterministic' (their statements: YtagiipecfdmceaaGreatDoorTotals.lean).
  GIVEN WITH THE SEED: the statements are not yours to turn. If you find one false, say at which input.
  Laid BY PROGRAM, IN A SANDBOX (cutbox-rows.mjs): the forced cells as the released guide's own fill.sh prints them over the translation 42e85e01bdd786da… (all of the seat's roots in one cut). By AI agents, Wed Nov 11 2026. No macro, syntax, notation, axiom, sorry.
-/
import Derived.Test.YtagiipecfdmceaaGreatDoorChecked
import GoSem.PinnedTables
import GoSem.Claim
import GoSem.ClaimJoined
import GoSem.ClaimMapViews
import Derived.JoinedTies
import Derived.KernelRfl
namespace Go.Proofs.YtagiipecfdmceaaGreatDoor
/- THE CELL 'sum', in the pinned program and in every row, IS THE sha256 OF THE DUMP (.gsa) THAT YtagiipecfdmceaaGreatDoorProg.lean LOADS. Nothing in Lean hashes anything: it is a label: what it is worth is what the hold of that sum in a sandbox is worth. -/
noncomputable def Tryz.pinned : Pinned := { name := "ytagiipecfdmceaagreatdoor", sum := "42e85e01bdd786da1b58ce54356365f74c6502c2791a951874c94b75462729f6", checked := Tryz.checked }
namespace Rows
def none {H : Type} : Left H := { results := [], args := [] }

/- WHAT THE LISTED PACKAGE-LEVEL VARIABLES READ AS WHEN THE CALL BEGINS. Each datum BY PROGRAM (the guide's laid-datum.mjs) off the statement by which the dump's own 'gosem.cut.vars' lays the variable. In a bare row this is a premise. The card (YtagiipecfdmceaaGreatDoorCards.lean) ties it to the program's text. -/
def laid_unicode_utf8_acceptRanges {H : Type} : DataW H := .agg [.agg [.lit (.int .u8 128), .lit (.int .u8 191)], .agg [.lit (.int .u8 160), .lit (.int .u8 191)], .agg [.lit (.int .u8 128), .lit (.int .u8 159)], .agg [.lit (.int .u8 144), .lit (.int .u8 191)], .agg [.lit (.int .u8 128), .lit (.int .u8 143)], .agg [.lit (.int .u8 0), .lit (.int .u8 0)], .agg [.lit (.int .u8 0), .lit (.int .u8 0)], .agg [.lit (.int .u8 0), .lit (.int .u8 0)], .agg [.lit (.int .u8 0), .lit (.int .u8 0)], .agg [.lit (.int .u8 0), .lit (.int .u8 0)], .agg [.lit (.int .u8 0), .lit (.int .u8 0)], .agg [.lit (.int .u8 0), .lit (.int .u8 0)], .agg [.lit (.int .u8 0), .lit (.int .u8 0)], .agg [.lit (.int .u8 0), .lit (.int .u8 0)], .agg [.lit (.int .u8 0), .lit (.int .u8 0)], .agg [.lit (.int .u8 0), .lit (.int .u8 0)]]
def laid_mandrel_schema_ones {H : Type} : DataW H := .agg [.lit (.string [73, 100, 101, 110, 116, 105, 116, 121]), .lit (.string [78, 101, 103]), .lit (.string [65, 98, 115]), .lit (.string [78, 111, 116]), .lit (.string [82, 101, 108, 117]), .lit (.string [83, 113, 114, 116]), .lit (.string [70, 108, 111, 111, 114]), .lit (.string [69, 120, 112]), .lit (.string [83, 105, 103, 109, 111, 105, 100]), .lit (.string [84, 97, 110, 104])]
/-- One of Go's own tables, pinned by name: the form's constant. -/
def laid_unicode_utf8_first : DataW Unit := Go.Pinned.utf8First

/-- 'mandrellaw08.InferBatch': WHATEVER THE INPUT: true; the input reads as it did. -/
def inferBatchSpec : ChangeSpec := { name := "inferBatch", fn := fun _ => fun
  | [d1, d2] => { results := [.lit (.bool true)], args := [d1, d2] }
  | _ => none }
def inferBatchRow : OpenClaim := { program := "ytagiipecfdmceaagreatdoor", sum := "42e85e01bdd786da1b58ce54356365f74c6502c2791a951874c94b75462729f6", func := "mandrel/mandrellaw08.InferBatch", spec := "inferBatch", inPlace := ["internal/bytealg.CountString", "internal/bytealg.IndexByteString", "internal/bytealg.IndexString", "math.Float32frombits", "math.sqrt", "math.Float32bits", "math.archFloor", "math.Float64bits", "math.Float64frombits", "math.archTrunc", "slices.overlaps[int]"], unfollowed := true, recurses := true, named := ["mandrel/schema.ones", "unicode/utf8.first", "unicode/utf8.acceptRanges", "internal/bytealg.MaxLen"], apart := false, laid := [("unicode/utf8.acceptRanges", laid_unicode_utf8_acceptRanges), ("mandrel/schema.ones", laid_mandrel_schema_ones), ("unicode/utf8.first", laid_unicode_utf8_first)] }
def InferBatchSaid : Prop := inferBatchRow.holds Tryz.pinned (OpenSpec.ofChange inferBatchSpec)

/-- ITS FALSE NEIGHBOUR: 'it returns false'. Refute it at one input. -/
def inferBatchWrong : ChangeSpec := { name := "inferBatch", fn := fun _ => fun
  | [d1, d2] => { results := [.lit (.bool false)], args := [d1, d2] }
  | _ => none }
def InferBatchWrongFalsely : Prop := inferBatchRow.holds Tryz.pinned (OpenSpec.ofChange inferBatchWrong)

/-- 'mandrellaw09.ElemDouble': WHATEVER THE INPUT: true; the input reads as it did. -/
def elemDoubleSpec : ChangeSpec := { name := "elemDouble", fn := fun _ => fun
  | [d] => { results := [.lit (.bool true)], args := [d] }
  | _ => none }
def elemDoubleRow : OpenClaim := { program := "ytagiipecfdmceaagreatdoor", sum := "42e85e01bdd786da1b58ce54356365f74c6502c2791a951874c94b75462729f6", func := "mandrel/mandrellaw09.ElemDouble", spec := "elemDouble", inPlace := ["internal/bytealg.CountString", "internal/bytealg.IndexByteString", "internal/bytealg.IndexString", "math.Float32frombits", "math.sqrt", "math.Float32bits", "math.archFloor", "math.Float64bits", "math.Float64frombits", "math.archTrunc", "slices.overlaps[int]"], unfollowed := true, recurses := true, named := ["mandrel/schema.ones", "unicode/utf8.first", "unicode/utf8.acceptRanges", "internal/bytealg.MaxLen"], apart := false, laid := [("unicode/utf8.acceptRanges", laid_unicode_utf8_acceptRanges), ("mandrel/schema.ones", laid_mandrel_schema_ones), ("unicode/utf8.first", laid_unicode_utf8_first)] }
def ElemDoubleSaid : Prop := elemDoubleRow.holds Tryz.pinned (OpenSpec.ofChange elemDoubleSpec)

/-- ITS FALSE NEIGHBOUR: 'it returns false'. Refute it at one input. -/
def elemDoubleWrong : ChangeSpec := { name := "elemDouble", fn := fun _ => fun
  | [d] => { results := [.lit (.bool false)], args := [d] }
  | _ => none }
def ElemDoubleWrongFalsely : Prop := elemDoubleRow.holds Tryz.pinned (OpenSpec.ofChange elemDoubleWrong)

/-- 'mandrellaw09.ElemNot': WHATEVER THE INPUT: true; the input reads as it did. -/
def elemNotSpec : ChangeSpec := { name := "elemNot", fn := fun _ => fun
  | [d1, d2] => { results := [.lit (.bool true)], args := [d1, d2] }
  | _ => none }
def elemNotRow : OpenClaim := { program := "ytagiipecfdmceaagreatdoor", sum := "42e85e01bdd786da1b58ce54356365f74c6502c2791a951874c94b75462729f6", func := "mandrel/mandrellaw09.ElemNot", spec := "elemNot", inPlace := ["internal/bytealg.CountString", "internal/bytealg.IndexByteString", "internal/bytealg.IndexString", "math.Float32frombits", "math.sqrt", "math.Float32bits", "math.archFloor", "math.Float64bits", "math.Float64frombits", "math.archTrunc", "slices.overlaps[int]"], unfollowed := true, recurses := true, named := ["mandrel/schema.ones", "unicode/utf8.first", "unicode/utf8.acceptRanges", "internal/bytealg.MaxLen"], apart := false, laid := [("unicode/utf8.acceptRanges", laid_unicode_utf8_acceptRanges), ("mandrel/schema.ones", laid_mandrel_schema_ones), ("unicode/utf8.first", laid_unicode_utf8_first)] }
def ElemNotSaid : Prop := elemNotRow.holds Tryz.pinned (OpenSpec.ofChange elemNotSpec)

/-- ITS FALSE NEIGHBOUR: 'it returns false'. Refute it at one input. -/
def elemNotWrong : ChangeSpec := { name := "elemNot", fn := fun _ => fun
  | [d1, d2] => { results := [.lit (.bool false)], args := [d1, d2] }
  | _ => none }
def ElemNotWrongFalsely : Prop := elemNotRow.holds Tryz.pinned (OpenSpec.ofChange elemNotWrong)

/-- 'mandrellaw11.ReducePoints': WHATEVER THE INPUT: true; the input reads as it did. -/
def reducePointsSpec : ChangeSpec := { name := "reducePoints", fn := fun _ => fun
  | [d] => { results := [.lit (.bool true)], args := [d] }
  | _ => none }
def reducePointsRow : OpenClaim := { program := "ytagiipecfdmceaagreatdoor", sum := "42e85e01bdd786da1b58ce54356365f74c6502c2791a951874c94b75462729f6", func := "mandrel/mandrellaw11.ReducePoints", spec := "reducePoints", inPlace := ["internal/bytealg.CountString", "internal/bytealg.IndexByteString", "internal/bytealg.IndexString", "math.Float32frombits", "math.sqrt", "math.Float32bits", "math.archFloor", "math.Float64bits", "math.Float64frombits", "math.archTrunc", "slices.overlaps[int]"], unfollowed := true, recurses := true, named := ["mandrel/schema.ones", "unicode/utf8.first", "unicode/utf8.acceptRanges", "internal/bytealg.MaxLen"], apart := false, laid := [("unicode/utf8.acceptRanges", laid_unicode_utf8_acceptRanges), ("mandrel/schema.ones", laid_mandrel_schema_ones), ("unicode/utf8.first", laid_unicode_utf8_first)] }
def ReducePointsSaid : Prop := reducePointsRow.holds Tryz.pinned (OpenSpec.ofChange reducePointsSpec)

/-- ITS FALSE NEIGHBOUR: 'it returns false'. Refute it at one input. -/
def reducePointsWrong : ChangeSpec := { name := "reducePoints", fn := fun _ => fun
  | [d] => { results := [.lit (.bool false)], args := [d] }
  | _ => none }
def ReducePointsWrongFalsely : Prop := reducePointsRow.holds Tryz.pinned (OpenSpec.ofChange reducePointsWrong)

/-- 'mandrellaw11.ReduceInts': WHATEVER THE INPUT: true; the input reads as it did. -/
def reduceIntsSpec : ChangeSpec := { name := "reduceInts", fn := fun _ => fun
  | [d1, d2, d3] => { results := [.lit (.bool true)], args := [d1, d2, d3] }
  | _ => none }
def reduceIntsRow : OpenClaim := { program := "ytagiipecfdmceaagreatdoor", sum := "42e85e01bdd786da1b58ce54356365f74c6502c2791a951874c94b75462729f6", func := "mandrel/mandrellaw11.ReduceInts", spec := "reduceInts", inPlace := ["internal/bytealg.CountString", "internal/bytealg.IndexByteString", "internal/bytealg.IndexString", "math.Float32frombits", "math.sqrt", "math.Float32bits", "math.archFloor", "math.Float64bits", "math.Float64frombits", "math.archTrunc", "slices.overlaps[int]"], unfollowed := true, recurses := true, named := ["mandrel/schema.ones", "unicode/utf8.first", "unicode/utf8.acceptRanges", "internal/bytealg.MaxLen"], apart := false, laid := [("unicode/utf8.acceptRanges", laid_unicode_utf8_acceptRanges), ("mandrel/schema.ones", laid_mandrel_schema_ones), ("unicode/utf8.first", laid_unicode_utf8_first)] }
def ReduceIntsSaid : Prop := reduceIntsRow.holds Tryz.pinned (OpenSpec.ofChange reduceIntsSpec)

/-- ITS FALSE NEIGHBOUR: 'it returns false'. Refute it at one input. -/
def reduceIntsWrong : ChangeSpec := { name := "reduceInts", fn := fun _ => fun
  | [d1, d2, d3] => { results := [.lit (.bool false)], args := [d1, d2, d3] }
  | _ => none }
def ReduceIntsWrongFalsely : Prop := reduceIntsRow.holds Tryz.pinned (OpenSpec.ofChange reduceIntsWrong)

/-- 'mandrellaw11.ReduceMost': WHATEVER THE INPUT: true; the input reads as it did. -/
def reduceMostSpec : ChangeSpec := { name := "reduceMost", fn := fun _ => fun
  | [d1, d2, d3] => { results := [.lit (.bool true)], args := [d1, d2, d3] }
  | _ => none }
def reduceMostRow : OpenClaim := { program := "ytagiipecfdmceaagreatdoor", sum := "42e85e01bdd786da1b58ce54356365f74c6502c2791a951874c94b75462729f6", func := "mandrel/mandrellaw11.ReduceMost", spec := "reduceMost", inPlace := ["internal/bytealg.CountString", "internal/bytealg.IndexByteString", "internal/bytealg.IndexString", "math.Float32frombits", "math.sqrt", "math.Float32bits", "math.archFloor", "math.Float64bits", "math.Float64frombits", "math.archTrunc", "slices.overlaps[int]"], unfollowed := true, recurses := true, named := ["mandrel/schema.ones", "unicode/utf8.first", "unicode/utf8.acceptRanges", "internal/bytealg.MaxLen"], apart := false, laid := [("unicode/utf8.acceptRanges", laid_unicode_utf8_acceptRanges), ("mandrel/schema.ones", laid_mandrel_schema_ones), ("unicode/utf8.first", laid_unicode_utf8_first)] }
def ReduceMostSaid : Prop := reduceMostRow.holds Tryz.pinned (OpenSpec.ofChange reduceMostSpec)

/-- ITS FALSE NEIGHBOUR: 'it returns false'. Refute it at one input. -/
def reduceMostWrong : ChangeSpec := { name := "reduceMost", fn := fun _ => fun
  | [d1, d2, d3] => { results := [.lit (.bool false)], args := [d1, d2, d3] }
  | _ => none }
def ReduceMostWrongFalsely : Prop := reduceMostRow.holds Tryz.pinned (OpenSpec.ofChange reduceMostWrong)

/-- 'mandrellaw11.ReduceKeep': WHATEVER THE INPUT: true; the input reads as it did. -/
def reduceKeepSpec : ChangeSpec := { name := "reduceKeep", fn := fun _ => fun
  | [d1, d2, d3] => { results := [.lit (.bool true)], args := [d1, d2, d3] }
  | _ => none }
def reduceKeepRow : OpenClaim := { program := "ytagiipecfdmceaagreatdoor", sum := "42e85e01bdd786da1b58ce54356365f74c6502c2791a951874c94b75462729f6", func := "mandrel/mandrellaw11.ReduceKeep", spec := "reduceKeep", inPlace := ["internal/bytealg.CountString", "internal/bytealg.IndexByteString", "internal/bytealg.IndexString", "math.Float32frombits", "math.sqrt", "math.Float32bits", "math.archFloor", "math.Float64bits", "math.Float64frombits", "math.archTrunc", "slices.overlaps[int]"], unfollowed := true, recurses := true, named := ["mandrel/schema.ones", "unicode/utf8.first", "unicode/utf8.acceptRanges", "internal/bytealg.MaxLen"], apart := false, laid := [("unicode/utf8.acceptRanges", laid_unicode_utf8_acceptRanges), ("mandrel/schema.ones", laid_mandrel_schema_ones), ("unicode/utf8.first", laid_unicode_utf8_first)] }
def ReduceKeepSaid : Prop := reduceKeepRow.holds Tryz.pinned (OpenSpec.ofChange reduceKeepSpec)

/-- ITS FALSE NEIGHBOUR: 'it returns false'. Refute it at one input. -/
def reduceKeepWrong : ChangeSpec := { name := "reduceKeep", fn := fun _ => fun
  | [d1, d2, d3] => { results := [.lit (.bool false)], args := [d1, d2, d3] }
  | _ => none }
def ReduceKeepWrongFalsely : Prop := reduceKeepRow.holds Tryz.pinned (OpenSpec.ofChange reduceKeepWrong)

/- THE SECOND FORM. 'bulk': how many values and letters a reading holds, each counted each time it is reached (what is shared counts as often as it is met; a slice's spare places count too). A statement '..UptoSaid' is the law's where the arguments, and the package variables that the reading takes, are together of bulk at most 1048576: NARROWER than '..Said'. Prove '..Said' where nothing that the law and all that it calls make is longer than what came in: it says more and counts as full. Else prove '..UptoSaid'. A law counts once. -/
mutual
def uptoBulk {H : Type} : DataW H → Nat
  | .lit (.string bytes) => bytes.length + 1
  | .lit _ => 1
  | .nil => 1
  | .ptr d => uptoBulk d + 1
  | .slice elems spare => uptoBulkAll elems + uptoBulkAll spare + 1
  | .agg parts => uptoBulkAll parts + 1
  | .iface _ d => uptoBulk d + 1
  | .map entries => uptoBulkEntries entries + 1
  | .held _ => 1
def uptoBulkAll {H : Type} : List (DataW H) → Nat
  | [] => 0
  | d :: r => uptoBulk d + uptoBulkAll r
def uptoBulkEntries {H : Type} : List (Lit × DataW H) → Nat
  | [] => 0
  | x :: r => uptoBulkEntry x + uptoBulkEntries r
def uptoBulkEntry {H : Type} : Lit × DataW H → Nat
  | (.string bytes, d) => bytes.length + uptoBulk d + 1
  | (_, d) => uptoBulk d + 1
 end
def uptoSmall : (H : Type) → List (DataW H) → Bool := fun _ ds => decide (uptoBulkAll ds ≤ 1048576)
def OpenSpec.upto (s : _root_.Go.ChangeSpec) : _root_.Go.OpenSpec := { _root_.Go.OpenSpec.ofChange s with cond := some uptoSmall }

/-- 'mandrellaw08.InferBatch', WHERE WHAT IT READS IS OF BULK AT MOST 1048576: true; the input reads as it did. -/
def inferBatchUptoRow : OpenClaim := { program := "ytagiipecfdmceaagreatdoor", sum := "42e85e01bdd786da1b58ce54356365f74c6502c2791a951874c94b75462729f6", func := "mandrel/mandrellaw08.InferBatch", spec := "inferBatch", inPlace := ["internal/bytealg.CountString", "internal/bytealg.IndexByteString", "internal/bytealg.IndexString", "math.Float32frombits", "math.sqrt", "math.Float32bits", "math.archFloor", "math.Float64bits", "math.Float64frombits", "math.archTrunc", "slices.overlaps[int]"], unfollowed := true, recurses := true, named := ["mandrel/schema.ones", "unicode/utf8.first", "unicode/utf8.acceptRanges", "internal/bytealg.MaxLen"], apart := false, laid := [("unicode/utf8.acceptRanges", laid_unicode_utf8_acceptRanges), ("mandrel/schema.ones", laid_mandrel_schema_ones), ("unicode/utf8.first", laid_unicode_utf8_first)], narrowed := true }
def InferBatchUptoSaid : Prop := inferBatchUptoRow.holds Tryz.pinned (OpenSpec.upto inferBatchSpec)

/-- 'mandrellaw09.ElemDouble', WHERE WHAT IT READS IS OF BULK AT MOST 1048576: true; the input reads as it did. -/
def elemDoubleUptoRow : OpenClaim := { program := "ytagiipecfdmceaagreatdoor", sum := "42e85e01bdd786da1b58ce54356365f74c6502c2791a951874c94b75462729f6", func := "mandrel/mandrellaw09.ElemDouble", spec := "elemDouble", inPlace := ["internal/bytealg.CountString", "internal/bytealg.IndexByteString", "internal/bytealg.IndexString", "math.Float32frombits", "math.sqrt", "math.Float32bits", "math.archFloor", "math.Float64bits", "math.Float64frombits", "math.archTrunc", "slices.overlaps[int]"], unfollowed := true, recurses := true, named := ["mandrel/schema.ones", "unicode/utf8.first", "unicode/utf8.acceptRanges", "internal/bytealg.MaxLen"], apart := false, laid := [("unicode/utf8.acceptRanges", laid_unicode_utf8_acceptRanges), ("mandrel/schema.ones", laid_mandrel_schema_ones), ("unicode/utf8.first", laid_unicode_utf8_first)], narrowed := true }
def ElemDoubleUptoSaid : Prop := elemDoubleUptoRow.holds Tryz.pinned (OpenSpec.upto elemDoubleSpec)

/-- 'mandrellaw09.ElemNot', WHERE WHAT IT READS IS OF BULK AT MOST 1048576: true; the input reads as it did. -/
def elemNotUptoRow : OpenClaim := { program := "ytagiipecfdmceaagreatdoor", sum := "42e85e01bdd786da1b58ce54356365f74c6502c2791a951874c94b75462729f6", func := "mandrel/mandrellaw09.ElemNot", spec := "elemNot", inPlace := ["internal/bytealg.CountString", "internal/bytealg.IndexByteString", "internal/bytealg.IndexString", "math.Float32frombits", "math.sqrt", "math.Float32bits", "math.archFloor", "math.Float64bits", "math.Float64frombits", "math.archTrunc", "slices.overlaps[int]"], unfollowed := true, recurses := true, named := ["mandrel/schema.ones", "unicode/utf8.first", "unicode/utf8.acceptRanges", "internal/bytealg.MaxLen"], apart := false, laid := [("unicode/utf8.acceptRanges", laid_unicode_utf8_acceptRanges), ("mandrel/schema.ones", laid_mandrel_schema_ones), ("unicode/utf8.first", laid_unicode_utf8_first)], narrowed := true }
def ElemNotUptoSaid : Prop := elemNotUptoRow.holds Tryz.pinned (OpenSpec.upto elemNotSpec)

/-- 'mandrellaw11.ReducePoints', WHERE WHAT IT READS IS OF BULK AT MOST 1048576: true; the input reads as it did. -/
def reducePointsUptoRow : OpenClaim := { program := "ytagiipecfdmceaagreatdoor", sum := "42e85e01bdd786da1b58ce54356365f74c6502c2791a951874c94b75462729f6", func := "mandrel/mandrellaw11.ReducePoints", spec := "reducePoints", inPlace := ["internal/bytealg.CountString", "internal/bytealg.IndexByteString", "internal/bytealg.IndexString", "math.Float32frombits", "math.sqrt", "math.Float32bits", "math.archFloor", "math.Float64bits", "math.Float64frombits", "math.archTrunc", "slices.overlaps[int]"], unfollowed := true, recurses := true, named := ["mandrel/schema.ones", "unicode/utf8.first", "unicode/utf8.acceptRanges", "internal/bytealg.MaxLen"], apart := false, laid := [("unicode/utf8.acceptRanges", laid_unicode_utf8_acceptRanges), ("mandrel/schema.ones", laid_mandrel_schema_ones), ("unicode/utf8.first", laid_unicode_utf8_first)], narrowed := true }
def ReducePointsUptoSaid : Prop := reducePointsUptoRow.holds Tryz.pinned (OpenSpec.upto reducePointsSpec)

/-- 'mandrellaw11.ReduceInts', WHERE WHAT IT READS IS OF BULK AT MOST 1048576: true; the input reads as it did. -/
def reduceIntsUptoRow : OpenClaim := { program := "ytagiipecfdmceaagreatdoor", sum := "42e85e01bdd786da1b58ce54356365f74c6502c2791a951874c94b75462729f6", func := "mandrel/mandrellaw11.ReduceInts", spec := "reduceInts", inPlace := ["internal/bytealg.CountString", "internal/bytealg.IndexByteString", "internal/bytealg.IndexString", "math.Float32frombits", "math.sqrt", "math.Float32bits", "math.archFloor", "math.Float64bits", "math.Float64frombits", "math.archTrunc", "slices.overlaps[int]"], unfollowed := true, recurses := true, named := ["mandrel/schema.ones", "unicode/utf8.first", "unicode/utf8.acceptRanges", "internal/bytealg.MaxLen"], apart := false, laid := [("unicode/utf8.acceptRanges", laid_unicode_utf8_acceptRanges), ("mandrel/schema.ones", laid_mandrel_schema_ones), ("unicode/utf8.first", laid_unicode_utf8_first)], narrowed := true }
def ReduceIntsUptoSaid : Prop := reduceIntsUptoRow.holds Tryz.pinned (OpenSpec.upto reduceIntsSpec)

/-- 'mandrellaw11.ReduceMost', WHERE WHAT IT READS IS OF BULK AT MOST 1048576: true; the input reads as it did. -/
def reduceMostUptoRow : OpenClaim := { program := "ytagiipecfdmceaagreatdoor", sum := "42e85e01bdd786da1b58ce54356365f74c6502c2791a951874c94b75462729f6", func := "mandrel/mandrellaw11.ReduceMost", spec := "reduceMost", inPlace := ["internal/bytealg.CountString", "internal/bytealg.IndexByteString", "internal/bytealg.IndexString", "math.Float32frombits", "math.sqrt", "math.Float32bits", "math.archFloor", "math.Float64bits", "math.Float64frombits", "math.archTrunc", "slices.overlaps[int]"], unfollowed := true, recurses := true, named := ["mandrel/schema.ones", "unicode/utf8.first", "unicode/utf8.acceptRanges", "internal/bytealg.MaxLen"], apart := false, laid := [("unicode/utf8.acceptRanges", laid_unicode_utf8_acceptRanges), ("mandrel/schema.ones", laid_mandrel_schema_ones), ("unicode/utf8.first", laid_unicode_utf8_first)], narrowed := true }
def ReduceMostUptoSaid : Prop := reduceMostUptoRow.holds Tryz.pinned (OpenSpec.upto reduceMostSpec)

/-- 'mandrellaw11.ReduceKeep', WHERE WHAT IT READS IS OF BULK AT MOST 1048576: true; the input reads as it did. -/
def reduceKeepUptoRow : OpenClaim := { program := "ytagiipecfdmceaagreatdoor", sum := "42e85e01bdd786da1b58ce54356365f74c6502c2791a951874c94b75462729f6", func := "mandrel/mandrellaw11.ReduceKeep", spec := "reduceKeep", inPlace := ["internal/bytealg.CountString", "internal/bytealg.IndexByteString", "internal/bytealg.IndexString", "math.Float32frombits", "math.sqrt", "math.Float32bits", "math.archFloor", "math.Float64bits", "math.Float64frombits", "math.archTrunc", "slices.overlaps[int]"], unfollowed := true, recurses := true, named := ["mandrel/schema.ones", "unicode/utf8.first", "unicode/utf8.acceptRanges", "internal/bytealg.MaxLen"], apart := false, laid := [("unicode/utf8.acceptRanges", laid_unicode_utf8_acceptRanges), ("mandrel/schema.ones", laid_mandrel_schema_ones), ("unicode/utf8.first", laid_unicode_utf8_first)], narrowed := true }
def ReduceKeepUptoSaid : Prop := reduceKeepUptoRow.holds Tryz.pinned (OpenSpec.upto reduceKeepSpec)

end Rows
end Go.Proofs.YtagiipecfdmceaaGreatDoor
