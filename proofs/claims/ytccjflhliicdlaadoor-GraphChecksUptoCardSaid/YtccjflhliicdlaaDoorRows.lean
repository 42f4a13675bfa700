/-
  NARROWER THAN 'FOR EVERY INPUT', by the rows' own cells (each row's printed sentence says how): GraphReads: laid · GraphOrders: laid · GraphStands: laid · GraphRenamed: laid · GraphChecks: laid · GraphMore: laid.
  DERIVED. THE GIVEN ROWS OF THIS SEAT. 6 by the template 'for every input the law returns true; each argument reads behind the call as it read before'; 0 by the template 'total and deterministic' (their statements: YtccjflhliicdlaaDoorTotals.lean).
  GIVEN WITH THE SEED: the statements are not yours to turn. If you find one false, say at which input.
  Laid BY PROGRAM, IN A SANDBOX (cutbox-rows.mjs): the forced cells as the released guide's own fill.sh prints them over the translation e69bd7f3931880a4… (all of the seat's roots in one cut). By AI agents, Wed Nov 11 2026. No macro, syntax, notation, axiom, sorry.
-/
import Derived.Test.YtccjflhliicdlaaDoorChecked
import GoSem.PinnedTables
import GoSem.Claim
import GoSem.ClaimJoined
import GoSem.ClaimMapViews
import Derived.JoinedTies
import Derived.KernelRfl
namespace Go.Proofs.YtccjflhliicdlaaDoor
/- THE CELL 'sum', in the pinned program and in every row, IS THE sha256 OF THE DUMP (.gsa) THAT YtccjflhliicdlaaDoorProg.lean LOADS. Nothing in Lean hashes anything: it is a label: what it is worth is what the hold of that sum in a sandbox is worth. -/
noncomputable def Tryd.pinned : Pinned := { name := "ytccjflhliicdlaadoor", sum := "e69bd7f3931880a438886c90e9acb0de801068854dd096b2ef22adedd63a166b", checked := Tryd.checked }
namespace Rows
def none {H : Type} : Left H := { results := [], args := [] }

/- WHAT THE LISTED PACKAGE-LEVEL VARIABLES READ AS WHEN THE CALL BEGINS. Each datum BY PROGRAM (the guide's laid-datum.mjs) off the statement by which the dump's own 'gosem.cut.vars' lays the variable. In a bare row this is a premise. The card (YtccjflhliicdlaaDoorCards.lean) ties it to the program's text. -/
def laid_unicode_utf8_acceptRanges {H : Type} : DataW H := .agg [.agg [.lit (.int .u8 128), .lit (.int .u8 191)], .agg [.lit (.int .u8 160), .lit (.int .u8 191)], .agg [.lit (.int .u8 128), .lit (.int .u8 159)], .agg [.lit (.int .u8 144), .lit (.int .u8 191)], .agg [.lit (.int .u8 128), .lit (.int .u8 143)], .agg [.lit (.int .u8 0), .lit (.int .u8 0)], .agg [.lit (.int .u8 0), .lit (.int .u8 0)], .agg [.lit (.int .u8 0), .lit (.int .u8 0)], .agg [.lit (.int .u8 0), .lit (.int .u8 0)], .agg [.lit (.int .u8 0), .lit (.int .u8 0)], .agg [.lit (.int .u8 0), .lit (.int .u8 0)], .agg [.lit (.int .u8 0), .lit (.int .u8 0)], .agg [.lit (.int .u8 0), .lit (.int .u8 0)], .agg [.lit (.int .u8 0), .lit (.int .u8 0)], .agg [.lit (.int .u8 0), .lit (.int .u8 0)], .agg [.lit (.int .u8 0), .lit (.int .u8 0)]]
def laid_mandrel_schema_ones {H : Type} : DataW H := .agg [.lit (.string [73, 100, 101, 110, 116, 105, 116, 121]), .lit (.string [78, 101, 103]), .lit (.string [65, 98, 115]), .lit (.string [78, 111, 116]), .lit (.string [82, 101, 108, 117]), .lit (.string [83, 113, 114, 116]), .lit (.string [70, 108, 111, 111, 114]), .lit (.string [69, 120, 112]), .lit (.string [83, 105, 103, 109, 111, 105, 100]), .lit (.string [84, 97, 110, 104])]
/-- One of Go's own tables, pinned by name: the form's constant. -/
def laid_unicode_utf8_first : DataW Unit := Go.Pinned.utf8First

/-- 'mandrellaw07.GraphReads': WHATEVER THE INPUT: true; the input reads as it did. -/
def graphReadsSpec : ChangeSpec := { name := "graphReads", fn := fun _ => fun
  | [d1, d2] => { results := [.lit (.bool true)], args := [d1, d2] }
  | _ => none }
def graphReadsRow : OpenClaim := { program := "ytccjflhliicdlaadoor", sum := "e69bd7f3931880a438886c90e9acb0de801068854dd096b2ef22adedd63a166b", func := "mandrel/mandrellaw07.GraphReads", spec := "graphReads", inPlace := ["internal/bytealg.CountString", "internal/bytealg.IndexByteString", "internal/bytealg.IndexString"], unfollowed := true, recurses := true, named := ["mandrel/schema.ones", "unicode/utf8.first", "unicode/utf8.acceptRanges", "internal/bytealg.MaxLen"], apart := false, laid := [("unicode/utf8.acceptRanges", laid_unicode_utf8_acceptRanges), ("mandrel/schema.ones", laid_mandrel_schema_ones), ("unicode/utf8.first", laid_unicode_utf8_first)] }
def GraphReadsSaid : Prop := graphReadsRow.holds Tryd.pinned (OpenSpec.ofChange graphReadsSpec)

/-- ITS FALSE NEIGHBOUR: 'it returns false'. Refute it at one input. -/
def graphReadsWrong : ChangeSpec := { name := "graphReads", fn := fun _ => fun
  | [d1, d2] => { results := [.lit (.bool false)], args := [d1, d2] }
  | _ => none }
def GraphReadsWrongFalsely : Prop := graphReadsRow.holds Tryd.pinned (OpenSpec.ofChange graphReadsWrong)

/-- 'mandrellaw07.GraphOrders': WHATEVER THE INPUT: true; the input reads as it did. -/
def graphOrdersSpec : ChangeSpec := { name := "graphOrders", fn := fun _ => fun
  | [d] => { results := [.lit (.bool true)], args := [d] }
  | _ => none }
def graphOrdersRow : OpenClaim := { program := "ytccjflhliicdlaadoor", sum := "e69bd7f3931880a438886c90e9acb0de801068854dd096b2ef22adedd63a166b", func := "mandrel/mandrellaw07.GraphOrders", spec := "graphOrders", inPlace := ["internal/bytealg.CountString", "internal/bytealg.IndexByteString", "internal/bytealg.IndexString"], unfollowed := true, recurses := true, named := ["mandrel/schema.ones", "unicode/utf8.first", "unicode/utf8.acceptRanges", "internal/bytealg.MaxLen"], apart := false, laid := [("unicode/utf8.acceptRanges", laid_unicode_utf8_acceptRanges), ("mandrel/schema.ones", laid_mandrel_schema_ones), ("unicode/utf8.first", laid_unicode_utf8_first)] }
def GraphOrdersSaid : Prop := graphOrdersRow.holds Tryd.pinned (OpenSpec.ofChange graphOrdersSpec)

/-- ITS FALSE NEIGHBOUR: 'it returns false'. Refute it at one input. -/
def graphOrdersWrong : ChangeSpec := { name := "graphOrders", fn := fun _ => fun
  | [d] => { results := [.lit (.bool false)], args := [d] }
  | _ => none }
def GraphOrdersWrongFalsely : Prop := graphOrdersRow.holds Tryd.pinned (OpenSpec.ofChange graphOrdersWrong)

/-- 'mandrellaw07.GraphStands': WHATEVER THE INPUT: true; the input reads as it did. -/
def graphStandsSpec : ChangeSpec := { name := "graphStands", fn := fun _ => fun
  | [d] => { results := [.lit (.bool true)], args := [d] }
  | _ => none }
def graphStandsRow : OpenClaim := { program := "ytccjflhliicdlaadoor", sum := "e69bd7f3931880a438886c90e9acb0de801068854dd096b2ef22adedd63a166b", func := "mandrel/mandrellaw07.GraphStands", spec := "graphStands", inPlace := ["internal/bytealg.CountString", "internal/bytealg.IndexByteString", "internal/bytealg.IndexString"], unfollowed := true, recurses := true, named := ["mandrel/schema.ones", "unicode/utf8.first", "unicode/utf8.acceptRanges", "internal/bytealg.MaxLen"], apart := false, laid := [("unicode/utf8.acceptRanges", laid_unicode_utf8_acceptRanges), ("mandrel/schema.ones", laid_mandrel_schema_ones), ("unicode/utf8.first", laid_unicode_utf8_first)] }
def GraphStandsSaid : Prop := graphStandsRow.holds Tryd.pinned (OpenSpec.ofChange graphStandsSpec)

/-- ITS FALSE NEIGHBOUR: 'it returns false'. Refute it at one input. -/
def graphStandsWrong : ChangeSpec := { name := "graphStands", fn := fun _ => fun
  | [d] => { results := [.lit (.bool false)], args := [d] }
  | _ => none }
def GraphStandsWrongFalsely : Prop := graphStandsRow.holds Tryd.pinned (OpenSpec.ofChange graphStandsWrong)

/-- 'mandrellaw07.GraphRenamed': WHATEVER THE INPUT: true; the input reads as it did. -/
def graphRenamedSpec : ChangeSpec := { name := "graphRenamed", fn := fun _ => fun
  | [d1, d2, d3] => { results := [.lit (.bool true)], args := [d1, d2, d3] }
  | _ => none }
def graphRenamedRow : OpenClaim := { program := "ytccjflhliicdlaadoor", sum := "e69bd7f3931880a438886c90e9acb0de801068854dd096b2ef22adedd63a166b", func := "mandrel/mandrellaw07.GraphRenamed", spec := "graphRenamed", inPlace := ["internal/bytealg.CountString", "internal/bytealg.IndexByteString", "internal/bytealg.IndexString"], unfollowed := true, recurses := true, named := ["mandrel/schema.ones", "unicode/utf8.first", "unicode/utf8.acceptRanges", "internal/bytealg.MaxLen"], apart := false, laid := [("unicode/utf8.acceptRanges", laid_unicode_utf8_acceptRanges), ("mandrel/schema.ones", laid_mandrel_schema_ones), ("unicode/utf8.first", laid_unicode_utf8_first)] }
def GraphRenamedSaid : Prop := graphRenamedRow.holds Tryd.pinned (OpenSpec.ofChange graphRenamedSpec)

/-- ITS FALSE NEIGHBOUR: 'it returns false'. Refute it at one input. -/
def graphRenamedWrong : ChangeSpec := { name := "graphRenamed", fn := fun _ => fun
  | [d1, d2, d3] => { results := [.lit (.bool false)], args := [d1, d2, d3] }
  | _ => none }
def GraphRenamedWrongFalsely : Prop := graphRenamedRow.holds Tryd.pinned (OpenSpec.ofChange graphRenamedWrong)

/-- 'mandrellaw07.GraphChecks': WHATEVER THE INPUT: true; the input reads as it did. -/
def graphChecksSpec : ChangeSpec := { name := "graphChecks", fn := fun _ => fun
  | [d] => { results := [.lit (.bool true)], args := [d] }
  | _ => none }
def graphChecksRow : OpenClaim := { program := "ytccjflhliicdlaadoor", sum := "e69bd7f3931880a438886c90e9acb0de801068854dd096b2ef22adedd63a166b", func := "mandrel/mandrellaw07.GraphChecks", spec := "graphChecks", inPlace := ["internal/bytealg.CountString", "internal/bytealg.IndexByteString", "internal/bytealg.IndexString", "math.Float32frombits"], unfollowed := true, recurses := true, named := ["mandrel/schema.ones", "unicode/utf8.first", "unicode/utf8.acceptRanges", "internal/bytealg.MaxLen"], apart := false, laid := [("unicode/utf8.acceptRanges", laid_unicode_utf8_acceptRanges), ("mandrel/schema.ones", laid_mandrel_schema_ones), ("unicode/utf8.first", laid_unicode_utf8_first)] }
def GraphChecksSaid : Prop := graphChecksRow.holds Tryd.pinned (OpenSpec.ofChange graphChecksSpec)

/-- ITS FALSE NEIGHBOUR: 'it returns false'. Refute it at one input. -/
def graphChecksWrong : ChangeSpec := { name := "graphChecks", fn := fun _ => fun
  | [d] => { results := [.lit (.bool false)], args := [d] }
  | _ => none }
def GraphChecksWrongFalsely : Prop := graphChecksRow.holds Tryd.pinned (OpenSpec.ofChange graphChecksWrong)

/-- 'mandrellaw07.GraphMore': WHATEVER THE INPUT: true; the input reads as it did. -/
def graphMoreSpec : ChangeSpec := { name := "graphMore", fn := fun _ => fun
  | [d1, d2] => { results := [.lit (.bool true)], args := [d1, d2] }
  | _ => none }
def graphMoreRow : OpenClaim := { program := "ytccjflhliicdlaadoor", sum := "e69bd7f3931880a438886c90e9acb0de801068854dd096b2ef22adedd63a166b", func := "mandrel/mandrellaw07.GraphMore", spec := "graphMore", inPlace := ["internal/bytealg.CountString", "internal/bytealg.IndexByteString", "internal/bytealg.IndexString", "math.Float32frombits"], unfollowed := true, recurses := true, named := ["mandrel/schema.ones", "unicode/utf8.first", "unicode/utf8.acceptRanges", "internal/bytealg.MaxLen"], apart := false, laid := [("unicode/utf8.acceptRanges", laid_unicode_utf8_acceptRanges), ("mandrel/schema.ones", laid_mandrel_schema_ones), ("unicode/utf8.first", laid_unicode_utf8_first)] }
def GraphMoreSaid : Prop := graphMoreRow.holds Tryd.pinned (OpenSpec.ofChange graphMoreSpec)

/-- ITS FALSE NEIGHBOUR: 'it returns false'. Refute it at one input. -/
def graphMoreWrong : ChangeSpec := { name := "graphMore", fn := fun _ => fun
  | [d1, d2] => { results := [.lit (.bool false)], args := [d1, d2] }
  | _ => none }
def GraphMoreWrongFalsely : Prop := graphMoreRow.holds Tryd.pinned (OpenSpec.ofChange graphMoreWrong)

/- THE SECOND FORM. 'bulk': how many values and letters a reading holds, each counted each time it is reached (what is shared counts as often as it is met; a slice's spare places count too). A statement '..UptoSaid' is the law's where the arguments, and the package variables that the reading takes, are together of bulk at most 1048576: NARROWER than '..Said'. Prove '..Said' where nothing that the law and all that it calls make is longer than what came in: it says more and counts as full. Else prove '..UptoSaid'. A law counts once. -/
mutual
def uptoBulk {H : Type} : DataW H → Nat
  | .lit (.string bytes) => bytes.length + 1
  | .lit _ => 1
  | .nil => 1
  | .ptr d => uptoBulk d + 1
  | .slice elems spare => uptoBulkAll elems + uptoBulkAll spare + 1
  | .agg parts => uptoBulkAll parts + 1
  | .iface _ d => uptoBulk d + 1
  | .map entries => uptoBulkEntries entries + 1
  | .held _ => 1
def uptoBulkAll {H : Type} : List (DataW H) → Nat
  | [] => 0
  | d :: r => uptoBulk d + uptoBulkAll r
def uptoBulkEntries {H : Type} : List (Lit × DataW H) → Nat
  | [] => 0
  | x :: r => uptoBulkEntry x + uptoBulkEntries r
def uptoBulkEntry {H : Type} : Lit × DataW H → Nat
  | (.string bytes, d) => bytes.length + uptoBulk d + 1
  | (_, d) => uptoBulk d + 1
 end
def uptoSmall : (H : Type) → List (DataW H) → Bool := fun _ ds => decide (uptoBulkAll ds ≤ 1048576)
def OpenSpec.upto (s : _root_.Go.ChangeSpec) : _root_.Go.OpenSpec := { _root_.Go.OpenSpec.ofChange s with cond := some uptoSmall }

/-- 'mandrellaw07.GraphReads', WHERE WHAT IT READS IS OF BULK AT MOST 1048576: true; the input reads as it did. -/
def graphReadsUptoRow : OpenClaim := { program := "ytccjflhliicdlaadoor", sum := "e69bd7f3931880a438886c90e9acb0de801068854dd096b2ef22adedd63a166b", func := "mandrel/mandrellaw07.GraphReads", spec := "graphReads", inPlace := ["internal/bytealg.CountString", "internal/bytealg.IndexByteString", "internal/bytealg.IndexString"], unfollowed := true, recurses := true, named := ["mandrel/schema.ones", "unicode/utf8.first", "unicode/utf8.acceptRanges", "internal/bytealg.MaxLen"], apart := false, laid := [("unicode/utf8.acceptRanges", laid_unicode_utf8_acceptRanges), ("mandrel/schema.ones", laid_mandrel_schema_ones), ("unicode/utf8.first", laid_unicode_utf8_first)], narrowed := true }
def GraphReadsUptoSaid : Prop := graphReadsUptoRow.holds Tryd.pinned (OpenSpec.upto graphReadsSpec)

/-- 'mandrellaw07.GraphOrders', WHERE WHAT IT READS IS OF BULK AT MOST 1048576: true; the input reads as it did. -/
def graphOrdersUptoRow : OpenClaim := { program := "ytccjflhliicdlaadoor", sum := "e69bd7f3931880a438886c90e9acb0de801068854dd096b2ef22adedd63a166b", func := "mandrel/mandrellaw07.GraphOrders", spec := "graphOrders", inPlace := ["internal/bytealg.CountString", "internal/bytealg.IndexByteString", "internal/bytealg.IndexString"], unfollowed := true, recurses := true, named := ["mandrel/schema.ones", "unicode/utf8.first", "unicode/utf8.acceptRanges", "internal/bytealg.MaxLen"], apart := false, laid := [("unicode/utf8.acceptRanges", laid_unicode_utf8_acceptRanges), ("mandrel/schema.ones", laid_mandrel_schema_ones), ("unicode/utf8.first", laid_unicode_utf8_first)], narrowed := true }
def GraphOrdersUptoSaid : Prop := graphOrdersUptoRow.holds Tryd.pinned (OpenSpec.upto graphOrdersSpec)

/-- 'mandrellaw07.GraphStands', WHERE WHAT IT READS IS OF BULK AT MOST 1048576: true; the input reads as it did. -/
def graphStandsUptoRow : OpenClaim := { program := "ytccjflhliicdlaadoor", sum := "e69bd7f3931880a438886c90e9acb0de801068854dd096b2ef22adedd63a166b", func := "mandrel/mandrellaw07.GraphStands", spec := "graphStands", inPlace := ["internal/bytealg.CountString", "internal/bytealg.IndexByteString", "internal/bytealg.IndexString"], unfollowed := true, recurses := true, named := ["mandrel/schema.ones", "unicode/utf8.first", "unicode/utf8.acceptRanges", "internal/bytealg.MaxLen"], apart := false, laid := [("unicode/utf8.acceptRanges", laid_unicode_utf8_acceptRanges), ("mandrel/schema.ones", laid_mandrel_schema_ones), ("unicode/utf8.first", laid_unicode_utf8_first)], narrowed := true }
def GraphStandsUptoSaid : Prop := graphStandsUptoRow.holds Tryd.pinned (OpenSpec.upto graphStandsSpec)

/-- 'mandrellaw07.GraphRenamed', WHERE WHAT IT READS IS OF BULK AT MOST 1048576: true; the input reads as it did. -/
def graphRenamedUptoRow : OpenClaim := { program := "ytccjflhliicdlaadoor", sum := "e69bd7f3931880a438886c90e9acb0de801068854dd096b2ef22adedd63a166b", func := "mandrel/mandrellaw07.GraphRenamed", spec := "graphRenamed", inPlace := ["internal/bytealg.CountString", "internal/bytealg.IndexByteString", "internal/bytealg.IndexString"], unfollowed := true, recurses := true, named := ["mandrel/schema.ones", "unicode/utf8.first", "unicode/utf8.acceptRanges", "internal/bytealg.MaxLen"], apart := false, laid := [("unicode/utf8.acceptRanges", laid_unicode_utf8_acceptRanges), ("mandrel/schema.ones", laid_mandrel_schema_ones), ("unicode/utf8.first", laid_unicode_utf8_first)], narrowed := true }
def GraphRenamedUptoSaid : Prop := graphRenamedUptoRow.holds Tryd.pinned (OpenSpec.upto graphRenamedSpec)

/-- 'mandrellaw07.GraphChecks', WHERE WHAT IT READS IS OF BULK AT MOST 1048576: true; the input reads as it did. -/
def graphChecksUptoRow : OpenClaim := { program := "ytccjflhliicdlaadoor", sum := "e69bd7f3931880a438886c90e9acb0de801068854dd096b2ef22adedd63a166b", func := "mandrel/mandrellaw07.GraphChecks", spec := "graphChecks", inPlace := ["internal/bytealg.CountString", "internal/bytealg.IndexByteString", "internal/bytealg.IndexString", "math.Float32frombits"], unfollowed := true, recurses := true, named := ["mandrel/schema.ones", "unicode/utf8.first", "unicode/utf8.acceptRanges", "internal/bytealg.MaxLen"], apart := false, laid := [("unicode/utf8.acceptRanges", laid_unicode_utf8_acceptRanges), ("mandrel/schema.ones", laid_mandrel_schema_ones), ("unicode/utf8.first", laid_unicode_utf8_first)], narrowed := true }
def GraphChecksUptoSaid : Prop := graphChecksUptoRow.holds Tryd.pinned (OpenSpec.upto graphChecksSpec)

/-- 'mandrellaw07.GraphMore', WHERE WHAT IT READS IS OF BULK AT MOST 1048576: true; the input reads as it did. -/
def graphMoreUptoRow : OpenClaim := { program := "ytccjflhliicdlaadoor", sum := "e69bd7f3931880a438886c90e9acb0de801068854dd096b2ef22adedd63a166b", func := "mandrel/mandrellaw07.GraphMore", spec := "graphMore", inPlace := ["internal/bytealg.CountString", "internal/bytealg.IndexByteString", "internal/bytealg.IndexString", "math.Float32frombits"], unfollowed := true, recurses := true, named := ["mandrel/schema.ones", "unicode/utf8.first", "unicode/utf8.acceptRanges", "internal/bytealg.MaxLen"], apart := false, laid := [("unicode/utf8.acceptRanges", laid_unicode_utf8_acceptRanges), ("mandrel/schema.ones", laid_mandrel_schema_ones), ("unicode/utf8.first", laid_unicode_utf8_first)], narrowed := true }
def GraphMoreUptoSaid : Prop := graphMoreUptoRow.holds Tryd.pinned (OpenSpec.upto graphMoreSpec)

end Rows
end Go.Proofs.YtccjflhliicdlaaDoor
