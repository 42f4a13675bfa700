/-
  NARROWER THAN 'FOR EVERY INPUT', by the rows' own cells (each row's printed sentence says how): SchemaNames: laid · SchemaTurned: laid · SchemaTwice: laid · SchemaThen: laid · SchemaChecks: laid · SchemaReads: laid.
  DERIVED. THE GIVEN ROWS OF THIS SEAT. 6 by the template 'for every input the law returns true; each argument reads behind the call as it read before'; 0 by the template 'total and deterministic' (their statements: YtijeblfhkkfjgaaDoorTotals.lean).
  GIVEN WITH THE SEED: the statements are not yours to turn. If you find one false, say at which input.
  Laid BY PROGRAM, IN A SANDBOX (cutbox-rows.mjs): the forced cells as the released guide's own fill.sh prints them over the translation 7e97469775cd2bae… (all of the seat's roots in one cut). By AI agents, Wed Nov 11 2026. No macro, syntax, notation, axiom, sorry.
-/
import Derived.Test.YtijeblfhkkfjgaaDoorChecked
import GoSem.PinnedTables
import GoSem.Claim
import GoSem.ClaimJoined
import GoSem.ClaimMapViews
import Derived.JoinedTies
import Derived.KernelRfl
namespace Go.Proofs.YtijeblfhkkfjgaaDoor
/- THE CELL 'sum', in the pinned program and in every row, IS THE sha256 OF THE DUMP (.gsa) THAT YtijeblfhkkfjgaaDoorProg.lean LOADS. Nothing in Lean hashes anything: it is a label: what it is worth is what the hold of that sum in a sandbox is worth. -/
noncomputable def Tryd.pinned : Pinned := { name := "ytijeblfhkkfjgaadoor", sum := "7e97469775cd2bae36adfb44a191b0084028026d253ab853778f3f9d2c7ecb61", checked := Tryd.checked }
namespace Rows
def none {H : Type} : Left H := { results := [], args := [] }

/- WHAT THE LISTED PACKAGE-LEVEL VARIABLES READ AS WHEN THE CALL BEGINS. Each datum BY PROGRAM (the guide's laid-datum.mjs) off the statement by which the dump's own 'gosem.cut.vars' lays the variable. In a bare row this is a premise. The card (YtijeblfhkkfjgaaDoorCards.lean) ties it to the program's text. -/
def laid_unicode_utf8_acceptRanges {H : Type} : DataW H := .agg [.agg [.lit (.int .u8 128), .lit (.int .u8 191)], .agg [.lit (.int .u8 160), .lit (.int .u8 191)], .agg [.lit (.int .u8 128), .lit (.int .u8 159)], .agg [.lit (.int .u8 144), .lit (.int .u8 191)], .agg [.lit (.int .u8 128), .lit (.int .u8 143)], .agg [.lit (.int .u8 0), .lit (.int .u8 0)], .agg [.lit (.int .u8 0), .lit (.int .u8 0)], .agg [.lit (.int .u8 0), .lit (.int .u8 0)], .agg [.lit (.int .u8 0), .lit (.int .u8 0)], .agg [.lit (.int .u8 0), .lit (.int .u8 0)], .agg [.lit (.int .u8 0), .lit (.int .u8 0)], .agg [.lit (.int .u8 0), .lit (.int .u8 0)], .agg [.lit (.int .u8 0), .lit (.int .u8 0)], .agg [.lit (.int .u8 0), .lit (.int .u8 0)], .agg [.lit (.int .u8 0), .lit (.int .u8 0)], .agg [.lit (.int .u8 0), .lit (.int .u8 0)]]
def laid_mandrel_schema_ones {H : Type} : DataW H := .agg [.lit (.string [73, 100, 101, 110, 116, 105, 116, 121]), .lit (.string [78, 101, 103]), .lit (.string [65, 98, 115]), .lit (.string [78, 111, 116]), .lit (.string [82, 101, 108, 117]), .lit (.string [83, 113, 114, 116]), .lit (.string [70, 108, 111, 111, 114]), .lit (.string [69, 120, 112]), .lit (.string [83, 105, 103, 109, 111, 105, 100]), .lit (.string [84, 97, 110, 104])]
/-- One of Go's own tables, pinned by name: the form's constant. -/
def laid_unicode_utf8_first : DataW Unit := Go.Pinned.utf8First

/-- 'mandrellaw06.SchemaNames': WHATEVER THE INPUT: true; the input reads as it did. -/
def schemaNamesSpec : ChangeSpec := { name := "schemaNames", fn := fun _ => fun
  | [d1, d2] => { results := [.lit (.bool true)], args := [d1, d2] }
  | _ => none }
def schemaNamesRow : OpenClaim := { program := "ytijeblfhkkfjgaadoor", sum := "7e97469775cd2bae36adfb44a191b0084028026d253ab853778f3f9d2c7ecb61", func := "mandrel/mandrellaw06.SchemaNames", spec := "schemaNames", inPlace := ["internal/bytealg.CountString", "internal/bytealg.IndexByteString", "internal/bytealg.IndexString"], unfollowed := true, recurses := true, named := ["mandrel/schema.ones", "unicode/utf8.first", "unicode/utf8.acceptRanges", "internal/bytealg.MaxLen"], apart := false, laid := [("unicode/utf8.acceptRanges", laid_unicode_utf8_acceptRanges), ("mandrel/schema.ones", laid_mandrel_schema_ones), ("unicode/utf8.first", laid_unicode_utf8_first)] }
def SchemaNamesSaid : Prop := schemaNamesRow.holds Tryd.pinned (OpenSpec.ofChange schemaNamesSpec)

/-- ITS FALSE NEIGHBOUR: 'it returns false'. Refute it at one input. -/
def schemaNamesWrong : ChangeSpec := { name := "schemaNames", fn := fun _ => fun
  | [d1, d2] => { results := [.lit (.bool false)], args := [d1, d2] }
  | _ => none }
def SchemaNamesWrongFalsely : Prop := schemaNamesRow.holds Tryd.pinned (OpenSpec.ofChange schemaNamesWrong)

/-- 'mandrellaw06.SchemaTurned': WHATEVER THE INPUT: true; the input reads as it did. -/
def schemaTurnedSpec : ChangeSpec := { name := "schemaTurned", fn := fun _ => fun
  | [d1, d2] => { results := [.lit (.bool true)], args := [d1, d2] }
  | _ => none }
def schemaTurnedRow : OpenClaim := { program := "ytijeblfhkkfjgaadoor", sum := "7e97469775cd2bae36adfb44a191b0084028026d253ab853778f3f9d2c7ecb61", func := "mandrel/mandrellaw06.SchemaTurned", spec := "schemaTurned", inPlace := ["internal/bytealg.CountString", "internal/bytealg.IndexByteString", "internal/bytealg.IndexString"], unfollowed := true, recurses := true, named := ["mandrel/schema.ones", "unicode/utf8.first", "unicode/utf8.acceptRanges", "internal/bytealg.MaxLen"], apart := false, laid := [("unicode/utf8.acceptRanges", laid_unicode_utf8_acceptRanges), ("mandrel/schema.ones", laid_mandrel_schema_ones), ("unicode/utf8.first", laid_unicode_utf8_first)] }
def SchemaTurnedSaid : Prop := schemaTurnedRow.holds Tryd.pinned (OpenSpec.ofChange schemaTurnedSpec)

/-- ITS FALSE NEIGHBOUR: 'it returns false'. Refute it at one input. -/
def schemaTurnedWrong : ChangeSpec := { name := "schemaTurned", fn := fun _ => fun
  | [d1, d2] => { results := [.lit (.bool false)], args := [d1, d2] }
  | _ => none }
def SchemaTurnedWrongFalsely : Prop := schemaTurnedRow.holds Tryd.pinned (OpenSpec.ofChange schemaTurnedWrong)

/-- 'mandrellaw06.SchemaTwice': WHATEVER THE INPUT: true; the input reads as it did. -/
def schemaTwiceSpec : ChangeSpec := { name := "schemaTwice", fn := fun _ => fun
  | [d1, d2] => { results := [.lit (.bool true)], args := [d1, d2] }
  | _ => none }
def schemaTwiceRow : OpenClaim := { program := "ytijeblfhkkfjgaadoor", sum := "7e97469775cd2bae36adfb44a191b0084028026d253ab853778f3f9d2c7ecb61", func := "mandrel/mandrellaw06.SchemaTwice", spec := "schemaTwice", inPlace := ["internal/bytealg.CountString", "internal/bytealg.IndexByteString", "internal/bytealg.IndexString"], unfollowed := true, recurses := true, named := ["mandrel/schema.ones", "unicode/utf8.first", "unicode/utf8.acceptRanges", "internal/bytealg.MaxLen"], apart := false, laid := [("unicode/utf8.acceptRanges", laid_unicode_utf8_acceptRanges), ("mandrel/schema.ones", laid_mandrel_schema_ones), ("unicode/utf8.first", laid_unicode_utf8_first)] }
def SchemaTwiceSaid : Prop := schemaTwiceRow.holds Tryd.pinned (OpenSpec.ofChange schemaTwiceSpec)

/-- ITS FALSE NEIGHBOUR: 'it returns false'. Refute it at one input. -/
def schemaTwiceWrong : ChangeSpec := { name := "schemaTwice", fn := fun _ => fun
  | [d1, d2] => { results := [.lit (.bool false)], args := [d1, d2] }
  | _ => none }
def SchemaTwiceWrongFalsely : Prop := schemaTwiceRow.holds Tryd.pinned (OpenSpec.ofChange schemaTwiceWrong)

/-- 'mandrellaw06.SchemaThen': WHATEVER THE INPUT: true; the input reads as it did. -/
def schemaThenSpec : ChangeSpec := { name := "schemaThen", fn := fun _ => fun
  | [d] => { results := [.lit (.bool true)], args := [d] }
  | _ => none }
def schemaThenRow : OpenClaim := { program := "ytijeblfhkkfjgaadoor", sum := "7e97469775cd2bae36adfb44a191b0084028026d253ab853778f3f9d2c7ecb61", func := "mandrel/mandrellaw06.SchemaThen", spec := "schemaThen", inPlace := ["internal/bytealg.CountString", "internal/bytealg.IndexByteString", "internal/bytealg.IndexString"], unfollowed := true, recurses := true, named := ["unicode/utf8.first", "unicode/utf8.acceptRanges", "internal/bytealg.MaxLen", "mandrel/schema.ones"], apart := false, laid := [("unicode/utf8.acceptRanges", laid_unicode_utf8_acceptRanges), ("mandrel/schema.ones", laid_mandrel_schema_ones), ("unicode/utf8.first", laid_unicode_utf8_first)] }
def SchemaThenSaid : Prop := schemaThenRow.holds Tryd.pinned (OpenSpec.ofChange schemaThenSpec)

/-- ITS FALSE NEIGHBOUR: 'it returns false'. Refute it at one input. -/
def schemaThenWrong : ChangeSpec := { name := "schemaThen", fn := fun _ => fun
  | [d] => { results := [.lit (.bool false)], args := [d] }
  | _ => none }
def SchemaThenWrongFalsely : Prop := schemaThenRow.holds Tryd.pinned (OpenSpec.ofChange schemaThenWrong)

/-- 'mandrellaw06.SchemaChecks': WHATEVER THE INPUT: true; the input reads as it did. -/
def schemaChecksSpec : ChangeSpec := { name := "schemaChecks", fn := fun _ => fun
  | [d] => { results := [.lit (.bool true)], args := [d] }
  | _ => none }
def schemaChecksRow : OpenClaim := { program := "ytijeblfhkkfjgaadoor", sum := "7e97469775cd2bae36adfb44a191b0084028026d253ab853778f3f9d2c7ecb61", func := "mandrel/mandrellaw06.SchemaChecks", spec := "schemaChecks", inPlace := ["internal/bytealg.CountString", "internal/bytealg.IndexByteString", "internal/bytealg.IndexString", "math.Float32frombits"], unfollowed := true, recurses := true, named := ["unicode/utf8.first", "unicode/utf8.acceptRanges", "internal/bytealg.MaxLen", "mandrel/schema.ones"], apart := false, laid := [("unicode/utf8.acceptRanges", laid_unicode_utf8_acceptRanges), ("mandrel/schema.ones", laid_mandrel_schema_ones), ("unicode/utf8.first", laid_unicode_utf8_first)] }
def SchemaChecksSaid : Prop := schemaChecksRow.holds Tryd.pinned (OpenSpec.ofChange schemaChecksSpec)

/-- ITS FALSE NEIGHBOUR: 'it returns false'. Refute it at one input. -/
def schemaChecksWrong : ChangeSpec := { name := "schemaChecks", fn := fun _ => fun
  | [d] => { results := [.lit (.bool false)], args := [d] }
  | _ => none }
def SchemaChecksWrongFalsely : Prop := schemaChecksRow.holds Tryd.pinned (OpenSpec.ofChange schemaChecksWrong)

/-- 'mandrellaw06.SchemaReads': WHATEVER THE INPUT: true; the input reads as it did. -/
def schemaReadsSpec : ChangeSpec := { name := "schemaReads", fn := fun _ => fun
  | [d1, d2, d3] => { results := [.lit (.bool true)], args := [d1, d2, d3] }
  | _ => none }
def schemaReadsRow : OpenClaim := { program := "ytijeblfhkkfjgaadoor", sum := "7e97469775cd2bae36adfb44a191b0084028026d253ab853778f3f9d2c7ecb61", func := "mandrel/mandrellaw06.SchemaReads", spec := "schemaReads", inPlace := ["internal/bytealg.CountString", "internal/bytealg.IndexByteString", "internal/bytealg.IndexString"], unfollowed := true, recurses := true, named := ["mandrel/schema.ones", "unicode/utf8.first", "unicode/utf8.acceptRanges", "internal/bytealg.MaxLen"], apart := false, laid := [("unicode/utf8.acceptRanges", laid_unicode_utf8_acceptRanges), ("mandrel/schema.ones", laid_mandrel_schema_ones), ("unicode/utf8.first", laid_unicode_utf8_first)] }
def SchemaReadsSaid : Prop := schemaReadsRow.holds Tryd.pinned (OpenSpec.ofChange schemaReadsSpec)

/-- ITS FALSE NEIGHBOUR: 'it returns false'. Refute it at one input. -/
def schemaReadsWrong : ChangeSpec := { name := "schemaReads", fn := fun _ => fun
  | [d1, d2, d3] => { results := [.lit (.bool false)], args := [d1, d2, d3] }
  | _ => none }
def SchemaReadsWrongFalsely : Prop := schemaReadsRow.holds Tryd.pinned (OpenSpec.ofChange schemaReadsWrong)

/- THE SECOND FORM. 'bulk': how many values and letters a reading holds, each counted each time it is reached (what is shared counts as often as it is met; a slice's spare places count too). A statement '..UptoSaid' is the law's where the arguments, and the package variables that the reading takes, are together of bulk at most 1048576: NARROWER than '..Said'. Prove '..Said' where nothing that the law and all that it calls make is longer than what came in: it says more and counts as full. Else prove '..UptoSaid'. A law counts once. -/
mutual
def uptoBulk {H : Type} : DataW H → Nat
  | .lit (.string bytes) => bytes.length + 1
  | .lit _ => 1
  | .nil => 1
  | .ptr d => uptoBulk d + 1
  | .slice elems spare => uptoBulkAll elems + uptoBulkAll spare + 1
  | .agg parts => uptoBulkAll parts + 1
  | .iface _ d => uptoBulk d + 1
  | .map entries => uptoBulkEntries entries + 1
  | .held _ => 1
def uptoBulkAll {H : Type} : List (DataW H) → Nat
  | [] => 0
  | d :: r => uptoBulk d + uptoBulkAll r
def uptoBulkEntries {H : Type} : List (Lit × DataW H) → Nat
  | [] => 0
  | x :: r => uptoBulkEntry x + uptoBulkEntries r
def uptoBulkEntry {H : Type} : Lit × DataW H → Nat
  | (.string bytes, d) => bytes.length + uptoBulk d + 1
  | (_, d) => uptoBulk d + 1
 end
def uptoSmall : (H : Type) → List (DataW H) → Bool := fun _ ds => decide (uptoBulkAll ds ≤ 1048576)
def OpenSpec.upto (s : _root_.Go.ChangeSpec) : _root_.Go.OpenSpec := { _root_.Go.OpenSpec.ofChange s with cond := some uptoSmall }

/-- 'mandrellaw06.SchemaNames', WHERE WHAT IT READS IS OF BULK AT MOST 1048576: true; the input reads as it did. -/
def schemaNamesUptoRow : OpenClaim := { program := "ytijeblfhkkfjgaadoor", sum := "7e97469775cd2bae36adfb44a191b0084028026d253ab853778f3f9d2c7ecb61", func := "mandrel/mandrellaw06.SchemaNames", spec := "schemaNames", inPlace := ["internal/bytealg.CountString", "internal/bytealg.IndexByteString", "internal/bytealg.IndexString"], unfollowed := true, recurses := true, named := ["mandrel/schema.ones", "unicode/utf8.first", "unicode/utf8.acceptRanges", "internal/bytealg.MaxLen"], apart := false, laid := [("unicode/utf8.acceptRanges", laid_unicode_utf8_acceptRanges), ("mandrel/schema.ones", laid_mandrel_schema_ones), ("unicode/utf8.first", laid_unicode_utf8_first)], narrowed := true }
def SchemaNamesUptoSaid : Prop := schemaNamesUptoRow.holds Tryd.pinned (OpenSpec.upto schemaNamesSpec)

/-- 'mandrellaw06.SchemaTurned', WHERE WHAT IT READS IS OF BULK AT MOST 1048576: true; the input reads as it did. -/
def schemaTurnedUptoRow : OpenClaim := { program := "ytijeblfhkkfjgaadoor", sum := "7e97469775cd2bae36adfb44a191b0084028026d253ab853778f3f9d2c7ecb61", func := "mandrel/mandrellaw06.SchemaTurned", spec := "schemaTurned", inPlace := ["internal/bytealg.CountString", "internal/bytealg.IndexByteString", "internal/bytealg.IndexString"], unfollowed := true, recurses := true, named := ["mandrel/schema.ones", "unicode/utf8.first", "unicode/utf8.acceptRanges", "internal/bytealg.MaxLen"], apart := false, laid := [("unicode/utf8.acceptRanges", laid_unicode_utf8_acceptRanges), ("mandrel/schema.ones", laid_mandrel_schema_ones), ("unicode/utf8.first", laid_unicode_utf8_first)], narrowed := true }
def SchemaTurnedUptoSaid : Prop := schemaTurnedUptoRow.holds Tryd.pinned (OpenSpec.upto schemaTurnedSpec)

/-- 'mandrellaw06.SchemaTwice', WHERE WHAT IT READS IS OF BULK AT MOST 1048576: true; the input reads as it did. -/
def schemaTwiceUptoRow : OpenClaim := { program := "ytijeblfhkkfjgaadoor", sum := "7e97469775cd2bae36adfb44a191b0084028026d253ab853778f3f9d2c7ecb61", func := "mandrel/mandrellaw06.SchemaTwice", spec := "schemaTwice", inPlace := ["internal/bytealg.CountString", "internal/bytealg.IndexByteString", "internal/bytealg.IndexString"], unfollowed := true, recurses := true, named := ["mandrel/schema.ones", "unicode/utf8.first", "unicode/utf8.acceptRanges", "internal/bytealg.MaxLen"], apart := false, laid := [("unicode/utf8.acceptRanges", laid_unicode_utf8_acceptRanges), ("mandrel/schema.ones", laid_mandrel_schema_ones), ("unicode/utf8.first", laid_unicode_utf8_first)], narrowed := true }
def SchemaTwiceUptoSaid : Prop := schemaTwiceUptoRow.holds Tryd.pinned (OpenSpec.upto schemaTwiceSpec)

/-- 'mandrellaw06.SchemaThen', WHERE WHAT IT READS IS OF BULK AT MOST 1048576: true; the input reads as it did. -/
def schemaThenUptoRow : OpenClaim := { program := "ytijeblfhkkfjgaadoor", sum := "7e97469775cd2bae36adfb44a191b0084028026d253ab853778f3f9d2c7ecb61", func := "mandrel/mandrellaw06.SchemaThen", spec := "schemaThen", inPlace := ["internal/bytealg.CountString", "internal/bytealg.IndexByteString", "internal/bytealg.IndexString"], unfollowed := true, recurses := true, named := ["unicode/utf8.first", "unicode/utf8.acceptRanges", "internal/bytealg.MaxLen", "mandrel/schema.ones"], apart := false, laid := [("unicode/utf8.acceptRanges", laid_unicode_utf8_acceptRanges), ("mandrel/schema.ones", laid_mandrel_schema_ones), ("unicode/utf8.first", laid_unicode_utf8_first)], narrowed := true }
def SchemaThenUptoSaid : Prop := schemaThenUptoRow.holds Tryd.pinned (OpenSpec.upto schemaThenSpec)

/-- 'mandrellaw06.SchemaChecks', WHERE WHAT IT READS IS OF BULK AT MOST 1048576: true; the input reads as it did. -/
def schemaChecksUptoRow : OpenClaim := { program := "ytijeblfhkkfjgaadoor", sum := "7e97469775cd2bae36adfb44a191b0084028026d253ab853778f3f9d2c7ecb61", func := "mandrel/mandrellaw06.SchemaChecks", spec := "schemaChecks", inPlace := ["internal/bytealg.CountString", "internal/bytealg.IndexByteString", "internal/bytealg.IndexString", "math.Float32frombits"], unfollowed := true, recurses := true, named := ["unicode/utf8.first", "unicode/utf8.acceptRanges", "internal/bytealg.MaxLen", "mandrel/schema.ones"], apart := false, laid := [("unicode/utf8.acceptRanges", laid_unicode_utf8_acceptRanges), ("mandrel/schema.ones", laid_mandrel_schema_ones), ("unicode/utf8.first", laid_unicode_utf8_first)], narrowed := true }
def SchemaChecksUptoSaid : Prop := schemaChecksUptoRow.holds Tryd.pinned (OpenSpec.upto schemaChecksSpec)

/-- 'mandrellaw06.SchemaReads', WHERE WHAT IT READS IS OF BULK AT MOST 1048576: true; the input reads as it did. -/
def schemaReadsUptoRow : OpenClaim := { program := "ytijeblfhkkfjgaadoor", sum := "7e97469775cd2bae36adfb44a191b0084028026d253ab853778f3f9d2c7ecb61", func := "mandrel/mandrellaw06.SchemaReads", spec := "schemaReads", inPlace := ["internal/bytealg.CountString", "internal/bytealg.IndexByteString", "internal/bytealg.IndexString"], unfollowed := true, recurses := true, named := ["mandrel/schema.ones", "unicode/utf8.first", "unicode/utf8.acceptRanges", "internal/bytealg.MaxLen"], apart := false, laid := [("unicode/utf8.acceptRanges", laid_unicode_utf8_acceptRanges), ("mandrel/schema.ones", laid_mandrel_schema_ones), ("unicode/utf8.first", laid_unicode_utf8_first)], narrowed := true }
def SchemaReadsUptoSaid : Prop := schemaReadsUptoRow.holds Tryd.pinned (OpenSpec.upto schemaReadsSpec)

end Rows
end Go.Proofs.YtijeblfhkkfjgaaDoor
