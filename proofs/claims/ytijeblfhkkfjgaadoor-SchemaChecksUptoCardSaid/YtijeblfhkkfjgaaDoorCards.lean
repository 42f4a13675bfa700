/-
  DERIVED. GIVEN WITH THE SEED: THE CARDS: each row of YtijeblfhkkfjgaaDoorRows.lean that lists a variable, with what it lists TIED to the program's text (the seventh form; the later family's looks); each row that meets fmt, with fmt's text TOLD by the authors' own Lean function (tested against real Go, not proved from fmt's source: count such statements apart). THE CARD IS WHAT COUNTS. Prove the row's statement (the work); the ties are given (YtijeblfhkkfjgaaDoorTie.lean); close each card by the builder's one call (the guide's Derived/Test/ToyasCard.lean, 'card_holds'). Laid BY PROGRAM, IN A SANDBOX (cutbox-door.mjs). By AI agents, Wed Nov 11 2026. No macro, syntax, notation, axiom, sorry.
-/
import Derived.Test.YtijeblfhkkfjgaaDoorRows
import GoSem.ClaimSeven
namespace Go.Proofs.YtijeblfhkkfjgaaDoor
namespace Rows

/-- THE TIED CARD OF 'mandrellaw06.SchemaNames'. -/
def schemaNamesCard : Claim7 := { stood := { row := schemaNamesRow, standIns := [], harness := (true, "afa43688d6b045bab5656b29e4c19944f8354080a8cd10921767bfc956dcc2b2"), looks := false }, kinds := [], alts := [], laidByText := true, laidKinds := [.data, .data, .pinned], laidTests := true, laidLooks := .later }
def SchemaNamesCardSaid : Prop := Claim7.holds Tryd.pinned (.plain (OpenSpec.ofChange schemaNamesSpec)) schemaNamesCard

/-- THE TIED CARD OF 'mandrellaw06.SchemaTurned'. -/
def schemaTurnedCard : Claim7 := { stood := { row := schemaTurnedRow, standIns := [], harness := (true, "afa43688d6b045bab5656b29e4c19944f8354080a8cd10921767bfc956dcc2b2"), looks := false }, kinds := [], alts := [], laidByText := true, laidKinds := [.data, .data, .pinned], laidTests := true, laidLooks := .later }
def SchemaTurnedCardSaid : Prop := Claim7.holds Tryd.pinned (.plain (OpenSpec.ofChange schemaTurnedSpec)) schemaTurnedCard

/-- THE TIED CARD OF 'mandrellaw06.SchemaTwice'. -/
def schemaTwiceCard : Claim7 := { stood := { row := schemaTwiceRow, standIns := [], harness := (true, "afa43688d6b045bab5656b29e4c19944f8354080a8cd10921767bfc956dcc2b2"), looks := false }, kinds := [], alts := [], laidByText := true, laidKinds := [.data, .data, .pinned], laidTests := true, laidLooks := .later }
def SchemaTwiceCardSaid : Prop := Claim7.holds Tryd.pinned (.plain (OpenSpec.ofChange schemaTwiceSpec)) schemaTwiceCard

/-- THE TIED CARD OF 'mandrellaw06.SchemaThen'. -/
def schemaThenCard : Claim7 := { stood := { row := schemaThenRow, standIns := [], harness := (true, "afa43688d6b045bab5656b29e4c19944f8354080a8cd10921767bfc956dcc2b2"), looks := false }, kinds := [], alts := [], laidByText := true, laidKinds := [.data, .data, .pinned], laidTests := true, laidLooks := .later }
def SchemaThenCardSaid : Prop := Claim7.holds Tryd.pinned (.plain (OpenSpec.ofChange schemaThenSpec)) schemaThenCard

/-- THE TIED CARD OF 'mandrellaw06.SchemaChecks'. -/
def schemaChecksCard : Claim7 := { stood := { row := schemaChecksRow, standIns := [], harness := (true, "afa43688d6b045bab5656b29e4c19944f8354080a8cd10921767bfc956dcc2b2"), looks := false }, kinds := [], alts := [], laidByText := true, laidKinds := [.data, .data, .pinned], laidTests := true, laidLooks := .later }
def SchemaChecksCardSaid : Prop := Claim7.holds Tryd.pinned (.plain (OpenSpec.ofChange schemaChecksSpec)) schemaChecksCard

/-- THE TIED CARD OF 'mandrellaw06.SchemaReads'. -/
def schemaReadsCard : Claim7 := { stood := { row := schemaReadsRow, standIns := [], harness := (true, "afa43688d6b045bab5656b29e4c19944f8354080a8cd10921767bfc956dcc2b2"), looks := false }, kinds := [], alts := [], laidByText := true, laidKinds := [.data, .data, .pinned], laidTests := true, laidLooks := .later }
def SchemaReadsCardSaid : Prop := Claim7.holds Tryd.pinned (.plain (OpenSpec.ofChange schemaReadsSpec)) schemaReadsCard

/-- THE SECOND FORM's CARD OF 'mandrellaw06.SchemaNames'. -/
def schemaNamesUptoCard : Claim7 := { stood := { row := schemaNamesUptoRow, standIns := [], harness := (true, "afa43688d6b045bab5656b29e4c19944f8354080a8cd10921767bfc956dcc2b2"), looks := false }, kinds := [], alts := [], laidByText := true, laidKinds := [.data, .data, .pinned], laidTests := true, laidLooks := .later }
def SchemaNamesUptoCardSaid : Prop := Claim7.holds Tryd.pinned (.plain (OpenSpec.upto schemaNamesSpec)) schemaNamesUptoCard

/-- THE SECOND FORM's CARD OF 'mandrellaw06.SchemaTurned'. -/
def schemaTurnedUptoCard : Claim7 := { stood := { row := schemaTurnedUptoRow, standIns := [], harness := (true, "afa43688d6b045bab5656b29e4c19944f8354080a8cd10921767bfc956dcc2b2"), looks := false }, kinds := [], alts := [], laidByText := true, laidKinds := [.data, .data, .pinned], laidTests := true, laidLooks := .later }
def SchemaTurnedUptoCardSaid : Prop := Claim7.holds Tryd.pinned (.plain (OpenSpec.upto schemaTurnedSpec)) schemaTurnedUptoCard

/-- THE SECOND FORM's CARD OF 'mandrellaw06.SchemaTwice'. -/
def schemaTwiceUptoCard : Claim7 := { stood := { row := schemaTwiceUptoRow, standIns := [], harness := (true, "afa43688d6b045bab5656b29e4c19944f8354080a8cd10921767bfc956dcc2b2"), looks := false }, kinds := [], alts := [], laidByText := true, laidKinds := [.data, .data, .pinned], laidTests := true, laidLooks := .later }
def SchemaTwiceUptoCardSaid : Prop := Claim7.holds Tryd.pinned (.plain (OpenSpec.upto schemaTwiceSpec)) schemaTwiceUptoCard

/-- THE SECOND FORM's CARD OF 'mandrellaw06.SchemaThen'. -/
def schemaThenUptoCard : Claim7 := { stood := { row := schemaThenUptoRow, standIns := [], harness := (true, "afa43688d6b045bab5656b29e4c19944f8354080a8cd10921767bfc956dcc2b2"), looks := false }, kinds := [], alts := [], laidByText := true, laidKinds := [.data, .data, .pinned], laidTests := true, laidLooks := .later }
def SchemaThenUptoCardSaid : Prop := Claim7.holds Tryd.pinned (.plain (OpenSpec.upto schemaThenSpec)) schemaThenUptoCard

/-- THE SECOND FORM's CARD OF 'mandrellaw06.SchemaChecks'. -/
def schemaChecksUptoCard : Claim7 := { stood := { row := schemaChecksUptoRow, standIns := [], harness := (true, "afa43688d6b045bab5656b29e4c19944f8354080a8cd10921767bfc956dcc2b2"), looks := false }, kinds := [], alts := [], laidByText := true, laidKinds := [.data, .data, .pinned], laidTests := true, laidLooks := .later }
def SchemaChecksUptoCardSaid : Prop := Claim7.holds Tryd.pinned (.plain (OpenSpec.upto schemaChecksSpec)) schemaChecksUptoCard

/-- THE SECOND FORM's CARD OF 'mandrellaw06.SchemaReads'. -/
def schemaReadsUptoCard : Claim7 := { stood := { row := schemaReadsUptoRow, standIns := [], harness := (true, "afa43688d6b045bab5656b29e4c19944f8354080a8cd10921767bfc956dcc2b2"), looks := false }, kinds := [], alts := [], laidByText := true, laidKinds := [.data, .data, .pinned], laidTests := true, laidLooks := .later }
def SchemaReadsUptoCardSaid : Prop := Claim7.holds Tryd.pinned (.plain (OpenSpec.upto schemaReadsSpec)) schemaReadsUptoCard
end Rows
end Go.Proofs.YtijeblfhkkfjgaaDoor
