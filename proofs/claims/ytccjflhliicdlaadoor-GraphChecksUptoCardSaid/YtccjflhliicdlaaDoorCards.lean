/-
  DERIVED. GIVEN WITH THE SEED: THE CARDS: each row of YtccjflhliicdlaaDoorRows.lean that lists a variable, with what it lists TIED to the program's text (the seventh form; the later family's looks); each row that meets fmt, with fmt's text TOLD by the authors' own Lean function (tested against real Go, not proved from fmt's source: count such statements apart). THE CARD IS WHAT COUNTS. Prove the row's statement (the work); the ties are given (YtccjflhliicdlaaDoorTie.lean); close each card by the builder's one call (the guide's Derived/Test/ToyasCard.lean, 'card_holds'). Laid BY PROGRAM, IN A SANDBOX (cutbox-door.mjs). By AI agents, Wed Nov 11 2026. No macro, syntax, notation, axiom, sorry.
-/
import Derived.Test.YtccjflhliicdlaaDoorRows
import GoSem.ClaimSeven
namespace Go.Proofs.YtccjflhliicdlaaDoor
namespace Rows

/-- THE TIED CARD OF 'mandrellaw07.GraphReads'. -/
def graphReadsCard : Claim7 := { stood := { row := graphReadsRow, standIns := [], harness := (true, "6cd18f8900e385302920d68645b223f7f442b2b6de2522ef8e81eae0fd5998c7"), looks := false }, kinds := [], alts := [], laidByText := true, laidKinds := [.data, .data, .pinned], laidTests := true, laidLooks := .later }
def GraphReadsCardSaid : Prop := Claim7.holds Tryd.pinned (.plain (OpenSpec.ofChange graphReadsSpec)) graphReadsCard

/-- THE TIED CARD OF 'mandrellaw07.GraphOrders'. -/
def graphOrdersCard : Claim7 := { stood := { row := graphOrdersRow, standIns := [], harness := (true, "6cd18f8900e385302920d68645b223f7f442b2b6de2522ef8e81eae0fd5998c7"), looks := false }, kinds := [], alts := [], laidByText := true, laidKinds := [.data, .data, .pinned], laidTests := true, laidLooks := .later }
def GraphOrdersCardSaid : Prop := Claim7.holds Tryd.pinned (.plain (OpenSpec.ofChange graphOrdersSpec)) graphOrdersCard

/-- THE TIED CARD OF 'mandrellaw07.GraphStands'. -/
def graphStandsCard : Claim7 := { stood := { row := graphStandsRow, standIns := [], harness := (true, "6cd18f8900e385302920d68645b223f7f442b2b6de2522ef8e81eae0fd5998c7"), looks := false }, kinds := [], alts := [], laidByText := true, laidKinds := [.data, .data, .pinned], laidTests := true, laidLooks := .later }
def GraphStandsCardSaid : Prop := Claim7.holds Tryd.pinned (.plain (OpenSpec.ofChange graphStandsSpec)) graphStandsCard

/-- THE TIED CARD OF 'mandrellaw07.GraphRenamed'. -/
def graphRenamedCard : Claim7 := { stood := { row := graphRenamedRow, standIns := [], harness := (true, "6cd18f8900e385302920d68645b223f7f442b2b6de2522ef8e81eae0fd5998c7"), looks := false }, kinds := [], alts := [], laidByText := true, laidKinds := [.data, .data, .pinned], laidTests := true, laidLooks := .later }
def GraphRenamedCardSaid : Prop := Claim7.holds Tryd.pinned (.plain (OpenSpec.ofChange graphRenamedSpec)) graphRenamedCard

/-- THE TIED CARD OF 'mandrellaw07.GraphChecks'. -/
def graphChecksCard : Claim7 := { stood := { row := graphChecksRow, standIns := [], harness := (true, "6cd18f8900e385302920d68645b223f7f442b2b6de2522ef8e81eae0fd5998c7"), looks := false }, kinds := [], alts := [], laidByText := true, laidKinds := [.data, .data, .pinned], laidTests := true, laidLooks := .later }
def GraphChecksCardSaid : Prop := Claim7.holds Tryd.pinned (.plain (OpenSpec.ofChange graphChecksSpec)) graphChecksCard

/-- THE TIED CARD OF 'mandrellaw07.GraphMore'. -/
def graphMoreCard : Claim7 := { stood := { row := graphMoreRow, standIns := [], harness := (true, "6cd18f8900e385302920d68645b223f7f442b2b6de2522ef8e81eae0fd5998c7"), looks := false }, kinds := [], alts := [], laidByText := true, laidKinds := [.data, .data, .pinned], laidTests := true, laidLooks := .later }
def GraphMoreCardSaid : Prop := Claim7.holds Tryd.pinned (.plain (OpenSpec.ofChange graphMoreSpec)) graphMoreCard

/-- THE SECOND FORM's CARD OF 'mandrellaw07.GraphReads'. -/
def graphReadsUptoCard : Claim7 := { stood := { row := graphReadsUptoRow, standIns := [], harness := (true, "6cd18f8900e385302920d68645b223f7f442b2b6de2522ef8e81eae0fd5998c7"), looks := false }, kinds := [], alts := [], laidByText := true, laidKinds := [.data, .data, .pinned], laidTests := true, laidLooks := .later }
def GraphReadsUptoCardSaid : Prop := Claim7.holds Tryd.pinned (.plain (OpenSpec.upto graphReadsSpec)) graphReadsUptoCard

/-- THE SECOND FORM's CARD OF 'mandrellaw07.GraphOrders'. -/
def graphOrdersUptoCard : Claim7 := { stood := { row := graphOrdersUptoRow, standIns := [], harness := (true, "6cd18f8900e385302920d68645b223f7f442b2b6de2522ef8e81eae0fd5998c7"), looks := false }, kinds := [], alts := [], laidByText := true, laidKinds := [.data, .data, .pinned], laidTests := true, laidLooks := .later }
def GraphOrdersUptoCardSaid : Prop := Claim7.holds Tryd.pinned (.plain (OpenSpec.upto graphOrdersSpec)) graphOrdersUptoCard

/-- THE SECOND FORM's CARD OF 'mandrellaw07.GraphStands'. -/
def graphStandsUptoCard : Claim7 := { stood := { row := graphStandsUptoRow, standIns := [], harness := (true, "6cd18f8900e385302920d68645b223f7f442b2b6de2522ef8e81eae0fd5998c7"), looks := false }, kinds := [], alts := [], laidByText := true, laidKinds := [.data, .data, .pinned], laidTests := true, laidLooks := .later }
def GraphStandsUptoCardSaid : Prop := Claim7.holds Tryd.pinned (.plain (OpenSpec.upto graphStandsSpec)) graphStandsUptoCard

/-- THE SECOND FORM's CARD OF 'mandrellaw07.GraphRenamed'. -/
def graphRenamedUptoCard : Claim7 := { stood := { row := graphRenamedUptoRow, standIns := [], harness := (true, "6cd18f8900e385302920d68645b223f7f442b2b6de2522ef8e81eae0fd5998c7"), looks := false }, kinds := [], alts := [], laidByText := true, laidKinds := [.data, .data, .pinned], laidTests := true, laidLooks := .later }
def GraphRenamedUptoCardSaid : Prop := Claim7.holds Tryd.pinned (.plain (OpenSpec.upto graphRenamedSpec)) graphRenamedUptoCard

/-- THE SECOND FORM's CARD OF 'mandrellaw07.GraphChecks'. -/
def graphChecksUptoCard : Claim7 := { stood := { row := graphChecksUptoRow, standIns := [], harness := (true, "6cd18f8900e385302920d68645b223f7f442b2b6de2522ef8e81eae0fd5998c7"), looks := false }, kinds := [], alts := [], laidByText := true, laidKinds := [.data, .data, .pinned], laidTests := true, laidLooks := .later }
def GraphChecksUptoCardSaid : Prop := Claim7.holds Tryd.pinned (.plain (OpenSpec.upto graphChecksSpec)) graphChecksUptoCard

/-- THE SECOND FORM's CARD OF 'mandrellaw07.GraphMore'. -/
def graphMoreUptoCard : Claim7 := { stood := { row := graphMoreUptoRow, standIns := [], harness := (true, "6cd18f8900e385302920d68645b223f7f442b2b6de2522ef8e81eae0fd5998c7"), looks := false }, kinds := [], alts := [], laidByText := true, laidKinds := [.data, .data, .pinned], laidTests := true, laidLooks := .later }
def GraphMoreUptoCardSaid : Prop := Claim7.holds Tryd.pinned (.plain (OpenSpec.upto graphMoreSpec)) graphMoreUptoCard
end Rows
end Go.Proofs.YtccjflhliicdlaaDoor
