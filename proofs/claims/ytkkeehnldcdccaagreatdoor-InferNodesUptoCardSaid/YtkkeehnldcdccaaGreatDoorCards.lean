/-
  DERIVED. GIVEN WITH THE SEED: THE CARDS: each row of YtkkeehnldcdccaaGreatDoorRows.lean that lists a variable, with what it lists TIED to the program's text (the seventh form; the later family's looks); each row that meets fmt, with fmt's text TOLD by the authors' own Lean function (tested against real Go, not proved from fmt's source: count such statements apart). THE CARD IS WHAT COUNTS. Prove the row's statement (the work); the ties are given (YtkkeehnldcdccaaGreatDoorTie.lean); close each card by the builder's one call (the guide's Derived/Test/ToyasCard.lean, 'card_holds'). Laid BY PROGRAM, IN A SANDBOX (cutbox-door.mjs). By AI agents, Wed Nov 11 2026. No macro, syntax, notation, axiom, sorry.
-/
import Derived.Test.YtkkeehnldcdccaaGreatDoorRows
import GoSem.ClaimSeven
namespace Go.Proofs.YtkkeehnldcdccaaGreatDoor
namespace Rows

/-- THE TIED CARD OF 'mandrellaw08.InferNodes'. -/
def inferNodesCard : Claim7 := { stood := { row := inferNodesRow, standIns := [], harness := (true, "5cfc324f8717122534f081d2999116ad22f496112f8ff21dda583271cc0179c5"), looks := true }, kinds := [], alts := [], laidByText := true, laidKinds := [.data, .data, .pinned], laidTests := true, laidLooks := .later }
def InferNodesCardSaid : Prop := Claim7.holds Tryz.pinned (.plain (OpenSpec.ofChange inferNodesSpec)) inferNodesCard

/-- THE SECOND FORM's CARD OF 'mandrellaw08.InferNodes'. -/
def inferNodesUptoCard : Claim7 := { stood := { row := inferNodesUptoRow, standIns := [], harness := (true, "5cfc324f8717122534f081d2999116ad22f496112f8ff21dda583271cc0179c5"), looks := true }, kinds := [], alts := [], laidByText := true, laidKinds := [.data, .data, .pinned], laidTests := true, laidLooks := .later }
def InferNodesUptoCardSaid : Prop := Claim7.holds Tryz.pinned (.plain (OpenSpec.upto inferNodesSpec)) inferNodesUptoCard
end Rows
end Go.Proofs.YtkkeehnldcdccaaGreatDoor
