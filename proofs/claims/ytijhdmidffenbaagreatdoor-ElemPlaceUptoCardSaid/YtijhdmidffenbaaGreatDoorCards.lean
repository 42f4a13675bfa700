/-
  DERIVED. GIVEN WITH THE SEED: THE CARDS: each row of YtijhdmidffenbaaGreatDoorRows.lean that lists a variable, with what it lists TIED to the program's text (the seventh form; the later family's looks); each row that meets fmt, with fmt's text TOLD by the authors' own Lean function (tested against real Go, not proved from fmt's source: count such statements apart). THE CARD IS WHAT COUNTS. Prove the row's statement (the work); the ties are given (YtijhdmidffenbaaGreatDoorTie.lean); close each card by the builder's one call (the guide's Derived/Test/ToyasCard.lean, 'card_holds'). Laid BY PROGRAM, IN A SANDBOX (cutbox-door.mjs). By AI agents, Wed Nov 11 2026. No macro, syntax, notation, axiom, sorry.
-/
import Derived.Test.YtijhdmidffenbaaGreatDoorRows
import GoSem.ClaimSeven
namespace Go.Proofs.YtijhdmidffenbaaGreatDoor
namespace Rows

/-- THE TIED CARD OF 'mandrellaw08.InferNames'. -/
def inferNamesCard : Claim7 := { stood := { row := inferNamesRow, standIns := [], harness := (true, "ef7a69188c3535f49024d88d009ceaabc3a573c3954e410346ff79956d59d098"), looks := true }, kinds := [], alts := [], laidByText := true, laidKinds := [.data, .data, .pinned], laidTests := true, laidLooks := .later }
def InferNamesCardSaid : Prop := Claim7.holds Tryz.pinned (.plain (OpenSpec.ofChange inferNamesSpec)) inferNamesCard

/-- THE TIED CARD OF 'mandrellaw08.InferMay'. -/
def inferMayCard : Claim7 := { stood := { row := inferMayRow, standIns := [], harness := (true, "ef7a69188c3535f49024d88d009ceaabc3a573c3954e410346ff79956d59d098"), looks := true }, kinds := [], alts := [], laidByText := true, laidKinds := [.data, .data, .pinned], laidTests := true, laidLooks := .later }
def InferMayCardSaid : Prop := Claim7.holds Tryz.pinned (.plain (OpenSpec.ofChange inferMaySpec)) inferMayCard

/-- THE TIED CARD OF 'mandrellaw09.ElemMay'. -/
def elemMayCard : Claim7 := { stood := { row := elemMayRow, standIns := [], harness := (true, "ef7a69188c3535f49024d88d009ceaabc3a573c3954e410346ff79956d59d098"), looks := true }, kinds := [], alts := [], laidByText := true, laidKinds := [.data, .data, .pinned], laidTests := true, laidLooks := .later }
def ElemMayCardSaid : Prop := Claim7.holds Tryz.pinned (.plain (OpenSpec.ofChange elemMaySpec)) elemMayCard

/-- THE TIED CARD OF 'mandrellaw09.ElemPlace'. -/
def elemPlaceCard : Claim7 := { stood := { row := elemPlaceRow, standIns := [], harness := (true, "ef7a69188c3535f49024d88d009ceaabc3a573c3954e410346ff79956d59d098"), looks := true }, kinds := [], alts := [], laidByText := true, laidKinds := [.data, .data, .pinned], laidTests := true, laidLooks := .later }
def ElemPlaceCardSaid : Prop := Claim7.holds Tryz.pinned (.plain (OpenSpec.ofChange elemPlaceSpec)) elemPlaceCard

/-- THE TIED CARD OF 'mandrellaw09.ElemTurned'. -/
def elemTurnedCard : Claim7 := { stood := { row := elemTurnedRow, standIns := [], harness := (true, "ef7a69188c3535f49024d88d009ceaabc3a573c3954e410346ff79956d59d098"), looks := true }, kinds := [], alts := [], laidByText := true, laidKinds := [.data, .data, .pinned], laidTests := true, laidLooks := .later }
def ElemTurnedCardSaid : Prop := Claim7.holds Tryz.pinned (.plain (OpenSpec.ofChange elemTurnedSpec)) elemTurnedCard

/-- THE TIED CARD OF 'mandrellaw11.ReduceMay'. -/
def reduceMayCard : Claim7 := { stood := { row := reduceMayRow, standIns := [], harness := (true, "ef7a69188c3535f49024d88d009ceaabc3a573c3954e410346ff79956d59d098"), looks := true }, kinds := [], alts := [], laidByText := true, laidKinds := [.data, .data, .pinned], laidTests := true, laidLooks := .later }
def ReduceMayCardSaid : Prop := Claim7.holds Tryz.pinned (.plain (OpenSpec.ofChange reduceMaySpec)) reduceMayCard

/-- THE SECOND FORM's CARD OF 'mandrellaw08.InferNames'. -/
def inferNamesUptoCard : Claim7 := { stood := { row := inferNamesUptoRow, standIns := [], harness := (true, "ef7a69188c3535f49024d88d009ceaabc3a573c3954e410346ff79956d59d098"), looks := true }, kinds := [], alts := [], laidByText := true, laidKinds := [.data, .data, .pinned], laidTests := true, laidLooks := .later }
def InferNamesUptoCardSaid : Prop := Claim7.holds Tryz.pinned (.plain (OpenSpec.upto inferNamesSpec)) inferNamesUptoCard

/-- THE SECOND FORM's CARD OF 'mandrellaw08.InferMay'. -/
def inferMayUptoCard : Claim7 := { stood := { row := inferMayUptoRow, standIns := [], harness := (true, "ef7a69188c3535f49024d88d009ceaabc3a573c3954e410346ff79956d59d098"), looks := true }, kinds := [], alts := [], laidByText := true, laidKinds := [.data, .data, .pinned], laidTests := true, laidLooks := .later }
def InferMayUptoCardSaid : Prop := Claim7.holds Tryz.pinned (.plain (OpenSpec.upto inferMaySpec)) inferMayUptoCard

/-- THE SECOND FORM's CARD OF 'mandrellaw09.ElemMay'. -/
def elemMayUptoCard : Claim7 := { stood := { row := elemMayUptoRow, standIns := [], harness := (true, "ef7a69188c3535f49024d88d009ceaabc3a573c3954e410346ff79956d59d098"), looks := true }, kinds := [], alts := [], laidByText := true, laidKinds := [.data, .data, .pinned], laidTests := true, laidLooks := .later }
def ElemMayUptoCardSaid : Prop := Claim7.holds Tryz.pinned (.plain (OpenSpec.upto elemMaySpec)) elemMayUptoCard

/-- THE SECOND FORM's CARD OF 'mandrellaw09.ElemPlace'. -/
def elemPlaceUptoCard : Claim7 := { stood := { row := elemPlaceUptoRow, standIns := [], harness := (true, "ef7a69188c3535f49024d88d009ceaabc3a573c3954e410346ff79956d59d098"), looks := true }, kinds := [], alts := [], laidByText := true, laidKinds := [.data, .data, .pinned], laidTests := true, laidLooks := .later }
def ElemPlaceUptoCardSaid : Prop := Claim7.holds Tryz.pinned (.plain (OpenSpec.upto elemPlaceSpec)) elemPlaceUptoCard

/-- THE SECOND FORM's CARD OF 'mandrellaw09.ElemTurned'. -/
def elemTurnedUptoCard : Claim7 := { stood := { row := elemTurnedUptoRow, standIns := [], harness := (true, "ef7a69188c3535f49024d88d009ceaabc3a573c3954e410346ff79956d59d098"), looks := true }, kinds := [], alts := [], laidByText := true, laidKinds := [.data, .data, .pinned], laidTests := true, laidLooks := .later }
def ElemTurnedUptoCardSaid : Prop := Claim7.holds Tryz.pinned (.plain (OpenSpec.upto elemTurnedSpec)) elemTurnedUptoCard

/-- THE SECOND FORM's CARD OF 'mandrellaw11.ReduceMay'. -/
def reduceMayUptoCard : Claim7 := { stood := { row := reduceMayUptoRow, standIns := [], harness := (true, "ef7a69188c3535f49024d88d009ceaabc3a573c3954e410346ff79956d59d098"), looks := true }, kinds := [], alts := [], laidByText := true, laidKinds := [.data, .data, .pinned], laidTests := true, laidLooks := .later }
def ReduceMayUptoCardSaid : Prop := Claim7.holds Tryz.pinned (.plain (OpenSpec.upto reduceMaySpec)) reduceMayUptoCard
end Rows
end Go.Proofs.YtijhdmidffenbaaGreatDoor
