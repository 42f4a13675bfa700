/-
  DERIVED. GIVEN WITH THE SEED: THE CARDS: each row of YtagiipecfdmceaaGreatDoorRows.lean that lists a variable, with what it lists TIED to the program's text (the seventh form; the later family's looks); each row that meets fmt, with fmt's text TOLD by the authors' own Lean function (tested against real Go, not proved from fmt's source: count such statements apart). THE CARD IS WHAT COUNTS. Prove the row's statement (the work); the ties are given (YtagiipecfdmceaaGreatDoorTie.lean); close each card by the builder's one call (the guide's Derived/Test/ToyasCard.lean, 'card_holds'). Laid BY PROGRAM, IN A SANDBOX (cutbox-door.mjs). By AI agents, Wed Nov 11 2026. No macro, syntax, notation, axiom, sorry.
-/
import Derived.Test.YtagiipecfdmceaaGreatDoorRows
import GoSem.ClaimSeven
namespace Go.Proofs.YtagiipecfdmceaaGreatDoor
namespace Rows

/-- THE TIED CARD OF 'mandrellaw08.InferBatch'. -/
def inferBatchCard : Claim7 := { stood := { row := inferBatchRow, standIns := [], harness := (true, "170d8b27ebf5b996326085217330b12d14251b1173f359c44f0b01a0e4969381"), looks := true }, kinds := [], alts := [], laidByText := true, laidKinds := [.data, .data, .pinned], laidTests := true, laidLooks := .later }
def InferBatchCardSaid : Prop := Claim7.holds Tryz.pinned (.plain (OpenSpec.ofChange inferBatchSpec)) inferBatchCard

/-- THE TIED CARD OF 'mandrellaw09.ElemDouble'. -/
def elemDoubleCard : Claim7 := { stood := { row := elemDoubleRow, standIns := [], harness := (true, "170d8b27ebf5b996326085217330b12d14251b1173f359c44f0b01a0e4969381"), looks := true }, kinds := [], alts := [], laidByText := true, laidKinds := [.data, .data, .pinned], laidTests := true, laidLooks := .later }
def ElemDoubleCardSaid : Prop := Claim7.holds Tryz.pinned (.plain (OpenSpec.ofChange elemDoubleSpec)) elemDoubleCard

/-- THE TIED CARD OF 'mandrellaw09.ElemNot'. -/
def elemNotCard : Claim7 := { stood := { row := elemNotRow, standIns := [], harness := (true, "170d8b27ebf5b996326085217330b12d14251b1173f359c44f0b01a0e4969381"), looks := true }, kinds := [], alts := [], laidByText := true, laidKinds := [.data, .data, .pinned], laidTests := true, laidLooks := .later }
def ElemNotCardSaid : Prop := Claim7.holds Tryz.pinned (.plain (OpenSpec.ofChange elemNotSpec)) elemNotCard

/-- THE TIED CARD OF 'mandrellaw11.ReducePoints'. -/
def reducePointsCard : Claim7 := { stood := { row := reducePointsRow, standIns := [], harness := (true, "170d8b27ebf5b996326085217330b12d14251b1173f359c44f0b01a0e4969381"), looks := true }, kinds := [], alts := [], laidByText := true, laidKinds := [.data, .data, .pinned], laidTests := true, laidLooks := .later }
def ReducePointsCardSaid : Prop := Claim7.holds Tryz.pinned (.plain (OpenSpec.ofChange reducePointsSpec)) reducePointsCard

/-- THE TIED CARD OF 'mandrellaw11.ReduceInts'. -/
def reduceIntsCard : Claim7 := { stood := { row := reduceIntsRow, standIns := [], harness := (true, "170d8b27ebf5b996326085217330b12d14251b1173f359c44f0b01a0e4969381"), looks := true }, kinds := [], alts := [], laidByText := true, laidKinds := [.data, .data, .pinned], laidTests := true, laidLooks := .later }
def ReduceIntsCardSaid : Prop := Claim7.holds Tryz.pinned (.plain (OpenSpec.ofChange reduceIntsSpec)) reduceIntsCard

/-- THE TIED CARD OF 'mandrellaw11.ReduceMost'. -/
def reduceMostCard : Claim7 := { stood := { row := reduceMostRow, standIns := [], harness := (true, "170d8b27ebf5b996326085217330b12d14251b1173f359c44f0b01a0e4969381"), looks := true }, kinds := [], alts := [], laidByText := true, laidKinds := [.data, .data, .pinned], laidTests := true, laidLooks := .later }
def ReduceMostCardSaid : Prop := Claim7.holds Tryz.pinned (.plain (OpenSpec.ofChange reduceMostSpec)) reduceMostCard

/-- THE TIED CARD OF 'mandrellaw11.ReduceKeep'. -/
def reduceKeepCard : Claim7 := { stood := { row := reduceKeepRow, standIns := [], harness := (true, "170d8b27ebf5b996326085217330b12d14251b1173f359c44f0b01a0e4969381"), looks := true }, kinds := [], alts := [], laidByText := true, laidKinds := [.data, .data, .pinned], laidTests := true, laidLooks := .later }
def ReduceKeepCardSaid : Prop := Claim7.holds Tryz.pinned (.plain (OpenSpec.ofChange reduceKeepSpec)) reduceKeepCard

/-- THE SECOND FORM's CARD OF 'mandrellaw08.InferBatch'. -/
def inferBatchUptoCard : Claim7 := { stood := { row := inferBatchUptoRow, standIns := [], harness := (true, "170d8b27ebf5b996326085217330b12d14251b1173f359c44f0b01a0e4969381"), looks := true }, kinds := [], alts := [], laidByText := true, laidKinds := [.data, .data, .pinned], laidTests := true, laidLooks := .later }
def InferBatchUptoCardSaid : Prop := Claim7.holds Tryz.pinned (.plain (OpenSpec.upto inferBatchSpec)) inferBatchUptoCard

/-- THE SECOND FORM's CARD OF 'mandrellaw09.ElemDouble'. -/
def elemDoubleUptoCard : Claim7 := { stood := { row := elemDoubleUptoRow, standIns := [], harness := (true, "170d8b27ebf5b996326085217330b12d14251b1173f359c44f0b01a0e4969381"), looks := true }, kinds := [], alts := [], laidByText := true, laidKinds := [.data, .data, .pinned], laidTests := true, laidLooks := .later }
def ElemDoubleUptoCardSaid : Prop := Claim7.holds Tryz.pinned (.plain (OpenSpec.upto elemDoubleSpec)) elemDoubleUptoCard

/-- THE SECOND FORM's CARD OF 'mandrellaw09.ElemNot'. -/
def elemNotUptoCard : Claim7 := { stood := { row := elemNotUptoRow, standIns := [], harness := (true, "170d8b27ebf5b996326085217330b12d14251b1173f359c44f0b01a0e4969381"), looks := true }, kinds := [], alts := [], laidByText := true, laidKinds := [.data, .data, .pinned], laidTests := true, laidLooks := .later }
def ElemNotUptoCardSaid : Prop := Claim7.holds Tryz.pinned (.plain (OpenSpec.upto elemNotSpec)) elemNotUptoCard

/-- THE SECOND FORM's CARD OF 'mandrellaw11.ReducePoints'. -/
def reducePointsUptoCard : Claim7 := { stood := { row := reducePointsUptoRow, standIns := [], harness := (true, "170d8b27ebf5b996326085217330b12d14251b1173f359c44f0b01a0e4969381"), looks := true }, kinds := [], alts := [], laidByText := true, laidKinds := [.data, .data, .pinned], laidTests := true, laidLooks := .later }
def ReducePointsUptoCardSaid : Prop := Claim7.holds Tryz.pinned (.plain (OpenSpec.upto reducePointsSpec)) reducePointsUptoCard

/-- THE SECOND FORM's CARD OF 'mandrellaw11.ReduceInts'. -/
def reduceIntsUptoCard : Claim7 := { stood := { row := reduceIntsUptoRow, standIns := [], harness := (true, "170d8b27ebf5b996326085217330b12d14251b1173f359c44f0b01a0e4969381"), looks := true }, kinds := [], alts := [], laidByText := true, laidKinds := [.data, .data, .pinned], laidTests := true, laidLooks := .later }
def ReduceIntsUptoCardSaid : Prop := Claim7.holds Tryz.pinned (.plain (OpenSpec.upto reduceIntsSpec)) reduceIntsUptoCard

/-- THE SECOND FORM's CARD OF 'mandrellaw11.ReduceMost'. -/
def reduceMostUptoCard : Claim7 := { stood := { row := reduceMostUptoRow, standIns := [], harness := (true, "170d8b27ebf5b996326085217330b12d14251b1173f359c44f0b01a0e4969381"), looks := true }, kinds := [], alts := [], laidByText := true, laidKinds := [.data, .data, .pinned], laidTests := true, laidLooks := .later }
def ReduceMostUptoCardSaid : Prop := Claim7.holds Tryz.pinned (.plain (OpenSpec.upto reduceMostSpec)) reduceMostUptoCard

/-- THE SECOND FORM's CARD OF 'mandrellaw11.ReduceKeep'. -/
def reduceKeepUptoCard : Claim7 := { stood := { row := reduceKeepUptoRow, standIns := [], harness := (true, "170d8b27ebf5b996326085217330b12d14251b1173f359c44f0b01a0e4969381"), looks := true }, kinds := [], alts := [], laidByText := true, laidKinds := [.data, .data, .pinned], laidTests := true, laidLooks := .later }
def ReduceKeepUptoCardSaid : Prop := Claim7.holds Tryz.pinned (.plain (OpenSpec.upto reduceKeepSpec)) reduceKeepUptoCard
end Rows
end Go.Proofs.YtagiipecfdmceaaGreatDoor
