/-
  DERIVED. GIVEN WITH THE SEED: THE CARDS: each row of YtlbhepfbogcipaaDoorRows.lean that lists a variable, with what it lists TIED to the program's text (the seventh form; the later family's looks); each row that meets fmt, with fmt's text TOLD by the authors' own Lean function (tested against real Go, not proved from fmt's source: count such statements apart). THE CARD IS WHAT COUNTS. Prove the row's statement (the work); the ties are given (YtlbhepfbogcipaaDoorTie.lean); close each card by the builder's one call (the guide's Derived/Test/ToyasCard.lean, 'card_holds'). Laid BY PROGRAM, IN A SANDBOX (cutbox-door.mjs). By AI agents, Wed Nov 11 2026. No macro, syntax, notation, axiom, sorry.
-/
import Derived.Test.YtlbhepfbogcipaaDoorRows
import GoSem.ClaimSeven
namespace Go.Proofs.YtlbhepfbogcipaaDoor
namespace Rows

/-- THE TIED CARD OF 'mandrellaw19.LiveGoesOn'. -/
def liveGoesOnCard : Claim7 := { stood := { row := liveGoesOnRow, standIns := [], harness := (true, "769054df898533e14f6acfb0da265dfd9cbf01a10fdcedbd788c25596a47ed09"), looks := false }, kinds := [], alts := [], laidByText := true, laidKinds := [.data, .data, .pinned], laidTests := true, laidLooks := .later }
def LiveGoesOnCardSaid : Prop := Claim7.holds Tryd.pinned (.plain (OpenSpec.ofChange liveGoesOnSpec)) liveGoesOnCard

/-- THE TIED CARD OF 'mandrellaw19.LiveBefore'. -/
def liveBeforeCard : Claim7 := { stood := { row := liveBeforeRow, standIns := [], harness := (true, "769054df898533e14f6acfb0da265dfd9cbf01a10fdcedbd788c25596a47ed09"), looks := false }, kinds := [], alts := [], laidByText := true, laidKinds := [.data, .data, .pinned], laidTests := true, laidLooks := .later }
def LiveBeforeCardSaid : Prop := Claim7.holds Tryd.pinned (.plain (OpenSpec.ofChange liveBeforeSpec)) liveBeforeCard

/-- THE TIED CARD OF 'mandrellaw19.LiveOutputs'. -/
def liveOutputsCard : Claim7 := { stood := { row := liveOutputsRow, standIns := [], harness := (true, "769054df898533e14f6acfb0da265dfd9cbf01a10fdcedbd788c25596a47ed09"), looks := false }, kinds := [], alts := [], laidByText := true, laidKinds := [.data, .data, .pinned], laidTests := true, laidLooks := .later }
def LiveOutputsCardSaid : Prop := Claim7.holds Tryd.pinned (.plain (OpenSpec.ofChange liveOutputsSpec)) liveOutputsCard

/-- THE SECOND FORM's CARD OF 'mandrellaw19.LiveGoesOn'. -/
def liveGoesOnUptoCard : Claim7 := { stood := { row := liveGoesOnUptoRow, standIns := [], harness := (true, "769054df898533e14f6acfb0da265dfd9cbf01a10fdcedbd788c25596a47ed09"), looks := false }, kinds := [], alts := [], laidByText := true, laidKinds := [.data, .data, .pinned], laidTests := true, laidLooks := .later }
def LiveGoesOnUptoCardSaid : Prop := Claim7.holds Tryd.pinned (.plain (OpenSpec.upto liveGoesOnSpec)) liveGoesOnUptoCard

/-- THE SECOND FORM's CARD OF 'mandrellaw19.LiveBefore'. -/
def liveBeforeUptoCard : Claim7 := { stood := { row := liveBeforeUptoRow, standIns := [], harness := (true, "769054df898533e14f6acfb0da265dfd9cbf01a10fdcedbd788c25596a47ed09"), looks := false }, kinds := [], alts := [], laidByText := true, laidKinds := [.data, .data, .pinned], laidTests := true, laidLooks := .later }
def LiveBeforeUptoCardSaid : Prop := Claim7.holds Tryd.pinned (.plain (OpenSpec.upto liveBeforeSpec)) liveBeforeUptoCard

/-- THE SECOND FORM's CARD OF 'mandrellaw19.LiveOutputs'. -/
def liveOutputsUptoCard : Claim7 := { stood := { row := liveOutputsUptoRow, standIns := [], harness := (true, "769054df898533e14f6acfb0da265dfd9cbf01a10fdcedbd788c25596a47ed09"), looks := false }, kinds := [], alts := [], laidByText := true, laidKinds := [.data, .data, .pinned], laidTests := true, laidLooks := .later }
def LiveOutputsUptoCardSaid : Prop := Claim7.holds Tryd.pinned (.plain (OpenSpec.upto liveOutputsSpec)) liveOutputsUptoCard
end Rows
end Go.Proofs.YtlbhepfbogcipaaDoor
