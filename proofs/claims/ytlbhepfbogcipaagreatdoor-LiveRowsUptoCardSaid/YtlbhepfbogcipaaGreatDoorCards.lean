/-
  DERIVED. GIVEN WITH THE SEED: THE CARDS: each row of YtlbhepfbogcipaaGreatDoorRows.lean that lists a variable, with what it lists TIED to the program's text (the seventh form; the later family's looks); each row that meets fmt, with fmt's text TOLD by the authors' own Lean function (tested against real Go, not proved from fmt's source: count such statements apart). THE CARD IS WHAT COUNTS. Prove the row's statement (the work); the ties are given (YtlbhepfbogcipaaGreatDoorTie.lean); close each card by the builder's one call (the guide's Derived/Test/ToyasCard.lean, 'card_holds'). Laid BY PROGRAM, IN A SANDBOX (cutbox-door.mjs). By AI agents, Wed Nov 11 2026. No macro, syntax, notation, axiom, sorry.
-/
import Derived.Test.YtlbhepfbogcipaaGreatDoorRows
import GoSem.ClaimSeven
namespace Go.Proofs.YtlbhepfbogcipaaGreatDoor
namespace Rows

/-- THE TIED CARD OF 'mandrellaw19.LiveRows'. -/
def liveRowsCard : Claim7 := { stood := { row := liveRowsRow, standIns := [], harness := (true, "ba1963dac0be8e68401f1bd19327b40d45b02a0318a5115445d8e8078765df27"), looks := false }, kinds := [], alts := [], laidByText := true, laidKinds := [.data, .data, .pinned], laidTests := true, laidLooks := .later }
def LiveRowsCardSaid : Prop := Claim7.holds Tryz.pinned (.plain (OpenSpec.ofChange liveRowsSpec)) liveRowsCard

/-- THE TIED CARD OF 'mandrellaw19.LiveApart'. -/
def liveApartCard : Claim7 := { stood := { row := liveApartRow, standIns := [], harness := (true, "ba1963dac0be8e68401f1bd19327b40d45b02a0318a5115445d8e8078765df27"), looks := false }, kinds := [], alts := [], laidByText := true, laidKinds := [.data, .data, .pinned], laidTests := true, laidLooks := .later }
def LiveApartCardSaid : Prop := Claim7.holds Tryz.pinned (.plain (OpenSpec.ofChange liveApartSpec)) liveApartCard

/-- THE SECOND FORM's CARD OF 'mandrellaw19.LiveRows'. -/
def liveRowsUptoCard : Claim7 := { stood := { row := liveRowsUptoRow, standIns := [], harness := (true, "ba1963dac0be8e68401f1bd19327b40d45b02a0318a5115445d8e8078765df27"), looks := false }, kinds := [], alts := [], laidByText := true, laidKinds := [.data, .data, .pinned], laidTests := true, laidLooks := .later }
def LiveRowsUptoCardSaid : Prop := Claim7.holds Tryz.pinned (.plain (OpenSpec.upto liveRowsSpec)) liveRowsUptoCard

/-- THE SECOND FORM's CARD OF 'mandrellaw19.LiveApart'. -/
def liveApartUptoCard : Claim7 := { stood := { row := liveApartUptoRow, standIns := [], harness := (true, "ba1963dac0be8e68401f1bd19327b40d45b02a0318a5115445d8e8078765df27"), looks := false }, kinds := [], alts := [], laidByText := true, laidKinds := [.data, .data, .pinned], laidTests := true, laidLooks := .later }
def LiveApartUptoCardSaid : Prop := Claim7.holds Tryz.pinned (.plain (OpenSpec.upto liveApartSpec)) liveApartUptoCard
end Rows
end Go.Proofs.YtlbhepfbogcipaaGreatDoor
