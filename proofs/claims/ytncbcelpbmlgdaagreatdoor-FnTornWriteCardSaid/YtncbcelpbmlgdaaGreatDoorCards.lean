/-
  DERIVED. GIVEN WITH THE SEED: THE CARDS: each row of YtncbcelpbmlgdaaGreatDoorRows.lean that lists a variable, with what it lists TIED to the program's text (the seventh form; the later family's looks); each row that meets fmt, with fmt's text TOLD by the authors' own Lean function (tested against real Go, not proved from fmt's source: count such statements apart). THE CARD IS WHAT COUNTS. Prove the row's statement (the work); the ties are given (YtncbcelpbmlgdaaGreatDoorTie.lean); close each card by the builder's one call (the guide's Derived/Test/ToyasCard.lean, 'card_holds'). Laid BY PROGRAM, IN A SANDBOX (cutbox-door.mjs). By AI agents, Wed Nov 11 2026. No macro, syntax, notation, axiom, sorry.
-/
import Derived.Test.YtncbcelpbmlgdaaGreatDoorRows
import GoSem.ClaimSeven
namespace Go.Proofs.YtncbcelpbmlgdaaGreatDoor
namespace Rows

/-- THE TIED CARD OF 'laws.FnTwoWrites'. -/
def fnTwoWritesCard : Claim7 := { stood := { row := fnTwoWritesRow, standIns := [], harness := (true, "6e9573f415262a6625b1b02ac3c821610b2a706019077b3166d2cc1dd3d9a9ae"), looks := true }, kinds := [], alts := [], laidByText := true, laidKinds := [.data, .data, .data, .data, .sentinel, .sentinel, .listed, .data, .pinned], laidTests := true, laidLooks := .later }
def FnTwoWritesCardSaid : Prop := Claim7.holds Tryz.pinned (.plain (OpenSpec.ofChange fnTwoWritesSpec)) fnTwoWritesCard

/-- THE TIED CARD OF 'laws.FnSnapshotRoundTrip'. -/
def fnSnapshotRoundTripCard : Claim7 := { stood := { row := fnSnapshotRoundTripRow, standIns := [], harness := (true, "6e9573f415262a6625b1b02ac3c821610b2a706019077b3166d2cc1dd3d9a9ae"), looks := true }, kinds := [], alts := [], laidByText := true, laidKinds := [.data, .data, .data, .data, .sentinel, .sentinel, .listed, .data, .pinned], laidTests := true, laidLooks := .later }
def FnSnapshotRoundTripCardSaid : Prop := Claim7.holds Tryz.pinned (.plain (OpenSpec.ofChange fnSnapshotRoundTripSpec)) fnSnapshotRoundTripCard

/-- THE TIED CARD OF 'laws.FnSlotRoundTrip'. -/
def fnSlotRoundTripCard : Claim7 := { stood := { row := fnSlotRoundTripRow, standIns := [], harness := (true, "6e9573f415262a6625b1b02ac3c821610b2a706019077b3166d2cc1dd3d9a9ae"), looks := true }, kinds := [], alts := [], laidByText := true, laidKinds := [.data, .data, .data, .data, .sentinel, .sentinel, .listed, .data, .pinned], laidTests := true, laidLooks := .later }
def FnSlotRoundTripCardSaid : Prop := Claim7.holds Tryz.pinned (.plain (OpenSpec.ofChange fnSlotRoundTripSpec)) fnSlotRoundTripCard

/-- THE TIED CARD OF 'laws.FnTornWrite'. -/
def fnTornWriteCard : Claim7 := { stood := { row := fnTornWriteRow, standIns := [], harness := (true, "6e9573f415262a6625b1b02ac3c821610b2a706019077b3166d2cc1dd3d9a9ae"), looks := true }, kinds := [], alts := [], laidByText := true, laidKinds := [.data, .data, .data, .data, .sentinel, .sentinel, .listed, .data, .pinned], laidTests := true, laidLooks := .later }
def FnTornWriteCardSaid : Prop := Claim7.holds Tryz.pinned (.plain (OpenSpec.ofChange fnTornWriteSpec)) fnTornWriteCard

/-- THE SECOND FORM's CARD OF 'laws.FnTwoWrites'. -/
def fnTwoWritesUptoCard : Claim7 := { stood := { row := fnTwoWritesUptoRow, standIns := [], harness := (true, "6e9573f415262a6625b1b02ac3c821610b2a706019077b3166d2cc1dd3d9a9ae"), looks := true }, kinds := [], alts := [], laidByText := true, laidKinds := [.data, .data, .data, .data, .sentinel, .sentinel, .listed, .data, .pinned], laidTests := true, laidLooks := .later }
def FnTwoWritesUptoCardSaid : Prop := Claim7.holds Tryz.pinned (.plain (OpenSpec.upto fnTwoWritesSpec)) fnTwoWritesUptoCard

/-- THE SECOND FORM's CARD OF 'laws.FnSnapshotRoundTrip'. -/
def fnSnapshotRoundTripUptoCard : Claim7 := { stood := { row := fnSnapshotRoundTripUptoRow, standIns := [], harness := (true, "6e9573f415262a6625b1b02ac3c821610b2a706019077b3166d2cc1dd3d9a9ae"), looks := true }, kinds := [], alts := [], laidByText := true, laidKinds := [.data, .data, .data, .data, .sentinel, .sentinel, .listed, .data, .pinned], laidTests := true, laidLooks := .later }
def FnSnapshotRoundTripUptoCardSaid : Prop := Claim7.holds Tryz.pinned (.plain (OpenSpec.upto fnSnapshotRoundTripSpec)) fnSnapshotRoundTripUptoCard

/-- THE SECOND FORM's CARD OF 'laws.FnSlotRoundTrip'. -/
def fnSlotRoundTripUptoCard : Claim7 := { stood := { row := fnSlotRoundTripUptoRow, standIns := [], harness := (true, "6e9573f415262a6625b1b02ac3c821610b2a706019077b3166d2cc1dd3d9a9ae"), looks := true }, kinds := [], alts := [], laidByText := true, laidKinds := [.data, .data, .data, .data, .sentinel, .sentinel, .listed, .data, .pinned], laidTests := true, laidLooks := .later }
def FnSlotRoundTripUptoCardSaid : Prop := Claim7.holds Tryz.pinned (.plain (OpenSpec.upto fnSlotRoundTripSpec)) fnSlotRoundTripUptoCard

/-- THE SECOND FORM's CARD OF 'laws.FnTornWrite'. -/
def fnTornWriteUptoCard : Claim7 := { stood := { row := fnTornWriteUptoRow, standIns := [], harness := (true, "6e9573f415262a6625b1b02ac3c821610b2a706019077b3166d2cc1dd3d9a9ae"), looks := true }, kinds := [], alts := [], laidByText := true, laidKinds := [.data, .data, .data, .data, .sentinel, .sentinel, .listed, .data, .pinned], laidTests := true, laidLooks := .later }
def FnTornWriteUptoCardSaid : Prop := Claim7.holds Tryz.pinned (.plain (OpenSpec.upto fnTornWriteSpec)) fnTornWriteUptoCard
end Rows
end Go.Proofs.YtncbcelpbmlgdaaGreatDoor
