/-
  DERIVED. GIVEN WITH THE SEED: THE CARDS: each row of YtnaiafihkjbmnaaDoorRows.lean that lists a variable, with what it lists TIED to the program's text (the seventh form; the later family's looks); each row that meets fmt, with fmt's text TOLD by the authors' own Lean function (tested against real Go, not proved from fmt's source: count such statements apart). THE CARD IS WHAT COUNTS. Prove the row's statement (the work); the ties are given (YtnaiafihkjbmnaaDoorTie.lean); close each card by the builder's one call (the guide's Derived/Test/ToyasCard.lean, 'card_holds'). Laid BY PROGRAM, IN A SANDBOX (cutbox-door.mjs). By AI agents, Wed Nov 11 2026. No macro, syntax, notation, axiom, sorry.
-/
import Derived.Test.YtnaiafihkjbmnaaDoorRows
import GoSem.ClaimSeven
namespace Go.Proofs.YtnaiafihkjbmnaaDoor
namespace Rows

/-- THE TIED CARD OF 'laws.FnExactFormatWatch'. -/
def fnExactFormatWatchCard : Claim7 := { stood := { row := fnExactFormatWatchRow, standIns := [], harness := (true, "891af68fd72b1fef14e0c45b5d01b73baaf4957d3da03c225fb4e2833295901d"), looks := true }, kinds := [], alts := [], laidByText := true, laidKinds := [.data, .data, .data], laidTests := true, laidLooks := .later }
def FnExactFormatWatchCardSaid : Prop := Claim7.holds Tryd.pinned (.plain (OpenSpec.ofChange fnExactFormatWatchSpec)) fnExactFormatWatchCard

/-- THE TIED CARD OF 'laws.FnExactFormatAction'. -/
def fnExactFormatActionCard : Claim7 := { stood := { row := fnExactFormatActionRow, standIns := [], harness := (true, "891af68fd72b1fef14e0c45b5d01b73baaf4957d3da03c225fb4e2833295901d"), looks := true }, kinds := [], alts := [], laidByText := true, laidKinds := [.data, .data, .data], laidTests := true, laidLooks := .later }
def FnExactFormatActionCardSaid : Prop := Claim7.holds Tryd.pinned (.plain (OpenSpec.ofChange fnExactFormatActionSpec)) fnExactFormatActionCard

/-- THE TIED CARD OF 'laws.FnExactParseAction'. -/
def fnExactParseActionCard : Claim7 := { stood := { row := fnExactParseActionRow, standIns := [], harness := (true, "891af68fd72b1fef14e0c45b5d01b73baaf4957d3da03c225fb4e2833295901d"), looks := true }, kinds := [], alts := [], laidByText := true, laidKinds := [.data, .data, .data, .sentinel, .sentinel, .listed, .data], laidTests := true, laidLooks := .later }
def FnExactParseActionCardSaid : Prop := Claim7.holds Tryd.pinned (.plain (OpenSpec.ofChange fnExactParseActionSpec)) fnExactParseActionCard

/-- THE SECOND FORM's CARD OF 'laws.FnExactFormatWatch'. -/
def fnExactFormatWatchUptoCard : Claim7 := { stood := { row := fnExactFormatWatchUptoRow, standIns := [], harness := (true, "891af68fd72b1fef14e0c45b5d01b73baaf4957d3da03c225fb4e2833295901d"), looks := true }, kinds := [], alts := [], laidByText := true, laidKinds := [.data, .data, .data], laidTests := true, laidLooks := .later }
def FnExactFormatWatchUptoCardSaid : Prop := Claim7.holds Tryd.pinned (.plain (OpenSpec.upto fnExactFormatWatchSpec)) fnExactFormatWatchUptoCard

/-- THE SECOND FORM's CARD OF 'laws.FnExactFormatAction'. -/
def fnExactFormatActionUptoCard : Claim7 := { stood := { row := fnExactFormatActionUptoRow, standIns := [], harness := (true, "891af68fd72b1fef14e0c45b5d01b73baaf4957d3da03c225fb4e2833295901d"), looks := true }, kinds := [], alts := [], laidByText := true, laidKinds := [.data, .data, .data], laidTests := true, laidLooks := .later }
def FnExactFormatActionUptoCardSaid : Prop := Claim7.holds Tryd.pinned (.plain (OpenSpec.upto fnExactFormatActionSpec)) fnExactFormatActionUptoCard

/-- THE SECOND FORM's CARD OF 'laws.FnExactParseAction'. -/
def fnExactParseActionUptoCard : Claim7 := { stood := { row := fnExactParseActionUptoRow, standIns := [], harness := (true, "891af68fd72b1fef14e0c45b5d01b73baaf4957d3da03c225fb4e2833295901d"), looks := true }, kinds := [], alts := [], laidByText := true, laidKinds := [.data, .data, .data, .sentinel, .sentinel, .listed, .data], laidTests := true, laidLooks := .later }
def FnExactParseActionUptoCardSaid : Prop := Claim7.holds Tryd.pinned (.plain (OpenSpec.upto fnExactParseActionSpec)) fnExactParseActionUptoCard
end Rows
end Go.Proofs.YtnaiafihkjbmnaaDoor
