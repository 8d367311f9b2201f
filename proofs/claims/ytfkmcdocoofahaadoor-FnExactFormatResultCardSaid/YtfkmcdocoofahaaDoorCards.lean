/-
  DERIVED. GIVEN WITH THE SEED: THE CARDS: each row of YtfkmcdocoofahaaDoorRows.lean that lists a variable, with what it lists TIED to the program's text (the seventh form; the later family's looks); each row that meets fmt, with fmt's text TOLD by the authors' own Lean function (tested against real Go, not proved from fmt's source: count such statements apart). THE CARD IS WHAT COUNTS. Prove the row's statement (the work); the ties are given (YtfkmcdocoofahaaDoorTie.lean); close each card by the builder's one call (the guide's Derived/Test/ToyasCard.lean, 'card_holds'). Laid BY PROGRAM, IN A SANDBOX (cutbox-door.mjs). By AI agents, Wed Nov 11 2026. No macro, syntax, notation, axiom, sorry.
-/
import Derived.Test.YtfkmcdocoofahaaDoorRows
import GoSem.ClaimSeven
namespace Go.Proofs.YtfkmcdocoofahaaDoor
namespace Rows

/-- THE TIED CARD OF 'laws.FnExactFormatEvent'. -/
def fnExactFormatEventCard : Claim7 := { stood := { row := fnExactFormatEventRow, standIns := [], harness := (true, "80b130a7546cb616175bdec059c686efedae4c9be21cf32ea47b97373a4aeac4"), looks := false }, kinds := [], alts := [], laidByText := true, laidKinds := [.data, .data, .data], laidTests := true, laidLooks := .later }
def FnExactFormatEventCardSaid : Prop := Claim7.holds Tryd.pinned (.plain (OpenSpec.ofChange fnExactFormatEventSpec)) fnExactFormatEventCard

/-- THE TIED CARD OF 'laws.FnExactFormatIDs'. -/
def fnExactFormatIDsCard : Claim7 := { stood := { row := fnExactFormatIDsRow, standIns := [], harness := (true, "80b130a7546cb616175bdec059c686efedae4c9be21cf32ea47b97373a4aeac4"), looks := false }, kinds := [], alts := [], laidByText := true, laidKinds := [.data, .data, .data], laidTests := true, laidLooks := .later }
def FnExactFormatIDsCardSaid : Prop := Claim7.holds Tryd.pinned (.plain (OpenSpec.ofChange fnExactFormatIDsSpec)) fnExactFormatIDsCard

/-- THE TIED CARD OF 'laws.FnExactFormatResult'. -/
def fnExactFormatResultCard : Claim7 := { stood := { row := fnExactFormatResultRow, standIns := [], harness := (true, "80b130a7546cb616175bdec059c686efedae4c9be21cf32ea47b97373a4aeac4"), looks := false }, kinds := [], alts := [], laidByText := true, laidKinds := [.data, .data, .data], laidTests := true, laidLooks := .later }
def FnExactFormatResultCardSaid : Prop := Claim7.holds Tryd.pinned (.plain (OpenSpec.ofChange fnExactFormatResultSpec)) fnExactFormatResultCard

/-- THE SECOND FORM's CARD OF 'laws.FnExactFormatEvent'. -/
def fnExactFormatEventUptoCard : Claim7 := { stood := { row := fnExactFormatEventUptoRow, standIns := [], harness := (true, "80b130a7546cb616175bdec059c686efedae4c9be21cf32ea47b97373a4aeac4"), looks := false }, kinds := [], alts := [], laidByText := true, laidKinds := [.data, .data, .data], laidTests := true, laidLooks := .later }
def FnExactFormatEventUptoCardSaid : Prop := Claim7.holds Tryd.pinned (.plain (OpenSpec.upto fnExactFormatEventSpec)) fnExactFormatEventUptoCard

/-- THE SECOND FORM's CARD OF 'laws.FnExactFormatIDs'. -/
def fnExactFormatIDsUptoCard : Claim7 := { stood := { row := fnExactFormatIDsUptoRow, standIns := [], harness := (true, "80b130a7546cb616175bdec059c686efedae4c9be21cf32ea47b97373a4aeac4"), looks := false }, kinds := [], alts := [], laidByText := true, laidKinds := [.data, .data, .data], laidTests := true, laidLooks := .later }
def FnExactFormatIDsUptoCardSaid : Prop := Claim7.holds Tryd.pinned (.plain (OpenSpec.upto fnExactFormatIDsSpec)) fnExactFormatIDsUptoCard

/-- THE SECOND FORM's CARD OF 'laws.FnExactFormatResult'. -/
def fnExactFormatResultUptoCard : Claim7 := { stood := { row := fnExactFormatResultUptoRow, standIns := [], harness := (true, "80b130a7546cb616175bdec059c686efedae4c9be21cf32ea47b97373a4aeac4"), looks := false }, kinds := [], alts := [], laidByText := true, laidKinds := [.data, .data, .data], laidTests := true, laidLooks := .later }
def FnExactFormatResultUptoCardSaid : Prop := Claim7.holds Tryd.pinned (.plain (OpenSpec.upto fnExactFormatResultSpec)) fnExactFormatResultUptoCard
end Rows
end Go.Proofs.YtfkmcdocoofahaaDoor
