/-
  DERIVED. GIVEN WITH THE SEED: THE CARDS: each row of YthkihdfanbmegaaGreatDoorRows.lean that lists a variable, with what it lists TIED to the program's text (the seventh form; the later family's looks); each row that meets fmt, with fmt's text TOLD by the authors' own Lean function (tested against real Go, not proved from fmt's source: count such statements apart). THE CARD IS WHAT COUNTS. Prove the row's statement (the work); the ties are given (YthkihdfanbmegaaGreatDoorTie.lean); close each card by the builder's one call (the guide's Derived/Test/ToyasCard.lean, 'card_holds'). Laid BY PROGRAM, IN A SANDBOX (cutbox-door.mjs). By AI agents, Wed Nov 11 2026. No macro, syntax, notation, axiom, sorry.
-/
import Derived.Test.YthkihdfanbmegaaGreatDoorRows
import GoSem.ClaimSeven
namespace Go.Proofs.YthkihdfanbmegaaGreatDoor
namespace Rows

/-- THE TIED CARD OF 'laws.FnRetypeQuery'. -/
def fnRetypeQueryCard : Claim7 := { stood := { row := fnRetypeQueryRow, standIns := [], harness := (true, "fe11b3bf364ef86fd00ae1acabde57c3bc87151f44f90a52c9490a518a555b1e"), looks := true }, kinds := [], alts := [], laidByText := true, laidKinds := [.data, .data, .data, .sentinel, .sentinel], laidTests := true, laidLooks := .later }
def FnRetypeQueryCardSaid : Prop := Claim7.holds Tryz.pinned (.plain (OpenSpec.ofChange fnRetypeQuerySpec)) fnRetypeQueryCard

/-- THE TIED CARD OF 'laws.FnRetype'. -/
def fnRetypeCard : Claim7 := { stood := { row := fnRetypeRow, standIns := [], harness := (true, "fe11b3bf364ef86fd00ae1acabde57c3bc87151f44f90a52c9490a518a555b1e"), looks := true }, kinds := [], alts := [], laidByText := true, laidKinds := [.data, .data, .data, .sentinel, .sentinel], laidTests := true, laidLooks := .later }
def FnRetypeCardSaid : Prop := Claim7.holds Tryz.pinned (.plain (OpenSpec.ofChange fnRetypeSpec)) fnRetypeCard

/-- THE SECOND FORM's CARD OF 'laws.FnRetypeQuery'. -/
def fnRetypeQueryUptoCard : Claim7 := { stood := { row := fnRetypeQueryUptoRow, standIns := [], harness := (true, "fe11b3bf364ef86fd00ae1acabde57c3bc87151f44f90a52c9490a518a555b1e"), looks := true }, kinds := [], alts := [], laidByText := true, laidKinds := [.data, .data, .data, .sentinel, .sentinel], laidTests := true, laidLooks := .later }
def FnRetypeQueryUptoCardSaid : Prop := Claim7.holds Tryz.pinned (.plain (OpenSpec.upto fnRetypeQuerySpec)) fnRetypeQueryUptoCard

/-- THE SECOND FORM's CARD OF 'laws.FnRetype'. -/
def fnRetypeUptoCard : Claim7 := { stood := { row := fnRetypeUptoRow, standIns := [], harness := (true, "fe11b3bf364ef86fd00ae1acabde57c3bc87151f44f90a52c9490a518a555b1e"), looks := true }, kinds := [], alts := [], laidByText := true, laidKinds := [.data, .data, .data, .sentinel, .sentinel], laidTests := true, laidLooks := .later }
def FnRetypeUptoCardSaid : Prop := Claim7.holds Tryz.pinned (.plain (OpenSpec.upto fnRetypeSpec)) fnRetypeUptoCard
end Rows
end Go.Proofs.YthkihdfanbmegaaGreatDoor
