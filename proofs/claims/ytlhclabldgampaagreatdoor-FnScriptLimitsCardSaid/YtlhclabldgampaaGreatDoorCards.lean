/-
  DERIVED. GIVEN WITH THE SEED: THE CARDS: each row of YtlhclabldgampaaGreatDoorRows.lean that lists a variable, with what it lists TIED to the program's text (the seventh form; the later family's looks); each row that meets fmt, with fmt's text TOLD by the authors' own Lean function (tested against real Go, not proved from fmt's source: count such statements apart). THE CARD IS WHAT COUNTS. Prove the row's statement (the work); the ties are given (YtlhclabldgampaaGreatDoorTie.lean); close each card by the builder's one call (the guide's Derived/Test/ToyasCard.lean, 'card_holds'). Laid BY PROGRAM, IN A SANDBOX (cutbox-door.mjs). By AI agents, Wed Nov 11 2026. No macro, syntax, notation, axiom, sorry.
-/
import Derived.Test.YtlhclabldgampaaGreatDoorRows
import GoSem.ClaimSeven
namespace Go.Proofs.YtlhclabldgampaaGreatDoor
namespace Rows

/-- THE TIED CARD OF 'laws.FnCommands'. -/
def fnCommandsCard : Claim7 := { stood := { row := fnCommandsRow, standIns := [], harness := (true, "831194c8c9be8b10936e904f9035784e4292d738b2f14a80772e701a0291a78b"), looks := true }, kinds := [], alts := [], laidByText := true, laidKinds := [.data, .data, .data, .data, .sentinel, .sentinel, .listed, .data, .pinned], laidTests := true, laidLooks := .later }
def FnCommandsCardSaid : Prop := Claim7.holds Tryz.pinned (.plain (OpenSpec.ofChange fnCommandsSpec)) fnCommandsCard

/-- THE TIED CARD OF 'laws.FnScriptLimits'. -/
def fnScriptLimitsCard : Claim7 := { stood := { row := fnScriptLimitsRow, standIns := [], harness := (true, "831194c8c9be8b10936e904f9035784e4292d738b2f14a80772e701a0291a78b"), looks := true }, kinds := [], alts := [], laidByText := true, laidKinds := [.data, .data, .data, .data, .sentinel, .sentinel, .listed, .data, .pinned], laidTests := true, laidLooks := .later }
def FnScriptLimitsCardSaid : Prop := Claim7.holds Tryz.pinned (.plain (OpenSpec.ofChange fnScriptLimitsSpec)) fnScriptLimitsCard

/-- THE SECOND FORM's CARD OF 'laws.FnCommands'. -/
def fnCommandsUptoCard : Claim7 := { stood := { row := fnCommandsUptoRow, standIns := [], harness := (true, "831194c8c9be8b10936e904f9035784e4292d738b2f14a80772e701a0291a78b"), looks := true }, kinds := [], alts := [], laidByText := true, laidKinds := [.data, .data, .data, .data, .sentinel, .sentinel, .listed, .data, .pinned], laidTests := true, laidLooks := .later }
def FnCommandsUptoCardSaid : Prop := Claim7.holds Tryz.pinned (.plain (OpenSpec.upto fnCommandsSpec)) fnCommandsUptoCard

/-- THE SECOND FORM's CARD OF 'laws.FnScriptLimits'. -/
def fnScriptLimitsUptoCard : Claim7 := { stood := { row := fnScriptLimitsUptoRow, standIns := [], harness := (true, "831194c8c9be8b10936e904f9035784e4292d738b2f14a80772e701a0291a78b"), looks := true }, kinds := [], alts := [], laidByText := true, laidKinds := [.data, .data, .data, .data, .sentinel, .sentinel, .listed, .data, .pinned], laidTests := true, laidLooks := .later }
def FnScriptLimitsUptoCardSaid : Prop := Claim7.holds Tryz.pinned (.plain (OpenSpec.upto fnScriptLimitsSpec)) fnScriptLimitsUptoCard
end Rows
end Go.Proofs.YtlhclabldgampaaGreatDoor
