/-
  DERIVED. GIVEN WITH THE SEED: THE CARDS: each row of YtgnfgfokndjepaaDoorRows.lean that lists a variable, with what it lists TIED to the program's text (the seventh form; the later family's looks); each row that meets fmt, with fmt's text TOLD by the authors' own Lean function (tested against real Go, not proved from fmt's source: count such statements apart). THE CARD IS WHAT COUNTS. Prove the row's statement (the work); the ties are given (YtgnfgfokndjepaaDoorTie.lean); close each card by the builder's one call (the guide's Derived/Test/ToyasCard.lean, 'card_holds'). Laid BY PROGRAM, IN A SANDBOX (cutbox-door.mjs). By AI agents, Wed Nov 11 2026. No macro, syntax, notation, axiom, sorry.
-/
import Derived.Test.YtgnfgfokndjepaaDoorRows
import GoSem.ClaimSeven
namespace Go.Proofs.YtgnfgfokndjepaaDoor
namespace Rows

/-- THE TIED CARD OF 'laws.FnExactFormatWatch'. -/
def fnExactFormatWatchCard : Claim7 := { stood := { row := fnExactFormatWatchRow, standIns := [], harness := (true, "8cea17c06635d1a3062c73f6d4173686e63d41fe175b692823fa84692371733d"), looks := false }, kinds := [], alts := [], laidByText := true, laidKinds := [.data, .data, .data], laidTests := true, laidLooks := .later }
def FnExactFormatWatchCardSaid : Prop := Claim7.holds Tryd.pinned (.plain (OpenSpec.ofChange fnExactFormatWatchSpec)) fnExactFormatWatchCard

/-- THE SECOND FORM's CARD OF 'laws.FnExactFormatWatch'. -/
def fnExactFormatWatchUptoCard : Claim7 := { stood := { row := fnExactFormatWatchUptoRow, standIns := [], harness := (true, "8cea17c06635d1a3062c73f6d4173686e63d41fe175b692823fa84692371733d"), looks := false }, kinds := [], alts := [], laidByText := true, laidKinds := [.data, .data, .data], laidTests := true, laidLooks := .later }
def FnExactFormatWatchUptoCardSaid : Prop := Claim7.holds Tryd.pinned (.plain (OpenSpec.upto fnExactFormatWatchSpec)) fnExactFormatWatchUptoCard
end Rows
end Go.Proofs.YtgnfgfokndjepaaDoor
