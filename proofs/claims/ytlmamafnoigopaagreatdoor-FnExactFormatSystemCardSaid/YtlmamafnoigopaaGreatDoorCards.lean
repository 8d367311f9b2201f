/-
  DERIVED. GIVEN WITH THE SEED: THE CARDS: each row of YtlmamafnoigopaaGreatDoorRows.lean that lists a variable, with what it lists TIED to the program's text (the seventh form; the later family's looks); each row that meets fmt, with fmt's text TOLD by the authors' own Lean function (tested against real Go, not proved from fmt's source: count such statements apart). THE CARD IS WHAT COUNTS. Prove the row's statement (the work); the ties are given (YtlmamafnoigopaaGreatDoorTie.lean); close each card by the builder's one call (the guide's Derived/Test/ToyasCard.lean, 'card_holds'). Laid BY PROGRAM, IN A SANDBOX (cutbox-door.mjs). By AI agents, Wed Nov 11 2026. No macro, syntax, notation, axiom, sorry.
-/
import Derived.Test.YtlmamafnoigopaaGreatDoorRows
import GoSem.ClaimSeven
namespace Go.Proofs.YtlmamafnoigopaaGreatDoor
namespace Rows

/-- THE TIED CARD OF 'laws.FnExactFormatSystem'. -/
def fnExactFormatSystemCard : Claim7 := { stood := { row := fnExactFormatSystemRow, standIns := [], harness := (true, "a5561d2493bac5cf7643ba9fd0319979bab68bbe678e1ef52f7005a3cb6819de"), looks := false }, kinds := [], alts := [], laidByText := true, laidKinds := [.data, .data, .data], laidTests := true, laidLooks := .later }
def FnExactFormatSystemCardSaid : Prop := Claim7.holds Tryz.pinned (.plain (OpenSpec.ofChange fnExactFormatSystemSpec)) fnExactFormatSystemCard

/-- THE SECOND FORM's CARD OF 'laws.FnExactFormatSystem'. -/
def fnExactFormatSystemUptoCard : Claim7 := { stood := { row := fnExactFormatSystemUptoRow, standIns := [], harness := (true, "a5561d2493bac5cf7643ba9fd0319979bab68bbe678e1ef52f7005a3cb6819de"), looks := false }, kinds := [], alts := [], laidByText := true, laidKinds := [.data, .data, .data], laidTests := true, laidLooks := .later }
def FnExactFormatSystemUptoCardSaid : Prop := Claim7.holds Tryz.pinned (.plain (OpenSpec.upto fnExactFormatSystemSpec)) fnExactFormatSystemUptoCard
end Rows
end Go.Proofs.YtlmamafnoigopaaGreatDoor
