/-
  DERIVED. GIVEN WITH THE SEED: THE CARDS: each row of YtlhclabldgampaaDoorRows.lean that lists a variable, with what it lists TIED to the program's text (the seventh form; the later family's looks); each row that meets fmt, with fmt's text TOLD by the authors' own Lean function (tested against real Go, not proved from fmt's source: count such statements apart). THE CARD IS WHAT COUNTS. Prove the row's statement (the work); the ties are given (YtlhclabldgampaaDoorTie.lean); close each card by the builder's one call (the guide's Derived/Test/ToyasCard.lean, 'card_holds'). Laid BY PROGRAM, IN A SANDBOX (cutbox-door.mjs). By AI agents, Wed Nov 11 2026. No macro, syntax, notation, axiom, sorry.
-/
import Derived.Test.YtlhclabldgampaaDoorRows
import GoSem.ClaimSeven
namespace Go.Proofs.YtlhclabldgampaaDoor
namespace Rows

/-- THE TIED CARD OF 'laws.FnExactParseAction'. -/
def fnExactParseActionCard : Claim7 := { stood := { row := fnExactParseActionRow, standIns := [], harness := (true, "7e71259e64ff96757e69af4b4b8967e1f5a399de3d10a902a949eaabf29f0c3b"), looks := true }, kinds := [], alts := [], laidByText := true, laidKinds := [.data, .data, .data, .sentinel, .sentinel, .listed, .data], laidTests := true, laidLooks := .later }
def FnExactParseActionCardSaid : Prop := Claim7.holds Tryd.pinned (.plain (OpenSpec.ofChange fnExactParseActionSpec)) fnExactParseActionCard

/-- THE SECOND FORM's CARD OF 'laws.FnExactParseAction'. -/
def fnExactParseActionUptoCard : Claim7 := { stood := { row := fnExactParseActionUptoRow, standIns := [], harness := (true, "7e71259e64ff96757e69af4b4b8967e1f5a399de3d10a902a949eaabf29f0c3b"), looks := true }, kinds := [], alts := [], laidByText := true, laidKinds := [.data, .data, .data, .sentinel, .sentinel, .listed, .data], laidTests := true, laidLooks := .later }
def FnExactParseActionUptoCardSaid : Prop := Claim7.holds Tryd.pinned (.plain (OpenSpec.upto fnExactParseActionSpec)) fnExactParseActionUptoCard
end Rows
end Go.Proofs.YtlhclabldgampaaDoor
