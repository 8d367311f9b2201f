/-
  DERIVED. GIVEN WITH THE SEED: THE CARDS: each row of YtflpicdbkomglaaGreatDoorRows.lean that lists a variable, with what it lists TIED to the program's text (the seventh form; the later family's looks); each row that meets fmt, with fmt's text TOLD by the authors' own Lean function (tested against real Go, not proved from fmt's source: count such statements apart). THE CARD IS WHAT COUNTS. Prove the row's statement (the work); the ties are given (YtflpicdbkomglaaGreatDoorTie.lean); close each card by the builder's one call (the guide's Derived/Test/ToyasCard.lean, 'card_holds'). Laid BY PROGRAM, IN A SANDBOX (cutbox-door.mjs). By AI agents, Wed Nov 11 2026. No macro, syntax, notation, axiom, sorry.
-/
import Derived.Test.YtflpicdbkomglaaGreatDoorRows
import GoSem.ClaimSeven
namespace Go.Proofs.YtflpicdbkomglaaGreatDoor
namespace Rows

/-- THE TIED CARD OF 'laws.FnExactFormatChange'. -/
def fnExactFormatChangeCard : Claim7 := { stood := { row := fnExactFormatChangeRow, standIns := [], harness := (true, "04095b32a5b8d26b03fd4f0987b1f06e17e70727f72d2a2a49d7fb1fb441a221"), looks := true }, kinds := [], alts := [], laidByText := true, laidKinds := [.data, .data, .data, .data, .sentinel, .sentinel, .listed, .data, .pinned], laidTests := true, laidLooks := .later }
def FnExactFormatChangeCardSaid : Prop := Claim7.holds Tryz.pinned (.plain (OpenSpec.ofChange fnExactFormatChangeSpec)) fnExactFormatChangeCard

/-- THE TIED CARD OF 'laws.FnExactParseChange'. -/
def fnExactParseChangeCard : Claim7 := { stood := { row := fnExactParseChangeRow, standIns := [], harness := (true, "04095b32a5b8d26b03fd4f0987b1f06e17e70727f72d2a2a49d7fb1fb441a221"), looks := true }, kinds := [], alts := [], laidByText := true, laidKinds := [.data, .data, .data, .data, .sentinel, .sentinel, .listed, .data, .pinned], laidTests := true, laidLooks := .later }
def FnExactParseChangeCardSaid : Prop := Claim7.holds Tryz.pinned (.plain (OpenSpec.ofChange fnExactParseChangeSpec)) fnExactParseChangeCard

/-- THE TIED CARD OF 'laws.FnChangeText'. -/
def fnChangeTextCard : Claim7 := { stood := { row := fnChangeTextRow, standIns := [], harness := (true, "04095b32a5b8d26b03fd4f0987b1f06e17e70727f72d2a2a49d7fb1fb441a221"), looks := true }, kinds := [], alts := [], laidByText := true, laidKinds := [.data, .data, .data, .data, .sentinel, .sentinel, .listed, .data, .pinned], laidTests := true, laidLooks := .later }
def FnChangeTextCardSaid : Prop := Claim7.holds Tryz.pinned (.plain (OpenSpec.ofChange fnChangeTextSpec)) fnChangeTextCard

/-- THE TIED CARD OF 'laws.FnExactParseScript'. -/
def fnExactParseScriptCard : Claim7 := { stood := { row := fnExactParseScriptRow, standIns := [], harness := (true, "04095b32a5b8d26b03fd4f0987b1f06e17e70727f72d2a2a49d7fb1fb441a221"), looks := true }, kinds := [], alts := [], laidByText := true, laidKinds := [.data, .data, .data, .data, .sentinel, .sentinel, .listed, .data, .pinned], laidTests := true, laidLooks := .later }
def FnExactParseScriptCardSaid : Prop := Claim7.holds Tryz.pinned (.plain (OpenSpec.ofChange fnExactParseScriptSpec)) fnExactParseScriptCard

/-- THE SECOND FORM's CARD OF 'laws.FnExactFormatChange'. -/
def fnExactFormatChangeUptoCard : Claim7 := { stood := { row := fnExactFormatChangeUptoRow, standIns := [], harness := (true, "04095b32a5b8d26b03fd4f0987b1f06e17e70727f72d2a2a49d7fb1fb441a221"), looks := true }, kinds := [], alts := [], laidByText := true, laidKinds := [.data, .data, .data, .data, .sentinel, .sentinel, .listed, .data, .pinned], laidTests := true, laidLooks := .later }
def FnExactFormatChangeUptoCardSaid : Prop := Claim7.holds Tryz.pinned (.plain (OpenSpec.upto fnExactFormatChangeSpec)) fnExactFormatChangeUptoCard

/-- THE SECOND FORM's CARD OF 'laws.FnExactParseChange'. -/
def fnExactParseChangeUptoCard : Claim7 := { stood := { row := fnExactParseChangeUptoRow, standIns := [], harness := (true, "04095b32a5b8d26b03fd4f0987b1f06e17e70727f72d2a2a49d7fb1fb441a221"), looks := true }, kinds := [], alts := [], laidByText := true, laidKinds := [.data, .data, .data, .data, .sentinel, .sentinel, .listed, .data, .pinned], laidTests := true, laidLooks := .later }
def FnExactParseChangeUptoCardSaid : Prop := Claim7.holds Tryz.pinned (.plain (OpenSpec.upto fnExactParseChangeSpec)) fnExactParseChangeUptoCard

/-- THE SECOND FORM's CARD OF 'laws.FnChangeText'. -/
def fnChangeTextUptoCard : Claim7 := { stood := { row := fnChangeTextUptoRow, standIns := [], harness := (true, "04095b32a5b8d26b03fd4f0987b1f06e17e70727f72d2a2a49d7fb1fb441a221"), looks := true }, kinds := [], alts := [], laidByText := true, laidKinds := [.data, .data, .data, .data, .sentinel, .sentinel, .listed, .data, .pinned], laidTests := true, laidLooks := .later }
def FnChangeTextUptoCardSaid : Prop := Claim7.holds Tryz.pinned (.plain (OpenSpec.upto fnChangeTextSpec)) fnChangeTextUptoCard

/-- THE SECOND FORM's CARD OF 'laws.FnExactParseScript'. -/
def fnExactParseScriptUptoCard : Claim7 := { stood := { row := fnExactParseScriptUptoRow, standIns := [], harness := (true, "04095b32a5b8d26b03fd4f0987b1f06e17e70727f72d2a2a49d7fb1fb441a221"), looks := true }, kinds := [], alts := [], laidByText := true, laidKinds := [.data, .data, .data, .data, .sentinel, .sentinel, .listed, .data, .pinned], laidTests := true, laidLooks := .later }
def FnExactParseScriptUptoCardSaid : Prop := Claim7.holds Tryz.pinned (.plain (OpenSpec.upto fnExactParseScriptSpec)) fnExactParseScriptUptoCard
end Rows
end Go.Proofs.YtflpicdbkomglaaGreatDoor
