/-
  No cell of these rows narrows 'for every input' (looked for: loops, veiled, ifaces, maps, wideKeys, modest, calm, conditions, laid).
  DERIVED. THE GIVEN ROWS OF THIS SEAT. 4 by the template 'for every input the law returns true; each argument reads behind the call as it read before'; 0 by the template 'total and deterministic' (their statements: YtgbobfdlafkijaaGreatTotals.lean).
  GIVEN WITH THE SEED: the statements are not yours to turn. If you find one false, say at which input.
  Laid BY PROGRAM, IN A SANDBOX (cutbox-rows.mjs): the forced cells as the released guide's own fill.sh prints them over the translation 2e4e2da5a109024b… (all of the seat's roots in one cut). By AI agents, Wed Nov 11 2026. No macro, syntax, notation, axiom, sorry.
-/
import Derived.Test.YtgbobfdlafkijaaGreatChecked
import GoSem.Claim
import GoSem.ClaimJoined
import GoSem.ClaimMapViews
import Derived.JoinedTies
import Derived.KernelRfl
namespace Go.Proofs.YtgbobfdlafkijaaGreat
/- THE CELL 'sum', in the pinned program and in every row, IS THE sha256 OF THE DUMP (.gsa) THAT YtgbobfdlafkijaaGreatProg.lean LOADS. Nothing in Lean hashes anything: it is a label: what it is worth is what the hold of that sum in a sandbox is worth. -/
noncomputable def Tryz.pinned : Pinned := { name := "ytgbobfdlafkijaagreat", sum := "2e4e2da5a109024bd466e2552dd0ab77707faf1b08b19a0440976b9239aa0b9f", checked := Tryz.checked }
namespace Rows
def none {H : Type} : Left H := { results := [], args := [] }

/-- 'laws.FnVersionFound': WHATEVER THE INPUT: true; the input reads as it did. -/
def fnVersionFoundSpec : ChangeSpec := { name := "fnVersionFound", fn := fun _ => fun
  | [d] => { results := [.lit (.bool true)], args := [d] }
  | _ => none }
def fnVersionFoundRow : OpenClaim := { program := "ytgbobfdlafkijaagreat", sum := "2e4e2da5a109024bd466e2552dd0ab77707faf1b08b19a0440976b9239aa0b9f", func := "loop.example/g00976/laws.FnVersionFound", spec := "fnVersionFound", unfollowed := true, recurses := true, apart := false }
def FnVersionFoundSaid : Prop := fnVersionFoundRow.holds Tryz.pinned (OpenSpec.ofChange fnVersionFoundSpec)

/-- ITS FALSE NEIGHBOUR: 'it returns false'. Refute it at one input. -/
def fnVersionFoundWrong : ChangeSpec := { name := "fnVersionFound", fn := fun _ => fun
  | [d] => { results := [.lit (.bool false)], args := [d] }
  | _ => none }
def FnVersionFoundWrongFalsely : Prop := fnVersionFoundRow.holds Tryz.pinned (OpenSpec.ofChange fnVersionFoundWrong)

/-- 'laws.FnVersions': WHATEVER THE INPUT: true; the input reads as it did. -/
def fnVersionsSpec : ChangeSpec := { name := "fnVersions", fn := fun _ => fun
  | [d] => { results := [.lit (.bool true)], args := [d] }
  | _ => none }
def fnVersionsRow : OpenClaim := { program := "ytgbobfdlafkijaagreat", sum := "2e4e2da5a109024bd466e2552dd0ab77707faf1b08b19a0440976b9239aa0b9f", func := "loop.example/g00976/laws.FnVersions", spec := "fnVersions", unfollowed := true, recurses := true, apart := false }
def FnVersionsSaid : Prop := fnVersionsRow.holds Tryz.pinned (OpenSpec.ofChange fnVersionsSpec)

/-- ITS FALSE NEIGHBOUR: 'it returns false'. Refute it at one input. -/
def fnVersionsWrong : ChangeSpec := { name := "fnVersions", fn := fun _ => fun
  | [d] => { results := [.lit (.bool false)], args := [d] }
  | _ => none }
def FnVersionsWrongFalsely : Prop := fnVersionsRow.holds Tryz.pinned (OpenSpec.ofChange fnVersionsWrong)

/-- 'laws.FnUpdateUndo': WHATEVER THE INPUT: true; the input reads as it did. -/
def fnUpdateUndoSpec : ChangeSpec := { name := "fnUpdateUndo", fn := fun _ => fun
  | [d] => { results := [.lit (.bool true)], args := [d] }
  | _ => none }
def fnUpdateUndoRow : OpenClaim := { program := "ytgbobfdlafkijaagreat", sum := "2e4e2da5a109024bd466e2552dd0ab77707faf1b08b19a0440976b9239aa0b9f", func := "loop.example/g00976/laws.FnUpdateUndo", spec := "fnUpdateUndo", unfollowed := true, recurses := true, apart := false }
def FnUpdateUndoSaid : Prop := fnUpdateUndoRow.holds Tryz.pinned (OpenSpec.ofChange fnUpdateUndoSpec)

/-- ITS FALSE NEIGHBOUR: 'it returns false'. Refute it at one input. -/
def fnUpdateUndoWrong : ChangeSpec := { name := "fnUpdateUndo", fn := fun _ => fun
  | [d] => { results := [.lit (.bool false)], args := [d] }
  | _ => none }
def FnUpdateUndoWrongFalsely : Prop := fnUpdateUndoRow.holds Tryz.pinned (OpenSpec.ofChange fnUpdateUndoWrong)

/-- 'laws.FnCatalogSequence': WHATEVER THE INPUT: true; the input reads as it did. -/
def fnCatalogSequenceSpec : ChangeSpec := { name := "fnCatalogSequence", fn := fun _ => fun
  | [d] => { results := [.lit (.bool true)], args := [d] }
  | _ => none }
def fnCatalogSequenceRow : OpenClaim := { program := "ytgbobfdlafkijaagreat", sum := "2e4e2da5a109024bd466e2552dd0ab77707faf1b08b19a0440976b9239aa0b9f", func := "loop.example/g00976/laws.FnCatalogSequence", spec := "fnCatalogSequence", unfollowed := true, recurses := true, apart := false }
def FnCatalogSequenceSaid : Prop := fnCatalogSequenceRow.holds Tryz.pinned (OpenSpec.ofChange fnCatalogSequenceSpec)

/-- ITS FALSE NEIGHBOUR: 'it returns false'. Refute it at one input. -/
def fnCatalogSequenceWrong : ChangeSpec := { name := "fnCatalogSequence", fn := fun _ => fun
  | [d] => { results := [.lit (.bool false)], args := [d] }
  | _ => none }
def FnCatalogSequenceWrongFalsely : Prop := fnCatalogSequenceRow.holds Tryz.pinned (OpenSpec.ofChange fnCatalogSequenceWrong)

/- THE SECOND FORM. 'bulk': how many values and letters a reading holds, each counted each time it is reached (what is shared counts as often as it is met; a slice's spare places count too). A statement '..UptoSaid' is the law's where the arguments, and the package variables that the reading takes, are together of bulk at most 1048576: NARROWER than '..Said'. Prove '..Said' where nothing that the law and all that it calls make is longer than what came in: it says more and counts as full. Else prove '..UptoSaid'. A law counts once. -/
mutual
def uptoBulk {H : Type} : DataW H → Nat
  | .lit (.string bytes) => bytes.length + 1
  | .lit _ => 1
  | .nil => 1
  | .ptr d => uptoBulk d + 1
  | .slice elems spare => uptoBulkAll elems + uptoBulkAll spare + 1
  | .agg parts => uptoBulkAll parts + 1
  | .iface _ d => uptoBulk d + 1
  | .map entries => uptoBulkEntries entries + 1
  | .held _ => 1
def uptoBulkAll {H : Type} : List (DataW H) → Nat
  | [] => 0
  | d :: r => uptoBulk d + uptoBulkAll r
def uptoBulkEntries {H : Type} : List (Lit × DataW H) → Nat
  | [] => 0
  | x :: r => uptoBulkEntry x + uptoBulkEntries r
def uptoBulkEntry {H : Type} : Lit × DataW H → Nat
  | (.string bytes, d) => bytes.length + uptoBulk d + 1
  | (_, d) => uptoBulk d + 1
 end
def uptoSmall : (H : Type) → List (DataW H) → Bool := fun _ ds => decide (uptoBulkAll ds ≤ 1048576)
def OpenSpec.upto (s : _root_.Go.ChangeSpec) : _root_.Go.OpenSpec := { _root_.Go.OpenSpec.ofChange s with cond := some uptoSmall }

/-- 'laws.FnVersionFound', WHERE WHAT IT READS IS OF BULK AT MOST 1048576: true; the input reads as it did. -/
def fnVersionFoundUptoRow : OpenClaim := { program := "ytgbobfdlafkijaagreat", sum := "2e4e2da5a109024bd466e2552dd0ab77707faf1b08b19a0440976b9239aa0b9f", func := "loop.example/g00976/laws.FnVersionFound", spec := "fnVersionFound", unfollowed := true, recurses := true, apart := false, narrowed := true }
def FnVersionFoundUptoSaid : Prop := fnVersionFoundUptoRow.holds Tryz.pinned (OpenSpec.upto fnVersionFoundSpec)

/-- 'laws.FnVersions', WHERE WHAT IT READS IS OF BULK AT MOST 1048576: true; the input reads as it did. -/
def fnVersionsUptoRow : OpenClaim := { program := "ytgbobfdlafkijaagreat", sum := "2e4e2da5a109024bd466e2552dd0ab77707faf1b08b19a0440976b9239aa0b9f", func := "loop.example/g00976/laws.FnVersions", spec := "fnVersions", unfollowed := true, recurses := true, apart := false, narrowed := true }
def FnVersionsUptoSaid : Prop := fnVersionsUptoRow.holds Tryz.pinned (OpenSpec.upto fnVersionsSpec)

/-- 'laws.FnUpdateUndo', WHERE WHAT IT READS IS OF BULK AT MOST 1048576: true; the input reads as it did. -/
def fnUpdateUndoUptoRow : OpenClaim := { program := "ytgbobfdlafkijaagreat", sum := "2e4e2da5a109024bd466e2552dd0ab77707faf1b08b19a0440976b9239aa0b9f", func := "loop.example/g00976/laws.FnUpdateUndo", spec := "fnUpdateUndo", unfollowed := true, recurses := true, apart := false, narrowed := true }
def FnUpdateUndoUptoSaid : Prop := fnUpdateUndoUptoRow.holds Tryz.pinned (OpenSpec.upto fnUpdateUndoSpec)

/-- 'laws.FnCatalogSequence', WHERE WHAT IT READS IS OF BULK AT MOST 1048576: true; the input reads as it did. -/
def fnCatalogSequenceUptoRow : OpenClaim := { program := "ytgbobfdlafkijaagreat", sum := "2e4e2da5a109024bd466e2552dd0ab77707faf1b08b19a0440976b9239aa0b9f", func := "loop.example/g00976/laws.FnCatalogSequence", spec := "fnCatalogSequence", unfollowed := true, recurses := true, apart := false, narrowed := true }
def FnCatalogSequenceUptoSaid : Prop := fnCatalogSequenceUptoRow.holds Tryz.pinned (OpenSpec.upto fnCatalogSequenceSpec)

end Rows
end Go.Proofs.YtgbobfdlafkijaaGreat
