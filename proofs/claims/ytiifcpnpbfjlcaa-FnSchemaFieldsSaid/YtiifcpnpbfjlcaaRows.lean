/-
  No cell of these rows narrows 'for every input' (looked for: loops, veiled, ifaces, maps, wideKeys, modest, calm, conditions, laid).
  DERIVED. THE GIVEN ROWS OF THIS SEAT. 5 by the template 'for every input the law returns true; each argument reads behind the call as it read before'; 0 by the template 'total and deterministic' (their statements: YtiifcpnpbfjlcaaTotals.lean).
  GIVEN WITH THE SEED: the statements are not yours to turn. If you find one false, say at which input.
  Laid BY PROGRAM, IN A SANDBOX (cutbox-rows.mjs): the forced cells as the released guide's own fill.sh prints them over the translation d00fe2b0c9810acf… (all of the seat's roots in one cut). By AI agents, Wed Nov 11 2026. No macro, syntax, notation, axiom, sorry.
-/
import Derived.Test.YtiifcpnpbfjlcaaChecked
import GoSem.Claim
import GoSem.ClaimJoined
import GoSem.ClaimMapViews
import Derived.JoinedTies
import Derived.KernelRfl
namespace Go.Proofs.Ytiifcpnpbfjlcaa
/- THE CELL 'sum', in the pinned program and in every row, IS THE sha256 OF THE DUMP (.gsa) THAT YtiifcpnpbfjlcaaProg.lean LOADS. Nothing in Lean hashes anything: it is a label: what it is worth is what the hold of that sum in a sandbox is worth. -/
noncomputable def Try.pinned : Pinned := { name := "ytiifcpnpbfjlcaa", sum := "d00fe2b0c9810acf664bc65408c779c0d44632f1b77ade8ce3897028855120b7", checked := Try.checked }
namespace Rows
def none {H : Type} : Left H := { results := [], args := [] }

/-- 'laws.FnSchemaFields': WHATEVER THE INPUT: true; the input reads as it did. -/
def fnSchemaFieldsSpec : ChangeSpec := { name := "fnSchemaFields", fn := fun _ => fun
  | [d] => { results := [.lit (.bool true)], args := [d] }
  | _ => none }
def fnSchemaFieldsRow : OpenClaim := { program := "ytiifcpnpbfjlcaa", sum := "d00fe2b0c9810acf664bc65408c779c0d44632f1b77ade8ce3897028855120b7", func := "loop.example/g00976/laws.FnSchemaFields", spec := "fnSchemaFields", inPlace := ["slices.overlaps[loop.example/g00976/impl.Field]"], unfollowed := true, recurses := true, apart := false }
def FnSchemaFieldsSaid : Prop := fnSchemaFieldsRow.holds Try.pinned (OpenSpec.ofChange fnSchemaFieldsSpec)

/-- ITS FALSE NEIGHBOUR: 'it returns false'. Refute it at one input. -/
def fnSchemaFieldsWrong : ChangeSpec := { name := "fnSchemaFields", fn := fun _ => fun
  | [d] => { results := [.lit (.bool false)], args := [d] }
  | _ => none }
def FnSchemaFieldsWrongFalsely : Prop := fnSchemaFieldsRow.holds Try.pinned (OpenSpec.ofChange fnSchemaFieldsWrong)

/-- 'laws.FnReadWrite': WHATEVER THE INPUT: true; the input reads as it did. -/
def fnReadWriteSpec : ChangeSpec := { name := "fnReadWrite", fn := fun _ => fun
  | [d] => { results := [.lit (.bool true)], args := [d] }
  | _ => none }
def fnReadWriteRow : OpenClaim := { program := "ytiifcpnpbfjlcaa", sum := "d00fe2b0c9810acf664bc65408c779c0d44632f1b77ade8ce3897028855120b7", func := "loop.example/g00976/laws.FnReadWrite", spec := "fnReadWrite", unfollowed := true, recurses := true, apart := false }
def FnReadWriteSaid : Prop := fnReadWriteRow.holds Try.pinned (OpenSpec.ofChange fnReadWriteSpec)

/-- ITS FALSE NEIGHBOUR: 'it returns false'. Refute it at one input. -/
def fnReadWriteWrong : ChangeSpec := { name := "fnReadWrite", fn := fun _ => fun
  | [d] => { results := [.lit (.bool false)], args := [d] }
  | _ => none }
def FnReadWriteWrongFalsely : Prop := fnReadWriteRow.holds Try.pinned (OpenSpec.ofChange fnReadWriteWrong)

/-- 'laws.FnStoreFind': WHATEVER THE INPUT: true; the input reads as it did. -/
def fnStoreFindSpec : ChangeSpec := { name := "fnStoreFind", fn := fun _ => fun
  | [d] => { results := [.lit (.bool true)], args := [d] }
  | _ => none }
def fnStoreFindRow : OpenClaim := { program := "ytiifcpnpbfjlcaa", sum := "d00fe2b0c9810acf664bc65408c779c0d44632f1b77ade8ce3897028855120b7", func := "loop.example/g00976/laws.FnStoreFind", spec := "fnStoreFind", unfollowed := true, recurses := true, apart := false }
def FnStoreFindSaid : Prop := fnStoreFindRow.holds Try.pinned (OpenSpec.ofChange fnStoreFindSpec)

/-- ITS FALSE NEIGHBOUR: 'it returns false'. Refute it at one input. -/
def fnStoreFindWrong : ChangeSpec := { name := "fnStoreFind", fn := fun _ => fun
  | [d] => { results := [.lit (.bool false)], args := [d] }
  | _ => none }
def FnStoreFindWrongFalsely : Prop := fnStoreFindRow.holds Try.pinned (OpenSpec.ofChange fnStoreFindWrong)

/-- 'laws.FnHiddenChanges': WHATEVER THE INPUT: true; the input reads as it did. -/
def fnHiddenChangesSpec : ChangeSpec := { name := "fnHiddenChanges", fn := fun _ => fun
  | [d] => { results := [.lit (.bool true)], args := [d] }
  | _ => none }
def fnHiddenChangesRow : OpenClaim := { program := "ytiifcpnpbfjlcaa", sum := "d00fe2b0c9810acf664bc65408c779c0d44632f1b77ade8ce3897028855120b7", func := "loop.example/g00976/laws.FnHiddenChanges", spec := "fnHiddenChanges", unfollowed := true, recurses := true, apart := false }
def FnHiddenChangesSaid : Prop := fnHiddenChangesRow.holds Try.pinned (OpenSpec.ofChange fnHiddenChangesSpec)

/-- ITS FALSE NEIGHBOUR: 'it returns false'. Refute it at one input. -/
def fnHiddenChangesWrong : ChangeSpec := { name := "fnHiddenChanges", fn := fun _ => fun
  | [d] => { results := [.lit (.bool false)], args := [d] }
  | _ => none }
def FnHiddenChangesWrongFalsely : Prop := fnHiddenChangesRow.holds Try.pinned (OpenSpec.ofChange fnHiddenChangesWrong)

/-- 'laws.FnStoreIDs': WHATEVER THE INPUT: true; the input reads as it did. -/
def fnStoreIDsSpec : ChangeSpec := { name := "fnStoreIDs", fn := fun _ => fun
  | [d] => { results := [.lit (.bool true)], args := [d] }
  | _ => none }
def fnStoreIDsRow : OpenClaim := { program := "ytiifcpnpbfjlcaa", sum := "d00fe2b0c9810acf664bc65408c779c0d44632f1b77ade8ce3897028855120b7", func := "loop.example/g00976/laws.FnStoreIDs", spec := "fnStoreIDs", unfollowed := true, recurses := true, apart := false }
def FnStoreIDsSaid : Prop := fnStoreIDsRow.holds Try.pinned (OpenSpec.ofChange fnStoreIDsSpec)

/-- ITS FALSE NEIGHBOUR: 'it returns false'. Refute it at one input. -/
def fnStoreIDsWrong : ChangeSpec := { name := "fnStoreIDs", fn := fun _ => fun
  | [d] => { results := [.lit (.bool false)], args := [d] }
  | _ => none }
def FnStoreIDsWrongFalsely : Prop := fnStoreIDsRow.holds Try.pinned (OpenSpec.ofChange fnStoreIDsWrong)

/- THE SECOND FORM. 'bulk': how many values and letters a reading holds, each counted each time it is reached (what is shared counts as often as it is met; a slice's spare places count too). A statement '..UptoSaid' is the law's where the arguments, and the package variables that the reading takes, are together of bulk at most 1048576: NARROWER than '..Said'. Prove '..Said' where nothing that the law and all that it calls make is longer than what came in: it says more and counts as full. Else prove '..UptoSaid'. A law counts once. -/
mutual
def uptoBulk {H : Type} : DataW H → Nat
  | .lit (.string bytes) => bytes.length + 1
  | .lit _ => 1
  | .nil => 1
  | .ptr d => uptoBulk d + 1
  | .slice elems spare => uptoBulkAll elems + uptoBulkAll spare + 1
  | .agg parts => uptoBulkAll parts + 1
  | .iface _ d => uptoBulk d + 1
  | .map entries => uptoBulkEntries entries + 1
  | .held _ => 1
def uptoBulkAll {H : Type} : List (DataW H) → Nat
  | [] => 0
  | d :: r => uptoBulk d + uptoBulkAll r
def uptoBulkEntries {H : Type} : List (Lit × DataW H) → Nat
  | [] => 0
  | x :: r => uptoBulkEntry x + uptoBulkEntries r
def uptoBulkEntry {H : Type} : Lit × DataW H → Nat
  | (.string bytes, d) => bytes.length + uptoBulk d + 1
  | (_, d) => uptoBulk d + 1
 end
def uptoSmall : (H : Type) → List (DataW H) → Bool := fun _ ds => decide (uptoBulkAll ds ≤ 1048576)
def OpenSpec.upto (s : _root_.Go.ChangeSpec) : _root_.Go.OpenSpec := { _root_.Go.OpenSpec.ofChange s with cond := some uptoSmall }

/-- 'laws.FnSchemaFields', WHERE WHAT IT READS IS OF BULK AT MOST 1048576: true; the input reads as it did. -/
def fnSchemaFieldsUptoRow : OpenClaim := { program := "ytiifcpnpbfjlcaa", sum := "d00fe2b0c9810acf664bc65408c779c0d44632f1b77ade8ce3897028855120b7", func := "loop.example/g00976/laws.FnSchemaFields", spec := "fnSchemaFields", inPlace := ["slices.overlaps[loop.example/g00976/impl.Field]"], unfollowed := true, recurses := true, apart := false, narrowed := true }
def FnSchemaFieldsUptoSaid : Prop := fnSchemaFieldsUptoRow.holds Try.pinned (OpenSpec.upto fnSchemaFieldsSpec)

/-- 'laws.FnReadWrite', WHERE WHAT IT READS IS OF BULK AT MOST 1048576: true; the input reads as it did. -/
def fnReadWriteUptoRow : OpenClaim := { program := "ytiifcpnpbfjlcaa", sum := "d00fe2b0c9810acf664bc65408c779c0d44632f1b77ade8ce3897028855120b7", func := "loop.example/g00976/laws.FnReadWrite", spec := "fnReadWrite", unfollowed := true, recurses := true, apart := false, narrowed := true }
def FnReadWriteUptoSaid : Prop := fnReadWriteUptoRow.holds Try.pinned (OpenSpec.upto fnReadWriteSpec)

/-- 'laws.FnStoreFind', WHERE WHAT IT READS IS OF BULK AT MOST 1048576: true; the input reads as it did. -/
def fnStoreFindUptoRow : OpenClaim := { program := "ytiifcpnpbfjlcaa", sum := "d00fe2b0c9810acf664bc65408c779c0d44632f1b77ade8ce3897028855120b7", func := "loop.example/g00976/laws.FnStoreFind", spec := "fnStoreFind", unfollowed := true, recurses := true, apart := false, narrowed := true }
def FnStoreFindUptoSaid : Prop := fnStoreFindUptoRow.holds Try.pinned (OpenSpec.upto fnStoreFindSpec)

/-- 'laws.FnHiddenChanges', WHERE WHAT IT READS IS OF BULK AT MOST 1048576: true; the input reads as it did. -/
def fnHiddenChangesUptoRow : OpenClaim := { program := "ytiifcpnpbfjlcaa", sum := "d00fe2b0c9810acf664bc65408c779c0d44632f1b77ade8ce3897028855120b7", func := "loop.example/g00976/laws.FnHiddenChanges", spec := "fnHiddenChanges", unfollowed := true, recurses := true, apart := false, narrowed := true }
def FnHiddenChangesUptoSaid : Prop := fnHiddenChangesUptoRow.holds Try.pinned (OpenSpec.upto fnHiddenChangesSpec)

/-- 'laws.FnStoreIDs', WHERE WHAT IT READS IS OF BULK AT MOST 1048576: true; the input reads as it did. -/
def fnStoreIDsUptoRow : OpenClaim := { program := "ytiifcpnpbfjlcaa", sum := "d00fe2b0c9810acf664bc65408c779c0d44632f1b77ade8ce3897028855120b7", func := "loop.example/g00976/laws.FnStoreIDs", spec := "fnStoreIDs", unfollowed := true, recurses := true, apart := false, narrowed := true }
def FnStoreIDsUptoSaid : Prop := fnStoreIDsUptoRow.holds Try.pinned (OpenSpec.upto fnStoreIDsSpec)

end Rows
end Go.Proofs.Ytiifcpnpbfjlcaa
