/-
  No cell of these rows narrows 'for every input' (looked for: loops, veiled, ifaces, maps, wideKeys, modest, calm, conditions, laid).
  DERIVED. THE GIVEN ROWS OF THIS SEAT. 4 by the template 'for every input the law returns true; each argument reads behind the call as it read before'; 0 by the template 'total and deterministic' (their statements: YtkgkfdphbkfjnaaGreatTotals.lean).
  GIVEN WITH THE SEED: the statements are not yours to turn. If you find one false, say at which input.
  Laid BY PROGRAM, IN A SANDBOX (cutbox-rows.mjs): the forced cells as the released guide's own fill.sh prints them over the translation f4761c46f13adb89… (all of the seat's roots in one cut). By AI agents, Wed Nov 11 2026. No macro, syntax, notation, axiom, sorry.
-/
import Derived.Test.YtkgkfdphbkfjnaaGreatChecked
import GoSem.Claim
import GoSem.ClaimJoined
import GoSem.ClaimMapViews
import Derived.JoinedTies
import Derived.KernelRfl
namespace Go.Proofs.YtkgkfdphbkfjnaaGreat
/- THE CELL 'sum', in the pinned program and in every row, IS THE sha256 OF THE DUMP (.gsa) THAT YtkgkfdphbkfjnaaGreatProg.lean LOADS. Nothing in Lean hashes anything: it is a label: what it is worth is what the hold of that sum in a sandbox is worth. -/
noncomputable def Tryz.pinned : Pinned := { name := "ytkgkfdphbkfjnaagreat", sum := "f4761c46f13adb89cbc6bacd2bf1664d0645d788829c8426059cff7b1dd5c149", checked := Tryz.checked }
namespace Rows
def none {H : Type} : Left H := { results := [], args := [] }

/-- 'laws.FnAddToDir': WHATEVER THE INPUT: true; the input reads as it did. -/
def fnAddToDirSpec : ChangeSpec := { name := "fnAddToDir", fn := fun _ => fun
  | [d] => { results := [.lit (.bool true)], args := [d] }
  | _ => none }
def fnAddToDirRow : OpenClaim := { program := "ytkgkfdphbkfjnaagreat", sum := "f4761c46f13adb89cbc6bacd2bf1664d0645d788829c8426059cff7b1dd5c149", func := "loop.example/g00976/laws.FnAddToDir", spec := "fnAddToDir", inPlace := ["slices.overlaps[loop.example/g00976/impl.Attr]"], unfollowed := true, recurses := true, apart := false }
def FnAddToDirSaid : Prop := fnAddToDirRow.holds Tryz.pinned (OpenSpec.ofChange fnAddToDirSpec)

/-- ITS FALSE NEIGHBOUR: 'it returns false'. Refute it at one input. -/
def fnAddToDirWrong : ChangeSpec := { name := "fnAddToDir", fn := fun _ => fun
  | [d] => { results := [.lit (.bool false)], args := [d] }
  | _ => none }
def FnAddToDirWrongFalsely : Prop := fnAddToDirRow.holds Tryz.pinned (OpenSpec.ofChange fnAddToDirWrong)

/-- 'laws.FnChanges': WHATEVER THE INPUT: true; the input reads as it did. -/
def fnChangesSpec : ChangeSpec := { name := "fnChanges", fn := fun _ => fun
  | [d] => { results := [.lit (.bool true)], args := [d] }
  | _ => none }
def fnChangesRow : OpenClaim := { program := "ytkgkfdphbkfjnaagreat", sum := "f4761c46f13adb89cbc6bacd2bf1664d0645d788829c8426059cff7b1dd5c149", func := "loop.example/g00976/laws.FnChanges", spec := "fnChanges", inPlace := ["slices.overlaps[loop.example/g00976/impl.Dir]"], unfollowed := true, recurses := true, apart := false }
def FnChangesSaid : Prop := fnChangesRow.holds Tryz.pinned (OpenSpec.ofChange fnChangesSpec)

/-- ITS FALSE NEIGHBOUR: 'it returns false'. Refute it at one input. -/
def fnChangesWrong : ChangeSpec := { name := "fnChanges", fn := fun _ => fun
  | [d] => { results := [.lit (.bool false)], args := [d] }
  | _ => none }
def FnChangesWrongFalsely : Prop := fnChangesRow.holds Tryz.pinned (OpenSpec.ofChange fnChangesWrong)

/-- 'laws.FnAddIdempotent': WHATEVER THE INPUT: true; the input reads as it did. -/
def fnAddIdempotentSpec : ChangeSpec := { name := "fnAddIdempotent", fn := fun _ => fun
  | [d] => { results := [.lit (.bool true)], args := [d] }
  | _ => none }
def fnAddIdempotentRow : OpenClaim := { program := "ytkgkfdphbkfjnaagreat", sum := "f4761c46f13adb89cbc6bacd2bf1664d0645d788829c8426059cff7b1dd5c149", func := "loop.example/g00976/laws.FnAddIdempotent", spec := "fnAddIdempotent", inPlace := ["slices.overlaps[loop.example/g00976/impl.Attr]"], unfollowed := true, recurses := true, apart := false }
def FnAddIdempotentSaid : Prop := fnAddIdempotentRow.holds Tryz.pinned (OpenSpec.ofChange fnAddIdempotentSpec)

/-- ITS FALSE NEIGHBOUR: 'it returns false'. Refute it at one input. -/
def fnAddIdempotentWrong : ChangeSpec := { name := "fnAddIdempotent", fn := fun _ => fun
  | [d] => { results := [.lit (.bool false)], args := [d] }
  | _ => none }
def FnAddIdempotentWrongFalsely : Prop := fnAddIdempotentRow.holds Tryz.pinned (OpenSpec.ofChange fnAddIdempotentWrong)

/-- 'laws.FnAtomic': WHATEVER THE INPUT: true; the input reads as it did. -/
def fnAtomicSpec : ChangeSpec := { name := "fnAtomic", fn := fun _ => fun
  | [d] => { results := [.lit (.bool true)], args := [d] }
  | _ => none }
def fnAtomicRow : OpenClaim := { program := "ytkgkfdphbkfjnaagreat", sum := "f4761c46f13adb89cbc6bacd2bf1664d0645d788829c8426059cff7b1dd5c149", func := "loop.example/g00976/laws.FnAtomic", spec := "fnAtomic", inPlace := ["slices.overlaps[loop.example/g00976/impl.Dir]"], unfollowed := true, recurses := true, apart := false }
def FnAtomicSaid : Prop := fnAtomicRow.holds Tryz.pinned (OpenSpec.ofChange fnAtomicSpec)

/-- ITS FALSE NEIGHBOUR: 'it returns false'. Refute it at one input. -/
def fnAtomicWrong : ChangeSpec := { name := "fnAtomic", fn := fun _ => fun
  | [d] => { results := [.lit (.bool false)], args := [d] }
  | _ => none }
def FnAtomicWrongFalsely : Prop := fnAtomicRow.holds Tryz.pinned (OpenSpec.ofChange fnAtomicWrong)

/- THE SECOND FORM. 'bulk': how many values and letters a reading holds, each counted each time it is reached (what is shared counts as often as it is met; a slice's spare places count too). A statement '..UptoSaid' is the law's where the arguments, and the package variables that the reading takes, are together of bulk at most 1048576: NARROWER than '..Said'. Prove '..Said' where nothing that the law and all that it calls make is longer than what came in: it says more and counts as full. Else prove '..UptoSaid'. A law counts once. -/
mutual
def uptoBulk {H : Type} : DataW H → Nat
  | .lit (.string bytes) => bytes.length + 1
  | .lit _ => 1
  | .nil => 1
  | .ptr d => uptoBulk d + 1
  | .slice elems spare => uptoBulkAll elems + uptoBulkAll spare + 1
  | .agg parts => uptoBulkAll parts + 1
  | .iface _ d => uptoBulk d + 1
  | .map entries => uptoBulkEntries entries + 1
  | .held _ => 1
def uptoBulkAll {H : Type} : List (DataW H) → Nat
  | [] => 0
  | d :: r => uptoBulk d + uptoBulkAll r
def uptoBulkEntries {H : Type} : List (Lit × DataW H) → Nat
  | [] => 0
  | x :: r => uptoBulkEntry x + uptoBulkEntries r
def uptoBulkEntry {H : Type} : Lit × DataW H → Nat
  | (.string bytes, d) => bytes.length + uptoBulk d + 1
  | (_, d) => uptoBulk d + 1
 end
def uptoSmall : (H : Type) → List (DataW H) → Bool := fun _ ds => decide (uptoBulkAll ds ≤ 1048576)
def OpenSpec.upto (s : _root_.Go.ChangeSpec) : _root_.Go.OpenSpec := { _root_.Go.OpenSpec.ofChange s with cond := some uptoSmall }

/-- 'laws.FnAddToDir', WHERE WHAT IT READS IS OF BULK AT MOST 1048576: true; the input reads as it did. -/
def fnAddToDirUptoRow : OpenClaim := { program := "ytkgkfdphbkfjnaagreat", sum := "f4761c46f13adb89cbc6bacd2bf1664d0645d788829c8426059cff7b1dd5c149", func := "loop.example/g00976/laws.FnAddToDir", spec := "fnAddToDir", inPlace := ["slices.overlaps[loop.example/g00976/impl.Attr]"], unfollowed := true, recurses := true, apart := false, narrowed := true }
def FnAddToDirUptoSaid : Prop := fnAddToDirUptoRow.holds Tryz.pinned (OpenSpec.upto fnAddToDirSpec)

/-- 'laws.FnChanges', WHERE WHAT IT READS IS OF BULK AT MOST 1048576: true; the input reads as it did. -/
def fnChangesUptoRow : OpenClaim := { program := "ytkgkfdphbkfjnaagreat", sum := "f4761c46f13adb89cbc6bacd2bf1664d0645d788829c8426059cff7b1dd5c149", func := "loop.example/g00976/laws.FnChanges", spec := "fnChanges", inPlace := ["slices.overlaps[loop.example/g00976/impl.Dir]"], unfollowed := true, recurses := true, apart := false, narrowed := true }
def FnChangesUptoSaid : Prop := fnChangesUptoRow.holds Tryz.pinned (OpenSpec.upto fnChangesSpec)

/-- 'laws.FnAddIdempotent', WHERE WHAT IT READS IS OF BULK AT MOST 1048576: true; the input reads as it did. -/
def fnAddIdempotentUptoRow : OpenClaim := { program := "ytkgkfdphbkfjnaagreat", sum := "f4761c46f13adb89cbc6bacd2bf1664d0645d788829c8426059cff7b1dd5c149", func := "loop.example/g00976/laws.FnAddIdempotent", spec := "fnAddIdempotent", inPlace := ["slices.overlaps[loop.example/g00976/impl.Attr]"], unfollowed := true, recurses := true, apart := false, narrowed := true }
def FnAddIdempotentUptoSaid : Prop := fnAddIdempotentUptoRow.holds Tryz.pinned (OpenSpec.upto fnAddIdempotentSpec)

/-- 'laws.FnAtomic', WHERE WHAT IT READS IS OF BULK AT MOST 1048576: true; the input reads as it did. -/
def fnAtomicUptoRow : OpenClaim := { program := "ytkgkfdphbkfjnaagreat", sum := "f4761c46f13adb89cbc6bacd2bf1664d0645d788829c8426059cff7b1dd5c149", func := "loop.example/g00976/laws.FnAtomic", spec := "fnAtomic", inPlace := ["slices.overlaps[loop.example/g00976/impl.Dir]"], unfollowed := true, recurses := true, apart := false, narrowed := true }
def FnAtomicUptoSaid : Prop := fnAtomicUptoRow.holds Tryz.pinned (OpenSpec.upto fnAtomicSpec)

end Rows
end Go.Proofs.YtkgkfdphbkfjnaaGreat
