/- Proved here: the laws FnReadWrite and FnHiddenChanges answer true at every input, and the input reads afterwards as it read before. Conditions: none. -/
import Derived.Test.YtiifcpnpbfjlcaaP8
import Derived.Test.YtiifcpnpbfjlcaaFwC
import Derived.Test.YtiifcpnpbfjlcaaRows
import Derived.ProofKit
import Derived.LaidMore
import Derived.OpenShut
import Derived.Stop.Joined
import Derived.Stop.LaidErr
import Derived.SevenTiedAt
namespace Go.Proofs.Ytiifcpnpbfjlcaa
open Go Go.Fw Go.ChangeShapes Go.WideShapes Go.ChangeAt Go.WideMaps Go.WideElems Go.RowKit

theorem own : ownKnob Try.prog.godebug = none := by kernel_rfl
set_option maxRecDepth 100000 in
theorem lifted_FnReadWrite (os : Os) (started : os.Started) (H : Type) (enc : TypeId × Value → H) :
    ReturnsInHanded {} Try.checked os 4 .any (Rows.fnReadWriteSpec.pre6 enc Try.prog Try.f4 [] false)
      (Rows.fnReadWriteSpec.post enc Try.prog Try.f4 false true false false) :=
  law_lifted (tb := 4) (C := Try.checked) own started (by kernel_rfl) Try.func4
    (ChangeSpec.witness6 (enc := enc) (C := Try.checked) false ⟨#[], #[.slice none 0 0], []⟩ 8 (by kernel_rfl) (by kernel_rfl) (by kernel_rfl) (by kernel_rfl))
    Try.ok_laws_FnReadWrite (by kernel_rfl) (fun _ _ => ⟨trivial, rfl⟩) (fun _ => trivial) rfl (fun l hl => by
      match l, hl with
      | [_], _ => exact ⟨rfl, rfl, rfl⟩) (by kernel_rfl) (by kernel_rfl) (by kernel_rfl) (by kernel_rfl)
theorem fnReadWrite_holds : Rows.FnReadWriteSaid :=
  OpenClaim.holds_of_wide 4 Try.f4 rfl rfl rfl rfl rfl rfl rfl ⟨rfl, rfl, rfl, rfl, rfl⟩ rfl rfl rfl rfl rfl (by kernel_rfl) Try.func4 (by kernel_rfl)
    (of_decide_eq_true (by kernel_rfl)) (by unfold Func.isWrapper; first | (rw [if_pos (by decide +kernel)]; kernel_rfl) | (rw [if_neg (by decide +kernel)]; exact ⟨rfl, rfl⟩))
    (fun os started H enc _ => lifted_FnReadWrite os started H enc)
set_option maxRecDepth 100000 in
theorem lifted_FnHiddenChanges (os : Os) (started : os.Started) (H : Type) (enc : TypeId × Value → H) :
    ReturnsInHanded {} Try.checked os 6 .any (Rows.fnHiddenChangesSpec.pre6 enc Try.prog Try.f6 [] false)
      (Rows.fnHiddenChangesSpec.post enc Try.prog Try.f6 false true false false) :=
  law_lifted (tb := 4) (C := Try.checked) own started (by kernel_rfl) Try.func6
    (ChangeSpec.witness6 (enc := enc) (C := Try.checked) false ⟨#[], #[.slice none 0 0], []⟩ 8 (by kernel_rfl) (by kernel_rfl) (by kernel_rfl) (by kernel_rfl))
    Try.ok_laws_FnHiddenChanges (by kernel_rfl) (fun _ _ => ⟨trivial, rfl⟩) (fun _ => trivial) rfl (fun l hl => by
      match l, hl with
      | [_], _ => exact ⟨rfl, rfl, rfl⟩) (by kernel_rfl) (by kernel_rfl) (by kernel_rfl) (by kernel_rfl)
theorem fnHiddenChanges_holds : Rows.FnHiddenChangesSaid :=
  OpenClaim.holds_of_wide 6 Try.f6 rfl rfl rfl rfl rfl rfl rfl ⟨rfl, rfl, rfl, rfl, rfl⟩ rfl rfl rfl rfl rfl (by kernel_rfl) Try.func6 (by kernel_rfl)
    (of_decide_eq_true (by kernel_rfl)) (by unfold Func.isWrapper; first | (rw [if_pos (by decide +kernel)]; kernel_rfl) | (rw [if_neg (by decide +kernel)]; exact ⟨rfl, rfl⟩))
    (fun os started H enc _ => lifted_FnHiddenChanges os started H enc)
end Go.Proofs.Ytiifcpnpbfjlcaa
