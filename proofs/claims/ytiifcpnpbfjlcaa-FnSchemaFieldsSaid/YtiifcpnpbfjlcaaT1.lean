import Derived.Test.YtiifcpnpbfjlcaaP1
import Derived.Test.YtiifcpnpbfjlcaaFwC
import Derived.Test.YtiifcpnpbfjlcaaRows
import Derived.ProofKit
import Derived.LaidMore
import Derived.OpenShut
import Derived.Stop.Joined
import Derived.Stop.LaidErr
import Derived.SevenTiedAt
/- Proved here: the law FnSchemaFields answers true at every input, and the input reads afterwards as it read before. Conditions: none. -/
namespace Go.Proofs.Ytiifcpnpbfjlcaa
open Go Go.Fw Go.ChangeShapes Go.WideShapes Go.ChangeAt Go.WideMaps Go.WideElems Go.RowKit

theorem own : ownKnob Try.prog.godebug = none := by kernel_rfl
set_option maxRecDepth 100000 in
theorem lifted_FnSchemaFields (os : Os) (started : os.Started) (H : Type) (enc : TypeId × Value → H) :
    ReturnsInHanded {} Try.checked os 3 .any (Rows.fnSchemaFieldsSpec.pre6 enc Try.prog Try.f3 [] false)
      (Rows.fnSchemaFieldsSpec.post enc Try.prog Try.f3 false true false false) :=
  law_lifted (tb := 4) (C := Try.checked) own started (by kernel_rfl) Try.func3
    (ChangeSpec.witness6 (enc := enc) (C := Try.checked) false ⟨#[], #[.slice none 0 0], []⟩ 8 (by kernel_rfl) (by kernel_rfl) (by kernel_rfl) (by kernel_rfl))
    Try.ok_laws_FnSchemaFields (by kernel_rfl) (fun _ _ => ⟨trivial, rfl⟩) (fun _ => trivial) rfl (fun l hl => by
      match l, hl with
      | [_], _ => exact ⟨rfl, rfl, rfl⟩) (by kernel_rfl) (by kernel_rfl) (by kernel_rfl) (by kernel_rfl)
theorem fnSchemaFields_holds : Rows.FnSchemaFieldsSaid :=
  OpenClaim.holds_of_wide 3 Try.f3 rfl rfl rfl rfl rfl rfl rfl ⟨rfl, rfl, rfl, rfl, rfl⟩ rfl rfl rfl rfl rfl (by kernel_rfl) Try.func3 (by kernel_rfl)
    (of_decide_eq_true (by kernel_rfl)) (by unfold Func.isWrapper; first | (rw [if_pos (by decide +kernel)]; kernel_rfl) | (rw [if_neg (by decide +kernel)]; exact ⟨rfl, rfl⟩))
    (fun os started H enc _ => lifted_FnSchemaFields os started H enc)
end Go.Proofs.Ytiifcpnpbfjlcaa
