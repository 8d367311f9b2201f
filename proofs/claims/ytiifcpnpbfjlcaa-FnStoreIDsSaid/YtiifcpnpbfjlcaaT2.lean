import Derived.Test.YtiifcpnpbfjlcaaP11
import Derived.Test.YtiifcpnpbfjlcaaFwC
import Derived.Test.YtiifcpnpbfjlcaaRows
import Derived.ProofKit
import Derived.LaidMore
import Derived.OpenShut
import Derived.Stop.Joined
import Derived.Stop.LaidErr
import Derived.SevenTiedAt
/- Proved here: the laws FnStoreFind and FnStoreIDs answer true at every input, and the input reads afterwards as it read before. Conditions: none. -/
namespace Go.Proofs.Ytiifcpnpbfjlcaa
open Go Go.Fw Go.ChangeShapes Go.WideShapes Go.ChangeAt Go.WideMaps Go.WideElems Go.RowKit

theorem own : ownKnob Try.prog.godebug = none := by kernel_rfl
set_option maxRecDepth 100000 in
theorem lifted_FnStoreFind (os : Os) (started : os.Started) (H : Type) (enc : TypeId × Value → H) :
    ReturnsInHanded {} Try.checked os 5 .any (Rows.fnStoreFindSpec.pre6 enc Try.prog Try.f5 [] false)
      (Rows.fnStoreFindSpec.post enc Try.prog Try.f5 false true false false) :=
  law_lifted (tb := 4) (C := Try.checked) own started (by kernel_rfl) Try.func5
    (ChangeSpec.witness6 (enc := enc) (C := Try.checked) false ⟨#[], #[.slice none 0 0], []⟩ 8 (by kernel_rfl) (by kernel_rfl) (by kernel_rfl) (by kernel_rfl))
    Try.ok_laws_FnStoreFind (by kernel_rfl) (fun _ _ => ⟨trivial, rfl⟩) (fun _ => trivial) rfl (fun l hl => by
      match l, hl with
      | [_], _ => exact ⟨rfl, rfl, rfl⟩) (by kernel_rfl) (by kernel_rfl) (by kernel_rfl) (by kernel_rfl)
theorem fnStoreFind_holds : Rows.FnStoreFindSaid :=
  OpenClaim.holds_of_wide 5 Try.f5 rfl rfl rfl rfl rfl rfl rfl ⟨rfl, rfl, rfl, rfl, rfl⟩ rfl rfl rfl rfl rfl (by kernel_rfl) Try.func5 (by kernel_rfl)
    (of_decide_eq_true (by kernel_rfl)) (by unfold Func.isWrapper; first | (rw [if_pos (by decide +kernel)]; kernel_rfl) | (rw [if_neg (by decide +kernel)]; exact ⟨rfl, rfl⟩))
    (fun os started H enc _ => lifted_FnStoreFind os started H enc)
set_option maxRecDepth 100000 in
theorem lifted_FnStoreIDs (os : Os) (started : os.Started) (H : Type) (enc : TypeId × Value → H) :
    ReturnsInHanded {} Try.checked os 7 .any (Rows.fnStoreIDsSpec.pre6 enc Try.prog Try.f7 [] false)
      (Rows.fnStoreIDsSpec.post enc Try.prog Try.f7 false true false false) :=
  law_lifted (tb := 4) (C := Try.checked) own started (by kernel_rfl) Try.func7
    (ChangeSpec.witness6 (enc := enc) (C := Try.checked) false ⟨#[], #[.slice none 0 0], []⟩ 8 (by kernel_rfl) (by kernel_rfl) (by kernel_rfl) (by kernel_rfl))
    Try.ok_laws_FnStoreIDs (by kernel_rfl) (fun _ _ => ⟨trivial, rfl⟩) (fun _ => trivial) rfl (fun l hl => by
      match l, hl with
      | [_], _ => exact ⟨rfl, rfl, rfl⟩) (by kernel_rfl) (by kernel_rfl) (by kernel_rfl) (by kernel_rfl)
theorem fnStoreIDs_holds : Rows.FnStoreIDsSaid :=
  OpenClaim.holds_of_wide 7 Try.f7 rfl rfl rfl rfl rfl rfl rfl ⟨rfl, rfl, rfl, rfl, rfl⟩ rfl rfl rfl rfl rfl (by kernel_rfl) Try.func7 (by kernel_rfl)
    (of_decide_eq_true (by kernel_rfl)) (by unfold Func.isWrapper; first | (rw [if_pos (by decide +kernel)]; kernel_rfl) | (rw [if_neg (by decide +kernel)]; exact ⟨rfl, rfl⟩))
    (fun os started H enc _ => lifted_FnStoreIDs os started H enc)
end Go.Proofs.Ytiifcpnpbfjlcaa
