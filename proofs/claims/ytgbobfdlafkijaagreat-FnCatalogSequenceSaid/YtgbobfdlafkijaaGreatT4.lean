import Derived.Test.YtgbobfdlafkijaaGreatP22
import Derived.Test.YtgbobfdlafkijaaGreatFwC
import Derived.Test.YtgbobfdlafkijaaGreatRows
import Derived.ProofKit
import Derived.LaidMore
import Derived.OpenShut
import Derived.Stop.Joined
import Derived.Stop.LaidErr
import Derived.SevenTiedAt
/- Proved here: the law FnCatalogSequence holds of the given program: for every argument and every memory it returns true, under the conditions that its given statement names. -/
namespace Go.Proofs.YtgbobfdlafkijaaGreat
open Go Go.Fw Go.ChangeShapes Go.WideShapes Go.ChangeAt Go.WideMaps Go.WideElems Go.RowKit
theorem own:ownKnob Tryz.prog.godebug=none:=by kernel_rfl
set_option maxRecDepth 100000 in
theorem acj (os:Os) (started:os.Started) (H:Type) (enc:TypeId×Value→H):
 ReturnsInHanded {} Tryz.checked os 6 .any (Rows.fnCatalogSequenceSpec.pre6 enc Tryz.prog Tryz.f6 [] false)
  (Rows.fnCatalogSequenceSpec.post enc Tryz.prog Tryz.f6 false true false false):=
 law_lifted (tb:=4) (C:=Tryz.checked) own started (by kernel_rfl) Tryz.func6
  (ChangeSpec.witness6 (enc:=enc) (C:=Tryz.checked) false ⟨#[],#[.slice none 0 0],[]⟩ 8 (by kernel_rfl) (by kernel_rfl) (by kernel_rfl) (by kernel_rfl))
  Tryz.aaw (by kernel_rfl) (fun _ _=>⟨trivial,rfl⟩) (fun _=>trivial) rfl (fun l hl=>by
   match l,hl with
   |[_],_=>exact ⟨rfl,rfl,rfl⟩) (by kernel_rfl) (by kernel_rfl) (by kernel_rfl) (by kernel_rfl)
theorem fnCatalogSequence_holds:Rows.FnCatalogSequenceSaid:=
 OpenClaim.holds_of_wide 6 Tryz.f6 rfl rfl rfl rfl rfl rfl rfl ⟨rfl,rfl,rfl,rfl,rfl⟩ rfl rfl rfl rfl rfl (by kernel_rfl) Tryz.func6 (by kernel_rfl)
  (of_decide_eq_true (by kernel_rfl)) (by unfold Func.isWrapper;first|(rw [if_pos (by decide+kernel)];kernel_rfl)|(rw [if_neg (by decide+kernel)];exact ⟨rfl,rfl⟩))
  (fun os started H enc _=>acj os started H enc)
end Go.Proofs.YtgbobfdlafkijaaGreat
