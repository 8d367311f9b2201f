import Derived.Test.YtlbkigkbmeckbaaGreatP27
import Derived.Test.YtlbkigkbmeckbaaGreatFwC
import Derived.Test.YtlbkigkbmeckbaaGreatRows
import Derived.ProofKit
import Derived.LaidMore
import Derived.OpenShut
import Derived.Stop.Joined
import Derived.Stop.LaidErr
import Derived.SevenTiedAt
/- Proved here: the law FnCatalogUpdate holds of the given program: for every argument and every memory it returns true, under the conditions that its given statement names. -/
namespace Go.Proofs.YtlbkigkbmeckbaaGreat
open Go Go.Fw Go.ChangeShapes Go.WideShapes Go.ChangeAt Go.WideMaps Go.WideElems Go.RowKit
theorem own:ownKnob Tryz.prog.godebug=none:=by kernel_rfl
set_option maxRecDepth 100000 in
theorem Qi (os:Os) (started:os.Started) (H:Type) (enc:TypeId×Value→H):
 ReturnsInHanded {} Tryz.checked os 4 .any (Rows.fnCatalogUpdateSpec.pre6 enc Tryz.prog Tryz.f4 [] false)
  (Rows.fnCatalogUpdateSpec.post enc Tryz.prog Tryz.f4 false true false false):=
 law_lifted (tb:=4) (C:=Tryz.checked) own started (by kernel_rfl) Tryz.func4
  (ChangeSpec.witness6 (enc:=enc) (C:=Tryz.checked) false ⟨#[],#[.slice none 0 0],[]⟩ 8 (by kernel_rfl) (by kernel_rfl) (by kernel_rfl) (by kernel_rfl))
  Tryz.NZ.1 (by kernel_rfl) (fun _ _=>⟨trivial,rfl⟩) (fun _=>trivial) rfl (fun l hl=>by
   match l,hl with
   |[_],_=>exact ⟨rfl,rfl,rfl⟩) (by kernel_rfl) (by kernel_rfl) (by kernel_rfl) (by kernel_rfl)
theorem fnCatalogUpdate_holds:Rows.FnCatalogUpdateSaid:=
 OpenClaim.holds_of_wide 4 Tryz.f4 rfl rfl rfl rfl rfl rfl rfl ⟨rfl,rfl,rfl,rfl,rfl⟩ rfl rfl rfl rfl rfl (by kernel_rfl) Tryz.func4 (by kernel_rfl)
  (of_decide_eq_true (by kernel_rfl)) (by unfold Func.isWrapper;first|(rw [if_pos (by decide+kernel)];kernel_rfl)|(rw [if_neg (by decide+kernel)];exact ⟨rfl,rfl⟩))
  (fun os started H enc _=>Qi os started H enc)
end Go.Proofs.YtlbkigkbmeckbaaGreat
