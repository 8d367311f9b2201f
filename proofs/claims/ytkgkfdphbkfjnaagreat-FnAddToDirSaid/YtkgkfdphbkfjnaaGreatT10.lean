import Derived.Test.YtkgkfdphbkfjnaaGreatP36
import Derived.Test.YtkgkfdphbkfjnaaGreatFwC
import Derived.Test.YtkgkfdphbkfjnaaGreatRows
import Derived.ProofKit
import Derived.LaidMore
import Derived.OpenShut
import Derived.Stop.Joined
import Derived.Stop.LaidErr
import Derived.SevenTiedAt
/- Proved here: the law FnAddToDir holds of the given program: for every argument and every memory it returns true, under the conditions that its given statement names. -/
namespace Go.Proofs.YtkgkfdphbkfjnaaGreat
open Go Go.Fw Go.ChangeShapes Go.WideShapes Go.ChangeAt Go.WideMaps Go.WideElems Go.RowKit
theorem own:ownKnob Tryz.prog.godebug=none:=by kernel_rfl
set_option maxRecDepth 100000 in
theorem adl(os:Os)(started:os.Started)(H:Type)(enc:TypeId×Value->H):
 ReturnsInHanded {} Tryz.checked os 3 .any (Rows.fnAddToDirSpec.pre6 enc Tryz.prog Tryz.f3 [] false)
  (Rows.fnAddToDirSpec.post enc Tryz.prog Tryz.f3 false true false false):=
 law_lifted (tb:=4) (C:=Tryz.checked) own started (by kernel_rfl) Tryz.func3
  (ChangeSpec.witness6 (enc:=enc) (C:=Tryz.checked) false ⟨#[],#[.slice none 0 0],[]⟩ 8 (by kernel_rfl) (by kernel_rfl) (by kernel_rfl) (by kernel_rfl))
  Tryz.abC.1 (by kernel_rfl) (λ_ _=>⟨trivial,rfl⟩) (λ_=>trivial) rfl (λl hl=>by
   match l,hl with
   |[_],_=>exact⟨rfl,rfl,rfl⟩) (by kernel_rfl) (by kernel_rfl) (by kernel_rfl) (by kernel_rfl)
set_option maxRecDepth 100000 in
theorem Es:Tryz.checked.prog.inPlace 3=Rows.fnAddToDirRow.inPlace/\Tryz.checked.prog.unfollowed 3=Rows.fnAddToDirRow.unfollowed/\Tryz.checked.prog.recurses 3=Rows.fnAddToDirRow.recurses/\Tryz.checked.prog.varsNamed 3=Rows.fnAddToDirRow.named:=
 ⟨by kernel_rfl,by kernel_rfl,by kernel_rfl,by kernel_rfl⟩
set_option maxRecDepth 100000 in
theorem adn:joinedFacts Tryz.checked.prog 3 Tryz.f3 Rows.fnAddToDirSpec Rows.fnAddToDirRow=true:=by
 unfold joinedFacts;rw[Es.1,Es.2.1,Es.2.2.1,Es.2.2.2]
 kernel_rfl
theorem fnAddToDir_holds:Rows.FnAddToDirSaid:=
 OpenClaim.holds_of_wide 3 Tryz.f3 rfl rfl rfl rfl rfl rfl rfl ⟨rfl,rfl,rfl,rfl,rfl⟩ rfl rfl rfl rfl rfl (by kernel_rfl) Tryz.func3 adn
  (axZ (by kernel_rfl)) (by unfold Func.isWrapper;first|(rw[if_pos (by decide+kernel)];kernel_rfl)|(rw[if_neg (by decide+kernel)];exact⟨rfl,rfl⟩))
  (λos started H enc _=>adl os started H enc)
end Go.Proofs.YtkgkfdphbkfjnaaGreat
