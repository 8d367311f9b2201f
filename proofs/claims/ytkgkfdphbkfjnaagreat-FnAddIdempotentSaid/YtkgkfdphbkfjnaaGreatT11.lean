import Derived.Test.YtkgkfdphbkfjnaaGreatP36
import Derived.Test.YtkgkfdphbkfjnaaGreatFwC
import Derived.Test.YtkgkfdphbkfjnaaGreatRows
import Derived.ProofKit
import Derived.LaidMore
import Derived.OpenShut
import Derived.Stop.Joined
import Derived.Stop.LaidErr
import Derived.SevenTiedAt
/- Proved here: the law FnAddIdempotent holds of the given program: for every argument and every memory it returns true, under the conditions that its given statement names. -/
namespace Go.Proofs.YtkgkfdphbkfjnaaGreat
open Go Go.Fw Go.ChangeShapes Go.WideShapes Go.ChangeAt Go.WideMaps Go.WideElems Go.RowKit
theorem own:ownKnob Tryz.prog.godebug=none:=by kernel_rfl
set_option maxRecDepth 100000 in
theorem UW(os:Os)(started:os.Started)(H:Type)(enc:TypeId×Value->H):
 ReturnsInHanded {} Tryz.checked os 5 .any (Rows.fnAddIdempotentSpec.pre6 enc Tryz.prog Tryz.f5 [] false)
  (Rows.fnAddIdempotentSpec.post enc Tryz.prog Tryz.f5 false true false false):=
 law_lifted (tb:=4) (C:=Tryz.checked) own started (by kernel_rfl) Tryz.func5
  (ChangeSpec.witness6 (enc:=enc) (C:=Tryz.checked) false ⟨#[],#[.slice none 0 0],[]⟩ 8 (by kernel_rfl) (by kernel_rfl) (by kernel_rfl) (by kernel_rfl))
  Tryz.RZ.1 (by kernel_rfl) (λ_ _=>⟨trivial,rfl⟩) (λ_=>trivial) rfl (λl hl=>by
   match l,hl with
   |[_],_=>exact⟨rfl,rfl,rfl⟩) (by kernel_rfl) (by kernel_rfl) (by kernel_rfl) (by kernel_rfl)
set_option maxRecDepth 100000 in
theorem vI:Tryz.checked.prog.inPlace 5=Rows.fnAddIdempotentRow.inPlace/\Tryz.checked.prog.unfollowed 5=Rows.fnAddIdempotentRow.unfollowed/\Tryz.checked.prog.recurses 5=Rows.fnAddIdempotentRow.recurses/\Tryz.checked.prog.varsNamed 5=Rows.fnAddIdempotentRow.named:=
 ⟨by kernel_rfl,by kernel_rfl,by kernel_rfl,by kernel_rfl⟩
set_option maxRecDepth 100000 in
theorem UX:joinedFacts Tryz.checked.prog 5 Tryz.f5 Rows.fnAddIdempotentSpec Rows.fnAddIdempotentRow=true:=by
 unfold joinedFacts;rw[vI.1,vI.2.1,vI.2.2.1,vI.2.2.2]
 kernel_rfl
theorem fnAddIdempotent_holds:Rows.FnAddIdempotentSaid:=
 OpenClaim.holds_of_wide 5 Tryz.f5 rfl rfl rfl rfl rfl rfl rfl ⟨rfl,rfl,rfl,rfl,rfl⟩ rfl rfl rfl rfl rfl (by kernel_rfl) Tryz.func5 UX
  (ax8 (by kernel_rfl)) (by unfold Func.isWrapper;first|(rw[if_pos (by decide+kernel)];kernel_rfl)|(rw[if_neg (by decide+kernel)];exact⟨rfl,rfl⟩))
  (λos started H enc _=>UW os started H enc)
end Go.Proofs.YtkgkfdphbkfjnaaGreat
