import Derived.Test.YtjomchafleahdaaGreatP145
import Derived.Test.YtjomchafleahdaaGreatFwC
import Derived.Test.YtjomchafleahdaaGreatRows
import Derived.ProofKit
import Derived.LaidMore
import Derived.OpenShut
import Derived.Stop.Joined
import Derived.Stop.LaidErr
import Derived.SevenTiedAt
/- Proved here: the law FnExactListDirAtVersion holds of the given program: for every argument and every memory it returns true, under the conditions that its given statement names. -/
namespace Go.Proofs.YtjomchafleahdaaGreat
open Go Go.Fw Go.ChangeShapes Go.WideShapes Go.ChangeAt Go.WideMaps Go.WideElems Go.RowKit
theorem own:ownKnob Tryz.prog.godebug=none:=by kernel_rfl
set_option maxRecDepth 100000 in
theorem EL(os:Os)(started:os.Started)(H:Type)(enc:TypeId×Value->H):
 ReturnsInHanded {} Tryz.checked os 3 .any (Rows.fnExactListDirAtVersionSpec.pre6 enc Tryz.prog Tryz.f3 [] false)
  (Rows.fnExactListDirAtVersionSpec.post enc Tryz.prog Tryz.f3 false true false false):=
 law_lifted (tb:=4) (C:=Tryz.checked) own started (by kernel_rfl) Tryz.func3
  (ChangeSpec.witness6 (enc:=enc) (C:=Tryz.checked) false ⟨#[],#[.agg #[.slice none 0 0,.slice none 0 0,.int .i64 0,.slice none 0 0,.slice none 0 0,.string ⟨#[]⟩,.string ⟨#[]⟩,.int .i64 0,.slice none 0 0,.slice none 0 0,.slice none 0 0],.int .i64 0,.int .i64 0,.string ⟨#[]⟩],[]⟩ 8 (by kernel_rfl) (by kernel_rfl) (by kernel_rfl) (by kernel_rfl))
  Tryz.DK.1 (by kernel_rfl) (λ_ _=>⟨trivial,rfl⟩) (λ_=>trivial) rfl (λl hl=>by
   match l,hl with
   |[_,_,_,_],_=>exact⟨rfl,rfl,rfl⟩) (by kernel_rfl) (by kernel_rfl) (by kernel_rfl) (by kernel_rfl)
set_option maxRecDepth 100000 in
theorem jF:Tryz.checked.prog.inPlace 3=Rows.fnExactListDirAtVersionRow.inPlace/\Tryz.checked.prog.unfollowed 3=Rows.fnExactListDirAtVersionRow.unfollowed/\Tryz.checked.prog.recurses 3=Rows.fnExactListDirAtVersionRow.recurses/\Tryz.checked.prog.varsNamed 3=Rows.fnExactListDirAtVersionRow.named:=
 ⟨by kernel_rfl,by kernel_rfl,by kernel_rfl,by kernel_rfl⟩
set_option maxRecDepth 100000 in
theorem EM:joinedFacts Tryz.checked.prog 3 Tryz.f3 Rows.fnExactListDirAtVersionSpec Rows.fnExactListDirAtVersionRow=true:=by
 unfold joinedFacts;rw[jF.1,jF.2.1,jF.2.2.1,jF.2.2.2]
 kernel_rfl
theorem fnExactListDirAtVersion_holds:Rows.FnExactListDirAtVersionSaid:=
 OpenClaim.holds_of_wide 3 Tryz.f3 rfl rfl rfl rfl rfl rfl rfl ⟨rfl,rfl,rfl,rfl,rfl⟩ rfl rfl rfl rfl rfl (by kernel_rfl) Tryz.func3 EM
  (ar7 (by kernel_rfl)) (by unfold Func.isWrapper;first|(rw[if_pos (by decide+kernel)];kernel_rfl)|(rw[if_neg (by decide+kernel)];exact⟨rfl,rfl⟩))
  (λos started H enc _=>EL os started H enc)
end Go.Proofs.YtjomchafleahdaaGreat
