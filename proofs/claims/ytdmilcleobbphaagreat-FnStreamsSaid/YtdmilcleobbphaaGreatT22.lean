import Derived.Test.YtdmilcleobbphaaGreatP130
import Derived.Test.YtdmilcleobbphaaGreatFwC
import Derived.Test.YtdmilcleobbphaaGreatRows
import Derived.ProofKit
import Derived.LaidMore
import Derived.OpenShut
import Derived.Stop.Joined
import Derived.Stop.LaidErr
import Derived.SevenTiedAt
/- Proved here: laws.FnStreams returns true for every input: the listing at the current version is the current listing, and all streams of a drawn system are consistent. Conditions: none beyond the row's own cells. -/
namespace Go.Proofs.YtdmilcleobbphaaGreat
open Go Go.Fw Go.ChangeShapes Go.WideShapes Go.ChangeAt Go.WideMaps Go.WideElems Go.RowKit
theorem own:ownKnob Tryz.prog.godebug=none:=lu
set_option maxRecDepth 100000 in
theorem ap8(os:Os)(a:os.Started)(H:Type)(enc:TypeId×Value->H):
 ReturnsInHanded {} Tryz.checked os 3 .any (Rows.fnStreamsSpec.pre6 enc Tryz.prog Tryz.f3 [] false)
  (Rows.fnStreamsSpec.post enc Tryz.prog Tryz.f3 false true false false):=
 law_lifted (tb:=4) (C:=Tryz.checked) own a lu Tryz.func3
  (ChangeSpec.witness6 (enc:=enc) (C:=Tryz.checked) false ⟨#[],#[.slice none 0 0],[]⟩ 8 lu lu lu lu)
  Tryz.alY.1 lu (λ_ _=>⟨trivial,rfl⟩) (λ_=>trivial) rfl (λl W=>by
   match l,W with
   |[_],_=>exact⟨rfl,rfl,rfl⟩) lu lu lu lu
set_option maxRecDepth 100000 in
theorem Lh:Tryz.checked.prog.inPlace 3=Rows.fnStreamsRow.inPlace/\Tryz.checked.prog.unfollowed 3=Rows.fnStreamsRow.unfollowed/\Tryz.checked.prog.recurses 3=Rows.fnStreamsRow.recurses/\Tryz.checked.prog.varsNamed 3=Rows.fnStreamsRow.named:=
 ⟨lu,lu,lu,lu⟩
set_option maxRecDepth 100000 in
theorem ap9:joinedFacts Tryz.checked.prog 3 Tryz.f3 Rows.fnStreamsSpec Rows.fnStreamsRow=true:=by
 unfold joinedFacts;rw[Lh.1,Lh.2.1,Lh.2.2.1,Lh.2.2.2]
 kernel_rfl
theorem fnStreams_holds:Rows.FnStreamsSaid:=
 OpenClaim.holds_of_wide 3 Tryz.f3 rfl rfl rfl rfl rfl rfl rfl ⟨rfl,rfl,rfl,rfl,rfl⟩ rfl rfl rfl rfl rfl lu Tryz.func3 ap9
  (aQ6 lu) (by unfold Func.isWrapper;first|(rw[if_pos (by decide+kernel)];kernel_rfl)|(rw[if_neg (by decide+kernel)];exact⟨rfl,rfl⟩))
  (λb a H enc _=>ap8 b a H enc)
end Go.Proofs.YtdmilcleobbphaaGreat
