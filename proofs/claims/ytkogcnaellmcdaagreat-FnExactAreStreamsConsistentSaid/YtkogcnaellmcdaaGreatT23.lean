import Derived.Test.YtkogcnaellmcdaaGreatP119
import Derived.Test.YtkogcnaellmcdaaGreatFwC
import Derived.Test.YtkogcnaellmcdaaGreatRows
import Derived.ProofKit
import Derived.LaidMore
import Derived.OpenShut
import Derived.Stop.Joined
import Derived.Stop.LaidErr
import Derived.SevenTiedAt
/- Proved here: laws.FnExactAreStreamsConsistent returns true for every input: the program's AreStreamsConsistent returns what the reference's returns, and leaves its argument as it was. Conditions: none beyond the row's own cells. -/
namespace Go.Proofs.YtkogcnaellmcdaaGreat
open Go Go.Fw Go.ChangeShapes Go.WideShapes Go.ChangeAt Go.WideMaps Go.WideElems Go.RowKit
theorem own:ownKnob Tryz.prog.godebug=none:=by kernel_rfl
set_option maxRecDepth 100000 in
theorem AZ(os:Os)(started:os.Started)(H:Type)(enc:TypeId×Value->H):
 ReturnsInHanded {} Tryz.checked os 3 .any (Rows.fnExactAreStreamsConsistentSpec.pre6 enc Tryz.prog Tryz.f3 [] false)
  (Rows.fnExactAreStreamsConsistentSpec.post enc Tryz.prog Tryz.f3 false true false false):=
 law_lifted (tb:=4) (C:=Tryz.checked) own started (by kernel_rfl) Tryz.func3
  (ChangeSpec.witness6 (enc:=enc) (C:=Tryz.checked) false ⟨#[],#[.agg #[.slice none 0 0,.slice none 0 0,.int .i64 0,.slice none 0 0,.slice none 0 0,.string ⟨#[]⟩,.string ⟨#[]⟩,.int .i64 0,.slice none 0 0,.slice none 0 0,.slice none 0 0]],[]⟩ 8 (by kernel_rfl) (by kernel_rfl) (by kernel_rfl) (by kernel_rfl))
  Tryz.Aj.1 (by kernel_rfl) (λ_ _=>⟨trivial,rfl⟩) (λ_=>trivial) rfl (λl hl=>by
   match l,hl with
   |[_],_=>exact⟨rfl,rfl,rfl⟩) (by kernel_rfl) (by kernel_rfl) (by kernel_rfl) (by kernel_rfl)
set_option maxRecDepth 100000 in
theorem iG:Tryz.checked.prog.inPlace 3=Rows.fnExactAreStreamsConsistentRow.inPlace/\Tryz.checked.prog.unfollowed 3=Rows.fnExactAreStreamsConsistentRow.unfollowed/\Tryz.checked.prog.recurses 3=Rows.fnExactAreStreamsConsistentRow.recurses/\Tryz.checked.prog.varsNamed 3=Rows.fnExactAreStreamsConsistentRow.named:=
 ⟨by kernel_rfl,by kernel_rfl,by kernel_rfl,by kernel_rfl⟩
set_option maxRecDepth 100000 in
theorem A7:joinedFacts Tryz.checked.prog 3 Tryz.f3 Rows.fnExactAreStreamsConsistentSpec Rows.fnExactAreStreamsConsistentRow=true:=by
 unfold joinedFacts;rw[iG.1,iG.2.1,iG.2.2.1,iG.2.2.2]
 kernel_rfl
theorem fnExactAreStreamsConsistent_holds:Rows.FnExactAreStreamsConsistentSaid:=
 OpenClaim.holds_of_wide 3 Tryz.f3 rfl rfl rfl rfl rfl rfl rfl ⟨rfl,rfl,rfl,rfl,rfl⟩ rfl rfl rfl rfl rfl (by kernel_rfl) Tryz.func3 A7
  (aqn (by kernel_rfl)) (by unfold Func.isWrapper;first|(rw[if_pos (by decide+kernel)];kernel_rfl)|(rw[if_neg (by decide+kernel)];exact⟨rfl,rfl⟩))
  (λos started H enc _=>AZ os started H enc)
end Go.Proofs.YtkogcnaellmcdaaGreat
