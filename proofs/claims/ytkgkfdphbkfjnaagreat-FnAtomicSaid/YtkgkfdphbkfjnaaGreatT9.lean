import Derived.Test.YtkgkfdphbkfjnaaGreatP31
import Derived.Test.YtkgkfdphbkfjnaaGreatFwC
import Derived.Test.YtkgkfdphbkfjnaaGreatRows
import Derived.ProofKit
import Derived.LaidMore
import Derived.OpenShut
import Derived.Stop.Joined
import Derived.Stop.LaidErr
import Derived.SevenTiedAt
/- Proved here: the law FnAtomic holds of the given program: for every argument and every memory it returns true, under the conditions that its given statement names. -/
namespace Go.Proofs.YtkgkfdphbkfjnaaGreat
open Go Go.Fw Go.ChangeShapes Go.WideShapes Go.ChangeAt Go.WideMaps Go.WideElems Go.RowKit
theorem own:ownKnob Tryz.prog.godebug=none:=by kernel_rfl
set_option maxRecDepth 100000 in
theorem agh(os:Os)(started:os.Started)(H:Type)(enc:TypeId×Value->H):
 ReturnsInHanded {} Tryz.checked os 6 .any (Rows.fnAtomicSpec.pre6 enc Tryz.prog Tryz.f6 [] false)
  (Rows.fnAtomicSpec.post enc Tryz.prog Tryz.f6 false true false false):=
 law_lifted (tb:=4) (C:=Tryz.checked) own started (by kernel_rfl) Tryz.func6
  (ChangeSpec.witness6 (enc:=enc) (C:=Tryz.checked) false ⟨#[],#[.slice none 0 0],[]⟩ 8 (by kernel_rfl) (by kernel_rfl) (by kernel_rfl) (by kernel_rfl))
  Tryz.adD.1 (by kernel_rfl) (λ_ _=>⟨trivial,rfl⟩) (λ_=>trivial) rfl (λl hl=>by
   match l,hl with
   |[_],_=>exact⟨rfl,rfl,rfl⟩) (by kernel_rfl) (by kernel_rfl) (by kernel_rfl) (by kernel_rfl)
set_option maxRecDepth 100000 in
theorem F7:Tryz.checked.prog.inPlace 6=Rows.fnAtomicRow.inPlace/\Tryz.checked.prog.unfollowed 6=Rows.fnAtomicRow.unfollowed/\Tryz.checked.prog.recurses 6=Rows.fnAtomicRow.recurses/\Tryz.checked.prog.varsNamed 6=Rows.fnAtomicRow.named:=
 ⟨by kernel_rfl,by kernel_rfl,by kernel_rfl,by kernel_rfl⟩
set_option maxRecDepth 100000 in
theorem agi:joinedFacts Tryz.checked.prog 6 Tryz.f6 Rows.fnAtomicSpec Rows.fnAtomicRow=true:=by
 unfold joinedFacts;rw[F7.1,F7.2.1,F7.2.2.1,F7.2.2.2]
 kernel_rfl
theorem fnAtomic_holds:Rows.FnAtomicSaid:=
 OpenClaim.holds_of_wide 6 Tryz.f6 rfl rfl rfl rfl rfl rfl rfl ⟨rfl,rfl,rfl,rfl,rfl⟩ rfl rfl rfl rfl rfl (by kernel_rfl) Tryz.func6 agi
  (avN (by kernel_rfl)) (by unfold Func.isWrapper;first|(rw[if_pos (by decide+kernel)];kernel_rfl)|(rw[if_neg (by decide+kernel)];exact⟨rfl,rfl⟩))
  (λos started H enc _=>agh os started H enc)
end Go.Proofs.YtkgkfdphbkfjnaaGreat
