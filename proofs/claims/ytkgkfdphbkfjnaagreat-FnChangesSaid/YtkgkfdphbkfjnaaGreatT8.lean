import Derived.Test.YtkgkfdphbkfjnaaGreatP30
import Derived.Test.YtkgkfdphbkfjnaaGreatFwC
import Derived.Test.YtkgkfdphbkfjnaaGreatRows
import Derived.ProofKit
import Derived.LaidMore
import Derived.OpenShut
import Derived.Stop.Joined
import Derived.Stop.LaidErr
import Derived.SevenTiedAt
/- Proved here: the law FnChanges holds of the given program: for every argument and every memory it returns true, under the conditions that its given statement names. -/
namespace Go.Proofs.YtkgkfdphbkfjnaaGreat
open Go Go.Fw Go.ChangeShapes Go.WideShapes Go.ChangeAt Go.WideMaps Go.WideElems Go.RowKit
theorem own:ownKnob Tryz.prog.godebug=none:=by kernel_rfl
set_option maxRecDepth 100000 in
theorem adf (os:Os) (started:os.Started) (H:Type) (enc:TypeId×Value→H):
 ReturnsInHanded {} Tryz.checked os 4 .any (Rows.fnChangesSpec.pre6 enc Tryz.prog Tryz.f4 [] false)
  (Rows.fnChangesSpec.post enc Tryz.prog Tryz.f4 false true false false):=
 law_lifted (tb:=4) (C:=Tryz.checked) own started (by kernel_rfl) Tryz.func4
  (ChangeSpec.witness6 (enc:=enc) (C:=Tryz.checked) false ⟨#[],#[.slice none 0 0],[]⟩ 8 (by kernel_rfl) (by kernel_rfl) (by kernel_rfl) (by kernel_rfl))
  Tryz.aaH.1 (by kernel_rfl) (fun _ _=>⟨trivial,rfl⟩) (fun _=>trivial) rfl (fun l hl=>by
   match l,hl with
   |[_],_=>exact ⟨rfl,rfl,rfl⟩) (by kernel_rfl) (by kernel_rfl) (by kernel_rfl) (by kernel_rfl)
set_option maxRecDepth 100000 in
theorem Ew:Tryz.checked.prog.inPlace 4=Rows.fnChangesRow.inPlace∧Tryz.checked.prog.unfollowed 4=Rows.fnChangesRow.unfollowed∧Tryz.checked.prog.recurses 4=Rows.fnChangesRow.recurses∧Tryz.checked.prog.varsNamed 4=Rows.fnChangesRow.named:=
 ⟨by kernel_rfl,by kernel_rfl,by kernel_rfl,by kernel_rfl⟩
set_option maxRecDepth 100000 in
theorem adg:joinedFacts Tryz.checked.prog 4 Tryz.f4 Rows.fnChangesSpec Rows.fnChangesRow=true:=by
 unfold joinedFacts
 rw [Ew.1,Ew.2.1,Ew.2.2.1,Ew.2.2.2]
 kernel_rfl
theorem fnChanges_holds:Rows.FnChangesSaid:=
 OpenClaim.holds_of_wide 4 Tryz.f4 rfl rfl rfl rfl rfl rfl rfl ⟨rfl,rfl,rfl,rfl,rfl⟩ rfl rfl rfl rfl rfl (by kernel_rfl) Tryz.func4 adg
  (of_decide_eq_true (by kernel_rfl)) (by unfold Func.isWrapper;first|(rw [if_pos (by decide+kernel)];kernel_rfl)|(rw [if_neg (by decide+kernel)];exact ⟨rfl,rfl⟩))
  (fun os started H enc _=>adf os started H enc)
end Go.Proofs.YtkgkfdphbkfjnaaGreat
