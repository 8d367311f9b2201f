import Derived.Test.YtlmamafnoigopaaGreatDoorP144
import Derived.Test.YtlmamafnoigopaaGreatDoorFwC
import Derived.Test.YtlmamafnoigopaaGreatDoorRows
import Derived.Test.YtlmamafnoigopaaGreatDoorTie
import Derived.Test.YtlmamafnoigopaaGreatDoorCards
import Derived.ProofKit
import Derived.LaidMore
import Derived.OpenShut
import Derived.Stop.Joined
import Derived.Stop.LaidErr
import Derived.SevenTiedAt
/- Proved here: the law FnExactFormatSystem holds of the given program: for every argument and every memory it returns true, under the conditions that its given statement names. -/
namespace Go.Proofs.YtlmamafnoigopaaGreatDoor
open Go Go.Fw Go.ChangeShapes Go.WideShapes Go.ChangeAt Go.WideMaps Go.WideElems Go.RowKit
theorem own:ownKnob Tryz.prog.godebug=none:=by kernel_rfl
def laid1:List (String×DataW Unit):=[("math/bits.deBruijn32tab",Rows.laid_math_bits_deBruijn32tab),("math/bits.deBruijn64tab",Rows.laid_math_bits_deBruijn64tab),("internal/strconv.uint64pow10",Rows.laid_internal_strconv_uint64pow10)]
theorem aer(os:Os)(args:Array Value):laidMetH Tryz.prog laid1 ((World.doorLaid Tryz.prog 400 os).forCall (λ_ _=>0) ⟨#[],args,[]⟩).memory:=
 laidMetH_of_parts3 (fuel:=8) (laidMet_of_run' 8 (by kernel_rfl) (by kernel_rfl)) (by kernel_rfl) (by kernel_rfl)
theorem afV(w:World)(h:laidMetH Tryz.prog laid1 w):Tryz.G.ok w:=by rw[MakeChecks.laidMetH_plain _ _ _ (by kernel_rfl)]at h;exact Lib.tabIs_of_head (g:=0) (t:=255) (e:=220) (n:=20) (by kernel_rfl) (by kernel_rfl) (by kernel_rfl) (by kernel_rfl) (by kernel_rfl) (by kernel_rfl) h.tail.tail
set_option maxRecDepth 100000 in
theorem Ib(os:Os)(started:os.Started)(H:Type)(enc:TypeId×Value->H):
 ReturnsInHanded {} Tryz.checked os 3 .any (λw args=>(Rows.fnExactFormatSystemSpec.pre enc Tryz.prog Tryz.f3 [] false w args/\laidMetH Tryz.prog laid1 w)/\sizedMet enc Tryz.prog Tryz.f3 (OpenSpec.ofChange Rows.fnExactFormatSystemSpec) false w args)
  (Rows.fnExactFormatSystemSpec.post enc Tryz.prog Tryz.f3 false true false false):=
 aas (tb:=4) (C:=Tryz.checked) (X:=λw=>laidMetH Tryz.prog laid1 w) (λ_ _ hh h=>h.of_heap hh) own started (by kernel_rfl) Tryz.func3
  (ChangeSpec.witness_shaped (enc:=enc) (C:=Tryz.checked) (os:=os) (X:=λw _=>laidMetH Tryz.prog laid1 w) false (World.doorLaid Tryz.prog 400 os) #[.agg #[.slice none 0 0,.slice none 0 0,.int .i64 0,.slice none 0 0,.slice none 0 0,.string ⟨#[]⟩,.string ⟨#[]⟩,.int .i64 0,.slice none 0 0,.slice none 0 0,.slice none 0 0]] 8 rfl (World.shaped_of_RefB (by kernel_rfl) (by kernel_rfl)) (by kernel_rfl) (by kernel_rfl) (by kernel_rfl) (aer os _))
  Tryz.Hu.1 (by kernel_rfl) (λ_ _=>⟨trivial,rfl⟩) afV rfl (λl hl=>by
   match l,hl with
   |[_],_=>exact⟨rfl,rfl,rfl⟩) (by kernel_rfl) (by kernel_rfl) (by kernel_rfl) (by kernel_rfl)
set_option maxRecDepth 100000 in
theorem lY:Tryz.checked.prog.inPlace 3=Rows.fnExactFormatSystemRow.inPlace/\Tryz.checked.prog.unfollowed 3=Rows.fnExactFormatSystemRow.unfollowed/\Tryz.checked.prog.recurses 3=Rows.fnExactFormatSystemRow.recurses/\Tryz.checked.prog.varsNamed 3=Rows.fnExactFormatSystemRow.named:=
 ⟨by kernel_rfl,by kernel_rfl,by kernel_rfl,by kernel_rfl⟩
set_option maxRecDepth 100000 in
theorem Ic:joinedFacts Tryz.checked.prog 3 Tryz.f3 Rows.fnExactFormatSystemSpec Rows.fnExactFormatSystemRow=true:=by
 unfold joinedFacts;rw[lY.1,lY.2.1,lY.2.2.1,lY.2.2.2]
 kernel_rfl
theorem I7:Rows.FnExactFormatSystemSaid:=
 OpenClaim.holds_of_wide 3 Tryz.f3 rfl rfl rfl rfl rfl rfl rfl ⟨rfl,rfl,rfl,rfl,rfl⟩ rfl rfl rfl rfl rfl (by kernel_rfl) Tryz.func3 Ic
  (at7 (by kernel_rfl)) (by unfold Func.isWrapper;first|(rw[if_pos (by decide+kernel)];kernel_rfl)|(rw[if_neg (by decide+kernel)];exact⟨rfl,rfl⟩))
  (λos started H enc _=>Ib os started H enc)
theorem fnExactFormatSystem_card:Rows.FnExactFormatSystemCardSaid:=
 Claim7.holds_tied_plain_at .later [] [.data,.data,.data] true (true,"a5561d2493bac5cf7643ba9fd0319979bab68bbe678e1ef52f7005a3cb6819de") false
  I7 (λ_ h=>by cases h) (by kernel_rfl) (λ_ h=>by cases h) fnExactFormatSystem_row_tie rfl ⟨rfl,rfl⟩ (by kernel_rfl) rfl
  (λf fn hf hfn=>by
    obtain rfl:f=3:=Option.some.inj ((show Tryz.prog.funcNamed "loop.example/g00976/laws.FnExactFormatSystem" =some 3 by kernel_rfl).symm.trans hf)|>.symm;obtain rfl:fn=Tryz.f3:=(Option.some.inj (Tryz.func3.symm.trans hfn)).symm;exact⟨by kernel_rfl,λj t ht=>by
     rw[Tryz.params3]at ht;have hm:t∈[36]:=by simpa using Array.mem_of_getElem? ht
     have hall:([36].all λu=>!Tryz.prog.wantsStandIn u)=true:=by kernel_rfl
     exact(show Tryz.prog.wantsStandIn t=false by simpa using atq.1 hall t hm)⟩)
  (by kernel_rfl)
end Go.Proofs.YtlmamafnoigopaaGreatDoor
