import Derived.Test.YtgnfgfokndjepaaDoorP1
import Derived.Test.YtgnfgfokndjepaaDoorFwC
import Derived.Test.YtgnfgfokndjepaaDoorRows
import Derived.Test.YtgnfgfokndjepaaDoorTie
import Derived.Test.YtgnfgfokndjepaaDoorCards
import Derived.ProofKit
import Derived.LaidMore
import Derived.OpenShut
import Derived.Stop.Joined
import Derived.Stop.LaidErr
import Derived.SevenTiedAt
/- Proved here: the law FnExactFormatWatch holds of the given program: for every argument and every memory it returns true, under the conditions that its given statement names. -/
namespace Go.Proofs.YtgnfgfokndjepaaDoor
open Go Go.Fw Go.ChangeShapes Go.WideShapes Go.ChangeAt Go.WideMaps Go.WideElems Go.RowKit
theorem own:ownKnob Tryd.prog.godebug=none:=by kernel_rfl
def laid1:List (String×DataW Unit):=[("math/bits.deBruijn32tab",Rows.laid_math_bits_deBruijn32tab),("math/bits.deBruijn64tab",Rows.laid_math_bits_deBruijn64tab),("internal/strconv.uint64pow10",Rows.laid_internal_strconv_uint64pow10)]
theorem GL(os:Os)(args:Array Value):laidMetH Tryd.prog laid1 ((World.doorLaid Tryd.prog 400 os).forCall (λ_ _=>0) ⟨#[],args,[]⟩).memory:=
 laidMetH_of_parts3 (fuel:=8) (laidMet_of_run' 8 (by kernel_rfl) (by kernel_rfl)) (by kernel_rfl) (by kernel_rfl)
theorem IY(w:World)(h:laidMetH Tryd.prog laid1 w):Tryd.G.ok w:=by rw[MakeChecks.laidMetH_plain _ _ _ (by kernel_rfl)]at h;exact Lib.tabIs_of_head (g:=0) (t:=80) (e:=70) (n:=20) (by kernel_rfl) (by kernel_rfl) (by kernel_rfl) (by kernel_rfl) (by kernel_rfl) (by kernel_rfl) h.tail.tail
set_option maxRecDepth 100000 in
theorem su(os:Os)(started:os.Started)(H:Type)(enc:TypeId×Value->H):
 ReturnsInHanded {} Tryd.checked os 3 .any (λw args=>(Rows.fnExactFormatWatchSpec.pre enc Tryd.prog Tryd.f3 [] false w args/\laidMetH Tryd.prog laid1 w)/\sizedMet enc Tryd.prog Tryd.f3 (OpenSpec.ofChange Rows.fnExactFormatWatchSpec) false w args)
  (Rows.fnExactFormatWatchSpec.post enc Tryd.prog Tryd.f3 false true false false):=
 Em (tb:=4) (C:=Tryd.checked) (X:=λw=>laidMetH Tryd.prog laid1 w) (λ_ _ hh h=>h.of_heap hh) own started (by kernel_rfl) Tryd.func3
  (ChangeSpec.witness_shaped (enc:=enc) (C:=Tryd.checked) (os:=os) (X:=λw _=>laidMetH Tryd.prog laid1 w) false (World.doorLaid Tryd.prog 400 os) #[.agg #[.int .i64 0,.string ⟨#[]⟩,.slice none 0 0,.slice none 0 0]] 8 rfl (World.shaped_of_RefB (by kernel_rfl) (by kernel_rfl)) (by kernel_rfl) (by kernel_rfl) (by kernel_rfl) (GL os _))
  Tryd.qX.1 (by kernel_rfl) (λ_ _=>⟨trivial,rfl⟩) IY rfl (λl hl=>by
   match l,hl with
   |[_],_=>exact⟨rfl,rfl,rfl⟩) (by kernel_rfl) (by kernel_rfl) (by kernel_rfl) (by kernel_rfl)
set_option maxRecDepth 100000 in
theorem fP:Tryd.checked.prog.inPlace 3=Rows.fnExactFormatWatchRow.inPlace/\Tryd.checked.prog.unfollowed 3=Rows.fnExactFormatWatchRow.unfollowed/\Tryd.checked.prog.recurses 3=Rows.fnExactFormatWatchRow.recurses/\Tryd.checked.prog.varsNamed 3=Rows.fnExactFormatWatchRow.named:=
 ⟨by kernel_rfl,by kernel_rfl,by kernel_rfl,by kernel_rfl⟩
set_option maxRecDepth 100000 in
theorem sD:joinedFacts Tryd.checked.prog 3 Tryd.f3 Rows.fnExactFormatWatchSpec Rows.fnExactFormatWatchRow=true:=by
 unfold joinedFacts;rw[fP.1,fP.2.1,fP.2.2.1,fP.2.2.2]
 kernel_rfl
theorem uq:Rows.FnExactFormatWatchSaid:=
 OpenClaim.holds_of_wide 3 Tryd.f3 rfl rfl rfl rfl rfl rfl rfl ⟨rfl,rfl,rfl,rfl,rfl⟩ rfl rfl rfl rfl rfl (by kernel_rfl) Tryd.func3 sD
  (ZK (by kernel_rfl)) (by unfold Func.isWrapper;first|(rw[if_pos (by decide+kernel)];kernel_rfl)|(rw[if_neg (by decide+kernel)];exact⟨rfl,rfl⟩))
  (λos started H enc _=>su os started H enc)
theorem fnExactFormatWatch_card:Rows.FnExactFormatWatchCardSaid:=
 Claim7.holds_tied_plain_at .later [] [.data,.data,.data] true (true,"8cea17c06635d1a3062c73f6d4173686e63d41fe175b692823fa84692371733d") false
  uq (λ_ h=>by cases h) (by kernel_rfl) (λ_ h=>by cases h) fnExactFormatWatch_row_tie rfl ⟨rfl,rfl⟩ (by kernel_rfl) rfl
  (λf fn hf hfn=>by
    obtain rfl:f=3:=Option.some.inj ((show Tryd.prog.funcNamed "loop.example/g00976/laws.FnExactFormatWatch" =some 3 by kernel_rfl).symm.trans hf)|>.symm;obtain rfl:fn=Tryd.f3:=(Option.some.inj (Tryd.func3.symm.trans hfn)).symm;exact⟨by kernel_rfl,λj t ht=>by
     rw[Tryd.params3]at ht;have hm:t∈[25]:=by simpa using Array.mem_of_getElem? ht
     have hall:([25].all λu=>!Tryd.prog.wantsStandIn u)=true:=by kernel_rfl
     exact(show Tryd.prog.wantsStandIn t=false by simpa using Ze.1 hall t hm)⟩)
  (by kernel_rfl)
end Go.Proofs.YtgnfgfokndjepaaDoor
