import Derived.Test.YthkihdfanbmegaaGreatDoorP28
import Derived.Test.YthkihdfanbmegaaGreatDoorFwC
import Derived.Test.YthkihdfanbmegaaGreatDoorRows
import Derived.Test.YthkihdfanbmegaaGreatDoorTie
import Derived.Test.YthkihdfanbmegaaGreatDoorCards
import Derived.ProofKit
import Derived.LaidMore
import Derived.OpenShut
import Derived.Stop.Joined
import Derived.Stop.LaidErr
import Derived.SevenTiedAt
/- Proved here: the law FnRetype holds of the given program: for every argument and every memory it returns true, under the conditions that its given statement names. -/
namespace Go.Proofs.YthkihdfanbmegaaGreatDoor
open Go Go.Fw Go.ChangeShapes Go.WideShapes Go.ChangeAt Go.WideMaps Go.WideElems Go.RowKit
theorem own:ownKnob Tryz.prog.godebug=none:=by kernel_rfl
def laid1:List (String×DataW Unit):=[("math/bits.deBruijn32tab",Rows.laid_math_bits_deBruijn32tab),("math/bits.deBruijn64tab",Rows.laid_math_bits_deBruijn64tab),("internal/strconv.uint64pow10",Rows.laid_internal_strconv_uint64pow10),("strconv.ErrRange",Rows.laid_strconv_ErrRange),("strconv.ErrSyntax",Rows.laid_strconv_ErrSyntax)]
theorem aeT(os:Os)(args:Array Value):laidMetH Tryz.prog laid1 ((World.doorLaid Tryz.prog 400 os).forCall (λ_ _=>0) ⟨#[],args,[]⟩).memory:=
 laidMetH_of_parts3 (fuel:=8) (laidMet_of_run' 8 (by kernel_rfl) (by kernel_rfl)) (by kernel_rfl) (by kernel_rfl)
theorem akL{n nm:String}{d:DataW Unit}{r:List (String×DataW Unit)}{W:World}{g:Nat}{ti:TypeId}{ms:Array (String×TypeId)}(h:laidMet Tryz.prog ((n,.iface nm d)::r) W)
 (hg:Tryz.prog.globalNamed n=some g) (ht:(Tryz.prog.globals[g]?).map (·.type)=some ti) (hi:Tryz.prog.underlying ti=some (.interface ms)):∃ev,W.cell? ⟨g,0,none⟩=some ev/\Tryz.isErr ev:=by
 obtain⟨ps,⟨g0,t0,cs0,f0,p0,q0,hg0,ht0,hv0,hd0,_,e0⟩,_,hrows⟩:=h;obtain rfl:=Option.some.inj (hg.symm.trans hg0);obtain rfl:=Option.some.inj (ht.symm.trans ht0);obtain⟨l0⟩:=cs0;obtain⟨f',u,v,e,_⟩:=iface_of_trod hi hd0;refine⟨.iface u v,?_,.inr ⟨u,v,rfl⟩⟩;have e:l0=[.iface u v]:=e;subst e;simpa using World.var?_cell hg0 hv0 0
set_option maxRecDepth 100000 in
theorem agi(w:World)(h:laidMetH Tryz.prog laid1 w):Tryz.G.ok w:=by
 rw[MakeChecks.laidMetH_plain _ _ _ (by kernel_rfl)]at h;exact⟨Lib.tabIs_of_head (g:=2) (t:=230) (e:=215) (n:=20) (by kernel_rfl) (by kernel_rfl) (by kernel_rfl) (by kernel_rfl) (by kernel_rfl) (by kernel_rfl) h.tail.tail,
  akL h.tail.tail.tail.tail (by kernel_rfl) (by kernel_rfl) Tryz.underlying172⟩
set_option maxRecDepth 100000 in
theorem ado(os:Os)(started:os.Started)(H:Type)(enc:TypeId×Value->H):
 ReturnsInHanded {} Tryz.checked os 4 .any (λw args=>(Rows.fnRetypeSpec.pre enc Tryz.prog Tryz.f4 [] false w args/\laidMetH Tryz.prog laid1 w)/\sizedMet enc Tryz.prog Tryz.f4 (OpenSpec.ofChange Rows.fnRetypeSpec) false w args)
  (Rows.fnRetypeSpec.post enc Tryz.prog Tryz.f4 false true false false):=
 abr (tb:=4) (C:=Tryz.checked) (X:=λw=>laidMetH Tryz.prog laid1 w) (λ_ _ hh h=>h.of_heap hh) own started (by kernel_rfl) Tryz.func4
  (ChangeSpec.witness_shaped (enc:=enc) (C:=Tryz.checked) (os:=os) (X:=λw _=>laidMetH Tryz.prog laid1 w) false (World.doorLaid Tryz.prog 400 os) #[.slice none 0 0] 8 rfl (World.shaped_of_RefB (by kernel_rfl) (by kernel_rfl)) (by kernel_rfl) (by kernel_rfl) (by kernel_rfl) (aeT os _))
  Tryz.aaJ.1 (by kernel_rfl) (λ_ _=>⟨trivial,rfl⟩) agi rfl (λl hl=>by
   match l,hl with
   |[_],_=>exact⟨rfl,rfl,rfl⟩) (by kernel_rfl) (by kernel_rfl) (by kernel_rfl) (by kernel_rfl)
set_option maxRecDepth 100000 in
theorem DC:Tryz.checked.prog.inPlace 4=Rows.fnRetypeRow.inPlace/\Tryz.checked.prog.unfollowed 4=Rows.fnRetypeRow.unfollowed/\Tryz.checked.prog.recurses 4=Rows.fnRetypeRow.recurses/\Tryz.checked.prog.varsNamed 4=Rows.fnRetypeRow.named:=
 ⟨by kernel_rfl,by kernel_rfl,by kernel_rfl,by kernel_rfl⟩
set_option maxRecDepth 100000 in
theorem adp:joinedFacts Tryz.checked.prog 4 Tryz.f4 Rows.fnRetypeSpec Rows.fnRetypeRow=true:=by
 unfold joinedFacts;rw[DC.1,DC.2.1,DC.2.2.1,DC.2.2.2]
 kernel_rfl
theorem aeU:Rows.FnRetypeSaid:=
 OpenClaim.holds_of_wide 4 Tryz.f4 rfl rfl rfl rfl rfl rfl rfl ⟨rfl,rfl,rfl,rfl,rfl⟩ rfl rfl rfl rfl rfl (by kernel_rfl) Tryz.func4 adp
  (asM (by kernel_rfl)) (by unfold Func.isWrapper;first|(rw[if_pos (by decide+kernel)];kernel_rfl)|(rw[if_neg (by decide+kernel)];exact⟨rfl,rfl⟩))
  (λos started H enc _=>ado os started H enc)
theorem fnRetype_card:Rows.FnRetypeCardSaid:=
 Claim7.holds_tied_plain_at .later [] [.data,.data,.data,.sentinel,.sentinel] true (true,"fe11b3bf364ef86fd00ae1acabde57c3bc87151f44f90a52c9490a518a555b1e") true
  aeU (λ_ h=>by cases h) (by kernel_rfl) (λ_ h=>by cases h) fnRetype_row_tie rfl ⟨rfl,rfl⟩ (by kernel_rfl) rfl
  (λf fn hf hfn=>by
    obtain rfl:f=4:=Option.some.inj ((show Tryz.prog.funcNamed "loop.example/g00976/laws.FnRetype" =some 4 by kernel_rfl).symm.trans hf)|>.symm;obtain rfl:fn=Tryz.f4:=(Option.some.inj (Tryz.func4.symm.trans hfn)).symm;exact⟨by kernel_rfl,λj t ht=>by
     rw[Tryz.params4]at ht;have hm:t∈[22]:=by simpa using Array.mem_of_getElem? ht
     have hall:([22].all λu=>!Tryz.prog.wantsStandIn u)=true:=by kernel_rfl
     exact(show Tryz.prog.wantsStandIn t=false by simpa using arK.1 hall t hm)⟩)
  (by kernel_rfl)
end Go.Proofs.YthkihdfanbmegaaGreatDoor
