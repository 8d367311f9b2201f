import Derived.Test.YtncbcelpbmlgdaaGreatDoorP108
import Derived.Test.YtncbcelpbmlgdaaGreatDoorFwC
import Derived.Test.YtncbcelpbmlgdaaGreatDoorRows
import Derived.Test.YtncbcelpbmlgdaaGreatDoorTie
import Derived.Test.YtncbcelpbmlgdaaGreatDoorCards
import Derived.ProofKit
import Derived.LaidMore
import Derived.Lay
import Derived.OpenShut
import Derived.Stop.Joined
import Derived.Stop.LaidErr
import Derived.SevenTiedAt
/- Proved here: the law FnSlotRoundTrip holds of the given program: for every argument and every memory it returns true, under the conditions that its given statement names. -/
namespace Go.Proofs.YtncbcelpbmlgdaaGreatDoor
open Go Go.Fw Go.ChangeShapes Go.WideShapes Go.ChangeAt Go.WideMaps Go.WideElems Go.RowKit
theorem own:ownKnob Tryz.prog.godebug=none:=aa1
def laid1:List (String×DataW Unit):=[("math/bits.deBruijn32tab",Rows.laid_math_bits_deBruijn32tab),("math/bits.deBruijn64tab",Rows.laid_math_bits_deBruijn64tab),("internal/strconv.uint64pow10",Rows.laid_internal_strconv_uint64pow10),("unicode/utf8.acceptRanges",Rows.laid_unicode_utf8_acceptRanges),("strconv.ErrRange",Rows.laid_strconv_ErrRange),("strconv.ErrSyntax",Rows.laid_strconv_ErrSyntax),("unicode.White_Space",Rows.laid_unicode_White_Space),("strings.asciiSpace",Rows.laid_strings_asciiSpace),("unicode/utf8.first",Rows.laid_unicode_utf8_first)]
theorem ac8{n nm:String}{d:DataW Unit}{r:List (String×DataW Unit)}{W:World}{g:Nat}{ti:TypeId}{ms:Array (String×TypeId)}(h:laidMet Tryz.prog ((n,.iface nm d)::r) W)
 (hg:Tryz.prog.globalNamed n=some g) (ht:(Tryz.prog.globals[g]?).map (·.type)=some ti) (hi:Tryz.prog.underlying ti=some (.interface ms)):∃ev,W.cell? ⟨g,0,none⟩=some ev/\Tryz.isErr ev:=by
 obtain⟨ps,⟨g0,t0,cs0,f0,p0,q0,hg0,ht0,hv0,hd0,_,e0⟩,_,hrows⟩:=h;obtain rfl:=Option.some.inj (hg.symm.trans hg0);obtain rfl:=Option.some.inj (ht.symm.trans ht0);obtain⟨l0⟩:=cs0;obtain⟨f',u,v,e,_⟩:=iface_of_trod hi hd0;refine⟨.iface u v,?_,.inr ⟨u,v,rfl⟩⟩;have e:l0=[.iface u v]:=e;subst e;simpa using World.var?_cell hg0 hv0 0
set_option maxRecDepth 100000 in
theorem agl(w:World)(h:laidMetH Tryz.prog laid1 w)(hs:w.ShapedOpen Tryz.prog):Tryz.G.ok w:=by
 rw[MakeChecks.laidMetH_plain _ _ _ aa1]at h;exact⟨Lib.tabIs_of_head (g:=4) (t:=231) (e:=209) (n:=20) aa1 aa1 aa1 aa1 aa1 aa1 h.tail.tail,
  Lib.tabIs_of_head (g:=0) (t:=214) (e:=5) (n:=256) aa1 aa1 aa1 aa1 aa1 aa1 h.tail.tail.tail.tail.tail.tail.tail,
  ac8 h.tail.tail.tail.tail.tail aa1 aa1 Tryz.underlying154,ac8 h.tail.tail.tail.tail aa1 aa1 Tryz.underlying154,Tryz.laysM146.s1_3 w hs⟩
set_option maxRecDepth 100000 in
theorem OY(os:Os)(started:os.Started)(H:Type)(enc:TypeId×Value->H):
 ReturnsInHanded {} Tryz.checked os 5 .any (λw args=>(Rows.fnSlotRoundTripSpec.pre enc Tryz.prog Tryz.f5 [] false w args/\laidMetH Tryz.prog laid1 w)/\sizedMet enc Tryz.prog Tryz.f5 (OpenSpec.ofChange Rows.fnSlotRoundTripSpec) false w args)
  (Rows.fnSlotRoundTripSpec.post enc Tryz.prog Tryz.f5 false true false false):=
 X5 (tb:=4) (C:=Tryz.checked) (X:=λw=>laidMetH Tryz.prog laid1 w) (λ_ _ hh h=>h.of_heap hh) own started aa1 Tryz.func5
  (ChangeSpec.witness_shaped (enc:=enc) (C:=Tryz.checked) (os:=os) (X:=λw _=>laidMetH Tryz.prog laid1 w) false (World.laidAll Tryz.prog os laid1) #[.slice none 0 0] 8 (World.laidAll_os _ _ _) (World.shaped_of_ZipB aa1 aa1) aa1 aa1 aa1 (by rw[MakeChecks.laidMetH_plain _ _ _ aa1];exact laidMet_laidAll _ aa1 aa1))
  Tryz.MC.1 aa1 (λ_ _=>⟨trivial,rfl⟩) agl rfl (λl hl=>by
   match l,hl with
   |[_],_=>exact⟨rfl,rfl,rfl⟩) aa1 aa1 aa1 aa1
set_option maxRecDepth 100000 in
theorem rE:Tryz.checked.prog.inPlace 5=Rows.fnSlotRoundTripRow.inPlace/\Tryz.checked.prog.unfollowed 5=Rows.fnSlotRoundTripRow.unfollowed/\Tryz.checked.prog.recurses 5=Rows.fnSlotRoundTripRow.recurses/\Tryz.checked.prog.varsNamed 5=Rows.fnSlotRoundTripRow.named:=
 ⟨aa1,aa1,aa1,aa1⟩
set_option maxRecDepth 100000 in
theorem OZ:joinedFacts Tryz.checked.prog 5 Tryz.f5 Rows.fnSlotRoundTripSpec Rows.fnSlotRoundTripRow=true:=by
 unfold joinedFacts;rw[rE.1,rE.2.1,rE.2.2.1,rE.2.2.2]
 kernel_rfl
theorem QB:Rows.FnSlotRoundTripSaid:=
 OpenClaim.holds_of_wide 5 Tryz.f5 rfl rfl rfl rfl rfl rfl rfl ⟨rfl,rfl,rfl,rfl,rfl⟩ rfl rfl rfl rfl rfl aa1 Tryz.func5 OZ
  (avZ aa1) (by unfold Func.isWrapper;first|(rw[if_pos (by decide+kernel)];kernel_rfl)|(rw[if_neg (by decide+kernel)];exact⟨rfl,rfl⟩))
  (λos started H enc _=>OY os started H enc)
theorem fnSlotRoundTrip_card:Rows.FnSlotRoundTripCardSaid:=
 Claim7.holds_tied_plain_at .later [] [.data,.data,.data,.data,.sentinel,.sentinel,.listed,.data,.pinned] true (true,"6e9573f415262a6625b1b02ac3c821610b2a706019077b3166d2cc1dd3d9a9ae") true
  QB (λ_ h=>afH) aa1 (λ_ h=>afH) fnSlotRoundTrip_row_tie rfl ⟨rfl,rfl⟩ aa1 rfl
  (λf fn hf hfn=>by
    obtain rfl:f=5:=Option.some.inj ((show Tryz.prog.funcNamed "loop.example/g00976/laws.FnSlotRoundTrip" =some 5 from aa1).symm.trans hf)|>.symm;obtain rfl:fn=Tryz.f5:=(Option.some.inj (Tryz.func5.symm.trans hfn)).symm;exact⟨aa1,λj t ht=>by
     rw[Tryz.params5]at ht;have hm:t∈[22]:=by simpa using Array.mem_of_getElem? ht
     have hall:([22].all λu=>!Tryz.prog.wantsStandIn u)=true:=aa1;exact(show Tryz.prog.wantsStandIn t=false by simpa using auY.1 hall t hm)⟩)
  aa1
end Go.Proofs.YtncbcelpbmlgdaaGreatDoor
