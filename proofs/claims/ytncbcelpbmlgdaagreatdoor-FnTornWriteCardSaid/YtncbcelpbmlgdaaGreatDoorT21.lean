import Derived.Test.YtncbcelpbmlgdaaGreatDoorP108
import Derived.Test.YtncbcelpbmlgdaaGreatDoorFwC
import Derived.Test.YtncbcelpbmlgdaaGreatDoorRows
import Derived.Test.YtncbcelpbmlgdaaGreatDoorTie
import Derived.Test.YtncbcelpbmlgdaaGreatDoorCards
import Derived.ProofKit
import Derived.LaidMore
import Derived.Lay
import Derived.OpenShut
import Derived.Stop.Joined
import Derived.Stop.LaidErr
import Derived.SevenTiedAt
/- Proved here: the law FnTornWrite holds of the given program: for every argument and every memory it returns true, under the conditions that its given statement names. -/
namespace Go.Proofs.YtncbcelpbmlgdaaGreatDoor
open Go Go.Fw Go.ChangeShapes Go.WideShapes Go.ChangeAt Go.WideMaps Go.WideElems Go.RowKit
theorem own:ownKnob Tryz.prog.godebug=none:=abu
def laid1:List (String×DataW Unit):=[("math/bits.deBruijn32tab",Rows.laid_math_bits_deBruijn32tab),("math/bits.deBruijn64tab",Rows.laid_math_bits_deBruijn64tab),("internal/strconv.uint64pow10",Rows.laid_internal_strconv_uint64pow10),("unicode/utf8.acceptRanges",Rows.laid_unicode_utf8_acceptRanges),("strconv.ErrRange",Rows.laid_strconv_ErrRange),("strconv.ErrSyntax",Rows.laid_strconv_ErrSyntax),("unicode.White_Space",Rows.laid_unicode_White_Space),("strings.asciiSpace",Rows.laid_strings_asciiSpace),("unicode/utf8.first",Rows.laid_unicode_utf8_first)]
theorem adJ{n nm:String}{d:DataW Unit}{r:List (String×DataW Unit)}{W:World}{g:Nat}{ti:TypeId}{ms:Array (String×TypeId)}(h:laidMet Tryz.prog ((n,.iface nm d)::r) W)
 (hg:Tryz.prog.globalNamed n=some g) (ht:(Tryz.prog.globals[g]?).map (·.type)=some ti) (hi:Tryz.prog.underlying ti=some (.interface ms)):∃ev,W.cell? ⟨g,0,none⟩=some ev/\Tryz.isErr ev:=by
 obtain⟨ps,⟨g0,t0,cs0,f0,p0,q0,hg0,ht0,hv0,hd0,_,e0⟩,_,hrows⟩:=h;obtain rfl:=Option.some.inj (hg.symm.trans hg0);obtain rfl:=Option.some.inj (ht.symm.trans ht0);obtain⟨l0⟩:=cs0;obtain⟨f',u,v,e,_⟩:=iface_of_trod hi hd0;refine⟨.iface u v,?_,.inr ⟨u,v,rfl⟩⟩;have e:l0=[.iface u v]:=e;subst e;simpa using World.var?_cell hg0 hv0 0
set_option maxRecDepth 100000 in
theorem ag0(w:World)(h:laidMetH Tryz.prog laid1 w)(hs:w.ShapedOpen Tryz.prog):Tryz.G.ok w:=by
 rw[MakeChecks.laidMetH_plain _ _ _ abu]at h;exact⟨Lib.tabIs_of_head (g:=4) (t:=231) (e:=209) (n:=20) abu abu abu abu abu abu h.tail.tail,
  Lib.tabIs_of_head (g:=0) (t:=214) (e:=5) (n:=256) abu abu abu abu abu abu h.tail.tail.tail.tail.tail.tail.tail,
  adJ h.tail.tail.tail.tail.tail abu abu Tryz.underlying154,adJ h.tail.tail.tail.tail abu abu Tryz.underlying154,Tryz.laysM146.s1_3 w hs⟩
set_option maxRecDepth 100000 in
theorem XH(os:Os)(started:os.Started)(H:Type)(enc:TypeId×Value->H):
 ReturnsInHanded {} Tryz.checked os 6 .any (λw args=>(Rows.fnTornWriteSpec.pre enc Tryz.prog Tryz.f6 [] false w args/\laidMetH Tryz.prog laid1 w)/\sizedMet enc Tryz.prog Tryz.f6 (OpenSpec.ofChange Rows.fnTornWriteSpec) false w args)
  (Rows.fnTornWriteSpec.post enc Tryz.prog Tryz.f6 false true false false):=
 Yj (tb:=4) (C:=Tryz.checked) (X:=λw=>laidMetH Tryz.prog laid1 w) (λ_ _ hh h=>h.of_heap hh) own started abu Tryz.func6
  (ChangeSpec.witness_shaped (enc:=enc) (C:=Tryz.checked) (os:=os) (X:=λw _=>laidMetH Tryz.prog laid1 w) false (World.laidAll Tryz.prog os laid1) #[.slice none 0 0] 8 (World.laidAll_os _ _ _) (World.shaped_of_ZipB abu abu) abu abu abu (by rw[MakeChecks.laidMetH_plain _ _ _ abu];exact laidMet_laidAll _ abu abu))
  Tryz.UM.1 abu (λ_ _=>⟨trivial,rfl⟩) ag0 rfl (λl hl=>by
   match l,hl with
   |[_],_=>exact⟨rfl,rfl,rfl⟩) abu abu abu abu
set_option maxRecDepth 100000 in
theorem yA:Tryz.checked.prog.inPlace 6=Rows.fnTornWriteRow.inPlace/\Tryz.checked.prog.unfollowed 6=Rows.fnTornWriteRow.unfollowed/\Tryz.checked.prog.recurses 6=Rows.fnTornWriteRow.recurses/\Tryz.checked.prog.varsNamed 6=Rows.fnTornWriteRow.named:=
 ⟨abu,abu,abu,abu⟩
set_option maxRecDepth 100000 in
theorem XI:joinedFacts Tryz.checked.prog 6 Tryz.f6 Rows.fnTornWriteSpec Rows.fnTornWriteRow=true:=by
 unfold joinedFacts;rw[yA.1,yA.2.1,yA.2.2.1,yA.2.2.2]
 kernel_rfl
theorem YX:Rows.FnTornWriteSaid:=
 OpenClaim.holds_of_wide 6 Tryz.f6 rfl rfl rfl rfl rfl rfl rfl ⟨rfl,rfl,rfl,rfl,rfl⟩ rfl rfl rfl rfl rfl abu Tryz.func6 XI
  (awQ abu) (by unfold Func.isWrapper;first|(rw[if_pos (by decide+kernel)];kernel_rfl)|(rw[if_neg (by decide+kernel)];exact⟨rfl,rfl⟩))
  (λos started H enc _=>XH os started H enc)
theorem fnTornWrite_card:Rows.FnTornWriteCardSaid:=
 Claim7.holds_tied_plain_at .later [] [.data,.data,.data,.data,.sentinel,.sentinel,.listed,.data,.pinned] true (true,"6e9573f415262a6625b1b02ac3c821610b2a706019077b3166d2cc1dd3d9a9ae") true
  YX (λ_ h=>agk) abu (λ_ h=>agk) fnTornWrite_row_tie rfl ⟨rfl,rfl⟩ abu rfl
  (λf fn hf hfn=>by
    obtain rfl:f=6:=Option.some.inj ((show Tryz.prog.funcNamed "loop.example/g00976/laws.FnTornWrite" =some 6 from abu).symm.trans hf)|>.symm;obtain rfl:fn=Tryz.f6:=(Option.some.inj (Tryz.func6.symm.trans hfn)).symm;exact⟨abu,λj t ht=>by
     rw[Tryz.params6]at ht;have hm:t∈[22]:=by simpa using Array.mem_of_getElem? ht
     have hall:([22].all λu=>!Tryz.prog.wantsStandIn u)=true:=abu;exact(show Tryz.prog.wantsStandIn t=false by simpa using avL.1 hall t hm)⟩)
  abu
end Go.Proofs.YtncbcelpbmlgdaaGreatDoor
