import Derived.Test.YtpipombdnmdimaaGreatDoorP120
import Derived.Test.YtpipombdnmdimaaGreatDoorFwC
import Derived.Test.YtpipombdnmdimaaGreatDoorRows
import Derived.Test.YtpipombdnmdimaaGreatDoorTie
import Derived.Test.YtpipombdnmdimaaGreatDoorCards
import Derived.ProofKit
import Derived.LaidMore
import Derived.Lay
import Derived.OpenShut
import Derived.Stop.Joined
import Derived.Stop.LaidErr
import Derived.SevenTiedAt
/- Proved here: laws.FnExactIsValidSystem returns true for every input: the program's IsValidSystem returns what the reference's returns, and leaves its argument as it was. Conditions: none beyond the row's own cells (nine package variables as the program lays them). -/
namespace Go.Proofs.YtpipombdnmdimaaGreatDoor
open Go Go.Fw Go.ChangeShapes Go.WideShapes Go.ChangeAt Go.WideMaps Go.WideElems Go.RowKit
theorem own:ownKnob Tryz.prog.godebug=none:=mF
def laid1:List (String×DataW Unit):=[("math/bits.deBruijn32tab",Rows.laid_math_bits_deBruijn32tab),("math/bits.deBruijn64tab",Rows.laid_math_bits_deBruijn64tab),("internal/strconv.uint64pow10",Rows.laid_internal_strconv_uint64pow10),("unicode/utf8.acceptRanges",Rows.laid_unicode_utf8_acceptRanges),("strconv.ErrRange",Rows.laid_strconv_ErrRange),("strconv.ErrSyntax",Rows.laid_strconv_ErrSyntax),("unicode.White_Space",Rows.laid_unicode_White_Space),("strings.asciiSpace",Rows.laid_strings_asciiSpace),("unicode/utf8.first",Rows.laid_unicode_utf8_first)]
theorem anG{n nm:String}{d:DataW Unit}{r:List (String×DataW Unit)}{W:World}{g:Nat}{m:TypeId}{t:Array (String×TypeId)}(h:laidMet Tryz.prog ((n,.iface nm d)::r) W)
 (o:Tryz.prog.globalNamed n=some g) (q:(Tryz.prog.globals[g]?).map (·.type)=some m) (D:Tryz.prog.underlying m=some (.interface t)):∃l,W.cell? ⟨g,0,none⟩=some l/\Tryz.isErr l:=by
 obtain⟨B,⟨z,E,b,y,A,C,a,j,k,f,_,w⟩,_,i⟩:=h;obtain rfl:=Option.some.inj (o.symm.trans a);obtain rfl:=Option.some.inj (q.symm.trans j);obtain⟨s⟩:=b;obtain⟨x,u,v,e,_⟩:=iface_of_trod D f;refine⟨.iface u v,?_,.inr ⟨u,v,rfl⟩⟩;have e:s=[.iface u v]:=e;subst e;simpa using World.var?_cell a k 0
set_option maxRecDepth 100000 in
theorem arA(w:World)(h:laidMetH Tryz.prog laid1 w)(X:w.ShapedOpen Tryz.prog):Tryz.G.ok w:=by
 rw[MakeChecks.laidMetH_plain _ _ _ mF]at h;exact⟨Lib.tabIs_of_head (g:=3) (t:=366) (e:=313) (n:=20) mF mF mF mF mF mF h.tail.tail,
  Lib.tabIs_of_head (g:=6) (t:=371) (e:=5) (n:=256) mF mF mF mF mF mF h.tail.tail.tail.tail.tail.tail.tail,
  anG h.tail.tail.tail.tail.tail mF mF Tryz.underlying256,anG h.tail.tail.tail.tail mF mF Tryz.underlying256,Go.Proofs.cell_of_shapedOpen_int (zero:=#[.int .i64 0]) (t:=3) X (aIt mF) mF rfl mF mF Tryz.underlying3⟩
set_option maxRecDepth 100000 in
theorem QY(os:Os)(a:os.Started)(H:Type)(enc:TypeId×Value->H):
 ReturnsInHanded {} Tryz.checked os 3 .any (λw args=>(Rows.fnExactIsValidSystemSpec.pre enc Tryz.prog Tryz.f3 [] false w args/\laidMetH Tryz.prog laid1 w)/\sizedMet enc Tryz.prog Tryz.f3 (OpenSpec.ofChange Rows.fnExactIsValidSystemSpec) false w args)
  (Rows.fnExactIsValidSystemSpec.post enc Tryz.prog Tryz.f3 false true false false):=
 afY (tb:=4) (C:=Tryz.checked) (X:=λw=>laidMetH Tryz.prog laid1 w) (λ_ _ b h=>h.of_heap b) own a mF Tryz.func3
  (ChangeSpec.witness_shaped (enc:=enc) (C:=Tryz.checked) (os:=os) (X:=λw _=>laidMetH Tryz.prog laid1 w) false (World.laidAll Tryz.prog os laid1) #[.agg #[.slice none 0 0,.slice none 0 0,.int .i64 0,.slice none 0 0,.slice none 0 0,.string ⟨#[]⟩,.string ⟨#[]⟩,.int .i64 0,.slice none 0 0,.slice none 0 0,.slice none 0 0]] 8 (World.laidAll_os _ _ _) (World.shaped_of_ZipB mF mF) mF mF mF (by rw[MakeChecks.laidMetH_plain _ _ _ mF];exact laidMet_laidAll _ mF mF))
  Tryz.PS.1 mF (λ_ _=>⟨trivial,rfl⟩) arA rfl (λl Q=>by
   match l,Q with
   |[_],_=>exact⟨rfl,rfl,rfl⟩) mF mF mF mF
set_option maxRecDepth 100000 in
theorem pU:Tryz.checked.prog.inPlace 3=Rows.fnExactIsValidSystemRow.inPlace/\Tryz.checked.prog.unfollowed 3=Rows.fnExactIsValidSystemRow.unfollowed/\Tryz.checked.prog.recurses 3=Rows.fnExactIsValidSystemRow.recurses/\Tryz.checked.prog.varsNamed 3=Rows.fnExactIsValidSystemRow.named:=
 ⟨mF,mF,mF,mF⟩
set_option maxRecDepth 100000 in
theorem QZ:joinedFacts Tryz.checked.prog 3 Tryz.f3 Rows.fnExactIsValidSystemSpec Rows.fnExactIsValidSystemRow=true:=by
 unfold joinedFacts;rw[pU.1,pU.2.1,pU.2.2.1,pU.2.2.2]
 kernel_rfl
theorem Rq:Rows.FnExactIsValidSystemSaid:=
 OpenClaim.holds_of_wide 3 Tryz.f3 rfl rfl rfl rfl rfl rfl rfl ⟨rfl,rfl,rfl,rfl,rfl⟩ rfl rfl rfl rfl rfl mF Tryz.func3 QZ
  (aIt mF) (by unfold Func.isWrapper;first|(rw[if_pos (by decide+kernel)];kernel_rfl)|(rw[if_neg (by decide+kernel)];exact⟨rfl,rfl⟩))
  (λb a H enc _=>QY b a H enc)
theorem fnExactIsValidSystem_card:Rows.FnExactIsValidSystemCardSaid:=
 Claim7.holds_tied_plain_at .later [] [.data,.data,.data,.data,.sentinel,.sentinel,.listed,.data,.pinned] true (true,"99de99232df2251e640b1a30f42be316e5ba0e1f9b2df028c03d5ca6429860ec") true
  Rq (λ_ h=>zH) mF (λ_ h=>zH) fnExactIsValidSystem_row_tie rfl ⟨rfl,rfl⟩ mF rfl
  (λf fn q b=>by
    obtain rfl:f=3:=Option.some.inj ((show Tryz.prog.funcNamed "loop.example/g00976/laws.FnExactIsValidSystem" =some 3 from mF).symm.trans q)|>.symm;obtain rfl:fn=Tryz.f3:=(Option.some.inj (Tryz.func3.symm.trans b)).symm;exact⟨mF,λj t r=>by
     rw[Tryz.params3]at r;have l:t∈[36]:=by simpa using Array.mem_of_getElem? r
     have a:([36].all λu=>!Tryz.prog.wantsStandIn u)=true:=mF;exact(show Tryz.prog.wantsStandIn t=false by simpa using aHS.1 a t l)⟩)
  (auJ rfl mF)
end Go.Proofs.YtpipombdnmdimaaGreatDoor
