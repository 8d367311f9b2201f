import Derived.Test.YtlmamafnoigopaaGreatDoorF
import Derived.Test.YtlmamafnoigopaaGreatDoorFwC
import Derived.Test.YtlmamafnoigopaaGreatDoorShelf
import Derived.WalkKit
import Derived.Sort.OwnSorted
import Derived.Sort.Grow
import Derived.Lib.OwnBridge
namespace Go.Proofs.Tryz
open Go Go.Fw Go.RowKit Go.Sort
theorem aii{s:gZ}{sh:List gZ}:∀{args:List Arg}{d:mr (s::sh)},kz (s::sh) args=some d->∃x xs,args=x::xs/\s.read x=some d.1/\kz sh xs=some d.2
 |[],_,h=>by simp[kz]at h
 |x::xs,d,h=>by
  rw[kz]at h;split at h
  .next a b h1 h2=>cases h;exact⟨x,xs,rfl,h1,h2⟩
  .cases h
theorem ajN:∀{args:List Arg}{d:mr []},kz [] args=some d->args=[]
 |[],_,_=>rfl
 |_::_,_,h=>by simp[kz]at h
theorem aij(zs:List (List UInt8))(s:List UInt8):s∈Lib.compact zs↔s∈zs:=by
 have hget:∀i(h:i<zs.length),zs.toArray[i]! =zs[i]:=λi h=>by rw[getElem!_pos _ i (by simpa using h)];simp
 unfold Lib.compact Lib.compactUpTo;simp only[atY,auf,auG];constructor
 .rintro⟨i,⟨hi,_⟩,rfl⟩;rw[hget i hi];exact List.getElem_mem hi
 .intro hs;obtain⟨i,hi,e⟩:=atF hs;have all:∀i(hi:i<zs.length),∃j,(j<zs.length/\Lib.keeps zs.toArray j=true)/\zs.toArray[j]! =zs[i]:=by
   intro i
   induction i with
   |zero=>exactλhi=>⟨0,⟨hi,Lib.keeps_lt_one _ 0 (by omega)⟩,hget 0 hi⟩
   |succ i ih=>
    intro hi;by_cases h:zs.toArray[i+1]! =zs.toArray[i+1-1]!
    .obtain⟨j,h1,h2⟩:=ih (by omega);refine⟨j,h1,?_⟩;rw[h2,← hget (i+1) hi,h,Nat.add_sub_cancel,hget i (by omega)]
    .exact⟨i+1,⟨hi,Lib.keeps_pos h⟩,hget (i+1) hi⟩
  rw[← e];exact all i hi
theorem aik(zs:List (List UInt8)):(Lib.compact zs).length<=zs.length:=Lib.compact_length_le zs
def ajO(w:World)(ss:List (List UInt8))(e:Ending)(w':World):Prop:=
 ∃g cap,e=.returned (.slice (some ⟨g,0,none⟩) (Lib.compact (ss.mergeSort λx y=>decide (x<=y))).length cap)/\
  w'.ownsRow w.heap.size 9 1 (.slice (some ⟨g,0,none⟩) (Lib.compact (ss.mergeSort λx y=>decide (x<=y))).length cap) (Lib.compact (ss.mergeSort λx y=>decide (x<=y))).length ((Lib.compact (ss.mergeSort λx y=>decide (x<=y))).map encStr)/\Below w.heap.size w w'
theorem amb{w w1:World}{g cap n nn q:Nat}{os:Array Obj}{ss:List (List UInt8)}(hown:w1.ownsRow w.heap.size 9 1 (.slice (some ⟨g,0,none⟩) n cap) n (ss.map encStr))(hbel:Below w.heap.size w w1)(hbg:w.heap.size<=g)(hlen:ss.length=n):
 ajO w ss (.returned (.slice (some ⟨g,0,none⟩) (Lib.compact (ss.mergeSort λx y=>decide (x<=y))).length cap))
  (putRow encStr (Sort.ahead (grow (putRow encStr (Sort.ahead w1 nn) g 0 (ss.mergeSort λx y=>decide (x<=y)).toArray) os) q) g 0 (Lib.compact (ss.mergeSort λx y=>decide (x<=y))++List.replicate (n-(Lib.compact (ss.mergeSort λx y=>decide (x<=y))).length) []).toArray):=by
 have hl2:(ss.mergeSort λx y=>decide (x<=y)).length=ss.length:=auQ ss;have hle:=Lib.compact_length_le (ss.mergeSort λx y=>decide (x<=y));subst hlen;rcases hown.2 with⟨h0,_⟩|⟨g',cap',cur,hv,hbase,hb,h1,h2,h3,h4⟩
 .cases h0
 cases hv;have hs:=ownsRow_sorted (n:=nn) (os:=os) (ts:=ss.mergeSort λx y=>decide (x<=y)) hl2 hbase hb h1 h2 h3;have hc:=Lib.ownsRow_putRow (q:=q) (k:=(Lib.compact (ss.mergeSort λx y=>decide (x<=y))).length) (ys:=Lib.compact (ss.mergeSort λx y=>decide (x<=y))++List.replicate (ss.length-(Lib.compact (ss.mergeSort λx y=>decide (x<=y))).length) []) hs (by simp;omega) (by omega);rw[List.take_left]at hc;exact⟨g,cap,rfl,hc,Lib.below_putRow (hbel.grown (grownBy_sorted _) hbel.size (λj hj=>by cases hj;exact hbase)) hbg⟩
set_option maxHeartbeats 2000000 in
set_option maxRecDepth 100000 in
theorem Xp(n:Nat)(arg:Value)(ss:List (List UInt8))(w:World)(hn:n<=4611686018427387903)
 (hclone:Calls prog 231 #[arg] w λe w'=>∃v',e=.returned v'/\w'.ownsRow w.heap.size 9 1 v' n (ss.map encStr)/\v'≠ .slice none 0 0/\Below w.heap.size w w'):
 Calls prog 226 #[arg] w (ajO w ss):=by
 have mixed:=Tryz.mixed
 go_enter Tryz.func226,Tryz.ntmps226
 go_wp2_with (first
  |(go_at_call 231;refine hclone.mono ?_;rintro e w1 ⟨v1,rfl,hown,hnn,hbel⟩
    obtain⟨g,cap,rfl,hbg,hgl,hncap,hcm,hlen,hH⟩:=Lib.holds_of_ownsRow hown hnn;have hsort:=Tryz.slices_Sort_string g 0 cap ss w1 hH hgl (by omega);rw[hlen]at hsort;have X:Aside (w1.ownsRow w.heap.size 9 1 (.slice (some ⟨g,0,none⟩) n cap) n (ss.map encStr)/\Below w.heap.size w w1/\w.heap.size<=g/\g<w1.heap.size/\n<=cap/\cap<=maxLen/\ss.length=n/\Holds encStr w1 g 0 ss.toArray):=⟨hown,hbel,hbg,hgl,hncap,hcm,hlen,hH⟩;clear hown hbel hH hnn)
  |(go_at_call 232;refine hsort.mono ?_;rintro e w2 ⟨rfl,nn,os,rfl⟩
    have hl2:(ss.mergeSort λx y=>decide (x<=y)).length=n:=by rw[auQ];exact X.out.2.2.2.2.2.2.1
    have hH2:Holds encStr (grow (putRow encStr (Sort.ahead w1 nn) g 0 (ss.mergeSort λx y=>decide (x<=y)).toArray) os) g 0 (ss.mergeSort λx y=>decide (x<=y)).toArray:=
     holds_grow encStr _ os g 0 _ (by simpa[putRow,mapBlock,Sort.ahead]using X.out.2.2.2.1) (holds_putRow encStr _ g 0 _ _ (holds_ahead encStr w1 nn g 0 _ X.out.2.2.2.2.2.2.2) (by simp))
    have hcomp:=Tryz.slices_Compact_string g 0 cap (ss.mergeSort λx y=>decide (x<=y)) _ hH2 (by omega) (by have:=X.out.2.2.2.2.1;omega);rw[hl2]at hcomp;clear hH2 hsort)
  |(go_at_call 233;refine hcomp.mono ?_;rintro e w3 ⟨rfl,q,rfl⟩))
 go_ret
 exact amb X.out.1 X.out.2.1 X.out.2.2.1 X.out.2.2.2.2.2.2.1
set_option maxHeartbeats 2000000 in
theorem ajP(n c:Nat)(w:World):Calls prog 226 #[.slice none n c] w λe w'=>e=.returned (.slice none 0 0)/\w'=w:=by
 have mixed:=Tryz.mixed
 go_enter Tryz.func226,Tryz.ntmps226
 go_wp2_with (first
  |(go_at_call 231;refine(Tryz.slices_Clone_string_nil n c _).mono ?_;rintro e w' ⟨rfl,rfl⟩)
  |(go_at_call 232;refine(Tryz.slices_Sort_string_none none 0 _).mono ?_;rintro e w' ⟨rfl,rfl⟩)
  |(go_at_call 233;refine(Tryz.slices_Compact_string_empty none 0 _).mono ?_;rintro e w' ⟨rfl,rfl⟩))
 go_ret
 exact⟨rfl,rfl⟩
theorem ajQ{w w':World}{S:Nat->Prop}{γ:Nat->Value}{g cap:Nat}{ts:List (List UInt8)}(hown:w'.ownsRow w.heap.size 9 1 (.slice (some ⟨g,0,none⟩) ts.length cap) ts.length (ts.map encStr))(hl:∀s∈ts,s.length<=maxLen):
 aK ⟨w',w.heap.size,S,γ,λ_=>none⟩ (.sl 9 fO (ts.map λs=>(s,())) true) (.slice (some ⟨g,0,none⟩) ts.length cap):=by
 rcases hown.2 with⟨h0,_⟩|⟨g',cap',cur,hv,hbase,hb,h1,h2,h3,h4⟩
 .cases h0
 cases hv;have hlt:g<w'.heap.size:=by
  rcases atm g w'.heap.size with h|h
  .exact h
  .rw[auM h]at hb;cases hb
 refine⟨by rw[atb];omega,.inr ⟨g,0,cap,cur,9,(0,0),by rw[atb],by rw[atb];exact h1,⟨⟨hlt,λh=>absurd (show g<w.heap.size from h) (by omega),(λo x hx=>by cases hx)⟩,λ_=>⟨hbase,aix hown rfl⟩⟩,hb,?_⟩⟩;intro i x hx;rw[atU,Option.map_eq_some_iff]at hx;obtain⟨y,hy,rfl⟩:=hx;have hi:=(ath.1 hy).1;have hc:cur.toList[i]? =some (encStr y):=by
  have:(cur.toList.take (ts.length*1))[i]? =(ts.map encStr)[i]? :=by rw[h4]
  rw[List.getElem?_take_of_lt (by omega),atU,hy]at this;exact this
 obtain⟨hi2,e⟩:=ath.1 hc;show aZ _ _ (.cons .str .nil) ((cur.toList.drop (0+i*1)).take 1) (y,());rw[atS,Nat.mul_one,ava hi2,e];exact⟨encStr y,[],rfl,⟨rfl,hl y (atB hy)⟩,rfl⟩
theorem TJ:CO prog G BV yP:=by
 intro args p ρ hcon hp;unfold yP agf at hcon;split at hcon
 .next x hx=>
  revert x;show∀x:List (List UInt8×Unit)×Unit,_;rintro⟨l,⟨⟩⟩ hx hcon;have hF:=Option.some.inj hcon;have hp1:(l.length<=1000)=p:=congrArg Prod.fst hF;have hρ:=congrArg Prod.snd hF;simp only at hρ;subst hρ;have hl:l.length<=1000:=by rw[hp1];exact hp
  obtain⟨a0,r0,rfl,hx0,h1⟩:=aii hx;have:=ajN h1;subst this;refine⟨⟨((l,()),()),⟨as7 _,λ_=>Iff.rfl⟩⟩,?_⟩;intro k S γ vs w hG hrep xG hap hk
  match hvs:vs.toList,hrep with
  |[v],hrep=>
   have evs:vs=#[v]:=by obtain⟨vl⟩:=vs;simp at hvs;rw[hvs]
   subst evs;have harg:mM ⟨w,w.heap.size,S,γ,eX [a0]⟩ a0 v:=by
    have hr:=hrep.1;cases a0 with
    |sv _|kp _|fn _ _=>exact hr
    |own _ _ _|ptr _=>simp[gZ.read,fQ.read]at hx0
   have hsl:dW w.heap _ (.sl dF fO) v l:=fQ.weak (.v (.one (.sl dF fO false))) a0 l v hx0 harg;obtain⟨hll,hcase⟩:=hsl;have hno:∀o x,eX [a0] o=some x->False:=by
    intro o x ho;unfold eX at ho;cases a0 with
    |sv _|kp _|fn _ _=>
     rcases aum (o / 64)with h|h
     .rw[h]at ho;cases ho
     .rw[auq (by simp;omega)]at ho;cases ho
    |own _ _ _|ptr _=>simp[gZ.read,fQ.read]at hx0
   have fin:∀{e w'}(ss:List (List UInt8)),ss=l.map (·.1)->(∀s∈ss,s.length<=maxLen)->ajO w ss e w'->∃t,((Ie (l,())).2) t/\KF S [a0] γ w k ⟨iq yO t.1,none⟩ (jy oM t.2) e w':=by
    rintro e w' ss rfl hs ⟨g,cap,rfl,hown,hB⟩;generalize hts:Lib.compact ((l.map (·.1)).mergeSort λx y=>decide (x<=y))=ts at hown;have hmem:∀s,s∈ts↔s∈l.map (·.1):=λs=>by rw[← hts,aij,List.mem_mergeSort]
    have htl:ts.length<=l.length:=by rw[← hts];have:=aik ((l.map (·.1)).mergeSort λx y=>decide (x<=y));rw[auQ,atb]at this;exact this
    refine⟨((ts.map λs=>(s,()),()),()),⟨by show(ts.map _).length<=_;rw[atb];exact htl,λs=>?_⟩,_,λ_=>undef,rfl,hB.os,hB.tape,hB.output,hB.size,λb hb _=>hB.block b hb,?_,(λo x hx=>by cases hx),(λo x q y b hx=>by cases hx),λo x hx=>?_⟩
    .obtain⟨s,⟨⟩⟩:=s;show(s,())∈ts.map _↔_;have:=hmem s;simp only[atY,Prod.mk.injEq,and_true,exists_eq_right]at this ⊢;rw[this];constructor
     .rintro⟨⟨a,⟨⟩⟩,h1,rfl⟩;exact h1
     .exactλh=>⟨(s,()),h,rfl⟩
    .exact ajQ hown λs hs'=>hs s ((hmem s).1 hs')
    .unfold nX at hx;rcases aum (o / 64)with h|h
     .rw[h]at hx;cases hx
     .rw[auq (by show 1<=_;omega)]at hx;cases hx
   rcases hcase with⟨rfl,a,c,rfl⟩|⟨b,off,cap,cs,t,fz,rfl,hc,hS,hb,hxc⟩
   .cases a with
    |none=>
     refine(ajP 0 c w).mono ?_;rintro e w' ⟨rfl,rfl⟩;refine⟨(([],()),()),⟨as7 _,λ_=>Iff.rfl⟩,_,λ_=>undef,rfl,rfl,rfl,rfl,as7 _,λb hb _=>rfl,⟨by simp,.inl ⟨rfl,none,0,rfl⟩⟩,(λo x hx=>by cases hx),(λo x q y b hx=>by cases hx),λo x hx=>?_⟩;unfold nX at hx;rcases aum (o / 64)with h|h
     .rw[h]at hx;cases hx
     .rw[auq (by show 1<=_;omega)]at hx;cases hx
    |some a=>exact(Xp 0 _ [] w (by omega) (Tryz.slices_Clone_string_zero a c w)).mono λe w' h=>fin [] rfl (λs hs=>by cases hs) h
   .have hcell:∀j(y:List UInt8×Unit),l[j]? =some y->w.cell? ⟨b,off+j,none⟩=some (.string ⟨y.1.toArray⟩)/\y.1.length<=maxLen:=by
     intro j y hy;have:=hxc j y hy;rw[show j*ak.len (.cons .str .nil)=j from Nat.mul_one j]at this;obtain⟨v',vs',hvs',hrc,hnil⟩:=this;have hv1:v'=.string ⟨y.1.toArray⟩:=hrc.1;have hcell:cs[off+j]? =some v':=by
      have h0:((cs.toList.drop (off+j)).take (ak.len (.cons .str .nil)))[0]? =(v'::vs')[0]? :=by rw[hvs']
      simpa[ak.len]using h0
     refine⟨?_,hrc.2⟩;simp only[World.cell?,hb];simpa[hv1]using hcell
    have hclone:=Tryz.slices_Clone_string b off l.length cap (l.map λy:List UInt8×Unit=>(⟨y.1.toArray⟩:ByteArray)) w (by rw[atb];exact as7 _) (by omega) (λj hj=>by rw[atb]at hj;have:=(hcell j l[j] (as5 hj)).1;rw[this,atn,atU,as5 hj];rfl);have hmap:((l.map λy:List UInt8×Unit=>(⟨y.1.toArray⟩:ByteArray)).take l.length).map Value.string=(l.map (·.1)).map encStr:=by rw[List.take_of_length_le (by rw[atb];exact as7 _),aud,aud];rfl
    rw[hmap]at hclone;exact(Xp l.length _ (l.map (·.1)) w (by omega) hclone).mono λe w' h=>fin (l.map (·.1)) rfl (λs hs=>by obtain⟨y,hy,rfl⟩:=atY.1 hs;obtain⟨j,hj,e⟩:=atF hy;exact(hcell j y (by rw[as5 hj,e])).2) h
 .cases hcon
end Go.Proofs.Tryz
