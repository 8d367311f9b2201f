import Derived.Test.YtncbcelpbmlgdaaGreatDoorF
import Derived.Test.YtncbcelpbmlgdaaGreatDoorFwC
import Derived.Test.YtncbcelpbmlgdaaGreatDoorShelf
import Derived.WalkKit
import Derived.Sort.OwnSorted
import Derived.Sort.Grow
import Derived.Lib.OwnBridge
namespace Go.Proofs.Tryz
open Go Go.Fw Go.RowKit Go.Sort
theorem ai5(zs:List (List UInt8))(s:List UInt8):s∈Lib.compact zs↔s∈zs:=by
 have hget:∀i(h:i<zs.length),zs.toArray[i]! =zs[i]:=λi h=>by rw[getElem!_pos _ i acs];simp
 unfold Lib.compact Lib.compactUpTo;simp only[avO,axc,avq];constructor
 .rintro⟨i,⟨hi,_⟩,rfl⟩;rw[hget i hi];exact av3 hi
 .intro hs;obtain⟨i,hi,e⟩:=avY hs;have all:∀i(hi:i<zs.length),∃j,(j<zs.length/\Lib.keeps zs.toArray j=true)/\zs.toArray[j]! =zs[i]:=by
   intro i
   induction i with
   |zero=>exactλhi=>⟨0,⟨hi,Lib.keeps_lt_one _ 0 aaV⟩,hget 0 hi⟩
   |succ i ih=>
    intro hi;by_cases h:zs.toArray[i+1]! =zs.toArray[i+1-1]!
    .obtain⟨j,h1,h2⟩:=ih aaV;refine⟨j,h1,?_⟩;rw[h2,← hget (i+1) hi,h,axg,hget i aaV]
    .exact⟨i+1,⟨hi,Lib.keeps_pos h⟩,hget (i+1) hi⟩
  rw[← e];exact all i hi
theorem ai6(zs:List (List UInt8)):(Lib.compact zs).length<=zs.length:=Lib.compact_length_le zs
def ak1(w:World)(ss:List (List UInt8))(e:Ending)(w':World):Prop:=
 ∃g cap,e=.returned (.slice (some ⟨g,0,none⟩) (Lib.compact (ss.mergeSort λx y=>decide (x<=y))).length cap)/\
  w'.ownsRow w.heap.size 9 1 (.slice (some ⟨g,0,none⟩) (Lib.compact (ss.mergeSort λx y=>decide (x<=y))).length cap) (Lib.compact (ss.mergeSort λx y=>decide (x<=y))).length ((Lib.compact (ss.mergeSort λx y=>decide (x<=y))).map encStr)/\Below w.heap.size w w'
theorem anC{w w1:World}{g cap n nn q:Nat}{os:Array Obj}{ss:List (List UInt8)}(hown:w1.ownsRow w.heap.size 9 1 (.slice (some ⟨g,0,none⟩) n cap) n (ss.map encStr))(hbel:Below w.heap.size w w1)(hbg:w.heap.size<=g)(hlen:ss.length=n):
 ak1 w ss (.returned (.slice (some ⟨g,0,none⟩) (Lib.compact (ss.mergeSort λx y=>decide (x<=y))).length cap))
  (putRow encStr (Sort.ahead (grow (putRow encStr (Sort.ahead w1 nn) g 0 (ss.mergeSort λx y=>decide (x<=y)).toArray) os) q) g 0 (Lib.compact (ss.mergeSort λx y=>decide (x<=y))++List.replicate (n-(Lib.compact (ss.mergeSort λx y=>decide (x<=y))).length) []).toArray):=by
 have hl2:(ss.mergeSort λx y=>decide (x<=y)).length=ss.length:=axu ss;have hle:=Lib.compact_length_le (ss.mergeSort λx y=>decide (x<=y));subst hlen;rcases hown.2 with⟨h0,_⟩|⟨g',cap',cur,hv,hbase,hb,h1,h2,h3,h4⟩
 .cases h0
 cases hv;have hs:=ownsRow_sorted (n:=nn) (os:=os) (ts:=ss.mergeSort λx y=>decide (x<=y)) hl2 hbase hb h1 h2 h3;have hc:=Lib.ownsRow_putRow (q:=q) (k:=(Lib.compact (ss.mergeSort λx y=>decide (x<=y))).length) (ys:=Lib.compact (ss.mergeSort λx y=>decide (x<=y))++List.replicate (ss.length-(Lib.compact (ss.mergeSort λx y=>decide (x<=y))).length) []) hs aeV aaV;rw[ax0]at hc;exact⟨g,cap,rfl,hc,Lib.below_putRow (hbel.grown (grownBy_sorted _) hbel.size (λj hj=>by cases hj;exact hbase)) hbg⟩
set_option maxHeartbeats 2000000 in
set_option maxRecDepth 100000 in
theorem YZ(n:Nat)(arg:Value)(ss:List (List UInt8))(w:World)(hn:n<=4611686018427387903)
 (hclone:Calls prog 235 #[arg] w λe w'=>∃v',e=.returned v'/\w'.ownsRow w.heap.size 9 1 v' n (ss.map encStr)/\v'≠ .slice none 0 0/\Below w.heap.size w w'):
 Calls prog 219 #[arg] w (ak1 w ss):=by
 have mixed:=Tryz.mixed
 go_enter Tryz.func219,Tryz.ntmps219
 go_wp2_with (first
  |(go_at_call 235;refine hclone.mono ?_;rintro e w1 ⟨v1,rfl,hown,hnn,hbel⟩
    obtain⟨g,cap,rfl,hbg,hgl,hncap,hcm,hlen,hH⟩:=Lib.holds_of_ownsRow hown hnn;have hsort:=Tryz.slices_Sort_string g 0 cap ss w1 hH hgl aaV;rw[hlen]at hsort;have X:Aside (w1.ownsRow w.heap.size 9 1 (.slice (some ⟨g,0,none⟩) n cap) n (ss.map encStr)/\Below w.heap.size w w1/\w.heap.size<=g/\g<w1.heap.size/\n<=cap/\cap<=maxLen/\ss.length=n/\Holds encStr w1 g 0 ss.toArray):=⟨hown,hbel,hbg,hgl,hncap,hcm,hlen,hH⟩;clear hown hbel hH hnn)
  |(go_at_call 236;refine hsort.mono ?_;rintro e w2 ⟨rfl,nn,os,rfl⟩
    have hl2:(ss.mergeSort λx y=>decide (x<=y)).length=n:=by rw[axu];exact X.out.2.2.2.2.2.2.1
    have hH2:Holds encStr (grow (putRow encStr (Sort.ahead w1 nn) g 0 (ss.mergeSort λx y=>decide (x<=y)).toArray) os) g 0 (ss.mergeSort λx y=>decide (x<=y)).toArray:=
     holds_grow encStr _ os g 0 _ (by simpa[putRow,mapBlock,Sort.ahead]using X.out.2.2.2.1) (holds_putRow encStr _ g 0 _ _ (holds_ahead encStr w1 nn g 0 _ X.out.2.2.2.2.2.2.2) abZ)
    have hcomp:=Tryz.slices_Compact_string g 0 cap (ss.mergeSort λx y=>decide (x<=y)) _ hH2 aaV (by have:=X.out.2.2.2.2.1;omega);rw[hl2]at hcomp;clear hH2 hsort)
  |(go_at_call 237;refine hcomp.mono ?_;rintro e w3 ⟨rfl,q,rfl⟩))
 go_ret
 exact anC X.out.1 X.out.2.1 X.out.2.2.1 X.out.2.2.2.2.2.2.1
set_option maxHeartbeats 2000000 in
theorem ak2(n c:Nat)(w:World):Calls prog 219 #[.slice none n c] w λe w'=>e=.returned (.slice none 0 0)/\w'=w:=by
 have mixed:=Tryz.mixed
 go_enter Tryz.func219,Tryz.ntmps219
 go_wp2_with (first
  |(go_at_call 235;refine(Tryz.slices_Clone_string_nil n c _).mono ?_;rintro e w' ⟨rfl,rfl⟩)
  |(go_at_call 236;refine(Tryz.slices_Sort_string_none none 0 _).mono ?_;rintro e w' ⟨rfl,rfl⟩)
  |(go_at_call 237;refine(Tryz.slices_Compact_string_empty none 0 _).mono ?_;rintro e w' ⟨rfl,rfl⟩))
 go_ret
 exact⟨rfl,rfl⟩
theorem ak3{w w':World}{S:Nat->Prop}{γ:Nat->Value}{g cap:Nat}{ts:List (List UInt8)}(hown:w'.ownsRow w.heap.size 9 1 (.slice (some ⟨g,0,none⟩) ts.length cap) ts.length (ts.map encStr))(hl:∀s∈ts,s.length<=maxLen):
 aO ⟨w',w.heap.size,S,γ,λ_=>none⟩ (.sl 9 dJ (ts.map λs=>(s,())) true) (.slice (some ⟨g,0,none⟩) ts.length cap):=by
 rcases hown.2 with⟨h0,_⟩|⟨g',cap',cur,hv,hbase,hb,h1,h2,h3,h4⟩
 .cases h0
 cases hv;have hlt:g<w'.heap.size:=by
  rcases au2 g w'.heap.size with h|h
  .exact h
  .rw[awU h]at hb;cases hb
 refine⟨by rw[auV];omega,.inr ⟨g,0,cap,cur,9,(0,0),by rw[auV],by rw[auV];exact h1,⟨⟨hlt,λh=>absurd (show g<w.heap.size from h) aaV,(λo x hx=>aeZ)⟩,λ_=>hbase⟩,hb,?_⟩⟩;intro i x hx;rw[avw,awV]at hx;obtain⟨y,hy,rfl⟩:=hx;have hi:=(auT.1 hy).1;have hc:cur.toList[i]? =some (encStr y):=by
  have:(cur.toList.take (ts.length*1))[i]? =(ts.map encStr)[i]? :=by rw[h4]
  rw[avN aaV,avw,hy]at this;exact this
 obtain⟨hi2,e⟩:=auT.1 hc;show aH _ _ (.cons .str .nil) ((cur.toList.drop (0+i*1)).take 1) (y,());rw[au8,aw5,av6 hi2,e];exact⟨encStr y,[],rfl,⟨rfl,hl y (avk hy)⟩,rfl⟩
theorem VR:jl prog G Dh AX:=by
 intro args p ρ hcon hp;unfold AX pV at hcon;split at hcon
 .next x hx=>
  revert x;show∀x:List (List UInt8×Unit)×Unit,_;rintro⟨l,⟨⟩⟩ hx hcon;have hF:=Option.some.inj hcon;have hp1:(l.length<=1000)=p:=congrArg Prod.fst hF;have hρ:=congrArg Prod.snd hF;simp only at hρ;subst hρ;have hl:l.length<=1000:=by rw[hp1];exact hp
  obtain⟨a0,r0,rfl,hx0,h1⟩:=ai1 hx;have:=akO h1;subst this;refine⟨⟨((l,()),()),⟨auH _,λ_=>Iff.rfl⟩⟩,?_⟩;intro k S γ vs w hG hrep oQ hap hk
  match hvs:vs.toList,hrep with
  |[v],hrep=>
   have evs:vs=#[v]:=by obtain⟨vl⟩:=vs;simp at hvs;rw[hvs]
   subst evs;have harg:oh ⟨w,w.heap.size,S,γ,dn [a0]⟩ a0 v:=by
    have hr:=hrep.1;cases a0 with
    |sv _|kp _|fn _ _=>exact hr
    |own _ _ _|ptr _=>simp[iG.read,iE.read]at hx0
   have hsl:bY w.heap _ (.sl aT dJ) v l:=iE.weak (.v (.one (.sl aT dJ false))) a0 l v hx0 harg;obtain⟨hll,hcase⟩:=hsl;have hno:∀o x,dn [a0] o=some x->False:=by
    intro o x ho;unfold dn at ho;cases a0 with
    |sv _|kp _|fn _ _=>
     rcases av9 (o / 64)with h|h
     .rw[h]at ho;cases ho
     .rw[avF aeV]at ho;cases ho
    |own _ _ _|ptr _=>simp[iG.read,iE.read]at hx0
   have fin:∀{e w'}(ss:List (List UInt8)),ss=l.map (·.1)->(∀s∈ss,s.length<=maxLen)->ak1 w ss e w'->∃t,((Jj (l,())).2) t/\MV S [a0] γ w k ⟨iM AU t.1,none⟩ (jP qJ t.2) e w':=by
    rintro e w' ss rfl hs ⟨g,cap,rfl,hown,hB⟩;generalize hts:Lib.compact ((l.map (·.1)).mergeSort λx y=>decide (x<=y))=ts at hown;have hmem:∀s,s∈ts↔s∈l.map (·.1):=λs=>by rw[← hts,ai5,List.mem_mergeSort]
    have htl:ts.length<=l.length:=by rw[← hts];have:=ai6 ((l.map (·.1)).mergeSort λx y=>decide (x<=y));rw[axu,auV]at this;exact this
    refine⟨((ts.map λs=>(s,()),()),()),⟨by show(ts.map _).length<=_;rw[auV];exact htl,λs=>?_⟩,_,λ_=>undef,rfl,hB.os,hB.tape,hB.output,hB.size,λb hb _=>hB.block b hb,?_,(λo x hx=>aeZ),(λo x q y b hx=>aeZ),λo x hx=>?_⟩
    .obtain⟨s,⟨⟩⟩:=s;show(s,())∈ts.map _↔_;have:=hmem s;simp only[avO,Prod.mk.injEq,axR,exists_eq_right]at this ⊢;rw[this];constructor
     .rintro⟨⟨a,⟨⟩⟩,h1,rfl⟩;exact h1
     .exactλh=>⟨(s,()),h,rfl⟩
    .exact ak3 hown λs hs'=>hs s ((hmem s).1 hs')
    .unfold l7 at hx;rcases av9 (o / 64)with h|h
     .rw[h]at hx;cases hx
     .rw[avF (by show 1<=_;omega)]at hx;cases hx
   rcases hcase with⟨rfl,a,c,rfl⟩|⟨b,off,cap,cs,t,fz,rfl,hc,hS,hb,hxc⟩
   .cases a with
    |none=>
     refine(ak2 0 c w).mono ?_;rintro e w' ⟨rfl,rfl⟩;refine⟨(([],()),()),⟨auH _,λ_=>Iff.rfl⟩,_,λ_=>undef,rfl,rfl,rfl,rfl,auH _,λb hb _=>rfl,⟨abZ,.inl ⟨rfl,none,0,rfl⟩⟩,(λo x hx=>aeZ),(λo x q y b hx=>aeZ),λo x hx=>?_⟩;unfold l7 at hx;rcases av9 (o / 64)with h|h
     .rw[h]at hx;cases hx
     .rw[avF (by show 1<=_;omega)]at hx;cases hx
    |some a=>exact(YZ 0 _ [] w aaV (Tryz.slices_Clone_string_zero a c w)).mono λe w' h=>fin [] rfl (λs hs=>by cases hs) h
   .have hcell:∀j(y:List UInt8×Unit),l[j]? =some y->w.cell? ⟨b,off+j,none⟩=some (.string ⟨y.1.toArray⟩)/\y.1.length<=maxLen:=by
     intro j y hy;have:=hxc j y hy;rw[show j*au.len (.cons .str .nil)=j from aw5 j]at this;obtain⟨v',vs',hvs',hrc,hnil⟩:=this;have hv1:v'=.string ⟨y.1.toArray⟩:=hrc.1;have hcell:cs[off+j]? =some v':=by
      have h0:((cs.toList.drop (off+j)).take (au.len (.cons .str .nil)))[0]? =(v'::vs')[0]? :=by rw[hvs']
      simpa[au.len]using h0
     refine⟨?_,hrc.2⟩;simp only[World.cell?,hb];simpa[hv1]using hcell
    have hclone:=Tryz.slices_Clone_string b off l.length cap (l.map λy:List UInt8×Unit=>(⟨y.1.toArray⟩:ByteArray)) w (by rw[auV];exact auH _) aaV (λj hj=>by rw[auV]at hj;have:=(hcell j l[j] (auJ hj)).1;rw[this,auF,avw,auJ hj];rfl);have hmap:((l.map λy:List UInt8×Unit=>(⟨y.1.toArray⟩:ByteArray)).take l.length).map Value.string=(l.map (·.1)).map encStr:=by rw[avl (by rw[auV];exact auH _),av4,av4];rfl
    rw[hmap]at hclone;exact(YZ l.length _ (l.map (·.1)) w aaV hclone).mono λe w' h=>fin (l.map (·.1)) rfl (λs hs=>by obtain⟨y,hy,rfl⟩:=avO.1 hs;obtain⟨j,hj,e⟩:=avY hy;exact(hcell j y (by rw[auJ hj,e])).2) h
 .cases hcon
end Go.Proofs.Tryz
