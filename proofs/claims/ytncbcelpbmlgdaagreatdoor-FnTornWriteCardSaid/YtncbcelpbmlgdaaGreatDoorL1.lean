import Derived.Test.YtncbcelpbmlgdaaGreatDoorF
import Derived.Test.YtncbcelpbmlgdaaGreatDoorFwC
import Derived.Test.YtncbcelpbmlgdaaGreatDoorShelf
import Derived.WalkKit
import Derived.Sort.OwnSorted
import Derived.Sort.Grow
import Derived.Lib.OwnBridge
namespace Go.Proofs.Tryz
open Go Go.Fw Go.RowKit Go.Sort
theorem ajJ(zs:List (List UInt8))(s:List UInt8):s∈Lib.compact zs↔s∈zs:=by
 have hget:∀i(h:i<zs.length),zs.toArray[i]! =zs[i]:=λi h=>by rw[getElem!_pos _ i acG];simp
 unfold Lib.compact Lib.compactUpTo;simp only[awJ,axX,awh];constructor
 .rintro⟨i,⟨hi,_⟩,rfl⟩;rw[hget i hi];exact awV hi
 .intro hs;obtain⟨i,hi,e⟩:=awS hs;have all:∀i(hi:i<zs.length),∃j,(j<zs.length/\Lib.keeps zs.toArray j=true)/\zs.toArray[j]! =zs[i]:=by
   intro i
   induction i with
   |zero=>exactλhi=>⟨0,⟨hi,Lib.keeps_lt_one _ 0 abn⟩,hget 0 hi⟩
   |succ i ih=>
    intro hi;by_cases h:zs.toArray[i+1]! =zs.toArray[i+1-1]!
    .obtain⟨j,h1,h2⟩:=ih abn;refine⟨j,h1,?_⟩;rw[h2,← hget (i+1) hi,h,ax1,hget i abn]
    .exact⟨i+1,⟨hi,Lib.keeps_pos h⟩,hget (i+1) hi⟩
  rw[← e];exact all i hi
theorem ajK(zs:List (List UInt8)):(Lib.compact zs).length<=zs.length:=Lib.compact_length_le zs
def alL(w:World)(ss:List (List UInt8))(e:Ending)(w':World):Prop:=
 ∃g cap,e=.returned (.slice (some ⟨g,0,none⟩) (Lib.compact (ss.mergeSort λx y=>decide (x<=y))).length cap)/\
  w'.ownsRow w.heap.size 9 1 (.slice (some ⟨g,0,none⟩) (Lib.compact (ss.mergeSort λx y=>decide (x<=y))).length cap) (Lib.compact (ss.mergeSort λx y=>decide (x<=y))).length ((Lib.compact (ss.mergeSort λx y=>decide (x<=y))).map encStr)/\Below w.heap.size w w'
theorem aog{w w1:World}{g cap n nn q:Nat}{os:Array Obj}{ss:List (List UInt8)}(hown:w1.ownsRow w.heap.size 9 1 (.slice (some ⟨g,0,none⟩) n cap) n (ss.map encStr))(hbel:Below w.heap.size w w1)(hbg:w.heap.size<=g)(hlen:ss.length=n):
 alL w ss (.returned (.slice (some ⟨g,0,none⟩) (Lib.compact (ss.mergeSort λx y=>decide (x<=y))).length cap))
  (putRow encStr (Sort.ahead (grow (putRow encStr (Sort.ahead w1 nn) g 0 (ss.mergeSort λx y=>decide (x<=y)).toArray) os) q) g 0 (Lib.compact (ss.mergeSort λx y=>decide (x<=y))++List.replicate (n-(Lib.compact (ss.mergeSort λx y=>decide (x<=y))).length) []).toArray):=by
 have hl2:(ss.mergeSort λx y=>decide (x<=y)).length=ss.length:=aye ss;have hle:=Lib.compact_length_le (ss.mergeSort λx y=>decide (x<=y));subst hlen;rcases hown.2 with⟨h0,_⟩|⟨g',cap',cur,hv,hbase,hb,h1,h2,h3,h4⟩
 .cases h0
 cases hv;have hs:=ownsRow_sorted (n:=nn) (os:=os) (ts:=ss.mergeSort λx y=>decide (x<=y)) hl2 hbase hb h1 h2 h3;have hc:=Lib.ownsRow_putRow (q:=q) (k:=(Lib.compact (ss.mergeSort λx y=>decide (x<=y))).length) (ys:=Lib.compact (ss.mergeSort λx y=>decide (x<=y))++List.replicate (ss.length-(Lib.compact (ss.mergeSort λx y=>decide (x<=y))).length) []) hs adK abn;rw[ayL]at hc;exact⟨g,cap,rfl,hc,Lib.below_putRow (hbel.grown (grownBy_sorted _) hbel.size (λj hj=>by cases hj;exact hbase)) hbg⟩
set_option maxHeartbeats 2000000 in
set_option maxRecDepth 100000 in
theorem Zm(n:Nat)(arg:Value)(ss:List (List UInt8))(w:World)(hn:n<=4611686018427387903)
 (hclone:Calls prog 235 #[arg] w λe w'=>∃v',e=.returned v'/\w'.ownsRow w.heap.size 9 1 v' n (ss.map encStr)/\v'≠ .slice none 0 0/\Below w.heap.size w w'):
 Calls prog 219 #[arg] w (alL w ss):=by
 have mixed:=Tryz.mixed
 go_enter Tryz.func219,Tryz.ntmps219
 go_wp2_with (first
  |(go_at_call 235;refine hclone.mono ?_;rintro e w1 ⟨v1,rfl,hown,hnn,hbel⟩
    obtain⟨g,cap,rfl,hbg,hgl,hncap,hcm,hlen,hH⟩:=Lib.holds_of_ownsRow hown hnn;have hsort:=Tryz.slices_Sort_string g 0 cap ss w1 hH hgl abn;rw[hlen]at hsort;have X:Aside (w1.ownsRow w.heap.size 9 1 (.slice (some ⟨g,0,none⟩) n cap) n (ss.map encStr)/\Below w.heap.size w w1/\w.heap.size<=g/\g<w1.heap.size/\n<=cap/\cap<=maxLen/\ss.length=n/\Holds encStr w1 g 0 ss.toArray):=⟨hown,hbel,hbg,hgl,hncap,hcm,hlen,hH⟩;clear hown hbel hH hnn)
  |(go_at_call 236;refine hsort.mono ?_;rintro e w2 ⟨rfl,nn,os,rfl⟩
    have hl2:(ss.mergeSort λx y=>decide (x<=y)).length=n:=by rw[aye];exact X.out.2.2.2.2.2.2.1
    have hH2:Holds encStr (grow (putRow encStr (Sort.ahead w1 nn) g 0 (ss.mergeSort λx y=>decide (x<=y)).toArray) os) g 0 (ss.mergeSort λx y=>decide (x<=y)).toArray:=
     holds_grow encStr _ os g 0 _ (by simpa[putRow,mapBlock,Sort.ahead]using X.out.2.2.2.1) (holds_putRow encStr _ g 0 _ _ (holds_ahead encStr w1 nn g 0 _ X.out.2.2.2.2.2.2.2) acA)
    have hcomp:=Tryz.slices_Compact_string g 0 cap (ss.mergeSort λx y=>decide (x<=y)) _ hH2 abn (by have:=X.out.2.2.2.2.1;omega);rw[hl2]at hcomp;clear hH2 hsort)
  |(go_at_call 237;refine hcomp.mono ?_;rintro e w3 ⟨rfl,q,rfl⟩))
 go_ret
 exact aog X.out.1 X.out.2.1 X.out.2.2.1 X.out.2.2.2.2.2.2.1
set_option maxHeartbeats 2000000 in
theorem alM(n c:Nat)(w:World):Calls prog 219 #[.slice none n c] w λe w'=>e=.returned (.slice none 0 0)/\w'=w:=by
 have mixed:=Tryz.mixed
 go_enter Tryz.func219,Tryz.ntmps219
 go_wp2_with (first
  |(go_at_call 235;refine(Tryz.slices_Clone_string_nil n c _).mono ?_;rintro e w' ⟨rfl,rfl⟩)
  |(go_at_call 236;refine(Tryz.slices_Sort_string_none none 0 _).mono ?_;rintro e w' ⟨rfl,rfl⟩)
  |(go_at_call 237;refine(Tryz.slices_Compact_string_empty none 0 _).mono ?_;rintro e w' ⟨rfl,rfl⟩))
 go_ret
 exact⟨rfl,rfl⟩
theorem alN{w w':World}{S:Nat->Prop}{γ:Nat->Value}{g cap:Nat}{ts:List (List UInt8)}(hown:w'.ownsRow w.heap.size 9 1 (.slice (some ⟨g,0,none⟩) ts.length cap) ts.length (ts.map encStr))(hl:∀s∈ts,s.length<=maxLen):
 aS ⟨w',w.heap.size,S,γ,λ_=>none⟩ (.sl 9 dQ (ts.map λs=>(s,())) true) (.slice (some ⟨g,0,none⟩) ts.length cap):=by
 rcases hown.2 with⟨h0,_⟩|⟨g',cap',cur,hv,hbase,hb,h1,h2,h3,h4⟩
 .cases h0
 cases hv;have hlt:g<w'.heap.size:=by
  rcases avN g w'.heap.size with h|h
  .exact h
  .rw[axG h]at hb;cases hb
 refine⟨by rw[avI];omega,.inr ⟨g,0,cap,cur,9,(0,0),by rw[avI],by rw[avI];exact h1,⟨⟨hlt,λh=>absurd (show g<w.heap.size from h) abn,(λo x hx=>afg)⟩,λ_=>hbase⟩,hb,?_⟩⟩;intro i x hx;rw[awn,axH]at hx;obtain⟨y,hy,rfl⟩:=hx;have hi:=(avG.1 hy).1;have hc:cur.toList[i]? =some (encStr y):=by
  have:(cur.toList.take (ts.length*1))[i]? =(ts.map encStr)[i]? :=by rw[h4]
  rw[awI abn,awn,hy]at this;exact this
 obtain⟨hi2,e⟩:=avG.1 hc;show aJ _ _ (.cons .str .nil) ((cur.toList.drop (0+i*1)).take 1) (y,());rw[avV,axR,awY hi2,e];exact⟨encStr y,[],rfl,⟨rfl,hl y (awc hy)⟩,rfl⟩
theorem V8:jq prog G Dx A8:=by
 intro args p ρ hcon hp;unfold A8 qf at hcon;split at hcon
 .next x hx=>
  revert x;show∀x:List (List UInt8×Unit)×Unit,_;rintro⟨l,⟨⟩⟩ hx hcon;have hF:=Option.some.inj hcon;have hp1:(l.length<=1000)=p:=congrArg Prod.fst hF;have hρ:=congrArg Prod.snd hF;simp only at hρ;subst hρ;have hl:l.length<=1000:=by rw[hp1];exact hp
  obtain⟨a0,r0,rfl,hx0,h1⟩:=ajF hx;have:=aly h1;subst this;refine⟨⟨((l,()),()),⟨avt _,λ_=>Iff.rfl⟩⟩,?_⟩;intro k S γ vs w hG hrep o6 hap hk
  match hvs:vs.toList,hrep with
  |[v],hrep=>
   have evs:vs=#[v]:=by obtain⟨vl⟩:=vs;simp at hvs;rw[hvs]
   subst evs;have harg:oC ⟨w,w.heap.size,S,γ,dF [a0]⟩ a0 v:=by
    have hr:=hrep.1;cases a0 with
    |sv _|kp _|fn _ _=>exact hr
    |own _ _ _|ptr _=>simp[iJ.read,iG.read]at hx0
   have hsl:cZ w.heap _ (.sl aY dQ) v l:=iG.weak (.v (.one (.sl aY dQ false))) a0 l v hx0 harg;obtain⟨hll,hcase⟩:=hsl;have hno:∀o x,dF [a0] o=some x->False:=by
    intro o x ho;unfold dF at ho;cases a0 with
    |sv _|kp _|fn _ _=>
     rcases axd (o / 64)with h|h
     .rw[h]at ho;cases ho
     .rw[aww adK]at ho;cases ho
    |own _ _ _|ptr _=>simp[iJ.read,iG.read]at hx0
   have fin:∀{e w'}(ss:List (List UInt8)),ss=l.map (·.1)->(∀s∈ss,s.length<=maxLen)->alL w ss e w'->∃t,((JB (l,())).2) t/\Nu S [a0] γ w k ⟨iQ A7 t.1,none⟩ (jT qM t.2) e w':=by
    rintro e w' ss rfl hs ⟨g,cap,rfl,hown,hB⟩;generalize hts:Lib.compact ((l.map (·.1)).mergeSort λx y=>decide (x<=y))=ts at hown;have hmem:∀s,s∈ts↔s∈l.map (·.1):=λs=>by rw[← hts,ajJ,List.mem_mergeSort]
    have htl:ts.length<=l.length:=by rw[← hts];have:=ajK ((l.map (·.1)).mergeSort λx y=>decide (x<=y));rw[aye,avI]at this;exact this
    refine⟨((ts.map λs=>(s,()),()),()),⟨by show(ts.map _).length<=_;rw[avI];exact htl,λs=>?_⟩,_,λ_=>undef,rfl,hB.os,hB.tape,hB.output,hB.size,λb hb _=>hB.block b hb,?_,(λo x hx=>afg),(λo x q y b hx=>afg),λo x hx=>?_⟩
    .obtain⟨s,⟨⟩⟩:=s;show(s,())∈ts.map _↔_;have:=hmem s;simp only[awJ,Prod.mk.injEq,ayB,exists_eq_right]at this ⊢;rw[this];constructor
     .rintro⟨⟨a,⟨⟩⟩,h1,rfl⟩;exact h1
     .exactλh=>⟨(s,()),h,rfl⟩
    .exact alN hown λs hs'=>hs s ((hmem s).1 hs')
    .unfold mr at hx;rcases axd (o / 64)with h|h
     .rw[h]at hx;cases hx
     .rw[aww (by show 1<=_;omega)]at hx;cases hx
   rcases hcase with⟨rfl,a,c,rfl⟩|⟨b,off,cap,cs,t,fz,rfl,hc,hS,hb,hxc⟩
   .cases a with
    |none=>
     refine(alM 0 c w).mono ?_;rintro e w' ⟨rfl,rfl⟩;refine⟨(([],()),()),⟨avt _,λ_=>Iff.rfl⟩,_,λ_=>undef,rfl,rfl,rfl,rfl,avt _,λb hb _=>rfl,⟨acA,.inl ⟨rfl,none,0,rfl⟩⟩,(λo x hx=>afg),(λo x q y b hx=>afg),λo x hx=>?_⟩;unfold mr at hx;rcases axd (o / 64)with h|h
     .rw[h]at hx;cases hx
     .rw[aww (by show 1<=_;omega)]at hx;cases hx
    |some a=>exact(Zm 0 _ [] w abn (Tryz.slices_Clone_string_zero a c w)).mono λe w' h=>fin [] rfl (λs hs=>by cases hs) h
   .have hcell:∀j(y:List UInt8×Unit),l[j]? =some y->w.cell? ⟨b,off+j,none⟩=some (.string ⟨y.1.toArray⟩)/\y.1.length<=maxLen:=by
     intro j y hy;have:=hxc j y hy;rw[show j*ax.len (.cons .str .nil)=j from axR j]at this;obtain⟨v',vs',hvs',hrc,hnil⟩:=this;have hv1:v'=.string ⟨y.1.toArray⟩:=hrc.1;have hcell:cs[off+j]? =some v':=by
      have h0:((cs.toList.drop (off+j)).take (ax.len (.cons .str .nil)))[0]? =(v'::vs')[0]? :=by rw[hvs']
      simpa[ax.len]using h0
     refine⟨?_,hrc.2⟩;simp only[World.cell?,hb];simpa[hv1]using hcell
    have hclone:=Tryz.slices_Clone_string b off l.length cap (l.map λy:List UInt8×Unit=>(⟨y.1.toArray⟩:ByteArray)) w (by rw[avI];exact avt _) abn (λj hj=>by rw[avI]at hj;have:=(hcell j l[j] (avv hj)).1;rw[this,avr,awn,avv hj];rfl);have hmap:((l.map λy:List UInt8×Unit=>(⟨y.1.toArray⟩:ByteArray)).take l.length).map Value.string=(l.map (·.1)).map encStr:=by rw[av6 (by rw[avI];exact avt _),awW,awW];rfl
    rw[hmap]at hclone;exact(Zm l.length _ (l.map (·.1)) w abn hclone).mono λe w' h=>fin (l.map (·.1)) rfl (λs hs=>by obtain⟨y,hy,rfl⟩:=awJ.1 hs;obtain⟨j,hj,e⟩:=awS hy;exact(hcell j y (by rw[avv hj,e])).2) h
 .cases hcon
end Go.Proofs.Tryz
