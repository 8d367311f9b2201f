import Derived.Test.YtdmilcleobbphaaGreatF
import Derived.Test.YtdmilcleobbphaaGreatFwC
import Derived.Test.YtdmilcleobbphaaGreatShelf
import Derived.WalkKit
import Derived.Sort.OwnSorted
import Derived.Sort.Grow
import Derived.Lib.OwnBridge
namespace Go.Proofs.Tryz
open Go Go.Fw Go.RowKit Go.Sort
theorem aBS{s:jL}{e:List jL}:∀{args:List Arg}{d:lV (s::e)},mM (s::e) args=some d->∃x q,args=x::q/\s.read x=some d.1/\mM e q=some d.2
 |[],_,h=>XM
 |x::q,d,h=>by
  rw[mM]at h;split at h
  .next a b h1 h2=>cases h;exact⟨x,q,rfl,h1,h2⟩
  .cases h
theorem aD4:∀{args:List Arg}{d:lV []},mM [] args=some d->args=[]
 |[],_,_=>rfl
 |_::_,_,h=>XM
theorem aBT(b:List (List UInt8))(s:List UInt8):s∈Lib.compact b↔s∈b:=by
 have a:∀i(h:i<b.length),b.toArray[i]! =b[i]:=λi h=>by rw[getElem!_pos _ i oQ];simp
 unfold Lib.compact Lib.compactUpTo;simp only[aQW,aQ4,aQ8];constructor
 .rintro⟨i,⟨D,_⟩,rfl⟩;rw[a i D];exact aRM D
 .intro hs;obtain⟨i,D,e⟩:=aQQ hs;have d:∀i(D:i<b.length),∃j,(j<b.length/\Lib.keeps b.toArray j=true)/\b.toArray[j]! =b[i]:=by
   intro i
   induction i with
   |zero=>exactλD=>⟨0,⟨D,Lib.keeps_lt_one _ 0 fC⟩,a 0 D⟩
   |succ i ih=>
    intro D;by_cases h:b.toArray[i+1]! =b.toArray[i+1-1]!
    .obtain⟨j,h1,h2⟩:=ih fC;refine⟨j,h1,?_⟩;rw[h2,← a (i+1) D,h,aSk,a i fC]
    .exact⟨i+1,⟨D,Lib.keeps_pos h⟩,a (i+1) D⟩
  rw[← e];exact d i D
theorem aBU(a:List (List UInt8)):(Lib.compact a).length<=a.length:=Lib.compact_length_le a
def aD5(w:World)(b:List (List UInt8))(e:Ending)(w':World):Prop:=
 ∃g a,e=.returned (.slice (some ⟨g,0,none⟩) (Lib.compact (b.mergeSort λx y=>decide (x<=y))).length a)/\
  w'.ownsRow w.heap.size 9 1 (.slice (some ⟨g,0,none⟩) (Lib.compact (b.mergeSort λx y=>decide (x<=y))).length a) (Lib.compact (b.mergeSort λx y=>decide (x<=y))).length ((Lib.compact (b.mergeSort λx y=>decide (x<=y))).map encStr)/\Below w.heap.size w w'
theorem aHL{w i:World}{g cap n o q:Nat}{os:Array Obj}{a:List (List UInt8)}(e:i.ownsRow w.heap.size 9 1 (.slice (some ⟨g,0,none⟩) n cap) n (a.map encStr))(d:Below w.heap.size w i)(f:w.heap.size<=g)(L:a.length=n):
 aD5 w a (.returned (.slice (some ⟨g,0,none⟩) (Lib.compact (a.mergeSort λx y=>decide (x<=y))).length cap))
  (putRow encStr (Sort.ahead (grow (putRow encStr (Sort.ahead i o) g 0 (a.mergeSort λx y=>decide (x<=y)).toArray) os) q) g 0 (Lib.compact (a.mergeSort λx y=>decide (x<=y))++List.replicate (n-(Lib.compact (a.mergeSort λx y=>decide (x<=y))).length) []).toArray):=by
 have h:(a.mergeSort λx y=>decide (x<=y)).length=a.length:=aRQ a;have s:=Lib.compact_length_le (a.mergeSort λx y=>decide (x<=y));subst L;rcases e.2 with⟨l,_⟩|⟨t,m,Q,R,b,U,C,O,K,u⟩
 .cases l
 cases R;have Y:=ownsRow_sorted (n:=o) (os:=os) (ts:=a.mergeSort λx y=>decide (x<=y)) h b U C O K;have N:=Lib.ownsRow_putRow (q:=q) (k:=(Lib.compact (a.mergeSort λx y=>decide (x<=y))).length) (ys:=Lib.compact (a.mergeSort λx y=>decide (x<=y))++List.replicate (a.length-(Lib.compact (a.mergeSort λx y=>decide (x<=y))).length) []) Y ql fC;rw[aSQ]at N;exact⟨g,cap,rfl,N,Lib.below_putRow (d.grown (grownBy_sorted _) d.size (λj r=>by cases r;exact b)) f⟩
set_option maxHeartbeats 2000000 in
set_option maxRecDepth 100000 in
theorem am4(n:Nat)(arg:Value)(ss:List (List UInt8))(w:World)(hn:n<=4611686018427387903)
 (hclone:Calls prog 305 #[arg] w λe w'=>∃v',e=.returned v'/\w'.ownsRow w.heap.size 9 1 v' n (ss.map encStr)/\v'≠ .slice none 0 0/\Below w.heap.size w w'):
 Calls prog 289 #[arg] w (aD5 w ss):=by
 have mixed:=Tryz.mixed
 go_enter Tryz.func289,Tryz.ntmps289
 go_wp2_with (first
  |(go_at_call 305;refine hclone.mono ?_;rintro e w1 ⟨v1,rfl,hown,hnn,hbel⟩
    obtain⟨g,cap,rfl,hbg,hgl,hncap,hcm,hlen,hH⟩:=Lib.holds_of_ownsRow hown hnn;have hsort:=Tryz.slices_Sort_string g 0 cap ss w1 hH hgl fC;rw[hlen]at hsort;have X:Aside (w1.ownsRow w.heap.size 9 1 (.slice (some ⟨g,0,none⟩) n cap) n (ss.map encStr)/\Below w.heap.size w w1/\w.heap.size<=g/\g<w1.heap.size/\n<=cap/\cap<=maxLen/\ss.length=n/\Holds encStr w1 g 0 ss.toArray):=⟨hown,hbel,hbg,hgl,hncap,hcm,hlen,hH⟩;clear hown hbel hH hnn)
  |(go_at_call 306;refine hsort.mono ?_;rintro e w2 ⟨rfl,nn,os,rfl⟩
    have hl2:(ss.mergeSort λx y=>decide (x<=y)).length=n:=by rw[aRQ];exact X.out.2.2.2.2.2.2.1
    have hH2:Holds encStr (grow (putRow encStr (Sort.ahead w1 nn) g 0 (ss.mergeSort λx y=>decide (x<=y)).toArray) os) g 0 (ss.mergeSort λx y=>decide (x<=y)).toArray:=
     holds_grow encStr _ os g 0 _ (by simpa[putRow,mapBlock,Sort.ahead]using X.out.2.2.2.1) (holds_putRow encStr _ g 0 _ _ (holds_ahead encStr w1 nn g 0 _ X.out.2.2.2.2.2.2.2) ni)
    have hcomp:=Tryz.slices_Compact_string g 0 cap (ss.mergeSort λx y=>decide (x<=y)) _ hH2 fC (by have:=X.out.2.2.2.2.1;omega);rw[hl2]at hcomp;clear hH2 hsort)
  |(go_at_call 307;refine hcomp.mono ?_;rintro e w3 ⟨rfl,q,rfl⟩))
 go_ret
 exact aHL X.out.1 X.out.2.1 X.out.2.2.1 X.out.2.2.2.2.2.2.1
set_option maxHeartbeats 2000000 in
theorem aD6(n c:Nat)(w:World):Calls prog 289 #[.slice none n c] w λe w'=>e=.returned (.slice none 0 0)/\w'=w:=by
 have mixed:=Tryz.mixed
 go_enter Tryz.func289,Tryz.ntmps289
 go_wp2_with (first
  |(go_at_call 305;refine(Tryz.slices_Clone_string_nil n c _).mono ?_;rintro e w' ⟨rfl,rfl⟩)
  |(go_at_call 306;refine(Tryz.slices_Sort_string_none none 0 _).mono ?_;rintro e w' ⟨rfl,rfl⟩)
  |(go_at_call 307;refine(Tryz.slices_Compact_string_empty none 0 _).mono ?_;rintro e w' ⟨rfl,rfl⟩))
 go_ret
 exact⟨rfl,rfl⟩
theorem aD7{w w':World}{S:Nat->Prop}{m:Nat->Value}{g cap:Nat}{ts:List (List UInt8)}(b:w'.ownsRow w.heap.size 9 1 (.slice (some ⟨g,0,none⟩) ts.length cap) ts.length (ts.map encStr))(W:∀s∈ts,s.length<=maxLen):
 bY ⟨w',w.heap.size,S,m,λ_=>none⟩ (.sl 9 gu (ts.map λs=>(s,())) true) (.slice (some ⟨g,0,none⟩) ts.length cap):=by
 rcases b.2 with⟨l,_⟩|⟨n,j,Q,R,a,U,C,O,K,k⟩
 .cases l
 cases R;have f:g<w'.heap.size:=by
  rcases aQE g w'.heap.size with h|h
  .exact h
  .rw[Array.getElem?_eq_none h]at U;cases U
 refine⟨by rw[aQG];omega,.inr ⟨g,0,cap,Q,9,(0,0),by rw[aQG],by rw[aQG];exact C,⟨⟨f,λh=>absurd (show g<w.heap.size from h) fC,(λo x Z=>vk)⟩,λ_=>a⟩,U,?_⟩⟩;intro i x Z;rw[aQ9,Option.map_eq_some_iff]at Z;obtain⟨y,F,rfl⟩:=Z;have D:=(aQC.1 F).1;have N:Q.toList[i]? =some (encStr y):=by
  have:(Q.toList.take (ts.length*1))[i]? =(ts.map encStr)[i]? :=by rw[k]
  rw[aRY fC,aQ9,F]at this;exact this
 obtain⟨d,e⟩:=aQC.1 N;show dD _ _ (.cons .str .nil) ((Q.toList.drop (0+i*1)).take 1) (y,());rw[aRl,aSh,aSj d,e];exact⟨encStr y,[],rfl,⟨rfl,W y (aQU F)⟩,rfl⟩
theorem aiA:kM prog G Ol J8:=by
 intro args p ρ f J;unfold J8 sW at f;split at f
 .next x Z=>
  revert x;show∀x:List (List UInt8×Unit)×Unit,_;rintro⟨l,⟨⟩⟩ Z f;have hF:=Option.some.inj f;have hp1:(l.length<=1000)=p:=congrArg Prod.fst hF;have X:=congrArg Prod.snd hF;simp only at X;subst X;have W:l.length<=1000:=by rw[hp1];exact J
  obtain⟨B,r0,rfl,E,C⟩:=aBS Z;have:=aD4 C;subst this;refine⟨⟨((l,()),()),⟨aQp _,λ_=>Iff.rfl⟩⟩,?_⟩;intro k S γ I w hG n GV hap hk
  match hvs:I.toList,n with
  |[v],n=>
   have evs:I=#[v]:=by obtain⟨vl⟩:=I;simp at hvs;rw[hvs]
   subst evs;have M:vw ⟨w,w.heap.size,S,γ,gK [B]⟩ B v:=by
    have hr:=n.1;cases B with
    |sv _|kp _|fn _ _=>exact hr
    |own _ _ _|ptr _=>simp[jL.read,jZ.read]at E
   have hsl:iL w.heap _ (.sl dS gu) v l:=jZ.weak (.v (.one (.sl dS gu false))) B l v E M;obtain⟨hll,D⟩:=hsl;have hno:∀o x,gK [B] o=some x->False:=by
    intro o x z;unfold gK at z;cases B with
    |sv _|kp _|fn _ _=>
     rcases aRB (o / 64)with h|h
     .rw[h]at z;cases z
     .rw[aRC ql]at z;cases z
    |own _ _ _|ptr _=>simp[jL.read,jZ.read]at E
   have fin:∀{e H}(ss:List (List UInt8)),ss=l.map (·.1)->(∀s∈ss,s.length<=maxLen)->aD5 w ss e H->∃t,((Xq (l,())).2) t/\aau S [B] γ w k ⟨lS J7 t.1,none⟩ (oW yZ t.2) e H:=by
    rintro e H ss rfl Y ⟨g,K,rfl,u,L⟩;generalize R:Lib.compact ((l.map (·.1)).mergeSort λx y=>decide (x<=y))=ts at u;have r:∀s,s∈ts↔s∈l.map (·.1):=λs=>by rw[← R,aBT,aSB]
    have htl:ts.length<=l.length:=by rw[← R];have:=aBU ((l.map (·.1)).mergeSort λx y=>decide (x<=y));rw[aRQ,aQG]at this;exact this
    refine⟨((ts.map λs=>(s,()),()),()),⟨by show(ts.map _).length<=_;rw[aQG];exact htl,λs=>?_⟩,_,λ_=>undef,rfl,L.os,L.tape,L.output,L.size,λb U _=>L.block b U,?_,(λo x Z=>vk),(λo x q y b Z=>vk),λo x Z=>?_⟩
    .obtain⟨s,⟨⟩⟩:=s;show(s,())∈ts.map _↔_;have:=r s;simp only[aQW,Prod.mk.injEq,and_true,exists_eq_right]at this ⊢;rw[this];constructor
     .rintro⟨⟨a,⟨⟩⟩,C,rfl⟩;exact C
     .exactλh=>⟨(s,()),h,rfl⟩
    .exact aD7 u λs hs'=>Y s ((r s).1 hs')
    .unfold uH at Z;rcases aRB (o / 64)with h|h
     .rw[h]at Z;cases Z
     .rw[aRC (by show 1<=_;omega)]at Z;cases Z
   rcases D with⟨rfl,a,c,rfl⟩|⟨b,m,K,A,t,fz,rfl,N,hS,U,hxc⟩
   .cases a with
    |none=>
     refine(aD6 0 c w).mono ?_;rintro e H ⟨rfl,rfl⟩;refine⟨(([],()),()),⟨aQp _,λ_=>Iff.rfl⟩,_,λ_=>undef,rfl,rfl,rfl,rfl,aQp _,λb U _=>rfl,⟨ni,.inl ⟨rfl,none,0,rfl⟩⟩,(λo x Z=>vk),(λo x q y b Z=>vk),λo x Z=>?_⟩;unfold uH at Z;rcases aRB (o / 64)with h|h
     .rw[h]at Z;cases Z
     .rw[aRC (by show 1<=_;omega)]at Z;cases Z
    |some a=>exact(am4 0 _ [] w fC (Tryz.slices_Clone_string_zero a c w)).mono λe H h=>fin [] rfl (λs Y=>by cases Y) h
   .have d:∀j(y:List UInt8×Unit),l[j]? =some y->w.cell? ⟨b,m+j,none⟩=some (.string ⟨y.1.toArray⟩)/\y.1.length<=maxLen:=by
     intro j y F;have:=hxc j y F;rw[show j*aP.len (.cons .str .nil)=j from aSh j]at this;obtain⟨v',vs',T,Q,hnil⟩:=this;have hv1:v'=.string ⟨y.1.toArray⟩:=Q.1;have d:A[m+j]? =some v':=by
      have h0:((A.toList.drop (m+j)).take (aP.len (.cons .str .nil)))[0]? =(v'::vs')[0]? :=by rw[T]
      simpa[aP.len]using h0
     refine⟨?_,Q.2⟩;simp only[World.cell?,U];simpa[hv1]using d
    have i:=Tryz.slices_Clone_string b m l.length K (l.map λy:List UInt8×Unit=>(⟨y.1.toArray⟩:ByteArray)) w (by rw[aQG];exact aQp _) fC (λj O=>by rw[aQG]at O;have:=(d j l[j] (aQD O)).1;rw[this,aQJ,aQ9,aQD O];rfl);have P:((l.map λy:List UInt8×Unit=>(⟨y.1.toArray⟩:ByteArray)).take l.length).map Value.string=(l.map (·.1)).map encStr:=by rw[aRi (by rw[aQG];exact aQp _),aRX,aRX];rfl
    rw[P]at i;exact(am4 l.length _ (l.map (·.1)) w fC i).mono λe H h=>fin (l.map (·.1)) rfl (λs Y=>by obtain⟨y,F,rfl⟩:=aQW.1 Y;obtain⟨j,O,e⟩:=aQQ F;exact(d j y (by rw[aQD O,e])).2) h
 .cases f
end Go.Proofs.Tryz
