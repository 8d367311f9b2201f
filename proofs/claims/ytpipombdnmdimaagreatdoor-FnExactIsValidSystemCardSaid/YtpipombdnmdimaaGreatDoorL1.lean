import Derived.Test.YtpipombdnmdimaaGreatDoorF
import Derived.Test.YtpipombdnmdimaaGreatDoorFwC
import Derived.Test.YtpipombdnmdimaaGreatDoorShelf
import Derived.WalkKit
import Derived.Sort.OwnSorted
import Derived.Sort.Grow
import Derived.Lib.OwnBridge
namespace Go.Proofs.Tryz
open Go Go.Fw Go.RowKit Go.Sort
theorem auN{s:jB}{e:List jB}:∀{args:List Arg}{d:nI (s::e)},oL (s::e) args=some d->∃x z,args=x::z/\s.read x=some d.1/\oL e z=some d.2
 |[],_,h=>akk
 |x::z,d,h=>by
  rw[oL]at h;split at h
  .next a b h1 h2=>cases h;exact⟨x,z,rfl,h1,h2⟩
  .cases h
theorem awW:∀{args:List Arg}{d:nI []},oL [] args=some d->args=[]
 |[],_,_=>rfl
 |_::_,_,h=>akk
theorem auO(b:List (List UInt8))(s:List UInt8):s∈Lib.compact b↔s∈b:=by
 have a:∀i(h:i<b.length),b.toArray[i]! =b[i]:=λi h=>by rw[getElem!_pos _ i y7];simp
 unfold Lib.compact Lib.compactUpTo;simp only[aIo,aIT,aIL];constructor
 .rintro⟨i,⟨D,_⟩,rfl⟩;rw[a i D];exact aJs D
 .intro hs;obtain⟨i,D,e⟩:=aIf hs;have d:∀i(D:i<b.length),∃j,(j<b.length/\Lib.keeps b.toArray j=true)/\b.toArray[j]! =b[i]:=by
   intro i
   induction i with
   |zero=>exactλD=>⟨0,⟨D,Lib.keeps_lt_one _ 0 lu⟩,a 0 D⟩
   |succ i ih=>
    intro D;by_cases h:b.toArray[i+1]! =b.toArray[i+1-1]!
    .obtain⟨j,h1,h2⟩:=ih lu;refine⟨j,h1,?_⟩;rw[h2,← a (i+1) D,h,aJy,a i lu]
    .exact⟨i+1,⟨D,Lib.keeps_pos h⟩,a (i+1) D⟩
  rw[← e];exact d i D
theorem auP(a:List (List UInt8)):(Lib.compact a).length<=a.length:=Lib.compact_length_le a
def awX(w:World)(b:List (List UInt8))(e:Ending)(w':World):Prop:=
 ∃g a,e=.returned (.slice (some ⟨g,0,none⟩) (Lib.compact (b.mergeSort λx y=>decide (x<=y))).length a)/\
  w'.ownsRow w.heap.size 9 1 (.slice (some ⟨g,0,none⟩) (Lib.compact (b.mergeSort λx y=>decide (x<=y))).length a) (Lib.compact (b.mergeSort λx y=>decide (x<=y))).length ((Lib.compact (b.mergeSort λx y=>decide (x<=y))).map encStr)/\Below w.heap.size w w'
theorem azD{w i:World}{g cap n m q:Nat}{os:Array Obj}{a:List (List UInt8)}(e:i.ownsRow w.heap.size 9 1 (.slice (some ⟨g,0,none⟩) n cap) n (a.map encStr))(d:Below w.heap.size w i)(f:w.heap.size<=g)(Y:a.length=n):
 awX w a (.returned (.slice (some ⟨g,0,none⟩) (Lib.compact (a.mergeSort λx y=>decide (x<=y))).length cap))
  (putRow encStr (Sort.ahead (grow (putRow encStr (Sort.ahead i m) g 0 (a.mergeSort λx y=>decide (x<=y)).toArray) os) q) g 0 (Lib.compact (a.mergeSort λx y=>decide (x<=y))++List.replicate (n-(Lib.compact (a.mergeSort λx y=>decide (x<=y))).length) []).toArray):=by
 have h:(a.mergeSort λx y=>decide (x<=y)).length=a.length:=aI2 a;have r:=Lib.compact_length_le (a.mergeSort λx y=>decide (x<=y));subst Y;rcases e.2 with⟨S,_⟩|⟨s,l,R,K,b,J,E,O,U,t⟩
 .cases S
 cases K;have X:=ownsRow_sorted (n:=m) (os:=os) (ts:=a.mergeSort λx y=>decide (x<=y)) h b J E O U;have L:=Lib.ownsRow_putRow (q:=q) (k:=(Lib.compact (a.mergeSort λx y=>decide (x<=y))).length) (ys:=Lib.compact (a.mergeSort λx y=>decide (x<=y))++List.replicate (a.length-(Lib.compact (a.mergeSort λx y=>decide (x<=y))).length) []) X KW lu;rw[aKh]at L;exact⟨g,cap,rfl,L,Lib.below_putRow (d.grown (grownBy_sorted _) d.size (λj o=>by cases o;exact b)) f⟩
set_option maxHeartbeats 2000000 in
set_option maxRecDepth 100000 in
theorem ahx(n:Nat)(arg:Value)(ss:List (List UInt8))(w:World)(hn:n<=4611686018427387903)
 (hclone:Calls prog 337 #[arg] w λe w'=>∃v',e=.returned v'/\w'.ownsRow w.heap.size 9 1 v' n (ss.map encStr)/\v'≠ .slice none 0 0/\Below w.heap.size w w'):
 Calls prog 305 #[arg] w (awX w ss):=by
 have mixed:=Tryz.mixed
 go_enter Tryz.func305,Tryz.ntmps305
 go_wp2_with (first
  |(go_at_call 337;refine hclone.mono ?_;rintro e w1 ⟨v1,rfl,hown,hnn,hbel⟩
    obtain⟨g,cap,rfl,hbg,hgl,hncap,hcm,hlen,hH⟩:=Lib.holds_of_ownsRow hown hnn;have hsort:=Tryz.slices_Sort_string g 0 cap ss w1 hH hgl lu;rw[hlen]at hsort;have X:Aside (w1.ownsRow w.heap.size 9 1 (.slice (some ⟨g,0,none⟩) n cap) n (ss.map encStr)/\Below w.heap.size w w1/\w.heap.size<=g/\g<w1.heap.size/\n<=cap/\cap<=maxLen/\ss.length=n/\Holds encStr w1 g 0 ss.toArray):=⟨hown,hbel,hbg,hgl,hncap,hcm,hlen,hH⟩;clear hown hbel hH hnn)
  |(go_at_call 338;refine hsort.mono ?_;rintro e w2 ⟨rfl,nn,os,rfl⟩
    have hl2:(ss.mergeSort λx y=>decide (x<=y)).length=n:=by rw[aI2];exact X.out.2.2.2.2.2.2.1
    have hH2:Holds encStr (grow (putRow encStr (Sort.ahead w1 nn) g 0 (ss.mergeSort λx y=>decide (x<=y)).toArray) os) g 0 (ss.mergeSort λx y=>decide (x<=y)).toArray:=
     holds_grow encStr _ os g 0 _ (by simpa[putRow,mapBlock,Sort.ahead]using X.out.2.2.2.1) (holds_putRow encStr _ g 0 _ _ (holds_ahead encStr w1 nn g 0 _ X.out.2.2.2.2.2.2.2) vk)
    have hcomp:=Tryz.slices_Compact_string g 0 cap (ss.mergeSort λx y=>decide (x<=y)) _ hH2 lu (by have:=X.out.2.2.2.2.1;omega);rw[hl2]at hcomp;clear hH2 hsort)
  |(go_at_call 339;refine hcomp.mono ?_;rintro e w3 ⟨rfl,q,rfl⟩))
 go_ret
 exact azD X.out.1 X.out.2.1 X.out.2.2.1 X.out.2.2.2.2.2.2.1
set_option maxHeartbeats 2000000 in
theorem awY(n c:Nat)(w:World):Calls prog 305 #[.slice none n c] w λe w'=>e=.returned (.slice none 0 0)/\w'=w:=by
 have mixed:=Tryz.mixed
 go_enter Tryz.func305,Tryz.ntmps305
 go_wp2_with (first
  |(go_at_call 337;refine(Tryz.slices_Clone_string_nil n c _).mono ?_;rintro e w' ⟨rfl,rfl⟩)
  |(go_at_call 338;refine(Tryz.slices_Sort_string_none none 0 _).mono ?_;rintro e w' ⟨rfl,rfl⟩)
  |(go_at_call 339;refine(Tryz.slices_Compact_string_empty none 0 _).mono ?_;rintro e w' ⟨rfl,rfl⟩))
 go_ret
 exact⟨rfl,rfl⟩
theorem awZ{w w':World}{S:Nat->Prop}{m:Nat->Value}{g cap:Nat}{ts:List (List UInt8)}(a:w'.ownsRow w.heap.size 9 1 (.slice (some ⟨g,0,none⟩) ts.length cap) ts.length (ts.map encStr))(Q:∀s∈ts,s.length<=maxLen):
 aX ⟨w',w.heap.size,S,m,λ_=>none⟩ (.sl 9 dZ (ts.map λs=>(s,())) true) (.slice (some ⟨g,0,none⟩) ts.length cap):=by
 rcases a.2 with⟨l,_⟩|⟨n,k,R,K,b,J,E,O,U,j⟩
 .cases l
 cases K;have f:g<w'.heap.size:=by
  rcases aHU g w'.heap.size with h|h
  .exact h
  .rw[aJH h]at J;cases J
 refine⟨by rw[aHL];omega,.inr ⟨g,0,cap,R,9,(0,0),by rw[aHL],by rw[aHL];exact E,⟨⟨f,λh=>absurd (show g<w.heap.size from h) lu,(λo x Z=>O6)⟩,λ_=>⟨b,afu a rfl⟩⟩,J,?_⟩⟩;intro i x Z;rw[aId,aJe]at Z;obtain⟨y,B,rfl⟩:=Z;have D:=(aHN.1 B).1;have L:R.toList[i]? =some (encStr y):=by
  have:(R.toList.take (ts.length*1))[i]? =(ts.map encStr)[i]? :=by rw[j]
  rw[aIU lu,aId,B]at this;exact this
 obtain⟨d,e⟩:=aHN.1 L;show aY _ _ (.cons .str .nil) ((R.toList.drop (0+i*1)).take 1) (y,());rw[aIn,aIZ,aI6 d,e];exact⟨encStr y,[],rfl,⟨rfl,Q y (aH5 B)⟩,rfl⟩
theorem adN:rP prog G JX Gh:=by
 intro args p ρ n C;unfold Gh JQ at n;split at n
 .next x Z=>
  revert x;show∀x:List (List UInt8×Unit)×Unit,_;rintro⟨l,⟨⟩⟩ Z n;have hF:=Option.some.inj n;have hp1:(l.length<=1000)=p:=congrArg Prod.fst hF;have hρ:=congrArg Prod.snd hF;simp only at hρ;subst hρ;have Q:l.length<=1000:=by rw[hp1];exact C
  obtain⟨D,r0,rfl,K,E⟩:=auN Z;have:=awW E;subst this;refine⟨⟨((l,()),()),⟨aHv _,λ_=>Iff.rfl⟩⟩,?_⟩;intro k S γ I w hG i ES hap u
  match hvs:I.toList,i with
  |[v],i=>
   have evs:I=#[v]:=by obtain⟨vl⟩:=I;simp at hvs;rw[hvs]
   subst evs;have P:qH ⟨w,w.heap.size,S,γ,gQ [D]⟩ D v:=by
    have W:=i.1;cases D with
    |sv _|kp _|fn _ _=>exact W
    |own _ _ _|ptr _=>simp[jB.read,iq.read]at K
   have hsl:dw w.heap _ (.sl bF dZ) v l:=iq.weak (.v (.one (.sl bF dZ false))) D l v K P;obtain⟨hll,H⟩:=hsl;have hno:∀o x,gQ [D] o=some x->False:=by
    intro o x F;unfold gQ at F;cases D with
    |sv _|kp _|fn _ _=>
     rcases aIM (o / 64)with h|h
     .rw[h]at F;cases F
     .rw[aIN KW]at F;cases F
    |own _ _ _|ptr _=>simp[jB.read,iq.read]at K
   have fin:∀{e M}(ss:List (List UInt8)),ss=l.map (·.1)->(∀s∈ss,s.length<=maxLen)->awX w ss e M->∃t,((Rt (l,())).2) t/\VO S [D] γ w k ⟨ku Gg t.1,none⟩ (mX uQ t.2) e M:=by
    rintro e M ss rfl X ⟨g,N,rfl,z,O⟩;generalize Y:Lib.compact ((l.map (·.1)).mergeSort λx y=>decide (x<=y))=ts at z;have r:∀s,s∈ts↔s∈l.map (·.1):=λs=>by rw[← Y,auO,aJY]
    have htl:ts.length<=l.length:=by rw[← Y];have:=auP ((l.map (·.1)).mergeSort λx y=>decide (x<=y));rw[aI2,aHL]at this;exact this
    refine⟨((ts.map λs=>(s,()),()),()),⟨by show(ts.map _).length<=_;rw[aHL];exact htl,λs=>?_⟩,_,λ_=>undef,rfl,O.os,O.tape,O.output,O.size,λb J _=>O.block b J,?_,(λo x Z=>O6),(λo x q y b Z=>O6),λo x Z=>?_⟩
    .obtain⟨s,⟨⟩⟩:=s;show(s,())∈ts.map _↔_;have:=r s;simp only[aIo,Prod.mk.injEq,and_true,exists_eq_right]at this ⊢;rw[this];constructor
     .rintro⟨⟨a,⟨⟩⟩,E,rfl⟩;exact E
     .exactλh=>⟨(s,()),h,rfl⟩
    .exact awZ z λs hs'=>X s ((r s).1 hs')
    .unfold rM at Z;rcases aIM (o / 64)with h|h
     .rw[h]at Z;cases Z
     .rw[aIN (by show 1<=_;omega)]at Z;cases Z
   rcases H with⟨rfl,a,c,rfl⟩|⟨b,m,N,A,t,fz,rfl,L,hS,J,hxc⟩
   .cases a with
    |none=>
     refine(awY 0 c w).mono ?_;rintro e M ⟨rfl,rfl⟩;refine⟨(([],()),()),⟨aHv _,λ_=>Iff.rfl⟩,_,λ_=>undef,rfl,rfl,rfl,rfl,aHv _,λb J _=>rfl,⟨vk,.inl ⟨rfl,none,0,rfl⟩⟩,(λo x Z=>O6),(λo x q y b Z=>O6),λo x Z=>?_⟩;unfold rM at Z;rcases aIM (o / 64)with h|h
     .rw[h]at Z;cases Z
     .rw[aIN (by show 1<=_;omega)]at Z;cases Z
    |some a=>exact(ahx 0 _ [] w lu (Tryz.slices_Clone_string_zero a c w)).mono λe M h=>fin [] rfl (λs X=>by cases X) h
   .have d:∀j(y:List UInt8×Unit),l[j]? =some y->w.cell? ⟨b,m+j,none⟩=some (.string ⟨y.1.toArray⟩)/\y.1.length<=maxLen:=by
     intro j y B;have:=hxc j y B;rw[show j*au.len (.cons .str .nil)=j from aIZ j]at this;obtain⟨v',vs',hvs',U,hnil⟩:=this;have hv1:v'=.string ⟨y.1.toArray⟩:=U.1;have d:A[m+j]? =some v':=by
      have h0:((A.toList.drop (m+j)).take (au.len (.cons .str .nil)))[0]? =(v'::vs')[0]? :=by rw[hvs']
      simpa[au.len]using h0
     refine⟨?_,U.2⟩;simp only[World.cell?,J];simpa[hv1]using d
    have f:=Tryz.slices_Clone_string b m l.length N (l.map λy:List UInt8×Unit=>(⟨y.1.toArray⟩:ByteArray)) w (by rw[aHL];exact aHv _) lu (λj R=>by rw[aHL]at R;have:=(d j l[j] (aHK R)).1;rw[this,aHI,aId,aHK R];rfl);have T:((l.map λy:List UInt8×Unit=>(⟨y.1.toArray⟩:ByteArray)).take l.length).map Value.string=(l.map (·.1)).map encStr:=by rw[aIa (by rw[aHL];exact aHv _),aIR,aIR];rfl
    rw[T]at f;exact(ahx l.length _ (l.map (·.1)) w lu f).mono λe M h=>fin (l.map (·.1)) rfl (λs X=>by obtain⟨y,B,rfl⟩:=aIo.1 X;obtain⟨j,R,e⟩:=aIf B;exact(d j y (by rw[aHK R,e])).2) h
 .cases n
end Go.Proofs.Tryz
