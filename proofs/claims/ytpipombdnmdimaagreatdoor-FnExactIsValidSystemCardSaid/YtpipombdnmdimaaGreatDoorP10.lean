import Derived.Test.YtpipombdnmdimaaGreatDoorP1
import Derived.Test.YtpipombdnmdimaaGreatDoorSp
import Derived.Lib.ItoaLen
namespace Go.Proofs.Tryz
open Go Go.Fw Go.IntWalk Sp
variable {d:List aG}{aB:List (Int×Unit)}
theorem adV{r:List (Int×Unit)}(h:Sp.raised d aB r)(S:∀i,i<d.length->0<=Sp.lv aB i)(C:jC (eu d) λi=>(Sp.lv aB i).toNat):∀i,i<d.length->Sp.lv r i=Sp.lv aB i:=by obtain⟨_,O,_,_,M⟩:=h;intro i D;have a:Sp.lv aB i<=Sp.lv r i:=O i D;have b:Sp.lv r i<=((Sp.lv aB i).toNat:Int):=M _ C (λj e=>by have:=S j e;show Sp.lv aB j<=((Sp.lv aB j).toNat:Int);omega) i D;have:=S i D;omega
theorem asW{r:List (Int×Unit)}(h:Sp.raised d aB r)(C:¬jC (eu d) λi=>(Sp.lv aB i).toNat):∃i,i<d.length/\Sp.lv aB i<Sp.lv r i:=by obtain⟨_,O,_,j,_⟩:=h;refine aIj λe=>C (j λi D=>?_);have a:Sp.lv aB i<=Sp.lv r i:=O i D;have b:¬Sp.lv aB i<Sp.lv r i:=λh=>e ⟨i,D,h⟩;show Sp.lv r i=Sp.lv aB i;omega
theorem aqd(E:gG d=true){L:Nat->Nat}(O:jC (eu d) L):aH d=true:=lq.2 ⟨E,L,O⟩
theorem asX(h:∀M,jC (eu d) M->(∀i,i<d.length->M i<d.length)->False):aH d=false:=by rw[aJG];intro E;obtain⟨_,O⟩:=lq.1 E;obtain⟨M,U,j⟩:=Oh (mO d) O;exact h M U j
theorem aqe(h:gG d=false):aH d=false:=by rw[aJG];intro E;rw[(lq.1 E).1]at h;cases h
theorem YF(n i:Nat):Sp.lv (List.replicate n (0,())) i=0:=by
 unfold Sp.lv;rw[aHI];by_cases h:i<n
 .rw[List.getElem?_replicate,if_pos h];rfl
 .rw[aIN KW];rfl
theorem asY(h:aH d=true):∃s,mW d s:=by obtain⟨a,O⟩:=lq.1 h;exact ak7 (Oh (mO d) O)
theorem ak8:∃s:List (Int×Unit),(aH d=true->mW d s)/\(aH d=false->s=[]):=by
 cases h:aH d with
 |true=>obtain⟨s,X⟩:=asY h;exact⟨s,λ_=>X,λh=>zH⟩
 |false=>exact⟨[],λh=>zH,λ_=>rfl⟩
theorem PD:OK zJ.e:=by
 refine zn [tV.e,vw.e,zX.e] ⟨Hr,aiK,ace,⟨⟩⟩ aq2 (λ⟨d,_⟩ C=>by obtain⟨s,E,O⟩:=ak8 (d:=d);exact⟨(((s,aH d,()),())),⟨rfl,E,O⟩⟩) λd=>show zJ.goal (aoh d) (d,())fromλN C=>?_
 dsimp only[zJ]at C ⊢;have C:gK d:=C;refine⟨C,af (λh=>⟨(aqe (dD h)).symm,λh=>zH,λ_=>rfl⟩) λh=>?_⟩;have A:=bI h;have C:xU d:=Iq A;have Y:=Z7 A;refine⟨⟨lu,lu,FT⟩,?_⟩;have L:d.length*d.length<=25:=aKg Y Y;have H:(d.length:Int)*(d.length:Int)=((d.length*d.length:Nat):Int):=vk;have w:IntKind.i64.wrap (IntKind.i64.wrap ((d.length:Int)*(d.length:Int))+1)=((d.length*d.length:Nat):Int)+1:=by rw[H,fU ((d.length*d.length:Nat):Int) lu];exact fU _ lu
 rw[w];have n:∀aB:List (Int×Unit),aB.length=d.length->∀k:Nat,k<=27->(∀i,i<d.length->0<=Sp.lv aB i/\Sp.lv aB i<=5000*k)->∀x∈aB,0<=x.1/\x.1<=1000000:=λaB Q k u h=>
  asZ (p:=λz=>0<=z/\z<=1000000) λi D=>by have:=h i lu;omega
 refine dI (λi(x:List (Int×Unit))=>((x,i,()),())) (λy=>y.1.2.1) (λ_ _=>rfl) (d.length*d.length+2) lu
  (λk aB=>aB.length=d.length/\(∀i,i<d.length->0<=Sp.lv aB i/\Sp.lv aB i<=5000*k)/\(∀M,jC (eu d) M->∀i,i<d.length->Sp.lv aB i<=M i)/\((jC (eu d) λi=>(Sp.lv aB i).toNat)\/(k:Int)<=AQ aB d.length))
  ⟨vk,λi D=>ak9,λM q i D=>ak9,.inr (adW _ λi D=>ak9)⟩ (λI P k aB u o next=>?_) λI P aB o=>?_
 .obtain⟨g1,g2,g3,m⟩:=o;dsimp only;refine bT lu ⟨⟨C,Y,g1,n aB g1 k lu g2⟩,?_⟩;rintro⟨⟨r,⟨⟩⟩,⟨⟩⟩ W;have W:Sp.raised d aB r:=W;have F:=W;obtain⟨R,S,T,Z,U⟩:=F;have B:∀i,i<d.length->Sp.lv aB i<=Sp.lv r i:=S;refine⟨rfl,next r ⟨R,λi D=>?_,λM q i D=>U M q (g3 M q) i D,?_⟩⟩
  .have a:=B i D;have b:=T (5000*k) (λj K=>(g2 j K).2) i D;have b:Sp.lv r i<=5000*k+5000:=b;have c:=g2 i D;omega
  .by_cases f:jC (eu d) λi=>(Sp.lv aB i).toNat
   .left;have X:=adV W (λi D=>(g2 i D).1) f;intro e g;have:=f e g;obtain⟨a,b,_⟩:=mO d e g;dsimp only at this ⊢;rw[X _ a,X _ b];exact this
   .right;have l:=aiL d.length B (asW W f);rcases m with m|m
    .exact(f m).elim
    .omega
 .obtain⟨g1,g2,g3,m⟩:=o;dsimp only;refine bP lu ⟨⟨C,Y,g1,n aB g1 _ lu g2⟩,?_⟩;rintro⟨⟨r,⟨⟩⟩,⟨⟩⟩ W;have W:Sp.raised d aB r:=W;refine⟨trivial,af (λt=>?_) λg=>?_⟩
  .have t:¬r=aB:=fK (dD t);refine⟨(asX λM q J=>?_).symm,λh=>zH,λ_=>rfl⟩;rcases m with m|m
   .exact t (aye (by rw[W.1,g1]) λi D=>adV W (λi D=>(g2 i D).1) m i (by rw[← W.1];exact D))
   .have:=Xn (a:=aB) (b:=d.length) d.length λi D=>by have a:=g3 M q i D;have b:=J i D;omega
    omega
  .have g:r=aB:=fG (bI g);subst g;have f:=W.2.2.2.1 λi D=>rfl;obtain⟨M,q,J⟩:=Oh (mO d) ⟨_,f⟩;exact⟨(aqd A f).symm,λ_=>⟨g1,λi D=>⟨(g2 i D).1,by have a:=g3 M q i D;have b:=J i D;omega⟩,f,g3⟩,λh=>zH⟩
theorem PE:OK zI.e:=by
 refine zn [yH.e,Aa.e,yG.e,zY.e] ⟨Z8,acf,Z9,acg,⟨⟩⟩ aq3 (λ⟨d,_⟩ C=>by obtain⟨s,E,O⟩:=ak8 (d:=d);exact⟨(((s,aH d,()),())),⟨rfl,E⟩⟩) λd=>show zI.goal (aoi d) (d,())fromλN C=>?_
 dsimp only[zI]at C ⊢;have C:gK d:=C;refine⟨C,af (λh=>⟨(aqe (dD h)).symm,λh=>zH⟩) λh=>?_⟩;have U:=bI h;have C:xU d:=Iq U;have Y:=Z7 U;refine⟨⟨lu,lu,FT⟩,?_⟩;have hmem:∀aB:List (Int×Unit),aB.length=d.length->(∀i,i<d.length->0<=Sp.lv aB i/\Sp.lv aB i<=d.length)->∀x∈aB,0<=x.1/\x.1<=1000000:=λaB Q h=>
  asZ (p:=λz=>0<=z/\z<=1000000) λi D=>by have:=h i lu;omega
 refine⟨λy=>y.2.1.length=d.length/\(∀i,i<d.length->0<=Sp.lv y.2.1 i/\Sp.lv y.2.1 i<=d.length)/\(∀M,jC (eu d) M->∀i,i<d.length->Sp.lv y.2.1 i<=M i)/\(y.1.1=false->jC (eu d) λi=>(Sp.lv y.2.1 i).toNat),
  λy=>(((d.length*d.length:Nat):Int)-AQ y.2.1 d.length).toNat*2+(if y.1.1=true then 1 else 0),⟨vk,λi D=>ak9,λM w i D=>ak9,λh=>zH⟩,?_⟩
 rintro⟨⟨ch,⟨⟩⟩,aB,⟨⟩⟩ ⟨g1,g2,g3,g4⟩;dsimp only at g1 g2 g3 g4 ⊢;refine af (λB=>?_) λB=>⟨(aqd U (g4 B)).symm,λ_=>⟨g1,g2,g4 B,g3⟩⟩;subst B;refine dI (λi(x:Bool×List (Int×Unit))=>((x.1,i,()),x.2,())) (λy=>y.1.2.1) (λ_ _=>rfl) d.length lu
  (λi(x:Bool×List (Int×Unit))=>x.2.length=d.length/\(∀i,i<d.length->Sp.lv aB i<=Sp.lv x.2 i/\Sp.lv x.2 i<=d.length)/\(∀M,jC (eu d) M->∀i,i<d.length->Sp.lv x.2 i<=M i)/\
    (x.1=true->AQ aB d.length<AQ x.2 d.length)/\(x.1=false->x.2=aB/\∀e∈eu d,e.1<i->Sp.lv aB e.2.1+e.2.2<=Sp.lv aB e.1))
  (s0:=(false,aB)) ⟨g1,λi D=>⟨aIe _,(g2 i D).2⟩,g3,λh=>zH,λ_=>⟨rfl,λe _ h=>lu⟩⟩ (λI P i x D o next=>?_) λI P x o=>?_
 .obtain⟨c,R⟩:=x;obtain⟨W,A,q3,q4,q5⟩:=o;have W:R.length=d.length:=W;have j:∀i,i<d.length->0<=Sp.lv R i/\Sp.lv R i<=d.length:=λi D=>⟨Int.le_trans (g2 i D).1 (A i D).1,(A i D).2⟩;have hm:=hmem R W j;dsimp only;rw[aHB];refine bT lu ⟨⟨lu,lu⟩,PG C D,?_⟩;rintro⟨⟨r4,⟨⟩⟩,⟨⟩⟩ n;have n:jS r4 (fA (dK d i).2.1 false):=n;refine⟨⟨lu,n.1,lu,lu,hm⟩,PG C D,?_⟩;rintro⟨⟨r6,⟨⟩⟩,⟨⟩⟩ q;have q:jS r6 (fA (dK d i).2.1 true):=q;refine⟨⟨lu,q.1,lu,lu,hm⟩,?_⟩;dsimp only;have F:∀M,jC (eu d) M->Ac d R 0 r4<=M i/\Ac d R 1 r6<=M i:=by
   intro M w;refine⟨(MQ r4 _).2 ⟨lu,λx Z S=>?_⟩,(MQ r6 _).2 ⟨lu,λx Z S=>?_⟩⟩
   .have g:=Ir.2 ⟨D,x.1,.inl ⟨rfl,(n.2 x.1).1 Z⟩,S,rfl⟩;have a:=w _ g;have a:M (aP d x.1).toNat+0<=M i:=a;have b:=q3 M w _ (mO d _ g).2.1;have b:Sp.lv R (aP d x.1).toNat<=M (aP d x.1).toNat:=b;omega
   .have g:=Ir.2 ⟨D,x.1,.inr ⟨rfl,(q.2 x.1).1 Z⟩,S,rfl⟩;have a:=w _ g;have a:M (aP d x.1).toNat+1<=M i:=a;have b:=q3 M w _ (mO d _ g).2.1;have b:Sp.lv R (aP d x.1).toNat<=M (aP d x.1).toNat:=b;omega
  have H:∀e∈eu d,e.1=i->Sp.lv R e.2.1+e.2.2<=Ac d R 0 r4\/Sp.lv R e.2.1+e.2.2<=Ac d R 1 r6:=by
   rintro⟨a,b,m⟩ g ha;have ha:a=i:=ha;subst ha;have hm1:m<=1:=(mO d _ g).2.2;rcases aIM m with h|h
   .subst h;obtain⟨p,p1,p2,p3⟩:=V8 n g rfl;left;have:=((MQ (d:=d) (aB:=R) (more:=0) r4 _).1 (aIe _)).2 _ (getD_mem (d:=(([]:List UInt8),())) p1) p2;show Sp.lv R b+((0:Nat):Int)<=_;rw[p3];omega
   .have:m=1:=lu;subst this;obtain⟨p,p1,p2,p3⟩:=V8 q g rfl;right;have:=((MQ (d:=d) (aB:=R) (more:=1) r6 _).1 (aIe _)).2 _ (getD_mem (d:=(([]:List UInt8),())) p1) p2;show Sp.lv R b+((1:Nat):Int)<=_;rw[p3];omega
  generalize Ac d R 0 r4=u at F H ⊢;generalize Ac d R 1 r6=v at F H ⊢;have K:∃z,(if v>u then v else u)=z/\u<=z/\v<=z/\(z=u\/z=v):=by refine⟨_,rfl,?_,?_,?_⟩<;>split<;>omega
  obtain⟨z,ez,hz1,hz2,hz3⟩:=K;rw[ez];have T:(R.getD i (0,())).1=Sp.lv R i:=rfl;rw[T];refine af (λf=>?_) λf=>⟨⟨lu,lu⟩,lu,af (λr=>⟨⟨lu,lu⟩,lu,rfl,next (true,R.set i (z,())) ?_⟩) λr=>⟨rfl,next (c,R) ?_⟩⟩
  .have f:z>(d.length:Int):=fG f;refine⟨(asX λM w J=>?_).symm,λh=>zH⟩;have a:=F M w;have b:=J i D;omega
  .have f:¬z>(d.length:Int):=fK f;have r:z>Sp.lv R i:=fG r;have X:=λk=>as1 (l:=R) (i:=i) lu z k;refine⟨KW,λk hk=>?_,λM w k hk=>?_,λ_=>?_,λh=>zH⟩
   .dsimp only;rw[X];have:=A k hk;dsimp only at this;split
    .next e=>subst e;omega
    .exact this
   .dsimp only;rw[X];split
    .next e=>subst e;have:=F M w;omega
    .exact q3 M w k hk
   .have a:=aiM (a:=aB) (b:=R) d.length λk hk=>(A k hk).1;have hsk:∀k,k<d.length->Sp.lv R k<=Sp.lv (R.set i (z,())) k:=λk hk=>by
     rw[X];split
     .next e=>subst e;omega
     .exact aIe _
    have b:=aiL (a:=R) (b:=R.set i (z,())) d.length hsk ⟨i,D,by rw[X,if_pos rfl];omega⟩;show AQ aB d.length<AQ (R.set i (z,())) d.length;omega
  .have r:¬z>Sp.lv R i:=fK r;refine⟨W,A,q3,q4,λh=>?_⟩;obtain⟨a,b⟩:=q5 h;have a:R=aB:=a;subst a;refine⟨rfl,λe g hlt=>?_⟩;rcases aHU e.1 i with h'|h'
   .exact b e g h'
   .have hei:e.1=i:=lu;have:=H e g hei;rw[hei];omega
 .obtain⟨c,R⟩:=x;obtain⟨W,A,q3,q4,q5⟩:=o;dsimp only at W A q3 q4 q5 ⊢;have j:∀i,i<d.length->0<=Sp.lv R i/\Sp.lv R i<=d.length:=λi D=>⟨Int.le_trans (g2 i D).1 (A i D).1,(A i D).2⟩;have hsum:=Xn (a:=R) (b:=d.length) d.length λi D=>(A i D).2;refine bP lu ⟨rfl,⟨W,j,q3,λL e g=>?_⟩,?_⟩
  .obtain⟨a,b⟩:=q5 L;subst a;obtain⟨t,x2,_⟩:=mO d e g;have:=b e g t;have y1:=(j _ t).1;have y2:=(j _ x2).1;dsimp only;omega
  .cases c with
   |true=>
    have:=q4 rfl;simp only[if_true];omega
   |false=>obtain⟨a,_⟩:=q5 rfl;subst a;simp
abbrev V0:nS:=(0,[],[],0,[],0,())
theorem aqh{v:List nS}{n:Nat}(H:n<v.length)(h:oJ v n=false):pF v=false:=by unfold pF;rw[sJ H h];rfl
theorem aaB:∀{l:List dL}{n:Nat}{s:Sp.Bytes},n<l.length->(∀i,i<n->(dU l i).1≠s)->(dU l n).1=s->iD l s=(dU l n).2
 |[],n,_,h,_,_=>XD
 |x::r,0,s,_,_,e=>by
  have e:x.1=s:=e;rw[iD,aHE.2 e];rfl
 |x::r,n+1,s,h,hn,e=>by have S:x.1≠s:=hn 0 lu;rw[iD,aHt.2 S];exact aaB (l:=r) y7 (λi D=>hn (i+1) lu) e
theorem UF:∀{l:List dL}{s:Sp.Bytes},(∀i,i<l.length->(dU l i).1≠s)->iD l s=(0,0,[],())
 |[],_,_=>rfl
 |x::r,s,h=>by have S:x.1≠s:=h 0 vk;rw[iD,aHt.2 S];exact UF λi D=>h (i+1) aqP
theorem WE:OK xI.e:=by
 refine aO [] ⟨⟩ ao3 λa b e f l s=>show xI.goal (amj a b e f l s) ((a,b,e,f,l,()),s,())fromλN C=>?_
 dsimp only[xI]at C ⊢;have Y:l.length<=maxLen:=N.1.2.2.2.2.1.1;rw[maxLen_eq]at Y;refine dY l.length Y (λn=>∀i,i<n->(dU l i).1≠s) (λi D=>lu) (λI P n H o next=>?_) λI P o=>?_
 .dsimp only;refine bT lu ⟨⟨lu,lu⟩,af (λh=>?_) λh=>⟨rfl,next λi D=>?_⟩⟩
  .exact congrArg (·,()) (aaB H o (aHE.1 h)).symm
  .rcases aHU i n with h'|h'
   .exact o i h'
   .have:i=n:=lu;rw[this];exact aHt.1 h
 .dsimp only;exact bP lu (congrArg (·,()) (UF o).symm)
theorem amk:OK Dc.e:=by
 refine aO [] ⟨⟩ ao4 λa b e f l s=>show Dc.goal (aml a b e f l s) ((a,b,e,f,l,()),s,())fromλN C=>?_
 dsimp only[Dc]at C ⊢;have Y:l.length<=maxLen:=N.1.2.2.2.2.1.1;rw[maxLen_eq]at Y;refine dY l.length Y (λn=>∀i,i<n->(dU l i).1≠s) (λi D=>lu) (λI P n H o next=>?_) λI P o=>?_
 .dsimp only;refine bT lu ⟨⟨lu,lu⟩,af (λh=>⟨⟨lu,lu⟩,?_⟩) λh=>⟨rfl,next λi D=>?_⟩⟩
  .exact congrArg (·,()) (aaB H o (aHE.1 h)).symm
  .rcases aHU i n with h'|h'
   .exact o i h'
   .have:i=n:=lu;rw[this];exact aHt.1 h
 .dsimp only;exact bP lu (congrArg (·,()) (UF o).symm)
theorem amm:OK Df.e:=by
 refine aO [xI.e] ⟨WE,⟨⟩⟩ H0 λa b e f l s=>show Df.goal (amn a b e f l s) ((a,b,e,f,l,()),s,())fromλN C=>?_
 dsimp only[Df]at C ⊢;refine⟨trivial,?_⟩;cases h:((iD l s).1==1)with
 |true=>dsimp only[bne];rw[h];rfl
 |false=>dsimp only[bne];rw[h];rfl
theorem aqk{α a:Type}[BEq a][LawfulBEq a](g:α->a)(v:a)(s:List α):Sp.findAt (λx=>v==g x) s=Sp.findAt (λx=>g x==v) s:=by
 congr 1
 funext x
 rw[aHX,aHE,aHE];exact eq_comm
theorem acu:OK Ad.e:=by
 refine aO [] ⟨⟩ aep λs v=>show Ad.goal (acv s v) (s,v,())fromλN C=>?_
 dsimp only[Ad]at C ⊢;exact ayy (K:=λr=>r=(Sp.findAt (λx=>x.1==v) s,())) (λx:Int×Unit=>v==x.1) (0,()) s _ N.1.1 (by rw[aqk])
theorem Xz:OK vz.e:=by
 refine aO [] ⟨⟩ YV λs v=>show vz.goal (XB s v) (s,v,())fromλN C=>?_
 dsimp only[vz]at C ⊢;exact ayy (K:=λr=>r=(Sp.findAt (λx=>x.1==v) s,())) (λx:List UInt8×Unit=>v==x.1) ([],()) s _ N.1.1 (by rw[aqk])
theorem KO:OK qo.e:=by
 refine aO [Ad.e] ⟨acu,⟨⟩⟩ H0 λs v=>show qo.goal (XC s v) (s,v,())fromλN C=>?_
 dsimp only[qo]at C ⊢;exact⟨trivial,congrArg (·,()) (aiS _ s)⟩
theorem SL:OK qZ.e:=by
 refine aO [vz.e] ⟨Xz,⟨⟩⟩ H0 λs v=>show qZ.goal (SN s v) (s,v,())fromλN C=>?_
 dsimp only[qZ]at C ⊢;exact⟨trivial,congrArg (·,()) (aiS _ s)⟩
theorem aer:OK vZ.e:=by
 refine aO [qo.e] ⟨KO,⟨⟩⟩ H0 λs v=>show vZ.goal (aes s v) (s,v,())fromλN C=>?_
 dsimp only[vZ]at C ⊢;exact⟨trivial,rfl⟩
theorem Iy:OK oP.e:=by
 refine aO [] ⟨⟩ agL λs v=>show oP.goal (aeu s v) (s,v,())fromλN C=>?_
 dsimp only[oP]at C ⊢;exact aFR (K:=λr=>r=(bQ s v,())) (λx:Int×Unit=>x.1==v) (0,()) s _ N.1.1 rfl
theorem zh:OK nK.e:=by
 refine aO [] ⟨⟩ aev λs=>show nK.goal (acw s) (s,())fromλN C=>?_
 dsimp only[nK]at C ⊢;have C:s.length<=10000000:=C;intro g a;refine af (λh=>?_) λh=>⟨FT,rfl⟩;exact congrArg (·,()) (aH0.1 (a h)).symm
abbrev WG:dO:=([],[],())
variable {r:List dO}
theorem aql(h:dQ r){n:Nat}(H:n<r.length):(r.getD n WG).2.1.length<=1000:=h.2 _ (getD_mem (d:=WG) H)
variable {s:Sp.Bytes}
theorem amo{n:Nat}(H:n<r.length)(o:∀i,i<n->(uO r i).1≠s)(e:(uO r n).1=s):gY r s=jy r n:=by rw[← e];exact aew H λj a=>by rw[e];exact o j a
theorem J3:OK pX.e:=by
 refine aO [nK.e] ⟨zh,⟨⟩⟩ ajx λr s=>show pX.goal (agM r s) (r,s,())fromλN C=>?_
 dsimp only[pX]at C ⊢;have C:dQ r:=C;have Y:r.length<=1000:=C.1;refine dY r.length lu (λn=>∀i,i<n->(uO r i).1≠s) (λi D=>lu) (λI P n H o next=>?_) λI P o=>?_
 .dsimp only;refine bT lu ⟨⟨lu,lu⟩,af (λh=>⟨aHw (aql C H) lZ,?_⟩) λh=>⟨rfl,next λi D=>?_⟩⟩
  .exact congrArg (·,()) (amo H o (aHE.1 h)).symm
  .rcases aHU i n with h'|h'
   .exact o i h'
   .have:i=n:=lu;rw[this];exact aHt.1 h
 .dsimp only;exact bP lu (congrArg (·,()) (Qg o).symm)
theorem RH:OK tX.e:=by
 refine aO [] ⟨⟩ ajy λr s=>show tX.goal (agN r s) (r,s,())fromλN C=>?_
 dsimp only[tX]at C ⊢;have C:dQ r:=C;have Y:r.length<=1000:=C.1;refine dY r.length lu (λn=>∀i,i<n->(uO r i).1≠s) (λi D=>lu) (λI P n H o next=>?_) λI P o=>?_
 .dsimp only;refine bT lu ⟨⟨lu,lu⟩,af (λh=>⟨⟨lu,lu⟩,by have:(r.getD n ([],[],())).2.1.length<=1000:=aql C H;rw[dJ,aHB];omega,?_⟩) λh=>⟨rfl,next λi D=>?_⟩⟩
  .exact congrArg (·,()) (amo H o (aHE.1 h)).symm
  .rcases aHU i n with h'|h'
   .exact o i h'
   .have:i=n:=lu;rw[this];exact aHt.1 h
 .dsimp only;exact bP lu (congrArg (·,()) (Qg o).symm)
variable {q:List aA}{f:aF}{X:BX}
theorem ajz{a:Nat}(M:(Sp.nodeAt q a).1≠5)(b:(Sp.nodeAt q a).1≠6)(e:(Sp.nodeAt q a).1≠7):Sp.val q f X a=mP (Sp.nodeAt q a) f X:=by rw[YW,if_neg M,if_neg b,if_neg e]
theorem avG{a:Nat}(M:(Sp.nodeAt q a).1=5)(Q:(Sp.nodeAt q a).2.1.toNat<a):Sp.val q f X a=!Sp.val q f X (Sp.nodeAt q a).2.1.toNat:=by rw[YW q f X a,if_pos M,dif_pos Q]
theorem avH{a:Nat}(b:(Sp.nodeAt q a).1=6)(Q:(Sp.nodeAt q a).2.1.toNat<a/\(Sp.nodeAt q a).2.2.1.toNat<a):Sp.val q f X a=(Sp.val q f X (Sp.nodeAt q a).2.1.toNat&&Sp.val q f X (Sp.nodeAt q a).2.2.1.toNat):=by rw[YW q f X a,if_neg lu,if_pos b,dif_pos Q]
theorem ayz{a:Nat}(b:(Sp.nodeAt q a).1=7)(Q:(Sp.nodeAt q a).2.1.toNat<a/\(Sp.nodeAt q a).2.2.1.toNat<a):Sp.val q f X a=(Sp.val q f X (Sp.nodeAt q a).2.1.toNat||Sp.val q f X (Sp.nodeAt q a).2.2.1.toNat):=by rw[YW q f X a,if_neg lu,if_neg lu,if_pos b,dif_pos Q]
variable {n:aA}
theorem aA3(h:n.1=2):mP n f X=!((iD f.2.2.2.2.1 n.2.2.2.1).1==0):=ah4
theorem aA4(h:n.1=3):mP n f X=decide (iD f.2.2.2.2.1 n.2.2.2.1=(n.2.2.2.2.1,n.2.2.2.2.2.1,n.2.2.2.2.2.2.1,())):=ah4
theorem aA5(h:n.1=4):mP n f X=((iD f.2.2.2.2.1 n.2.2.2.1).1==1&&decide ((iD f.2.2.2.2.1 n.2.2.2.1).2.1<n.2.2.2.2.2.1)):=ah4
theorem aA6(h:n.1=8):mP n f X=X n.2.2.2.1 f.1:=ah4
theorem aA7(h:n.1=9):mP n f X=(!(f.2.2.2.1==0)&&X n.2.2.2.1 f.2.2.2.1):=ah4
theorem aA8(O:n.1≠2)(U:n.1≠3)(j:n.1≠4)(a:n.1≠8)(b:n.1≠9):mP n f X=true:=by unfold mP;rw[aHt.2 O,aHt.2 U,aHt.2 j,aHt.2 a,aHt.2 b];rfl
theorem eq3(v w:Iz):(v.1==w.1&&(v.2.1==w.2.1&&(v.2.2.1==w.2.2.1&&true)))=decide (v=w):=by rw[aHX];simp[aJR]
theorem Oz{x y z:Int}(h:x=y)(a:y≠z):x≠z:=by rw[h];exact a
theorem aw7{a:Int}(h:fH n a=true):n.1=1\/n.1=2\/n.1=3\/n.1=4\/n.1=5\/n.1=6\/n.1=7\/n.1=8\/n.1=9:=by unfold fH at h;dsimp only at h;refine aIj λb=>?_;have e:∀k:Int,n.1≠k->(n.1==k)=false:=λk u=>aHt.2 u;rw[e 1 (λh=>b apE),e 2 (λh=>b apE),e 3 (λh=>b apE),e 4 (λh=>b apE),e 5 (λh=>b apE),e 6 (λh=>b apE),e 7 (λh=>b apE),e 8 (λh=>b apE),e 9 (λh=>b apE)]at h;cases h
theorem Vj[kQ](F:fF prog G vI zq):fF prog G KG HY:=by
 refine Vk (ZR [vZ.e,pX.e,(vI,.pure zq),Df.e,xI.e] ⟨aer,J3,⟨F,Vb⟩,amm,WE,trivial⟩) ?_;intro q a w x y o A r N C;obtain⟨⟨i,S,E,W⟩,l⟩:=C;have L:a.toNat<q.length:=lu;obtain⟨B,D⟩:=nU i L;have fin:∀z:Bool,Sp.val q (w,x,y,o,A,()) (bH r) a.toNat=z->(z,())=(Sp.val q (w,x,y,o,A,()) (bH r) a.toNat,()):=λz h=>by rw[h]
 have leaf:∀k:Int,k≠5->k≠6->k≠7->(Sp.nodeAt q a.toNat).1=k->Sp.val q (w,x,y,o,A,()) (bH r) a.toNat=mP (Sp.nodeAt q a.toNat) (w,x,y,o,A,()) (bH r):=λk a b c h=>ajz (Oz h a) (Oz h b) (Oz h c);have t:∀k:Int,0<=k->k.toNat<a.toNat->(ax q=true/\0<=k/\k<(q.length:Int)/\dQ r)/\k.toNat<iP:=λk O U=>⟨⟨i,O,lu,W⟩,lu⟩;refine⟨⟨S,E⟩,af (λh=>⟨trivial,fin _ ((leaf 2 lZ lZ lZ (aHE.1 h)).trans (aA3 (aHE.1 h)))⟩) λO=>af (λh=>⟨trivial,fin _ ((leaf 3 lZ lZ lZ (aHE.1 h)).trans ((aA4 (aHE.1 h)).trans (eq3 _ _).symm))⟩) λU=>af (λh=>⟨trivial,?_⟩) λj=>af (λh=>?_) λM=>af (λh=>?_) λH=>af (λh=>?_) λI=>af (λh=>⟨W,trivial,fin _ ((leaf 8 lZ lZ lZ (aHE.1 h)).trans (aA6 (aHE.1 h)))⟩) λJ=>af (λh=>?_) λK=>?_⟩
 .have e:=(leaf 4 lZ lZ lZ (aHE.1 h)).trans (aA5 (aHE.1 h));dsimp only at e ⊢;refine af (λg=>fin _ (e.trans ?_)) λg=>fin _ (e.trans ?_)
  .unfold Sp.nodeAt;rw[g];rfl
  .unfold Sp.nodeAt;rw[g];rfl
 .have u:=B (.inl (aHE.1 h));exact⟨t _ u.1 u.2,fin _ (avG (aHE.1 h) u.2)⟩
 .have ht:kU (Sp.nodeAt q a.toNat)=true:=lK.2 (.inl (aHE.1 h));have u:=B (.inr ht);have m:=D ht;have e:=avH (f:=(w,x,y,o,A,())) (X:=bH r) (aHE.1 h) ⟨u.2,m.2⟩;refine⟨t _ u.1 u.2,af (λg=>⟨t _ m.1 m.2,fin _ (e.trans ?_)⟩) λg=>fin _ (e.trans ?_)⟩
  .have g:Sp.val q (w,x,y,o,A,()) (bH r) (Sp.nodeAt q a.toNat).2.1.toNat=true:=g;rw[g];rfl
  .have g:Sp.val q (w,x,y,o,A,()) (bH r) (Sp.nodeAt q a.toNat).2.1.toNat=false:=g;rw[g];rfl
 .have ht:kU (Sp.nodeAt q a.toNat)=true:=lK.2 (.inr (aHE.1 h));have u:=B (.inr ht);have m:=D ht;have e:=ayz (f:=(w,x,y,o,A,())) (X:=bH r) (aHE.1 h) ⟨u.2,m.2⟩;refine⟨t _ u.1 u.2,af (λg=>fin _ (e.trans ?_)) λg=>⟨t _ m.1 m.2,fin _ (e.trans ?_)⟩⟩
  .have g:Sp.val q (w,x,y,o,A,()) (bH r) (Sp.nodeAt q a.toNat).2.1.toNat=true:=g;rw[g];rfl
  .have g:Sp.val q (w,x,y,o,A,()) (bH r) (Sp.nodeAt q a.toNat).2.1.toNat=false:=g;rw[g];rfl
 .have e:=(leaf 9 lZ lZ lZ (aHE.1 h)).trans (aA7 (aHE.1 h));refine af (λg=>⟨W,trivial,fin _ (e.trans ?_)⟩) λg=>fin _ (e.trans ?_)
  .have g:(!(o==0))=true:=g;dsimp only;rw[g];rfl
  .have g:(!(o==0))=false:=g;dsimp only;rw[g];rfl
 .have n2:=aHt.1 O;have P:=aHt.1 U;have Q:=aHt.1 j;have R:=aHt.1 J;have T:=aHt.1 K;exact fin _ ((ajz (aHt.1 M) (aHt.1 H) (aHt.1 I)).trans (aA8 n2 P Q R T))
theorem agO:fF prog G L8 Qp:=
 akN (λn=>@MB ⟨n⟩) (λn=>@J7 ⟨n⟩) (by rintro⟨q,b,⟨i,o,s,l,a,⟨⟩⟩,r,⟨⟩⟩ h;exact aIg _ h.2) abR (by rintro⟨q,b,⟨i,o,s,l,a,⟨⟩⟩,r,⟨⟩⟩ h;exact⟨_,h,aIY _⟩) abR λn h=>@Vj ⟨n⟩ h
theorem YX[kQ](B:fF prog G yX Di):fF prog G Ob J9:=by
 refine YZ (ZR [oP.e,tX.e,(yX,.pure Di),Dc.e] ⟨Iy,RH,⟨B,Yu⟩,amk,trivial⟩) ?_;intro q a w x y o A r N C;obtain⟨⟨i,S,E,W⟩,l⟩:=C;have H:a.toNat<q.length:=lu;obtain⟨D,I⟩:=nU i H;have fin:∀z:Bool,Sp.val q (w,x,y,o,A,()) (bH r) a.toNat=z->(z,())=(Sp.val q (w,x,y,o,A,()) (bH r) a.toNat,()):=λz h=>by rw[h]
 have leaf:∀k:Int,k≠5->k≠6->k≠7->(Sp.nodeAt q a.toNat).1=k->Sp.val q (w,x,y,o,A,()) (bH r) a.toNat=mP (Sp.nodeAt q a.toNat) (w,x,y,o,A,()) (bH r):=λk a b c h=>ajz (Oz h a) (Oz h b) (Oz h c);have t:∀k:Int,0<=k->k.toNat<a.toNat->(ax q=true/\0<=k/\k<(q.length:Int)/\dQ r)/\k.toNat<iP:=λk O U=>⟨⟨i,O,lu,W⟩,lu⟩;refine⟨⟨S,E⟩,trivial,af (λh=>fin _ ((leaf 1 lZ lZ lZ (aHE.1 h)).trans (aA8 (Oz (aHE.1 h) lZ) (Oz (aHE.1 h) lZ) (Oz (aHE.1 h) lZ) (Oz (aHE.1 h) lZ) (Oz (aHE.1 h) lZ)))) λE=>af (λh=>fin _ ((leaf 2 lZ lZ lZ (aHE.1 h)).trans (aA3 (aHE.1 h)))) λO=>af (λh=>fin _ ((leaf 3 lZ lZ lZ (aHE.1 h)).trans ((aA4 (aHE.1 h)).trans (eq3 _ _).symm))) λU=>af (λh=>?_) λj=>af (λh=>?_) λM=>af (λh=>?_) λJ=>af (λh=>?_) λK=>af (λh=>⟨W,trivial,fin _ ((leaf 8 lZ lZ lZ (aHE.1 h)).trans (aA6 (aHE.1 h)))⟩) λL=>?_⟩
 .have e:=(leaf 4 lZ lZ lZ (aHE.1 h)).trans (aA5 (aHE.1 h));dsimp only at e ⊢;refine af (λg=>fin _ (e.trans ?_)) λg=>fin _ (e.trans ?_)
  .unfold Sp.nodeAt;rw[g];rfl
  .unfold Sp.nodeAt;rw[g];rfl
 .have u:=D (.inl (aHE.1 h));exact⟨t _ u.1 u.2,fin _ (avG (aHE.1 h) u.2)⟩
 .have ht:kU (Sp.nodeAt q a.toNat)=true:=lK.2 (.inl (aHE.1 h));have u:=D (.inr ht);have m:=I ht;have e:=avH (f:=(w,x,y,o,A,())) (X:=bH r) (aHE.1 h) ⟨u.2,m.2⟩;refine⟨t _ u.1 u.2,af (λg=>⟨t _ m.1 m.2,fin _ (e.trans ?_)⟩) λg=>fin _ (e.trans ?_)⟩
  .have g:Sp.val q (w,x,y,o,A,()) (bH r) (Sp.nodeAt q a.toNat).2.1.toNat=true:=g;rw[g];rfl
  .have g:Sp.val q (w,x,y,o,A,()) (bH r) (Sp.nodeAt q a.toNat).2.1.toNat=false:=g;rw[g];rfl
 .have ht:kU (Sp.nodeAt q a.toNat)=true:=lK.2 (.inr (aHE.1 h));have u:=D (.inr ht);have m:=I ht;have e:=ayz (f:=(w,x,y,o,A,())) (X:=bH r) (aHE.1 h) ⟨u.2,m.2⟩;refine⟨t _ u.1 u.2,af (λg=>fin _ (e.trans ?_)) λg=>⟨t _ m.1 m.2,fin _ (e.trans ?_)⟩⟩
  .have g:Sp.val q (w,x,y,o,A,()) (bH r) (Sp.nodeAt q a.toNat).2.1.toNat=true:=g;rw[g];rfl
  .have g:Sp.val q (w,x,y,o,A,()) (bH r) (Sp.nodeAt q a.toNat).2.1.toNat=false:=g;rw[g];rfl
 .have n1:=aHt.1 E;have P:=aHt.1 O;have Q:=aHt.1 U;have R:=aHt.1 j;have T:=aHt.1 M;have Y:=aHt.1 J;have Z:=aHt.1 K;have n8:=aHt.1 L;have F:(Sp.nodeAt q a.toNat).1=9:=by
   rcases aw7 (kH i H).1 with h|h|h|h|h|h|h|h|h
   .exact(n1 h).elim
   .exact(P h).elim
   .exact(Q h).elim
   .exact(R h).elim
   .exact(T h).elim
   .exact(Y h).elim
   .exact(Z h).elim
   .exact(n8 h).elim
   .exact h
  have e:=(leaf 9 lZ lZ lZ F).trans (aA7 F);refine af (λg=>⟨W,trivial,fin _ (e.trans ?_)⟩) λg=>fin _ (e.trans ?_)
  .have g:(!(o==0))=true:=g;dsimp only;rw[g];rfl
  .have g:(!(o==0))=false:=g;dsimp only;rw[g];rfl
theorem amq:fF prog G Px TD:=
 akN (λn=>@OQ ⟨n⟩) (λn=>@Nk ⟨n⟩) (by rintro⟨q,b,⟨i,o,s,l,a,⟨⟩⟩,r,⟨⟩⟩ h;exact aIg _ h.2) abR (by rintro⟨q,b,⟨i,o,s,l,a,⟨⟩⟩,r,⟨⟩⟩ h;exact⟨_,h,aIY _⟩) abR λn h=>@YX ⟨n⟩ h
theorem amr:OK IU.e:=by
 refine aO [(L8,.pure Qp),jr.e] ⟨⟨agO,adP⟩,rZ,⟨⟩⟩ H0 λq a b g i j r=>show IU.goal (ams q a b g i j r) (q,(a,b,g,i,j,()),r,())fromλN C=>?_
 dsimp only[IU]at C ⊢;obtain⟨E,O⟩:=C;have e:∀z,ax q=z->oQ q (a,b,g,i,j,()) (bH r)=(z&&Sp.val q (a,b,g,i,j,()) (bH r) (q.length-1)):=λz k=>by unfold oQ;rw[k]
 refine⟨lu,af (λh=>?_) λh=>?_⟩
 .have hl:=Sp.iH h;rw[nH lu lu];refine⟨⟨h,lu,lu,O⟩,?_⟩;rw[e _ h,aHB];rfl
 .rw[e _ h];rfl
theorem amu:OK IV.e:=by
 refine aO [(Px,.pure TD),mM.e] ⟨⟨amq,aiB⟩,xg,⟨⟩⟩ H0 λq a b g i j r=>show IV.goal (amv q a b g i j r) (q,(a,b,g,i,j,()),r,())fromλN C=>?_
 dsimp only[IV]at C ⊢;obtain⟨E,O⟩:=C;have e:∀z,ax q=z->oQ q (a,b,g,i,j,()) (bH r)=(z&&Sp.val q (a,b,g,i,j,()) (bH r) (q.length-1)):=λz k=>by unfold oQ;rw[k]
 refine⟨lu,af (λh=>?_) λh=>?_⟩
 .have hl:=Sp.iH h;rw[nH lu lu];refine⟨⟨h,lu,lu,O⟩,?_⟩;rw[e _ h,aHB];rfl
 .rw[e _ h];rfl
theorem acy:OK Ae.e:=by
 refine aO [IU.e] ⟨amr,⟨⟩⟩ aex λe a b q r=>show Ae.goal (acz e a b q r) ((e,a,b,()),q,r,())fromλN C=>?_
 dsimp only[Ae]at C ⊢;obtain⟨E,O,U⟩:=C;have Q:a.length<=1000:=E.2.1;exact ajA (K:=λz=>z=(Sp.sel a q (bH r),())) (λf=>oQ q f (bH r)) (λf:aF=>(f.1,())) (0,0,false,0,[],()) a _ (A:=λ_=>q.length<=1000/\dQ r) (λ_ _=>⟨O,U⟩) lu rfl
theorem Gm:OK qw.e:=by
 refine aO [] ⟨⟩ aey λa b=>show qw.goal (acA a b) (a,b,())fromλN C=>?_
 dsimp only[qw]at C ⊢;exact eqL (K:=λr=>r=(decide (a=b),())) (λx y:Int×Unit=>x.1 !=y.1) (λx y=>by simp[aJR]) _ a b _ N.1.1 rfl
variable {fs:List aF}{nx:Int}
theorem az1{a:List bY}(r:List dO)(nm:Sp.Bytes->Bool):∃b,(aH d&&bg (a,fs,nx,()))=true->lF fs d r nm b:=by
 by_cases h:(aH d&&bg (a,fs,nx,()))=true
 .rw[aHy]at h;obtain⟨aB,Q⟩:=asY h.1;obtain⟨b,F⟩:=amw r nm (lq.1 h.1).1 Q (JB h.2);exact⟨b,λ_=>F⟩
 .exact⟨[],λe=>(h e).elim⟩
theorem WH{a:List bY}(r:List dO)(nm:Sp.Bytes->Bool):∃b,((aH d&&bg (a,fs,nx,()))=true->lF fs d r nm b)/\((aH d&&bg (a,fs,nx,()))=false->b=[]):=by
 cases h:(aH d&&bg (a,fs,nx,()))with
 |true=>obtain⟨b,F⟩:=az1 (fs:=fs) (a:=a) (nx:=nx) (d:=d) r nm;exact⟨b,λ_=>F h,λh=>zH⟩
 |false=>exact⟨[],λh=>zH,λ_=>rfl⟩
abbrev DD0:aG:=([],[],())
theorem aoq{a b:Int}(h:(a !=b)=false):a=b:=y7
theorem atn{α a:Type}(g:α->a)(d:α)(l:List α){n:Nat}(h:n<l.length):(l.take n).map g++[g (l.getD n d)]=(l.take (n+1)).map g:=by rw[Sp.take_succ' l n d h,aIk];rfl
theorem MS(h:aH d=true):gG d=true/\d.length<=5:=⟨(lq.1 h).1,Z7 (lq.1 h).1⟩
variable {out:List dO}
theorem still_at{nm:Sp.Bytes->Bool}{k:Nat}
 (h:∀j,j<d.length->j<d.length->nm (Sp.nameOf d j)=true->Sp.lv aB j=k->Sp.sel fs (iG d j) (bH out)=jy out j):∀i,i<d.length->nm (Sp.nameOf d i)=true->Sp.lv aB i=k->Sp.sel fs (iG d i) (bH out)=jy out i:=λi D=>h i D D
theorem ato:∀(l:List (Int×Unit)),0<l.length->∃m:Int,(∀x∈l,x.1<=m)/\(m,())∈l
 |[x],_=>⟨x.1,λy B=>by rw[aH9.1 B];exact aIe _,aH9.2 rfl⟩
 |x::y::r,_=>by
  obtain⟨m,E,O⟩:=ato (y::r) vk;by_cases h:x.1<=m
  .exact⟨m,λz a=>by rcases aHH.1 a with rfl|a;exact h;exact E z a,aHC _ O⟩
  .exact⟨x.1,λz a=>by rcases aHH.1 a with rfl|a;exact aIe _;have:=E z a;omega,aHJ⟩
theorem acG:OK Af.e:=by
 refine aO [IV.e] ⟨amu,⟨⟩⟩ aez λe fs nx q r=>show Af.goal (acH e fs nx q r) ((e,fs,nx,()),q,r,())fromλN C=>?_
 dsimp only[Af]at C ⊢;obtain⟨E,O,U⟩:=C;have Q:fs.length<=1000:=E.2.1;obtain⟨I,P,g,i⟩:=ajA (K:=λz=>z=(Sp.sel fs q (bH r),())) (λf=>oQ q f (bH r)) (λf:aF=>(f.1,())) (0,0,false,0,[],()) fs (q,r,(e,fs,nx,()),()) (A:=λ_=>q.length<=1000/\dQ r) (λ_ _=>⟨O,U⟩) lu rfl;refine⟨I,P,g,λy B=>?_⟩;have h:=i y B;dsimp only at h ⊢;revert h;cases decide (y.1.2.1<(fs.length:Int))with
 |false=>exact id
 |true=>
  rintro⟨b,a,h⟩;refine⟨b,a,?_⟩;revert h;cases oQ q (fs.getD (Int.toNat y.1.2.1) (0,0,false,0,[],())) (bH r)with
  |true=>exactλh=>⟨b,h.1,rfl,h.2.2⟩
  |false=>exactλh=>⟨rfl,h.2⟩
theorem ajD:OK Gx.e:=by
 refine aO [] ⟨⟩ amx λd=>show Gx.goal (ajE d) (d,())fromλN C=>?_
 dsimp only[Gx]at C ⊢;exact aFT (K:=λr=>r=(rq d,())) (λx:aG=>(x.1,())) ([],[],()) d _ (by have C:d.length<=2000000:=C;omega) rfl
theorem agR:OK Ej.e:=by
 refine zn [] ⟨⟩ ajF (λ⟨l,_⟩ C=>by obtain⟨m,h⟩:=ato l C;exact⟨((m,()),()),h⟩) λl=>show Ej.goal (agS l) (l,())fromλN C=>?_
 dsimp only[Ej]at C ⊢;have C:0<l.length:=C;have Y:l.length<=maxLen:=N.1.1;rw[maxLen_eq]at Y;refine⟨λ_=>True,af (λh=>asw) λh=>⟨rfl,trivial⟩,λ_ _=>⟨⟨lu,lu⟩,?_⟩⟩;refine⟨λy=>∃n:Nat,y.1.2.1=n/\1<=n/\n<=l.length/\(∀i,i<n->Sp.lv l i<=y.1.1)/\∃i,i<l.length/\Sp.lv l i=y.1.1,λy=>((l.length:Int)-y.1.2.1).toNat,⟨1,rfl,lu,lu,λi D=>by rw[show i=0 from lu];exact aIe _,0,C,rfl⟩,?_⟩;rintro⟨⟨m,_,⟨⟩⟩,⟨⟩⟩ ⟨n,rfl,n1,n2,h1,h2⟩;dsimp only at h1 h2 ⊢;refine af (λL=>?_) λL=>⟨λx Z=>?_,?_⟩
 .have L:=fG L;have w:IntKind.i64.wrap ((n:Int)+1)=((n+1:Nat):Int):=fU _ lu;rw[w];have e:(l.getD (Int.toNat (n:Int)) (0,())).1=Sp.lv l n:=rfl;rw[e];refine⟨⟨lu,lu⟩,rfl,⟨n+1,rfl,lu,lu,λi D=>?_,?_⟩,lu⟩
  .by_cases hi':i=n
   .subst hi';split<;>omega
   .have:=h1 i lu;split<;>omega
  .split
   .exact⟨n,lu,rfl⟩
   .exact h2
 .have L:=fK L;exact asZ (p:=λz=>z<=m) (λi D=>h1 i lu) x Z
 .obtain⟨i,D,e⟩:=h2;have:=aeA D;rw[e]at this;exact this
theorem aeB:OK BO.e:=by
 refine zn [Ej.e,zI.e] ⟨agR,PE,⟨⟩⟩ H0 (λ⟨d,_⟩ _=>⟨(((1000:Int),()),()),⟨aIe _,λaB a Q i D=>by have:=(Q.2.1 i D).2;have:=(MS a).2;show Sp.lv aB i<=1000;omega⟩⟩) λd=>show BO.goal (aeC d) (d,())fromλN C=>?_
 dsimp only[BO]at C ⊢;refine⟨C,?_⟩;rintro⟨⟨aB,ok,⟨⟩⟩,⟨⟩⟩ ⟨g,T⟩;have g:ok=aH d:=g;have T:ok=true->mW d aB:=T;refine af (λh=>?_) λh=>af (λO=>?_) λO=>⟨?_,?_⟩
 .have h:ok=false:=dD h;exact⟨lZ,λl a=>by rw[← g,h]at a;cases a⟩
 .have O:(aB.length:Int)=0:=abV;have Q:=T (bI h);exact⟨lZ,λl a b i D=>by have:=Q.1;omega⟩
 .have O:¬(aB.length:Int)=0:=abV;show 0<aB.length;omega
 .rintro⟨⟨m,⟨⟩⟩,⟨⟩⟩ ⟨g1,j⟩;have Q:=T (bI h);have Y:=(MS (g▸bI h)).2;have j:(m,())∈aB:=j;refine⟨?_,λl a b i D=>?_⟩
  .obtain⟨i,D,e⟩:=aIf j;have k:i<d.length:=by rw[← Q.1];exact D
   have:=(Q.2.1 i k).2;have o:Sp.lv aB i=m:=by unfold Sp.lv;rw[aHI,aHK D,e];rfl
   show m<=1000;omega
  .rw[aeD b Q];exact g1 _ (aeA (by rw[Q.1];exact D))
theorem aeE:OK BP.e:=by
 refine zn [zJ.e] ⟨PD,⟨⟩⟩ agT (λ⟨d,_⟩ _=>⟨(((1000:Int),()),()),⟨aIe _,λaB o Q i D=>by have:=(Q.2.1 i D).2;have:=(MS o).2;show Sp.lv aB i<=1000;omega⟩⟩) λd=>show BP.goal (aeF d) (d,())fromλN C=>?_
 dsimp only[BP]at C ⊢;refine⟨C,?_⟩;rintro⟨⟨aB,ok,⟨⟩⟩,⟨⟩⟩ ⟨h,T,j⟩;have h:ok=aH d:=h;have T:ok=true->mW d aB:=T;have j:ok=false->aB=[]:=j;have Y:aB.length<=5/\∀i,i<aB.length->Sp.lv aB i<=1000:=by
  cases u:ok with
  |false=>rw[j u];exact⟨lZ,λi D=>by simp at D⟩
  |true=>have Q:=T u;have M:=(MS (h▸u)).2;exact⟨by rw[Q.1];exact M,λi D=>by have:=(Q.2.1 i (by rw[← Q.1];exact D)).2;omega⟩
 refine⟨λy=>∃n:Nat,y.1.2.1=n/\n<=aB.length/\y.1.1<=1000/\∀i,i<n->Sp.lv aB i<=y.1.1,λy=>((aB.length:Int)-y.1.2.1).toNat,⟨0,rfl,lu,lZ,λi D=>lu⟩,?_⟩;rintro⟨⟨m,_,⟨⟩⟩,⟨⟩⟩ ⟨n,rfl,n2,hm,h1⟩;dsimp only at hm h1 ⊢;have e:(aB.getD (Int.toNat (n:Int)) (0,())).1=Sp.lv aB n:=rfl;rw[e];refine af (λL=>?_) λL=>?_
 .have L:=fG L;have w:IntKind.i64.wrap ((n:Int)+1)=((n+1:Nat):Int):=fU _ lu;rw[w];have b:=Y.2 n lu;refine⟨⟨lu,lu⟩,af (λg=>⟨⟨lu,lu⟩,rfl,⟨n+1,rfl,lu,b,λi D=>?_⟩,X3⟩) λg=>⟨rfl,⟨n+1,rfl,lu,hm,λi D=>?_⟩,X3⟩⟩
  .have g:=fG g;by_cases a:i=n
   .subst a;exact aIe _
   .have:=h1 i lu;dsimp only;omega
  .have g:=fK g;by_cases a:i=n
   .subst a;dsimp only;omega
   .exact h1 i lu
 .have L:=fK L;refine⟨hm,λl o k i D=>?_⟩;have Q:=T (h.trans o);rw[aeD k Q];exact h1 i (by rw[← Q.1]at D;omega)
theorem agU:OK Em.e:=by
 refine zn [qw.e,Ae.e,BO.e,pX.e,qZ.e,o9.e,zI.e] ⟨Gm,acy,aeB,J3,SL,EZ,PE,⟨⟩⟩ ajG (λ⟨(a,fs,nx,_),d,r,names,_⟩ _=>by obtain⟨out,h⟩:=WH (fs:=fs) (a:=a) (nx:=nx) (d:=d) r (xW names);exact⟨(((out,0,(aH d&&bg (a,fs,nx,())),()),())),⟨rfl,h⟩⟩) λa fs nx d r names=>show Em.goal (agV a fs nx d r names) ((a,fs,nx,()),d,r,names,())fromλN C=>?_
 dsimp only[Em]at C ⊢;obtain⟨F,W⟩:gK d/\dQ r:=C;refine⟨F,?_⟩;rintro⟨⟨aB,ok0,⟨⟩⟩,⟨⟩⟩ ⟨B,T⟩;have B:ok0=aH d:=B;have T:ok0=true->mW d aB:=T;refine⟨λ_=>ok0=true/\bg (a,fs,nx,())=true,af (λh=>?_) λh=>⟨trivial,af (λO=>?_) λO=>⟨rfl,bI h,bI O⟩⟩,?_⟩
 .have h:ok0=false:=dD h;have w:(aH d&&bg (a,fs,nx,()))=false:=by rw[← B,h];rfl
  exact⟨w.symm,λh=>zH,λ_=>rfl⟩
 .have O:bg (a,fs,nx,())=false:=dD O;have w:(aH d&&bg (a,fs,nx,()))=false:=by rw[O,aH8]
  exact⟨w.symm,λh=>zH,λ_=>rfl⟩
 rintro y3 ⟨u,g⟩;have hs:qp (a,fs,nx,()):=FN g;have J:aH d=true:=B▸u;have w:(aH d&&bg (a,fs,nx,()))=true:=by rw[J,g];rfl
 obtain⟨b,Y⟩:=MS J;have F:xU d:=Iq b;have Q:mW d aB:=T u;have K:=JB g;have K:Sp.distinct fs:=K;have M:fs.length<=1000:=hs.2.1;refine dI (λi(x:List dO)=>(((),i,()),x,())) (λy=>y.1.2.1) (λ_ _=>rfl) d.length lu (λn l=>l=(d.take n).map (DZ r (xW names))) rfl (λI P n l H o next=>?_) λI P l o=>?_
 .subst o;have Q:((d.take n).map (DZ r (xW names))).length<=n:=by rw[aHL,aHP];omega
  have step:=atn (DZ r (xW names)) DD0 d H;dsimp only;refine bT lu ⟨⟨lu,lu⟩,trivial,af (λh=>⟨W,UL,rfl,next _ ?_⟩) λh=>⟨UL,rfl,next _ ?_⟩⟩
  .rw[← step];have h:xW names (d.getD n DD0).1=false:=dD h;unfold DZ;rw[h];rfl
  .rw[← step];have h:xW names (d.getD n DD0).1=true:=bI h;unfold DZ;rw[h];rfl
 subst o;rw[aH4];dsimp only;refine bP lu ⟨λy=>∃k:Nat,y.1.2.1=k/\sD fs d r (xW names) aB k y.2.1,λy=>(1002-y.1.2.1).toNat,⟨0,rfl,XG b Q⟩,?_⟩;rintro⟨⟨ps,_,⟨⟩⟩,out,⟨⟩⟩ ⟨k,rfl,A⟩;dsimp only at A ⊢;refine⟨Wl F,?_⟩;rintro⟨⟨m,⟨⟩⟩,⟨⟩⟩ ⟨m1,S⟩;have m1:m<=1000:=m1;have S:∀i,i<d.length->Sp.lv aB i<=m:=S aB J Q;refine af (λL=>?_) λL=>⟨w.symm,λ_=>Sp.at_end b Q A λi D=>(by have:=S i D;have L:¬(k:Int)<=m:=fK L;omega),λh=>zH⟩;have L:(k:Int)<=m:=fG L;refine⟨λy=>sD fs d r (xW names) aB k y.2.1/\(y.1.2.1=false->∀i,i<d.length->xW names (Sp.nameOf d i)=true->Sp.lv aB i=k->Sp.sel fs (iG d i) (bH y.2.1)=jy y.2.1 i),λy=>Sp.room fs.length y.2.1*2+(if y.1.2.1=true then 1 else 0),⟨A,λh=>zH⟩,?_⟩;rintro⟨⟨ps2,ch,⟨⟩⟩,atp,⟨⟩⟩ ⟨A2,st2⟩;dsimp only at A2 st2 ⊢;have wk:IntKind.i64.wrap ((k:Int)+1)=((k+1:Nat):Int):=fU _ lu;refine af (λe=>?_) λe=>⟨rfl,⟨k+1,wk,Sp.at_next b A2 (st2 e)⟩,by rw[wk];dsimp only;omega⟩;subst e;refine dI (λi(x:Bool×List dO)=>((x.1,i,()),x.2,())) (λy=>y.1.2.1) (λ_ _=>rfl) d.length lu (λi x=>Ti fs d r (xW names) aB k atp i x.1 x.2) (s0:=(false,atp)) ⟨A2,λh=>zH,λ_=>⟨rfl,λj hj=>lu⟩⟩ (λI P i x D o next=>?_) λI P x o=>?_
 .obtain⟨c,t⟩:=x;have z:=o.1;have ol:t.length=d.length:=z.order.1;have R:=ahB z lu M W;dsimp only;rw[aHB];refine bT lu ⟨⟨lu,lu⟩,⟨lu,by rw[Q.1];omega⟩,af (λh=>⟨rfl,next (c,t) (QN o λ_ E=>?_)⟩) λh=>⟨trivial,af (λO=>⟨rfl,next (c,t) (QN o λE=>?_)⟩) λO=>⟨⟨hs,PG F D,R⟩,⟨lu,lu⟩,lu,trivial,af (λU=>⟨⟨lu,lu⟩,lu,rfl,next (true,_) (atq b Q K o D (bI O) ?_ ?_)⟩) λU=>⟨rfl,next (c,t) (QN o λ_ _=>?_)⟩⟩⟩⟩
  .exact(aI0.1 h E).elim
  .have O:xW names (Sp.nameOf d i)=false:=dD O;rw[O]at E;cases E
  .exact aoq h
  .exact fK (dD U)
  .exact fG (bI U)
 .obtain⟨c,t⟩:=x;dsimp only;obtain⟨z,c1,Z⟩:=o;refine bP lu ⟨rfl,⟨z,λL=>still_at (Z L).2⟩,?_⟩;cases c with
  |true=>have:=c1 rfl;dsimp only at this ⊢;simp only[if_true];omega
  |false=>have:=(Z rfl).1;dsimp only at this ⊢;rw[this];simp
theorem ao5:OK KY.e:=by
 refine zn [tV.e,Af.e,BP.e,o8.e,zJ.e] ⟨Hr,acG,aeE,EX,PD,⟨⟩⟩ ari (λ⟨(a,fs,nx,_),d,_⟩ _=>by obtain⟨out,h⟩:=WH (fs:=fs) (a:=a) (nx:=nx) (d:=d) [] (λ_=>true);exact⟨(((out,0,(aH d&&bg (a,fs,nx,())),()),())),⟨rfl,h⟩⟩) λa fs nx d=>show KY.goal (ao6 a fs nx d) ((a,fs,nx,()),d,())fromλN C=>?_
 dsimp only[KY]at C ⊢;have E:gK d:=C;have W:dQ []:=⟨lZ,λx Z=>O6⟩;refine⟨E,?_⟩;rintro⟨⟨aB,ok0,⟨⟩⟩,⟨⟩⟩ ⟨B,T,_⟩;have B:ok0=aH d:=B;have T:ok0=true->mW d aB:=T;refine⟨λ_=>ok0=true/\bg (a,fs,nx,())=true,af (λh=>?_) λh=>⟨trivial,af (λO=>?_) λO=>⟨rfl,bI h,bI O⟩⟩,?_⟩
 .have h:ok0=false:=dD h;have t:(aH d&&bg (a,fs,nx,()))=false:=by rw[← B,h];rfl
  exact⟨t.symm,λh=>zH,λ_=>rfl⟩
 .have O:bg (a,fs,nx,())=false:=dD O;have t:(aH d&&bg (a,fs,nx,()))=false:=by rw[O,aH8]
  exact⟨t.symm,λh=>zH,λ_=>rfl⟩
 rintro y3 ⟨u,g⟩;have hs:qp (a,fs,nx,()):=FN g;have F:aH d=true:=B▸u;have t:(aH d&&bg (a,fs,nx,()))=true:=by rw[F,g];rfl
 obtain⟨b,Y⟩:=MS F;have E:xU d:=Iq b;have Q:mW d aB:=T u;have J:=JB g;have J:Sp.distinct fs:=J;have K:fs.length<=1000:=hs.2.1;refine dI (λi(x:List dO)=>(((),i,()),x,())) (λy=>y.1.2.1) (λ_ _=>rfl) d.length lu (λn l=>l=(d.take n).map (DZ [] (λ_=>true))) rfl (λI P n l H o next=>?_) λI P l o=>?_
 .subst o;have Q:((d.take n).map (DZ [] (λ_=>true))).length<=n:=by rw[aHL,aHP];omega
  have step:=atn (DZ [] (λ_=>true)) DD0 d H;dsimp only;refine bT lu ⟨⟨lu,lu⟩,UL,rfl,next _ ?_⟩;rw[← step];rfl
 subst o;rw[aH4];dsimp only;refine bP lu ⟨λy=>∃k:Nat,y.1.2.1=k/\sD fs d [] (λ_=>true) aB k y.2.1,λy=>(1002-y.1.2.1).toNat,⟨0,rfl,XG b Q⟩,?_⟩;rintro⟨⟨ps,_,⟨⟩⟩,out,⟨⟩⟩ ⟨k,rfl,A⟩;dsimp only at A ⊢;refine⟨Wl E,?_⟩;rintro⟨⟨m,⟨⟩⟩,⟨⟩⟩ ⟨m1,R⟩;have m1:m<=1000:=m1;have R:∀i,i<d.length->Sp.lv aB i<=m:=R aB F Q;refine af (λL=>?_) λL=>⟨t.symm,λ_=>Sp.at_end b Q A λi D=>(by have:=R i D;have L:¬(k:Int)<=m:=fK L;omega),λh=>zH⟩;have L:(k:Int)<=m:=fG L;refine⟨λy=>sD fs d [] (λ_=>true) aB k y.2.1/\(y.1.2.1=false->∀i,i<d.length->true=true->Sp.lv aB i=k->Sp.sel fs (iG d i) (bH y.2.1)=jy y.2.1 i),λy=>Sp.room fs.length y.2.1*2+(if y.1.2.1=true then 1 else 0),⟨A,λh=>zH⟩,?_⟩;rintro⟨⟨ps2,ch,⟨⟩⟩,atp,⟨⟩⟩ ⟨A2,st2⟩;dsimp only at A2 st2 ⊢;have wk:IntKind.i64.wrap ((k:Int)+1)=((k+1:Nat):Int):=fU _ lu;refine af (λe=>?_) λe=>⟨rfl,⟨k+1,wk,Sp.at_next b A2 (st2 e)⟩,by rw[wk];dsimp only;omega⟩;subst e;refine dI (λi(x:Bool×List dO)=>((x.1,i,()),x.2,())) (λy=>y.1.2.1) (λ_ _=>rfl) d.length lu (λi x=>Ti fs d [] (λ_=>true) aB k atp i x.1 x.2) (s0:=(false,atp)) ⟨A2,λh=>zH,λ_=>⟨rfl,λj hj=>lu⟩⟩ (λI P i x D o next=>?_) λI P x o=>?_
 .obtain⟨c,z⟩:=x;have w:=o.1;have ol:z.length=d.length:=w.order.1;have M:=ahB w lu K W;dsimp only;rw[aHB];refine bT lu ⟨⟨lu,by rw[Q.1];omega⟩,af (λh=>⟨rfl,next (c,z) (QN o λ_ h'=>?_)⟩) λh=>⟨⟨lu,lu⟩,⟨hs,PG E D,M⟩,⟨lu,lu⟩,lu,trivial,af (λU=>⟨⟨lu,lu⟩,lu,rfl,next (true,_) (atq b Q J o D rfl ?_ ?_)⟩) λU=>⟨rfl,next (c,z) (QN o λ_ _=>?_)⟩⟩⟩
  .exact(aI0.1 h h').elim
  .exact aoq h
  .exact fK (dD U)
  .exact fG (bI U)
 .obtain⟨c,z⟩:=x;dsimp only;obtain⟨w,c1,S⟩:=o;refine bP lu ⟨rfl,⟨w,λL=>still_at (nm:=λ_=>true) (S L).2⟩,?_⟩;cases c with
  |true=>have:=c1 rfl;dsimp only at this ⊢;simp only[if_true];omega
  |false=>have:=(S rfl).1;dsimp only at this ⊢;rw[this];simp
theorem UM:OK Ai.e:=by
 refine aO [] ⟨⟩ H0 λa b e g h id=>show Ai.goal (ajH a b e g h id) ((a,b,e,g,h,()),(id,()),())fromλN C=>?_
 dsimp only[Ai]at C ⊢;exact rfl
theorem BG:OK jl.e:=by
 refine aO [Ai.e] ⟨UM,⟨⟩⟩ BN λw id=>show jl.goal (BH w id) (w,((id,()),()),())fromλN C=>?_
 dsimp only[jl]at C ⊢;have Y:w.length<=maxLen:=N.1.1;rw[maxLen_eq]at Y;refine dY w.length Y (λn=>∀i,i<n->(Sp.fileAt w i).1≠id) (λi D=>lu) (λI P n H o next=>?_) λI P o=>?_
 .dsimp only;refine bT lu ⟨⟨lu,lu⟩,trivial,af (λh=>?_) λh=>⟨rfl,next λi D=>?_⟩⟩
  .have h:(Sp.fileAt w n).1=id:=fG h;exact congrArg (·,()) (Sp.Us H o h).symm
  .rcases aHU i n with h'|h'
   .exact o i h'
   .have:i=n:=lu;subst this;have h:¬(Sp.fileAt w i).1=id:=fK h;exact h
 .dsimp only;exact bP lu (congrArg (·,()) (ak6 o).symm)
theorem ao7:OK KZ.e:=by
 refine aO [jl.e,Ai.e] ⟨BG,UM,⟨⟩⟩ H0 λa w b id=>show KZ.goal (ao8 a w b id) ((a,w,b,()),id,())fromλN C=>?_
 dsimp only[KZ]at C ⊢;exact⟨trivial,rfl⟩
theorem aaL{i:Nat}(D:i<d.length):xW (rq d) (Sp.nameOf d i)=true:=by rw[atr];unfold rq;rw[aIo];exact⟨dK d i,getD_mem D,rfl⟩
theorem OA:dQ []:=⟨lZ,λx Z=>O6⟩
theorem ayC(h:lF fs d [] (xW (rq d)) out):lF fs d [] (λ_=>true) out:=
 auS h (λi D=>aaL D) λi D H=>absurd ((aaL D).symm.trans H) lZ
theorem UJ:OK Ag.e:=by
 refine zn [Em.e,Gx.e] ⟨agU,ajD,⟨⟩⟩ H0 (λ⟨(a,fs,nx,_),d,_⟩ _=>by obtain⟨out,h⟩:=WH (fs:=fs) (a:=a) (nx:=nx) (d:=d) [] (λ_=>true);exact⟨(((out,(aH d&&bg (a,fs,nx,())),()),())),⟨rfl,h⟩⟩) λa fs nx d=>show Ag.goal (ajI a fs nx d) ((a,fs,nx,()),d,())fromλN C=>?_
 dsimp only[Ag]at C ⊢;have C:gK d:=C;refine⟨C.1,⟨C,OA⟩,λr W=>⟨W.1,λh=>ayC (W.2.1 h),W.2.2⟩⟩
theorem UK:OK Ah.e:=by
 refine zn [KY.e] ⟨ao5,⟨⟩⟩ amy (λ⟨(a,fs,nx,_),d,_⟩ _=>by obtain⟨out,h⟩:=WH (fs:=fs) (a:=a) (nx:=nx) (d:=d) [] (λ_=>true);exact⟨(((out,(aH d&&bg (a,fs,nx,())),()),())),⟨rfl,h⟩⟩) λa fs nx d=>show Ah.goal (ajJ a fs nx d) ((a,fs,nx,()),d,())fromλN C=>?_
 dsimp only[Ah]at C ⊢;exact⟨C,λr W=>W⟩
theorem ayA{a:List bY}(h:(aH d&&bg (a,fs,nx,()))=true)(F:lF fs d [] (λ_=>true) out):ru (a,fs,nx,d,r,())=decide (out=r):=by have e:ru (a,fs,nx,d,r,())=((aH d&&bg (a,fs,nx,()))&&@decide (lF fs d [] (λ_=>true) r) (Classical.propDecidable _)):=rfl;rw[e,h,aIK,aHX,aHM (p:=out=r)];rw[aHy]at h;exact(@decide_eq_true_iff _ (Classical.propDecidable _)).trans ⟨λW=>aeG (lq.1 h.1).1 F W,λe=>e▸F⟩
theorem ayB{a:List bY}(h:(aH d&&bg (a,fs,nx,()))=false):ru (a,fs,nx,d,r,())=false:=by have e:ru (a,fs,nx,d,r,())=((aH d&&bg (a,fs,nx,()))&&@decide (lF fs d [] (λ_=>true) r) (Classical.propDecidable _)):=rfl;rw[e,h,aIO]
def asks(name:Sp.Bytes)(x:aG):Bool:=(amz x.2.1).contains name
theorem UN:OK sW.e:=by
 refine zn [] ⟨⟩ Vq (λ⟨s,_⟩ _=>⟨((s,()),()),rfl⟩) λs=>show sW.goal (UO s) (s,())fromλN C=>?_
 dsimp only[sW]at C ⊢;have C:s.length<=10000000:=C;intro g a;refine af (λh=>?_) λh=>⟨FT,rfl⟩;exact(aH0.1 (a h)).symm
theorem aeH{α:Type}[BEq α][LawfulBEq α]:∀(a b:List α),a.Nodup->(∀x∈a,x∈b)->a.length<=b.length
 |[],_,_,_=>aHV _
 |x::r,b,hn,h=>by
  rw[aKc]at hn;have Z:=h x aHJ;have i:=aeH r (b.erase x) hn.2 λy B=>by
   have g:y≠x:=λe=>by subst e;exact hn.1 B
   rw[List.mem_erase_of_ne g];exact h y (aHC _ B)
  rw[List.length_erase_of_mem Z]at i;have:0<b.length:=List.length_pos_of_mem Z;rw[aHx];omega
def Grown(d:List aG)(names out:Sp.LS):Prop:=∃a,out=names++a/\a.Nodup/\(∀x∈a,x∈rq d)/\∀x∈out,Sp.Reach d (λs=>xW names s=true) x.1
variable {names:Sp.LS}
theorem Grown.len{out:Sp.LS}(h:Grown d names out):out.length<=names.length+d.length:=by obtain⟨a,rfl,E,O,_⟩:=h;have:=aeH a (rq d) E O;unfold rq at this;rw[aHL]at this;rw[aHu];omega
theorem Grown.add{out:Sp.LS}(h:Grown d names out){x:Sp.Bytes×Unit}(E:x∈rq d)(O:x ∉ out)(U:Sp.Reach d (λs=>xW names s=true) x.1):Grown d names (out++[x]):=by
 obtain⟨g,rfl,i,j,k⟩:=h;refine⟨g++[x],by rw[aHO],?_,λy B=>?_,λy B=>?_⟩
 .rw[List.nodup_append];refine⟨i,aKc.2 ⟨vk,List.nodup_nil⟩,λa l b J e=>O ?_⟩;rw[aH9.1 J]at e;exact aH3.2 (.inr (e▸l))
 .rcases aH3.1 B with B|B
  .exact j y B
  .rw[aH9.1 B];exact E
 .rcases aH3.1 B with B|B
  .exact k y B
  .rw[aH9.1 B];exact U
theorem att{i:Nat}(D:i<d.length):(Sp.nameOf d i,())∈rq d:=atr.1 (aaL D)
theorem J4:OK tY.e:=by
 refine aO [qo.e] ⟨KO,⟨⟩⟩ H0 λx b=>show tY.goal (agW x b) (x,(b,()),())fromλN C=>?_
 dsimp only[tY]at C ⊢;exact⟨trivial,rfl⟩
theorem FO:OK jP.e:=by
 refine aO [tY.e] ⟨J4,⟨⟩⟩ Gn λl b=>show jP.goal (FP l b) (l,((b,()),()),())fromλN C=>?_
 dsimp only[jP]at C ⊢;exact ati (K:=λr=>r=(Sp.findAt (λx:Int×Unit=>bQ b x.1) l,())) (λx:Int×Unit=>bQ b x.1) (0,()) l _ N.1.1 rfl
theorem E8:OK jH.e:=by
 refine zn [jP.e,tY.e] ⟨FO,J4,⟨⟩⟩ FQ (λ⟨s,((b,_),_),_⟩ _=>⟨((s.filter (λx=>!bQ b x.1),()),()),rfl⟩) λs b=>show jH.goal (Fa s b) (s,((b,()),()),())fromλN C=>?_
 dsimp only[jH]at C ⊢;exact⟨trivial,aBJ (K:=λr=>r.1.1=s.filter λx=>!bQ b x.1) (λx:Int×Unit=>bQ b x.1) (0,()) s _ (by have C:s.length<=10000000:=C;omega) rfl⟩
theorem Wj:OK tZ.e:=by
 refine zn [jH.e,tY.e,sW.e] ⟨E8,J4,UN,⟨⟩⟩ ao9 (λ⟨a,b,_⟩ _=>⟨((Sp.without a b,()),()),rfl⟩) λa b=>show tZ.goal (amA a b) (a,b,())fromλN C=>?_
 dsimp only[tZ]at C ⊢;have C:a.length<=10000000:=C;refine⟨C,?_⟩;rintro⟨⟨r0,⟨⟩⟩,⟨⟩⟩ e;have e:r0=a:=e;subst e;exact⟨C,λr h=>h⟩
theorem aw8(h:dQ r)(s:Sp.Bytes):(gY r s).length<=1000:=by
 have:∀l:List dO,(∀x∈l,x.2.1.length<=1000)->(gY l s).length<=1000:=by
  intro l
  induction l with
  |nil=>exactλ_=>aHV _
  |cons x t ih=>
   intro Q;rw[gY];cases x.1==s with
   |true=>exact Q x aHJ
   |false=>exact ih λy B=>Q y (aHC _ B)
 exact this r h.2
theorem auT{nm:Sp.Bytes->Bool}(h:lF fs d r nm out)(b:d.length<=1000)(g:fs.length<=1000)(W:dQ r):dQ out:=by
 refine⟨by rw[h.order.1];exact b,λx Z=>?_⟩;obtain⟨i,D,rfl⟩:=aIf Z;have a:i<d.length:=by rw[← h.order.1];exact D
 have e:(out[i]).2.1=jy out i:=by unfold jy uO;rw[aHI,aHK D];rfl
 rw[e];cases H:nm (Sp.nameOf d i)with
 |true=>
  rw[h.fix i a H];unfold Sp.sel;rw[aHL];exact aHw (aIq _ _) g
 |false=>rw[h.kept i a H];exact aw8 W _
theorem avI{l:List (Int×Unit)}{s:Int}{m:Nat}(a:m<=l.length)(E:∀i,i<m->decide ((l.getD i (0,())).1<s)=true)(O:m<l.length->decide ((l.getD m (0,())).1<s)=false):
 Gi l s=bif decide (m<l.length)&&(l.getD m (0,())).1==s then l else l.take m++[(s,())]++l.drop m:=by
 obtain⟨h,_⟩:=OB (d:=((0:Int),())) l m a (p:=λx=>decide (x.1<s)) E O;unfold Gi;rw[h];have:(l.take m).length=m:=aeY;rw[this]
theorem az2(l:List (Int×Unit))(s:Int):(Gi l s).length<=l.length+1:=by
 unfold Gi;dsimp only;generalize (l.takeWhile λx=>decide (x.1<s)).length=n;cases decide (n<l.length)&&(l.getD n (0,())).1==s with
 |true=>exact Nat.le_succ _
 |false=>show(l.take n++[(s,())]++l.drop n).length<=_;simp only[aHu,aHP,aH7,aHx,aHG];omega
theorem ajK:OK Gy.e:=by
 refine aO [] ⟨⟩ amB λl s=>show Gy.goal (ajL l s) (l,s,())fromλN C=>?_
 dsimp only[Gy]at C ⊢;have C:l.length<=10000000:=C;have fin:∀m:Nat,m<=l.length->Gi l s=l.take m++[(s,())]++l.drop m->((0:Int)<=m/\(m:Int)<=l.length)/\0+(List.drop 0 (List.take m l)).length<=big/\(List.drop 0 (List.take m l)).length+[(s,())].length<=big/\((0:Int)<=m/\(m:Int)<=l.length)/\
  (List.drop 0 (List.take m l)++[(s,())]).length+(List.drop m (List.take l.length l)).length<=big/\(List.drop 0 (List.take m l)++[(s,())]++List.drop m (List.take l.length l),())=(Gi l s,()):=by
  intro m a h;refine⟨⟨lu,lu⟩,?_,?_,⟨lu,lu⟩,?_,?_⟩
  .rw[dJ];simp only[aH7,aHP];omega
  .rw[dJ];simp only[aH7,aHP,aHx,aHG];omega
  .rw[dJ];simp only[aHu,aH7,aHP,aHx,aHG];omega
  .rw[h,aH4,List.drop_zero]
 refine dY l.length lu (λn=>∀i,i<n->decide ((l.getD i (0,())).1<s)=true) (λi D=>lu) (λI P n H o next=>?_) λI P o=>?_
 .dsimp only;refine bT lu ⟨⟨lu,lu⟩,af (λh=>⟨rfl,next (bV (f:=λi=>decide ((l.getD i (0,())).1<s)) o h)⟩) λh=>bT lu ⟨⟨lu,lu⟩,?_⟩⟩;have e:=avI (aJz H) o λ_=>h;rw[aHF H,aIK]at e;refine af (λO=>?_) λO=>fin n (aJz H) ?_
  .rw[show((l.getD n (0,())).1==s)=true from O]at e;rw[e];rfl
  .rw[show((l.getD n (0,())).1==s)=false from O]at e;exact e
 .dsimp only;refine bP lu (bP lu (fin l.length (aHv _) ?_));have e:=avI (aHv _) o λh=>lu;rw[aHD lu]at e;exact e
theorem JC(l z:List (Int×Unit)):(qN l z).length<=l.length+z.length:=by
 induction z generalizing l with
 |nil=>exact aHv _
 |cons x r ih=>have:=ih (Gi l x.1);have:=az2 l x.1;show(qN (Gi l x.1) r).length<=_;rw[aHx];omega
theorem amC(l z:List (Int×Unit))(x:Int×Unit):qN l (z++[x])=Gi (qN l z) x.1:=by unfold qN;rw[aJ1];rfl
theorem Xu:OK vC.e:=by
 refine aO [Gy.e,oP.e] ⟨ajK,Iy,⟨⟩⟩ Y0 λl e x y=>show vC.goal (XI l e x y) (l,(e,x,y,()),())fromλN C=>?_
 dsimp only[vC]at C ⊢;have E:l.length+x.length<=8000000:=C;refine dI (λi(z:List (Int×Unit))=>((z,i,()),())) (λy=>y.1.2.1) (λ_ _=>rfl) l.length lu (λn z=>z=qN [] ((l.take n).filter λz=>!bQ y z.1)) rfl (λI P n z H o next=>?_) λI P z o=>?_
 .subst o;have Q:(qN [] ((l.take n).filter λz=>!bQ y z.1)).length<=n:=by have a:=JC [] ((l.take n).filter λz=>!bQ y z.1);have b:=aIq (λz:Int×Unit=>!bQ y z.1) (l.take n);rw[aHP]at b;rw[aHG]at a;omega
  have step:=ahC (λz:Int×Unit=>!bQ y z.1) (0,()) l H;dsimp only;refine bT lu ⟨⟨lu,lu⟩,trivial,af (λh=>⟨⟨lu,lu⟩,lu,rfl,next _ ?_⟩) λh=>⟨rfl,next _ ?_⟩⟩
  .have h:(!bQ y (l.getD n (0,())).1)=true:=h;rw[step,h];exact(amC _ _ _).symm
  .have h:(!bQ y (l.getD n (0,())).1)=false:=h;rw[step,h];simp
 .subst o;rw[aH4];dsimp only;have Q:(qN [] (l.filter λz=>!bQ y z.1)).length<=l.length:=by have a:=JC [] (l.filter λz=>!bQ y z.1);have b:=aIq (λz:Int×Unit=>!bQ y z.1) l;rw[aHG]at a;omega
  refine bP lu (dI (λi(z:List (Int×Unit))=>((z,i,()),())) (λy=>y.1.2.1) (λ_ _=>rfl) x.length lu (λn z=>z=qN (qN [] (l.filter λz=>!bQ y z.1)) (x.take n)) rfl (λI P n z H o next=>?_) λI P z o=>?_)
  .subst o;have a:=JC (qN [] (l.filter λz=>!bQ y z.1)) (x.take n);rw[aHP]at a;dsimp only;refine bT lu ⟨⟨lu,lu⟩,lu,rfl,next _ ?_⟩;rw[Sp.take_succ' x n (0,()) H,amC];rfl
  .subst o;rw[aH4];have a:=JC (qN [] (l.filter λz=>!bQ y z.1)) x;dsimp only;exact bP lu ⟨FT,rfl⟩
theorem ath(l x y:List (Int×Unit)):(rC l x y).length<=l.length+x.length:=by have a:=JC (qN [] (l.filter λz=>!bQ y z.1)) x;have b:=JC [] (l.filter λz=>!bQ y z.1);have c:=aIq (λz:Int×Unit=>!bQ y z.1) l;rw[aHG]at b;show(qN (qN [] _) x).length<=_;omega
def aw9(l:Sp.LS):Prop:=l.Pairwise λx y=>Op.bytesLess x.1 y.1=true
theorem ayD{x:Sp.Bytes×Unit}{r:Sp.LS}:LU (x::r) s=if Op.bytesLess x.1 s=true then x::LU r s else if x.1=s then x::r else(s,())::x::r:=by
 unfold LU;by_cases h:Op.bytesLess x.1 s=true
 .rw[if_pos h,List.takeWhile_cons_of_pos (p:=λx:Sp.Bytes×Unit=>Op.bytesLess x.1 s) h];dsimp only;rw[aHx];cases L:(decide ((r.takeWhile λx=>Op.bytesLess x.1 s).length<r.length)&&(r.getD (r.takeWhile λx=>Op.bytesLess x.1 s).length ([],())).1==s)with
  |true=>
   have:(decide ((r.takeWhile λx=>Op.bytesLess x.1 s).length+1<(x::r).length)&&((x::r).getD ((r.takeWhile λx=>Op.bytesLess x.1 s).length+1) ([],())).1==s)=true:=by rw[← L,aHx];simp[aJS]
   rw[this];rfl
  |false=>
   have:(decide ((r.takeWhile λx=>Op.bytesLess x.1 s).length+1<(x::r).length)&&((x::r).getD ((r.takeWhile λx=>Op.bytesLess x.1 s).length+1) ([],())).1==s)=false:=by rw[← L,aHx];simp[aJS]
   rw[this];rfl
 .rw[if_neg h,List.takeWhile_cons_of_neg (p:=λx:Sp.Bytes×Unit=>Op.bytesLess x.1 s) h];by_cases e:x.1=s
  .rw[if_pos e];simp[e]
  .rw[if_neg e];simp[aHt.2 e]
theorem atu{s:Sp.Bytes}:∀{l:Sp.LS},aw9 l->aw9 (LU l s)
 |[],_=>aJD _ _
 |y::r,h=>by
  obtain⟨E,O⟩:=aIl.1 h;have i:=atu (s:=s) O;rw[ayD];by_cases b:Op.bytesLess y.1 s=true
  .rw[if_pos b];refine aIl.2 ⟨λz a=>?_,i⟩;rcases(UQ z).1 a with rfl|a
   .exact b
   .exact E z a
  .rw[if_neg b];by_cases e:y.1=s
   .rw[if_pos e];exact h
   .rw[if_neg e];have g:Op.bytesLess s y.1=true:=amD y.1 s amW e;refine aIl.2 ⟨λz a=>?_,h⟩;rcases aHH.1 a with rfl|a
    .exact g
    .exact JD _ _ _ g (E z a)
theorem aBK{l b:Sp.LS}(h:aw9 l)(i:∀x∈l,x∈b):l.length<=b.length:=by
 have H:l.Nodup:=by unfold List.Nodup;exact List.Pairwise.imp (λ{a b} g e=>Y3 g (congrArg Prod.fst e)) h
 exact aeH l b H i
structure Rd(d:List aG)(names out:Sp.LS):Prop where
 asc:aw9 out
 base:∀x∈names,x∈out
 reach:∀x∈out,Sp.Reach d (λs=>xW names s=true) x.1
 sub:∀x∈out,x∈names++rq d
theorem Rd.len{out:Sp.LS}(h:Rd d names out):out.length<=names.length+d.length:=by
 have:=aBK h.asc h.sub;rw[aHu]at this;have e:(rq d).length=d.length:=by unfold rq;rw[aHL]
 omega
theorem Rd.put{out:Sp.LS}(h:Rd d names out){i:Nat}(D:i<d.length)(b:(s,())∈out)(a:s∈amz (iG d i)):Rd d names (LU out (Sp.nameOf d i)) where
 asc:=atu h.asc
 base:=λx Z=>(UQ x).2 (.inr (h.base x Z))
 reach:=λx Z=>by
  rcases(UQ x).1 Z with rfl|Z
  .exact .step (h.reach _ b) D a
  .exact h.reach x Z
 sub:=λx Z=>by
  rcases(UQ x).1 Z with rfl|Z
  .exact aH3.2 (.inr (att D))
  .exact h.sub x Z
def shut(d:List aG)(out:Sp.LS):Prop:=∀i,i<d.length->∀s∈amz (iG d i),(s,())∈out->(Sp.nameOf d i,())∈out
theorem stays{c:nV}{s:dV}{b:Bool}(J:b=false){z:nV}(e:z=c):Sp.became c s d b z [] false:=⟨J.symm,λh=>zH,λ_=>⟨e,rfl⟩⟩
end Go.Proofs.Tryz
namespace Go.Proofs.Tryz
open Go Go.Fw Go.IntWalk
theorem amE:OK IW.e:=by
 refine aO [gX.e] ⟨jd,⟨⟩⟩ H0 λd a b e f u=>show IW.goal (amF d a b e f u) ((d,a,b,e,f,()),u,())fromλN C=>?_
 dsimp only[IW]at C ⊢;refine⟨trivial,af (λh=>af (λO=>?_) λO=>?_) λh=>?_⟩
 all_goals refine congrArg (·,()) ?_
 .show _=((decide (0<=u)&&decide (u<=2))&&(decide (a=u)||b));rw[h,show decide (a=u)=true from O];rfl
 .show _=((decide (0<=u)&&decide (u<=2))&&(decide (a=u)||b));rw[h,show decide (a=u)=false from O];rfl
 .show _=((decide (0<=u)&&decide (u<=2))&&(decide (a=u)||b));rw[h];rfl
theorem amG:OK IX.e:=by
 refine aO [vP.e] ⟨Jv,⟨⟩⟩ H0 λd a b e f u=>show IX.goal (amH d a b e f u) ((d,a,b,e,f,()),u,())fromλN C=>?_
 dsimp only[IX]at C ⊢;refine⟨trivial,af (λh=>af (λO=>?_) λO=>?_) λh=>?_⟩
 all_goals refine congrArg (·,()) ?_
 .show _=((decide (0<=u)&&decide (u<=2))&&(decide (a=u)||b));rw[h,show decide (a=u)=true from O];rfl
 .show _=((decide (0<=u)&&decide (u<=2))&&(decide (a=u)||b));rw[h,show decide (a=u)=false from O];rfl
 .show _=((decide (0<=u)&&decide (u<=2))&&(decide (a=u)||b));rw[h];rfl
end Go.Proofs.Tryz
namespace Go.Proofs.Tryz
open Go Go.Fw Go.IntWalk Sp
variable {u:Int}{s:dV}{d:List aG}
theorem made{c z:nV}{x:mr}{b e:Bool}{a:List aaM}(f:rX u=true)(L:ru c=true)(E:avJ c x=s)(O:ayE c x=d)(U:aBa c u x=b)(h:Sp.became c s d b z a e):Sp.applied c u x z a e:=by unfold Sp.applied aCR;rw[E,O,U,f,L];exact h
theorem aaN:OK yO.e:=by
 refine aO [Gs.e,CY.e,IW.e] ⟨aiH,V6,amE,⟨⟩⟩ acK λb w e u=>show yO.goal (aaO b w e u) ((b,w,e,()),u,())fromλN C=>?_
 dsimp only[yO]at C ⊢;obtain⟨S,E,O⟩:b.length<=1000/\w.length<=1000/\∀f∈w,amI f:=C;refine⟨FT,?_⟩;refine dI (λi(x:List aF)=>((i,()),((),(),e,()),x,())) (λy=>y.1.1) (λ_ _=>rfl) w.length lu (λn l=>l=(w.take n).filter (kK · u)) vk (λI P n l H o next=>?_) λI P l o=>?_
 .subst o;have Q:=V7 w (kK · u) n;dsimp only;refine bT lu ⟨⟨lu,lu⟩,trivial,af (λh=>⟨⟨lu,lu⟩,aaP (O _ (getD_mem (d:=((0:Int),(0:Int),false,(0:Int),[],())) H)),UL,rfl,next _ ?_⟩) λh=>⟨rfl,next _ ?_⟩⟩
  .rw[Qc _ H,if_pos (show kK (Sp.fileAt w n) u=true from h)];rfl
  .rw[Qc _ H,if_neg (show ¬kK (Sp.fileAt w n) u=true fromλj=>by have h:kK (Sp.fileAt w n) u=false:=h;rw[h]at j;cases j),aH1]
 .rw[aH4]at o;subst o;dsimp only;have Q:=aIq (kK · u) w;refine bP lu ?_;generalize g:List.filter (λx=>kK x u) w=a at Q ⊢;refine dI (λi(x:List aF)=>((i,()),x,())) (λy=>y.1.1) (λ_ _=>rfl) a.length lu (λn l=>l=kD a n) (by simp[kD]) (λI P n l H o next=>?_) λI P l o=>?_
  .subst o;have k:=Ip a (show n<=a.length from lu);have m:=Xm a H;dsimp only;simp only[aHB,m,k];refine bT lu ⟨⟨lu,lu⟩,H,trivial,af (λh=>⟨⟨lu,lu⟩,H,trivial,next _ ?_⟩) λh=>⟨rfl,next _ ?_⟩⟩
   .exact((LJ a H).1 (fG h)).symm
   .exact((LJ a H).2 (fK h)).symm
  .subst o;have k:=Ip a (aHv a.length);dsimp only;refine bP lu ?_;show _=(Sp.visible (b,w,e,()) u,());unfold Sp.visible;rw[adT,← g]
theorem aaQ:OK yP.e:=by
 refine aO [KZ.e,zU.e,IX.e,mV.e] ⟨ao7,Ur,amG,FK,⟨⟩⟩ acL λb w e u=>show yP.goal (aaR b w e u) ((b,w,e,()),u,())fromλN C=>?_
 dsimp only[yP]at C ⊢;obtain⟨S,E,O⟩:b.length<=1000/\w.length<=1000/\∀f∈w,amI f:=C;refine⟨aHw S lZ,?_⟩;refine dI (λi(x:List aF)=>((i,()),(b,(),e,()),x,())) (λy=>y.1.1) (λ_ _=>rfl) w.length lu (λn l=>l=(w.take n).filter (kK · u)) vk (λI P n l H o next=>?_) λI P l o=>?_
 .subst o;have Q:=V7 w (kK · u) n;dsimp only;refine bT lu ⟨⟨lu,lu⟩,trivial,af (λh=>⟨aaP (O _ (getD_mem (d:=((0:Int),(0:Int),false,(0:Int),[],())) H)),UL,rfl,next _ ?_⟩) λh=>⟨rfl,next _ ?_⟩⟩
  .rw[Qc _ H,if_pos (show kK (Sp.fileAt w n) u=true from h)];rfl
  .rw[Qc _ H,if_neg (show ¬kK (Sp.fileAt w n) u=true fromλj=>by have h:kK (Sp.fileAt w n) u=false:=h;rw[h]at j;cases j),aH1]
 .rw[aH4]at o;subst o;dsimp only;have Q:=aIq (kK · u) w;refine bP lu ?_;generalize g:List.filter (λx=>kK x u) w=a at Q ⊢;refine dI (λi(x:List aF)=>((i,()),x,())) (λy=>y.1.1) (λ_ _=>rfl) a.length lu (λn l=>l=kD a n) (by simp[kD]) (λI P n l H o next=>?_) λI P l o=>?_
  .subst o;have k:=Ip a (show n<=a.length from lu);have m:=Xm a H;dsimp only;simp only[aHB,m,k];refine bT lu ⟨⟨lu,lu⟩,H,trivial,af (λh=>⟨⟨lu,lu⟩,H,trivial,next _ ?_⟩) λh=>⟨rfl,next _ ?_⟩⟩
   .exact((LJ a H).1 (fG h)).symm
   .exact((LJ a H).2 (fK h)).symm
  .subst o;have k:=Ip a (aHv a.length);dsimp only;refine bP lu ?_;show _=(Sp.visible (b,w,e,()) u,());unfold Sp.visible;rw[adT,← g]
theorem aeK(h:avK s d u):lN s d u=(KQ (Sp.visible s u).2.1 d,true):=by unfold lN;rw[h.1,h.2.1,h.2.2];rfl
theorem xG(h:bg s=false\/aH d=false\/rX u=false):lN s d u=([],false):=by
 unfold lN;have:(bg s&&(aH d&&rX u))=false:=by rcases h with h|h|h<;>rw[h]<;>simp
 rw[this];rfl
theorem aeL(E:bg s=true)(O:rX u=true){out:List dO}{a:Bool}(b:a=(aH d&&bg (Sp.visible s u)))(r:a=true->lF (Sp.visible s u).2.1 d [] (λ_=>true) out)(q:a=false->out=[]):out=(lN s d u).1/\a=(lN s d u).2:=by
 rw[amJ u E,aIV]at b;cases a with
 |true=>rw[aeK ⟨E,b.symm,O⟩];exact⟨(ayF (aaS b.symm) (r rfl)).symm,rfl⟩
 |false=>rw[xG (.inr (.inl b.symm))];exact⟨q rfl,rfl⟩
theorem Vr:OK uF.e:=by
 refine zn [Ag.e,yP.e,vP.e,o9.e] ⟨UJ,aaQ,Jv,EZ,⟨⟩⟩ H0 (λ⟨s,d,u,_⟩ _=>⟨(((lN s d u).1,(lN s d u).2,()),()),⟨rfl,rfl⟩⟩) λa w b d u=>show uF.goal (Vs a w b d u) ((a,w,b,()),d,u,())fromλN C=>?_
 dsimp only[uF]at C ⊢;have e:gK d:=C;have X:bg (a,w,b,())=true->qp (a,w,b,()):=FN;refine⟨trivial,af (λh=>?_) λh=>⟨trivial,af (λO=>?_) λO=>⟨X (bI h),e,λr W=>?_⟩⟩⟩
 .dsimp only;rw[xG (.inl (dD h))];exact⟨rfl,rfl⟩
 .dsimp only;rw[xG (.inr (.inr (dD O)))];exact⟨rfl,rfl⟩
 .exact aeL (bI h) (bI O) W.1 W.2.1 W.2.2
theorem Vt:OK uG.e:=by
 refine zn [Ah.e,yO.e,o8.e,gX.e] ⟨UK,aaN,EX,jd,⟨⟩⟩ H0 (λ⟨s,d,u,_⟩ _=>⟨(((lN s d u).1,(lN s d u).2,()),()),⟨rfl,rfl⟩⟩) λa w b d u=>show uG.goal (Vu a w b d u) ((a,w,b,()),d,u,())fromλN C=>?_
 dsimp only[uG]at C ⊢;have e:gK d:=C;have X:bg (a,w,b,())=true->qp (a,w,b,()):=FN;refine⟨trivial,af (λh=>?_) λh=>⟨trivial,af (λO=>?_) λO=>⟨X (bI O),e,λr W=>?_⟩⟩⟩
 .dsimp only;rw[xG (.inr (.inr (dD h)))];exact⟨rfl,rfl⟩
 .dsimp only;rw[xG (.inl (dD O))];exact⟨rfl,rfl⟩
 .exact aeL (bI O) (bI h) W.1 W.2.1 W.2.2
theorem axa(X:qp s)(a:xU d)(q:avK s d u):dQ (KQ (Sp.visible s u).2.1 d):=
 auT (ayG (amJ u q.1) q.2.1) a.1 (arj u X).2.1 OA
theorem ark(X:qp s)(a:xU d):dQ (lN s d u).1:=by
 cases E:bg s with
 |false=>rw[xG (.inl E)];exact OA
 |true=>cases O:aH d with
  |false=>rw[xG (.inr (.inl O))];exact OA
  |true=>cases U:rX u with
   |false=>rw[xG (.inr (.inr U))];exact OA
   |true=>rw[aeK ⟨E,O,U⟩];exact axa X a ⟨E,O,U⟩
theorem ahD:dQ (lN s d u).1:=by
 cases h:bg s&&(aH d&&rX u)with
 |false=>
  unfold lN;rw[h];exact⟨aHV _,λx Z=>O6⟩
 |true=>simp only[aHy]at h;exact ark (FN h.1) (Iq (aaS h.2.1))
theorem aln:OK IY.e:=by
 refine aO [pX.e,uF.e] ⟨J3,Vr,⟨⟩⟩ H0 λb w e d u a=>show IY.goal (amK b w e d u a) ((b,w,e,()),d,u,a,())fromλN C=>?_
 dsimp only[IY]at C ⊢;have f:gK d:=C;refine⟨f,λr W=>?_⟩;dsimp only;rw[W.1];exact⟨ahD,rfl⟩
theorem alp:OK IZ.e:=by
 refine aO [tX.e,uG.e] ⟨RH,Vt,⟨⟩⟩ H0 λb w e d u a=>show IZ.goal (amL b w e d u a) ((b,w,e,()),d,u,a,())fromλN C=>?_
 dsimp only[IZ]at C ⊢;have f:gK d:=C;refine⟨f,λr W=>?_⟩;dsimp only;rw[W.1];exact⟨ahD,rfl⟩
theorem ayx(h:gK d){n:Nat}(H:n<d.length):(d.getD n ([],[],())).2.1.length<=2000000:=h.2 _ (getD_mem H)
theorem agI:OK Eh.e:=by
 refine zn [zU.e] ⟨Ur,⟨⟩⟩ ajt (λ⟨l,_⟩ _=>⟨((l,()),()),rfl⟩) λl=>show Eh.goal (agJ l) (l,())fromλN C=>?_
 dsimp only[Eh]at C ⊢;obtain⟨E,O⟩:l.length<=2000000/\∀f∈l,Pe f:=C;refine dI (λi(x:List aF)=>(((),i,()),x,())) (λy=>y.1.2.1) (λ_ _=>rfl) l.length lu (λn x=>x=l.take n) vk (λI P n x H o next=>?_) λI P x o=>?_
 .subst o;have Q:(l.take n).length<=n:=aeY;dsimp only;refine bT lu ⟨⟨lu,lu⟩,O _ (getD_mem (d:=((0:Int),(0:Int),false,(0:Int),[],())) H),UL,rfl,next _ ?_⟩;exact(Sp.take_succ' l n (0,0,false,0,[],()) H).symm
 .subst o;dsimp only;refine bP lu ?_;show List.take l.length l=l;rw[aH4]
theorem agh:OK Ei.e:=by
 refine zn [Eh.e,mV.e] ⟨agI,FK,⟨⟩⟩ aju (λ⟨(a,l,h,_),_⟩ _=>⟨(((a,l,h,()),()),()),rfl⟩) λb w g=>show Ei.goal (agK b w g) ((b,w,g,()),())fromλN C=>?_
 dsimp only[Ei]at C ⊢;obtain⟨S,E,O⟩:b.length<=2000000/\w.length<=2000000/\∀f∈w,Pe f:=C;refine⟨aHw S lZ,⟨E,O⟩,?_⟩;rintro⟨⟨x,⟨⟩⟩,⟨⟩⟩ e;have e:x=w:=e;subst e;exact rfl
theorem amc:OK IK.e:=by
 refine zn [CY.e] ⟨V6,⟨⟩⟩ ao0 (λ⟨(a,l,g,_),_⟩ _=>⟨(((a,l,g,()),()),()),rfl⟩) λb w e=>show IK.goal (amd b w e) ((b,w,e,()),())fromλN C=>?_
 dsimp only[IK]at C ⊢;obtain⟨S,E,O⟩:b.length<=2000000/\w.length<=2000000/\∀f∈w,Pe f:=C;refine⟨FT,?_⟩;refine dI (λi(x:List aF)=>((i,()),((),(),e,()),x,())) (λy=>y.1.1) (λ_ _=>rfl) w.length lu (λn l=>l=w.take n) vk (λI P n l H o next=>?_) λI P l o=>?_
 .subst o;have Q:(w.take n).length<=n:=aeY;dsimp only;refine bT lu ⟨⟨lu,lu⟩,O _ (getD_mem (d:=((0:Int),(0:Int),false,(0:Int),[],())) H),UL,rfl,next _ ?_⟩;exact(Sp.take_succ' w n (0,0,false,0,[],()) H).symm
 .subst o;dsimp only;refine bP lu ?_;rw[aH4]
theorem SI:OK qY.e:=by
 refine aO [] ⟨⟩ UE λs=>show qY.goal (SK s) (s,())fromλN C=>?_
 dsimp only[qY]at C ⊢;have C:s.length<=10000000:=C;refineλg a=>af (λh=>?_) λh=>⟨FT,rfl⟩;have:=a h;rw[List.eq_nil_of_length_eq_zero this]
theorem ame:OK IL.e:=by
 refine aO [qY.e] ⟨SI,⟨⟩⟩ ao1 λk t=>show IL.goal (amf k t) ((k,t,()),())fromλN C=>?_
 dsimp only[IL]at C ⊢;exact⟨C,rfl⟩
theorem aiT:OK Gv.e:=by
 refine aO [IL.e] ⟨ame,⟨⟩⟩ amg λd=>show Gv.goal (ajv d) (d,())fromλN C=>?_
 dsimp only[Gv]at C ⊢;have C:gK d:=C;have Y:d.length<=2000000:=C.1;refine dI (λi(x:List aG)=>(((),i,()),x,())) (λy=>y.1.2.1) (λ_ _=>rfl) d.length lu (λn l=>l=d.take n) vk (λI P n l H o next=>?_) λI P l o=>?_
 .subst o;have Q:(d.take n).length<=n:=aeY;dsimp only;refine bT lu ⟨⟨lu,lu⟩,aHw (ayx C H) lZ,UL,rfl,next _ ?_⟩;exact(Sp.take_succ' d n ([],[],()) H).symm
 .subst o;dsimp only;refine bP lu ?_;rw[aH4]
theorem amh:OK IQ.e:=by
 refine aO [] ⟨⟩ ao2 λd=>show IQ.goal (ami d) (d,())fromλN C=>?_
 dsimp only[IQ]at C ⊢;have C:gK d:=C;have Y:d.length<=2000000:=C.1;refine dI (λi(x:List aG)=>(((),i,()),x,())) (λy=>y.1.2.1) (λ_ _=>rfl) d.length lu (λn l=>l=d.take n) vk (λI P n l H o next=>?_) λI P l o=>?_
 .subst o;have Q:(d.take n).length<=n:=aeY;dsimp only;refine bT lu ⟨⟨lu,lu⟩,⟨lu,lu⟩,by rw[dJ];have:=ayx C H;show 0+(d.getD n ([],[],())).2.1.length<=_;omega,UL,rfl,next _ ?_⟩;exact(Sp.take_succ' d n ([],[],()) H).symm
 .subst o;dsimp only;refine bP lu ?_;rw[aH4]
theorem aiU:OK Gw.e:=by
 refine zn [IQ.e,IK.e] ⟨amh,amc,⟨⟩⟩ H0 (λ⟨(a,l,b,d,_),_⟩ _=>⟨(((a,l,b,d,()),()),()),rfl⟩) λk t f g=>show Gw.goal (ajw k t f g) ((k,t,f,g,()),())fromλN C=>?_
 dsimp only[Gw]at C ⊢;refine⟨C.1,?_⟩;rintro⟨⟨⟨a,l,b,⟨⟩⟩,⟨⟩⟩,⟨⟩⟩ e;obtain⟨rfl,rfl,rfl⟩:a=k/\l=t/\b=f:=by simpa using e
 exact⟨C.2,rfl⟩
theorem avF{v:List nS}(h:Zr v){n:Nat}(H:n<v.length):C9 (uw (fM v n)):=h.2 _ (getD_mem (d:=V0) H)
end Go.Proofs.Tryz
