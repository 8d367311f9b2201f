import Derived.Test.YtdmilcleobbphaaGreatP1
import Derived.Test.YtdmilcleobbphaaGreatSp
import Derived.Test.YtdmilcleobbphaaGreatV3
import Derived.Test.YtdmilcleobbphaaGreatV4
import Derived.Test.YtdmilcleobbphaaGreatV6
import Derived.Test.YtdmilcleobbphaaGreatV7
import Derived.Test.YtdmilcleobbphaaGreatV5
import Derived.Test.YtdmilcleobbphaaGreatV8
namespace Go.Proofs.Tryz
open Go Go.Fw Go.IntWalk Sp
variable {d:List aH}
theorem aiJ{aS r:List (Int×Unit)}(h:Sp.raised d aS r)(l:∀i,i<d.length->0<=Sp.lv aS i)(J:kN (fO d) λi=>(Sp.lv aS i).toNat):∀i,i<d.length->Sp.lv r i=Sp.lv aS i:=by
 obtain⟨_,O,_,_,a⟩:=h
 grind [Sp.lv]
theorem azU{aS r:List (Int×Unit)}(h:Sp.raised d aS r)(J:¬kN (fO d) λi=>(Sp.lv aS i).toNat):∃i,i<d.length/\Sp.lv aS i<Sp.lv r i:=by
 obtain⟨_,O,_,x,_⟩:=h
 grind [Sp.lv]
theorem awT(C:dK d=true){L:Nat->Nat}(O:kN (fO d) L):aA d=true:=jH.2 ⟨C,L,O⟩
theorem azV(h:∀M,kN (fO d) M->(∀i,i<d.length->M i<d.length)->False):aA d=false:=by
 grind [jH,Td,rV]
theorem awU(h:dK d=false):aA d=false:=by
 grind [jH]
theorem acV(n i:Nat):Sp.lv (List.replicate n (0,())) i=0:=by
 grind [Sp.lv]
theorem Y7(h:aA d=true):∃s,nU d s:=by
 simp_all [jH,arb,Td,rV]
theorem ard:∃s:List (Int×Unit),(aA d=true->nU d s)/\(aA d=false->s=[]):=by
 cases h:aA d with
 |true=>simp_all [Y7]
 |false=>grind
theorem NG:OK D8.e:=by
 refine eP [uP.e,zL.e,uO.e] ⟨Ai,aoC,Kz,⟨⟩⟩ axX (λ⟨d,_⟩ J=>by obtain⟨s,C,O⟩:=ard (d:=d);exact⟨(((s,aA d,()),())),⟨rfl,C,O⟩⟩) λd=>show D8.goal (auR d) (d,())fromλB J=>?_
 refine⟨J,af (λh=>⟨(awU (kJ h)).symm,λh=>o5,λ_=>rfl⟩) λh=>?_⟩;have t:=dN h;have L:=aeK t;refine⟨⟨fC,fC,o6⟩,?_⟩;have K:d.length*d.length<=25:=aSP L L;have w:IntKind.i64.wrap (IntKind.i64.wrap ((d.length:Int)*(d.length:Int))+1)=((d.length*d.length:Nat):Int)+1:=by
  grind [eH]
 have m:∀f:List (Int×Unit),f.length=d.length->∀k:Nat,k<=27->(∀i,i<d.length->0<=Sp.lv f i/\Sp.lv f i<=5000*k)->∀x∈f,0<=x.1/\x.1<=1000000:=λf W k H h=>
  azW (p:=λz=>0<=z/\z<=1000000) λi D=>jv
 refine bQ (λi(x:List (Int×Unit))=>((x,i,()),())) (λy=>y.1.2.1) (λ_ _=>rfl) (d.length*d.length+2) fC
  (λk f=>f.length=d.length/\(∀i,i<d.length->0<=Sp.lv f i/\Sp.lv f i<=5000*k)/\(∀M,kN (fO d) M->∀i,i<d.length->Sp.lv f i<=M i)/\((kN (fO d) λi=>(Sp.lv f i).toNat)\/(k:Int)<=Ja f d.length))
  ⟨ni,λi D=>agz,λM q i D=>agz,.inr (aiK _ λi D=>agz)⟩ (λI P k f H E next=>?_) λI P f E=>?_
 .obtain⟨g1,g2,g3,o⟩:=E;dsimp only;refine dH fC ⟨⟨J,L,g1,m f g1 k fC g2⟩,?_⟩;rintro⟨⟨r,⟨⟩⟩,⟨⟩⟩ hr;have u:=hr;obtain⟨N,Q,R,X,S⟩:=u;have A:∀i,i<d.length->Sp.lv f i<=Sp.lv r i:=Q;refine⟨rfl,next r ⟨N,λi D=>?_,λM q i D=>S M q (g3 M q) i D,?_⟩⟩
  .have b:=R (5000*k) (λj F=>(g2 j F).2) i D
   grind [Sp.lv]
  .by_cases l:kN (fO d) λi=>(Sp.lv f i).toNat
   .left;have Y:=aiJ hr (λi D=>(g2 i D).1) l;intro e g;have:=l e g;obtain⟨a,b,_⟩:=rV d e g
    grind
   .right;have T:=aoD d.length A (azU hr l)
    grind
 .obtain⟨g1,g2,g3,o⟩:=E;dsimp only;refine gU fC ⟨⟨J,L,g1,m f g1 _ fC g2⟩,?_⟩;rintro⟨⟨r,⟨⟩⟩,⟨⟩⟩ hr;refine⟨trivial,af (λn=>?_) λg=>?_⟩
  .have n:¬r=f:=Tf (kJ n);refine⟨(azV λM q U=>?_).symm,λh=>o5,λ_=>rfl⟩;rcases o with o|o
   .exact n (aFW (by rw[hr.1,g1]) λi D=>aiJ hr (λi D=>(g2 i D).1) o i (by rw[← hr.1];exact D))
   .have:=abC (a:=f) (b:=d.length) d.length λi D=>jv;omega
  .have g:r=f:=rU (dN g);subst g;have l:=hr.2.2.2.1 λi D=>rfl;obtain⟨M,q,U⟩:=Td (rV d) ⟨_,l⟩;exact⟨(awT t l).symm,λ_=>⟨g1,λi D=>⟨(g2 i D).1,jv⟩,l,g3⟩,λh=>o5⟩
theorem acW:OK Jo.e:=by
 refine eP [Ko.e,Lu.e,J9.e,Eg.e] ⟨aeL,agT,aeM,agU,⟨⟩⟩ axY (λ⟨d,_⟩ J=>by obtain⟨s,C,O⟩:=ard (d:=d);exact⟨(((s,aA d,()),())),⟨rfl,C⟩⟩) λd=>show Jo.goal (auS d) (d,())fromλB J=>?_
 dsimp only[Jo]at J ⊢;delta auS aj bJ fV mX;have J:aK d:=J;refine⟨J,af (λh=>⟨(awU (kJ h)).symm,λh=>o5⟩) λh=>?_⟩;have X:=dN h;have L:=aeK X;refine⟨⟨fC,fC,o6⟩,?_⟩;have U:∀f:List (Int×Unit),f.length=d.length->(∀i,i<d.length->0<=Sp.lv f i/\Sp.lv f i<=d.length)->∀x∈f,0<=x.1/\x.1<=1000000:=λf W h=>
  azW (p:=λz=>0<=z/\z<=1000000) λi D=>jv
 refine⟨λy=>y.2.1.length=d.length/\(∀i,i<d.length->0<=Sp.lv y.2.1 i/\Sp.lv y.2.1 i<=d.length)/\(∀M,kN (fO d) M->∀i,i<d.length->Sp.lv y.2.1 i<=M i)/\(y.1.1=false->kN (fO d) λi=>(Sp.lv y.2.1 i).toNat),
  λy=>(((d.length*d.length:Nat):Int)-Ja y.2.1 d.length).toNat*2+(if y.1.1=true then 1 else 0),⟨ni,λi D=>agz,λM hM i D=>agz,λh=>o5⟩,?_⟩
 rintro⟨⟨ch,⟨⟩⟩,f,⟨⟩⟩ ⟨g1,g2,g3,g4⟩;dsimp only at g1 g2 g3 g4 ⊢;refine af (λt=>?_) λt=>⟨(awT X (g4 t)).symm,λ_=>⟨g1,g2,g4 t,g3⟩⟩;subst t;refine bQ (λi(x:Bool×List (Int×Unit))=>((x.1,i,()),x.2,())) (λy=>y.1.2.1) (λ_ _=>rfl) d.length fC
  (λi(x:Bool×List (Int×Unit))=>x.2.length=d.length/\(∀i,i<d.length->Sp.lv f i<=Sp.lv x.2 i/\Sp.lv x.2 i<=d.length)/\(∀M,kN (fO d) M->∀i,i<d.length->Sp.lv x.2 i<=M i)/\
    (x.1=true->Ja f d.length<Ja x.2 d.length)/\(x.1=false->x.2=f/\∀e∈fO d,e.1<i->Sp.lv f e.2.1+e.2.2<=Sp.lv f e.1))
  (s0:=(false,f)) ⟨g1,λi D=>⟨aQN _,(g2 i D).2⟩,g3,λh=>o5,λ_=>⟨rfl,λe _ h=>fC⟩⟩ (λI P i x D E next=>?_) λI P x E=>?_
 .obtain⟨c,Q⟩:=x;obtain⟨H,A,q3,q4,q5⟩:=E;have H:Q.length=d.length:=H;have o:∀i,i<d.length->0<=Sp.lv Q i/\Sp.lv Q i<=d.length:=λi D=>⟨Int.le_trans (g2 i D).1 (A i D).1,(A i D).2⟩;have hm:=U Q H o;dsimp only;rw[aQs];refine dH fC ⟨⟨fC,fC⟩,yC J D,?_⟩;rintro⟨⟨r4,⟨⟩⟩,⟨⟩⟩ q;have q:iE r4 (iZ (dh d i).2.1 false):=q;refine⟨⟨fC,q.1,fC,fC,hm⟩,yC J D,?_⟩;rintro⟨⟨r6,⟨⟩⟩,⟨⟩⟩ w;have w:iE r6 (iZ (dh d i).2.1 true):=w;refine⟨⟨fC,w.1,fC,fC,hm⟩,?_⟩;dsimp only;have S:∀M,kN (fO d) M->Ei d Q 0 r4<=M i/\Ei d Q 1 r6<=M i:=by
   intro M hM;refine⟨(QY r4 _).2 ⟨fC,λx Z h0=>?_⟩,(QY r6 _).2 ⟨fC,λx Z h0=>?_⟩⟩
   .have g:=H9.2 ⟨D,x.1,.inl ⟨rfl,(q.2 x.1).1 Z⟩,h0,rfl⟩;have a:=hM _ g
    grind [Sp.lv]
   .have g:=H9.2 ⟨D,x.1,.inr ⟨rfl,(w.2 x.1).1 Z⟩,h0,rfl⟩;have a:=hM _ g
    grind [Sp.lv]
  have K:∀e∈fO d,e.1=i->Sp.lv Q e.2.1+e.2.2<=Ei d Q 0 r4\/Sp.lv Q e.2.1+e.2.2<=Ei d Q 1 r6:=by
   rintro⟨a,b,m⟩ g r;have r:a=i:=r;subst r;have hm1:m<=1:=(rV d _ g).2.2;rcases aRB m with h|h
   .subst h;obtain⟨p,p1,p2,p3⟩:=aaM q g rfl;left;have:=((QY (d:=d) (aS:=Q) (more:=0) r4 _).1 (aQN _)).2 _ (getD_mem (d:=(([]:List UInt8),())) p1) p2
    grind
   .have:m=1:=fC;subst this
    grind [aaM,QY]
  generalize Ei d Q 0 r4=u at S K ⊢;generalize Ei d Q 1 r6=v at S K ⊢;have R:∃z,(if v>u then v else u)=z/\u<=z/\v<=z/\(z=u\/z=v):=by refine⟨_,rfl,?_,?_,?_⟩<;>split<;>omega
  obtain⟨z,ez,hz1,hz2,hz3⟩:=R;rw[ez];have e2:(Q.getD i (0,())).1=Sp.lv Q i:=rfl;rw[e2];refine af (λn=>?_) λn=>⟨⟨fC,fC⟩,fC,af (λF=>⟨⟨fC,fC⟩,fC,rfl,next (true,Q.set i (z,())) ?_⟩) λF=>⟨rfl,next (c,Q) ?_⟩⟩
  · grind [azV]
  .have n:¬z>(d.length:Int):=Tf n;have F:z>Sp.lv Q i:=rU F;have Y:=λk=>azX (l:=Q) (i:=i) fC z k;refine⟨ql,λk j=>?_,λM hM k j=>?_,λ_=>?_,λh=>o5⟩
   · grind
   · grind
   .have a:=aoE (a:=f) (b:=Q) d.length λk j=>(A k j).1;have hsk:∀k,k<d.length->Sp.lv Q k<=Sp.lv (Q.set i (z,())) k:=λk j=>by
     grind
    have b:=aoD (a:=Q) (b:=Q.set i (z,())) d.length hsk ⟨i,D,jv⟩
    grind
  grind
 .obtain⟨c,Q⟩:=x;obtain⟨H,A,q3,q4,q5⟩:=E;dsimp only at H A q3 q4 q5 ⊢;have o:∀i,i<d.length->0<=Sp.lv Q i/\Sp.lv Q i<=d.length:=λi D=>⟨Int.le_trans (g2 i D).1 (A i D).1,(A i D).2⟩;have hsum:=abC (a:=Q) (b:=d.length) d.length λi D=>(A i D).2;refine gU fC ⟨rfl,⟨H,o,q3,λN e g=>?_⟩,?_⟩
  .obtain⟨a,b⟩:=q5 N;subst a;obtain⟨T,x2,_⟩:=rV d e g
   grind
  grind
theorem Jb:OK sG.e:=by
 refine dW [D8.e] ⟨NG,⟨⟩⟩ H0 λd=>show sG.goal (aeN d) (d,())fromλB J=>?_
 dsimp only[sG]at J ⊢;refine⟨J,λr hr=>?_⟩
 grind
abbrev V0:gJ:=(0,[],[],0,[],0,())
variable {v:List gJ}{n:Nat}
theorem Wh(h:fK v)(H:n<v.length):fB (pJ (dP v n)):=h.2 _ (getD_mem (d:=V0) H)
theorem X3:fK []:=⟨ni,λx Z=>vk⟩
theorem arj{x:gJ}(h:fK v)(W:v.length<1000)(Z:fB (pJ x)):fK (v++[x]):=
 ⟨ql,λy F=>by rcases aQM.1 F with F|F;exact h.2 y F;grind⟩
theorem aEa{x:gJ}(n:Nat)(h:fK v)(Z:fB (pJ x)):fK (v.set n x):=
 ⟨by simp;exact h.1,λy F=>by rcases aRD F with F|F;exact h.2 y F;grind⟩
theorem aeP:OK Kt.e:=by
 refine eP [KL.e,Ih.e] ⟨aoG,alE,⟨⟩⟩ H0 (λ⟨(a,l,b,d,_),_⟩ _=>⟨(((a,l,b,d,()),()),()),rfl⟩) λS T f g=>show Kt.goal (aeQ S T f g) ((S,T,f,g,()),())fromλB J=>?_
 refine⟨J.1,?_⟩;rintro⟨⟨⟨a,l,b,⟨⟩⟩,⟨⟩⟩,⟨⟩⟩ e;obtain⟨rfl,rfl,rfl⟩:a=S/\l=T/\b=f:=WR;exact⟨J.2,rfl⟩
theorem Jc:OK zM.e:=by
 refine eP [uQ.e,qW.e] ⟨EN,Ag,⟨⟩⟩ H0 (λ⟨(a,l,b,d,_),_⟩ _=>⟨(((a,l,b,d,()),()),()),rfl⟩) λS T f g=>show zM.goal (aoH S T f g) ((S,T,f,g,()),())fromλB J=>?_
 refine⟨J.1,?_⟩;rintro⟨⟨⟨a,l,b,⟨⟩⟩,⟨⟩⟩,⟨⟩⟩ e;obtain⟨rfl,rfl,rfl⟩:a=S/\l=T/\b=f:=WR;exact⟨J.2,rfl⟩
theorem EO:OK uS.e:=by
 refine eP [zM.e] ⟨Jc,⟨⟩⟩ auU (λ⟨v,_⟩ _=>⟨((v,()),()),rfl⟩) λv=>show uS.goal (ark v) (v,())fromλB J=>?_
 dsimp only[uS]at J ⊢;have L:v.length<=1000:=J.1;refine bQ (λi(x:List gJ)=>(((),i,()),x,())) (λy=>y.1.2.1) (λ_ _=>rfl) v.length fC (λn l=>l=v.take n) ni (λI P n l H E next=>?_) λI P l E=>?_
 .dsimp only;refine dH fC ⟨⟨fC,fC⟩,⟨fC,fC⟩,Wh J H,?_⟩
  grind [bV,Sp.take_succ',Int.toNat_natCast]
 grind
theorem rM:OK jE.e:=by
 refine dW [sG.e,kQ.e] ⟨Jb,oK,⟨⟩⟩ H0 λS T a b=>show jE.goal (ZW S T a b) ((S,T,a,b,()),())fromλB J=>?_
 dsimp only[jE]at J ⊢;refine⟨trivial,af (λh=>⟨J.2,?_⟩) λh=>?_⟩
 · grind [kG,eU]
 grind [kG,eU]
theorem aF4(H:n<v.length)(h:yD v n=false):gQ v=false:=by
 grind [gQ,uf]
theorem qL:OK kS.e:=by
 refine dW [jE.e,gI.e] ⟨rM,gW,⟨⟩⟩ ZX λv=>show kS.goal (Za v) (v,())fromλB J=>?_
 dsimp only[kS]at J ⊢;have J:fK v:=J;have L:v.length<=1000:=J.1;refine iW v.length fC (λn=>∀i,i<n->yD v i=true) (λi D=>fC) (λI P n H E next=>?_) λI P E=>?_
 .dsimp only;have b:yD v n=false->(false,())=(gQ v,()):=λh=>by rw[aF4 H h]
  refine dH fC ⟨⟨fC,fC⟩,trivial,af (λO=>b ?_) λO=>⟨⟨fC,fC⟩,Wh J H,af (λK=>b ?_) λK=>⟨⟨fC,fC⟩,trivial,af (λx=>b ?_) λx=>af (λa=>?_) λa=>⟨rfl,next (fH E ?_)⟩⟩⟩⟩
  .have O:(decide (1<=(dP v n).1)&&decide ((dP v n).1<=1000000000))=false:=kJ O
   grind [yD]
  .have K:eU (pJ (dP v n))=false:=kJ K
   grind [yD]
  .have x:(decide (0<=(dP v n).2.2.2.2.2.1)&&decide ((dP v n).2.2.2.2.2.1<=99))=false:=kJ x
   grind [yD]
  .have O:(decide (1<=(dP v n).1)&&decide ((dP v n).1<=1000000000))=true:=dN O;have K:eU (pJ (dP v n))=true:=dN K;have x:(decide (0<=(dP v n).2.2.2.2.2.1)&&decide ((dP v n).2.2.2.2.2.1<=99))=true:=dN x;have a:0<n:=jv;rw[rE a fC]
   grind [dP,yD]
  .have O:(decide (1<=(dP v n).1)&&decide ((dP v n).1<=1000000000))=true:=dN O;have K:eU (pJ (dP v n))=true:=dN K;have x:(decide (0<=(dP v n).2.2.2.2.2.1)&&decide ((dP v n).2.2.2.2.2.1<=99))=true:=dN x
   grind [yD]
 grind [gQ,kV]
theorem aiO(s:Int):∀(d:List gJ)(k:Int),(Ec k d s=-1/\∀x∈d,x.1≠s)\/∃n,n<d.length/\Ec k d s=k+n/\(dP d n).1=s/\∀i,i<n->(dP d i).1≠s
 |[],k=>.inl ⟨rfl,λx Z=>vk⟩
 |x::r,k=>by
  by_cases h:x.1=s
  .right;refine⟨0,ni,?_,h,λi D=>fC⟩;rw[Ec,aQv.2 h];simp
  .rcases aiO s r (k+1)with⟨h1,h2⟩|⟨n,h1,h2,h3,h4⟩
   .left;refine⟨by rw[Ec,aQl.2 h];exact h1,λy F=>?_⟩;rcases aQt.1 F with rfl|F
    .exact h
    .exact h2 y F
   .right;refine⟨n+1,ql,by rw[Ec,aQl.2 h];show Ec (k+1) r s=_;omega,h3,λi D=>?_⟩;cases i with
    |zero=>exact h
    |succ i=>exact h4 i fC
theorem UY(d:List gJ)(s:Int):(bM d s=-1/\∀x∈d,x.1≠s)\/∃n,n<d.length/\bM d s=n/\(dP d n).1=s/\∀i,i<n->(dP d i).1≠s:=by
 rcases aiO s d 0 with h|⟨n,C,O,K⟩
 .exact .inl h
 .exact .inr ⟨n,C,by show Ec 0 d s=_;omega,K⟩
theorem OZ{d:List gJ}{s:Int}(h:0<=bM d s):bM d s<d.length:=by rcases UY d s with⟨C,_⟩|⟨n,C,O,_⟩<;>omega
theorem am9{d:List gJ}{s:Int}(H:n<d.length)(C:(dP d n).1=s)(O:∀i,i<n->(dP d i).1≠s):bM d s=n:=by
 rcases UY d s with⟨_,h⟩|⟨m,a,b,e,f⟩
 .exact(h _ (getD_mem (d:=V0) H) C).elim
 grind
theorem ana{d:List gJ}{s:Int}(O:∀i,i<d.length->(dP d i).1≠s):bM d s=-1:=by
 grind [UY]
theorem Ul:OK Ej.e:=by
 refine dW [] ⟨⟩ H0 λS T a b e f p=>show Ej.goal (agV S T a b e f p) ((S,T,a,b,e,f,()),(p,()),())fromλB J=>?_
 exact rfl
theorem BB:OK jA.e:=by
 refine dW [Ej.e] ⟨Ul,⟨⟩⟩ Ci λd s=>show jA.goal (BD d s) (d,((s,()),()),())fromλB J=>?_
 dsimp only[jA]at J ⊢;have L:d.length<=maxLen:=B.1.1;refine iW d.length L (λn=>∀i,i<n->(dP d i).1≠s) (λi D=>fC) (λI P n H E next=>?_) λI P E=>?_
 .dsimp only;refine dH fC ⟨⟨fC,fC⟩,trivial,af (λh=>?_) λh=>⟨rfl,next λi D=>?_⟩⟩
  .rw[am9 H (aQv.1 h) E]
  .rcases aQE i n with h'|h'
   .exact E i h'
   .have:i=n:=fC;rw[this];exact aQl.1 h
 grind [ana]
theorem alG:OK P6.e:=by
 refine dW [jA.e,Ej.e] ⟨BB,Ul,⟨⟩⟩ H0 λd s=>show P6.goal (alH d s) (d,s,())fromλB J=>?_
 exact⟨trivial,rfl⟩
theorem Qo:OK zN.e:=by
 refine dW [] ⟨⟩ arl λd s=>show zN.goal (aoI d s) (d,s,())fromλB J=>?_
 dsimp only[zN]at J ⊢;have L:d.length<=maxLen:=B.1.1;refine iW d.length L (λn=>∀i,i<n->(dP d i).1≠s) (λi D=>fC) (λI P n H E next=>?_) λI P E=>?_
 .dsimp only;refine dH fC ⟨⟨fC,fC⟩,af (λh=>?_) λh=>⟨rfl,next λi D=>?_⟩⟩
  .rw[am9 H (aQv.1 h) E]
  .rcases aQE i n with h'|h'
   .exact E i h'
   .have:i=n:=fC;rw[this];exact aQl.1 h
 grind [ana]
theorem agA{n:Int}{x:dw}(h:gQ v=false\/gQ (v++[(n,x.1,x.2.1,x.2.2.1,x.2.2.2.1,0,())])=false):jq v n x=(v,false):=by
 grind [jq]
theorem ac0{n:Int}{x:dw}(C:gQ v=true)(O:gQ (v++[(n,x.1,x.2.1,x.2.2.1,x.2.2.2.1,0,())])=true):jq v n x=(v++[(n,x.1,x.2.1,x.2.2.1,x.2.2.2.1,0,())],true):=by
 grind [jq]
theorem Ak:OK oD.e:=by
 refine eP [kS.e,zM.e,uS.e] ⟨qL,Jc,EO,⟨⟩⟩ aeR (λ⟨v,n,x,_⟩ _=>⟨((((jq v n x).1,(jq v n x).2,()),())),⟨rfl,rfl⟩⟩) λv n S T b f=>show oD.goal (ac1 v n S T b f) (v,n,(S,T,b,f,()),())fromλB J=>?_
 dsimp only[oD]at J ⊢;obtain⟨C,O,K⟩:=J;refine⟨C,?_⟩;rintro⟨⟨r,⟨⟩⟩,⟨⟩⟩ e;have e:r=v:=e;subst e;refine⟨K,?_⟩;rintro⟨⟨⟨a,l,nx,d,⟨⟩⟩,⟨⟩⟩,⟨⟩⟩ e;obtain⟨rfl,rfl,rfl,rfl⟩:a=S/\l=T/\nx=b/\d=f:=WR;refine⟨yJ,C,af (λg=>⟨C,λk i=>?_⟩) λg=>⟨arj (v:=r) C fC K,af (λh=>⟨C,λm j=>?_⟩) λh=>?_⟩⟩
 · grind [agA]
 · grind [agA]
 grind [ac0]
theorem aiP(h:gQ v=true)(H:n<v.length):yD v n=true:=by
 grind [gQ,Vy]
theorem auV(h:gQ v=true)(H:n<v.length):0<=qo (dP v n)/\qo (dP v n)<=99:=by have:=aiP h H;unfold yD at this;simp only[aQm,aQF]at this;exact this.2.2.2
variable {m:Int}
theorem Md{n:Int}(h:gQ v=false\/Di v n m=false):kZ v n m=(v,false):=by
 grind [kZ]
theorem aeS{n:Int}(C:gQ v=true)(O:Di v n m=true):
 kZ v n m=(v.set (bM v n).toNat (UZ (dP v (bM v n).toNat) (qo (dP v (bM v n).toNat)+m)),true):=by
 grind [kZ]
theorem awW{n:Int}(h:¬0<=bM v n):Di v n m=false:=by
 grind [Di]
theorem az3{n:Int}(h:fK v):fK (kZ v n m).1/\(kZ v n m).1.length=v.length:=by
 cases C:gQ v&&Di v n m with
 |false=>
  grind [Bool.and_eq_false_iff,Md]
 |true=>
  rw[aQm]at C;rw[aeS C.1 C.2];have a:0<=bM v n:=by
   grind [Di]
  exact⟨aEa _ h (Wh h (n:=(bM v n).toNat) (by simp_all [OZ])),ni⟩
theorem Wi:OK AU.e:=by
 refine eP [kS.e,zN.e,uS.e] ⟨qL,Qo,EO,⟨⟩⟩ alI (λ⟨v,n,_⟩ J=>⟨((((kZ v n 1).1,(kZ v n 1).2,()),())),⟨rfl,rfl⟩⟩) λv n=>show AU.goal (aiQ v n) (v,n,())fromλB J=>?_
 dsimp only[AU]at J ⊢;obtain⟨C,O⟩:fK v/\v.length<=100:=J;refine⟨C,?_⟩;rintro⟨⟨r,⟨⟩⟩,⟨⟩⟩ e;have e:r=v:=e;subst e;refine⟨trivial,C,af (λg=>?_) λg=>af (λb=>?_) λb=>?_⟩
 · grind [Md]
 · grind [Md,awW]
 have b:0<=bM r n:=jv;have a:=OZ b;have J:=auV (dN g) (n:=(bM r n).toNat) fC;refine⟨⟨b,a⟩,af (λf=>?_) λf=>⟨⟨b,a⟩,jv,⟨b,a⟩,jv,?_⟩⟩
 · grind [qo,dP,Di,Md]
 .have f:¬qo (dP r (bM r n).toNat)>=99:=Tf f;have k:Di r n 1=true:=by
   grind [Di]
  have o:IntKind.i64.wrap (qo (dP r (bM r n).toNat)+1)=qo (dP r (bM r n).toNat)+1:=eH _ fC;unfold qo dP at o;rw[o,aeS (dN g) k];exact⟨rfl,rfl⟩
theorem anb{n:Int}(h:0<=bM v n):jB v n=(pJ (dP v (bM v n).toNat),true):=by
 grind [jB]
theorem arn{n:Int}(h:¬0<=bM v n):jB v n=(([],[],0,[],()),false):=by
 grind [jB]
theorem agW:OK Em.e:=by
 refine eP [Kt.e,P6.e] ⟨aeP,alG,⟨⟩⟩ H0 (λ⟨v,n,_⟩ J=>⟨((((jB v n).1.1,(jB v n).1.2.1,(jB v n).1.2.2.1,(jB v n).1.2.2.2.1,()),(jB v n).2,()),()),⟨rfl,rfl⟩⟩) λv n=>show Em.goal (agX v n) (v,n,())fromλB J=>?_
 dsimp only[Em]at J ⊢;refine⟨trivial,af (λg=>?_) λg=>?_⟩
 .have g:0<=bM v n:=rU g;have a:=OZ g;refine⟨⟨g,a⟩,Wh J fC,?_⟩;intro r e;rw[anb g];exact⟨e,rfl⟩
 grind [arn]
theorem agY:OK En.e:=by
 refine eP [zM.e,zN.e] ⟨Jc,Qo,⟨⟩⟩ H0 (λ⟨v,n,_⟩ J=>⟨((((jB v n).1.1,(jB v n).1.2.1,(jB v n).1.2.2.1,(jB v n).1.2.2.2.1,()),(jB v n).2,()),()),⟨rfl,rfl⟩⟩) λv n=>show En.goal (agZ v n) (v,n,())fromλB J=>?_
 dsimp only[En]at J ⊢;refine⟨trivial,af (λg=>?_) λg=>?_⟩
 · grind [arn]
 .have g:0<=bM v n:=jv;have a:=OZ g;refine⟨⟨g,a⟩,Wh J fC,?_⟩;intro r e;rw[anb g];exact⟨e,rfl⟩
theorem aiU:OK FQ.e:=by
 refine eP [jl.e] ⟨kF,⟨⟩⟩ H0 (λ_ _=>⟨(((0:Int),()),(([],0,0,()),())),⟨jI,trivial⟩⟩) λb i h=>show FQ.goal (aiV b i h) ((b,i,h,()),())fromλB J=>?_
 dsimp only[FQ]at J ⊢;exact IZ
theorem ars:aA [([100,97],[(1,0,0,[],0,0,[],())],())]=true:=jH.2 ⟨lu,λ_=>0,λe g=>by cases g⟩
theorem Tt:OK BU.e:=by
 refine eP [sG.e,Gq.e] ⟨Jb,aaQ,⟨⟩⟩ auZ (λ_ _=>⟨(([([100,97],[(1,0,0,[],0,0,[],())],())],()),(([],0,0,()),())),⟨jI,jI,Tv ES ni ni,ars,jI⟩⟩) λb i h=>show BU.goal (aru b i h) ((b,i,h,()),())fromλB J=>?_
 dsimp only[BU]at J ⊢;refine⟨J,?_⟩;rintro⟨⟨d,_⟩,⟨b1,i1,C,_⟩,_⟩ ⟨q1,q2,q3,q4⟩;have fin:∀l:List aH,l.length<=4->aK l->(0<l.length->aA l=true)->(bif (l.length:Int)==(0:Int)then 0<=i1/\([(([100,97]:List UInt8),[((1:Int),(0:Int),(0:Int),([]:List UInt8),(0:Int),(0:Int),([]:List UInt8),())],())]:List aH).length<=10/\aK [([100,97],[(1,0,0,[],0,0,[],())],())]/\aA [([100,97],[(1,0,0,[],0,0,[],())],())]=true/\0<[(([100,97]:List UInt8),[((1:Int),(0:Int),(0:Int),([]:List UInt8),(0:Int),(0:Int),([]:List UInt8),())],())].length else 0<=i1/\l.length<=10/\aK l/\aA l=true/\0<l.length):=λl W Y a=>
  af (λ_=>⟨q1,ni,Tv ES ni ni,ars,ni⟩) λe=>have C:0<l.length:=jv;⟨q1,fC,Y,a C,C⟩
 refine⟨λy=>y.1.1.length<=4/\aK y.1.1,λy=>y.1.1.length,⟨q3,q4⟩,?_⟩
 grind [rE,aBY]
variable {a:List dm}{nx:Int}
theorem arv{l:List aG}(h:aJ (a,l,nx,())=true):∀f∈l,f.2.2.2.2.1.length<=400:=λf X=>by
 obtain⟨C,_,K,_⟩:=Dk.1 h;have W:=aeW (Hq (C f X).1)
 grind [MC]
theorem au0:OK Pv.e:=by
 refine eP [rO.e,qV.e,Po.e,Pq.e,jl.e,dO.e,zI.e] ⟨EM,Ah,auE,auP,kF,dX,Qm,⟨⟩⟩ ax1 (λ_ _=>⟨((([],[],0,()),()),(([],0,0,()),())),⟨jI,⟨jI,jI,λf X=>ahT⟩,λf X=>ahT⟩⟩) λb i h=>show Pv.goal (au1 b i h) ((b,i,h,()),())fromλB J=>?_
 dsimp only[Pv]at J ⊢;have J:0<=i:=J;refine⟨J,?_⟩;rintro⟨⟨⟨a,l,nx,⟨⟩⟩,⟨⟩⟩,⟨b0,i0,g0,⟨⟩⟩,⟨⟩⟩ ⟨p0,d1,d2,d3,d4,_⟩;have D:tZ 2 (a,l,nx,()):=⟨d1,d2,d3,d4⟩;obtain⟨q,r,t⟩:a.length<=1000/\l.length<=1000/\∀f∈l,fZ f:=d4;have w:l.length<=12:=(nV.1 D.ok).2.2.1;have k:=arv D.ok;refine⟨p0,?_⟩;rintro⟨⟨x1,⟨⟩⟩,⟨b1,i1,g1,⟨⟩⟩,⟨⟩⟩ ⟨p1,_⟩;refine af (λ_=>⟨⟨p1,ni⟩,?_⟩) λ_=>af (λ_=>⟨p1,?_⟩) λ_=>af (λ_=>⟨p1,?_⟩) λ_=>af (λ_=>?_) λ_=>⟨p1,D.small,k⟩
 .rintro⟨⟨x3,⟨⟩⟩,⟨b3,i3,g3,⟨⟩⟩,⟨⟩⟩ ⟨p3,_⟩;exact⟨p3,⟨q,r,t⟩,k⟩
 .rintro⟨⟨⟨d,o,s,lk,al,⟨⟩⟩,⟨⟩⟩,⟨b2,i2,g2,⟨⟩⟩,⟨⟩⟩ ⟨p2,ha⟩;have X:fZ (d,o,s,lk,al,()):=(show al.length<=1000 from aQn ha jI);refine⟨(show l.length+1<=big from o6),p2,⟨q,?_,λf j=>?_⟩,λf j=>?_⟩
  · grind
  · grind
  grind
 .rintro⟨⟨x3,⟨⟩⟩,⟨b3,i3,g3,⟨⟩⟩,⟨⟩⟩ ⟨p3,hx⟩;exact⟨p3,⟨aQn (show x3.length<=6 from hx) jI,r,t⟩,k⟩
 .refine⟨λy=>0<=y.2.1.2.1/\tZ 2 y.2.2.1,λy=>12-y.2.2.1.2.1.length,⟨p1,D⟩,?_⟩;rintro⟨⟨⟩,⟨b2,i2,g2,⟨⟩⟩,⟨a,l,nx,⟨⟩⟩,⟨⟩⟩ ⟨p2,D⟩;have D:tZ 2 (a,l,nx,()):=D;refine af (λN=>⟨p2,?_⟩) λ_=>⟨p2,D.small,arv D.ok⟩;have N:(l.length:Int)<12:=rU N;rintro⟨⟨⟨d,o,s,lk,al,⟨⟩⟩,⟨⟩⟩,⟨b3,i3,g3,⟨⟩⟩,⟨⟩⟩ ⟨p3,_,ho1,ho2,hl1,hl2,hok,ha⟩;have X:fZ (d,o,s,lk,al,()):=(show al.length<=1000 from aQn ha jI);refine⟨⟨D.small,X⟩,?_⟩;rintro⟨⟨⟨a3,l3,nx3,⟨⟩⟩,id3,ok3,⟨⟩⟩,⟨⟩⟩ ⟨e1,g,e3,_⟩;have e:((a3,l3,nx3,()):bT)=(bH (a,l,nx,()) (d,o,s,lk,al,())).1:=Mc e1 g e3;have u:=D.grows (f:=(d,o,s,lk,al,())) (show l.length<12 from fC) ⟨ho1,ho2⟩ ⟨hl1,hl2⟩ hok;have g:l3=(bH (a,l,nx,()) (d,o,s,lk,al,())).1.2.1:=g;refine⟨rfl,⟨p3,?_⟩,?_⟩
  .show tZ 2 (a3,l3,nx3,());rw[e];exact D.create X
  grind
theorem Zb:OK KI.e:=by
 refine eP [BU.e,zI.e] ⟨Tt,Qm,⟨⟩⟩ H0 (λ_ _=>⟨((([],[],0,[],()),()),(([],0,0,()),())),⟨jI,⟨jI,jI,λx Z=>vk⟩,ES⟩⟩) λb i h=>show KI.goal (aoM b i h) ((b,i,h,()),())fromλB J=>?_
 refine⟨J,λr hr=>⟨hr.1,λx Z=>⟨Z.1,hr.2.2.2.2.1,Z.2.2.1⟩⟩⟩
theorem arw{n:Int}{x:dw}(C:fK v)(O:v.length<=100)(K:fB x):fK (jq v n x).1/\(jq v n x).1.length<=v.length+1:=by
 unfold jq;cases gQ v&&gQ (v++[(n,x.1,x.2.1,x.2.2.1,x.2.2.2.1,0,())])with
 |true=>exact⟨arj C fC K,ni⟩
 |false=>grind
theorem arx:OK MX.e:=by
 refine eP [AU.e,lC.e,oD.e,KI.e,dO.e] ⟨Wi,qm,Ak,Zb,dX,⟨⟩⟩ au2 (λ_ _=>⟨(([],()),(([],0,0,()),())),⟨jI,jI,X3⟩⟩) λb i h=>show MX.goal (arz b i h) ((b,i,h,()),())fromλB J=>?_
 dsimp only[MX]at J ⊢;refine⟨J,?_⟩;rintro⟨⟨n,_⟩,⟨b1,i1,h1,_⟩,_⟩ ⟨q1,q2,q3,_⟩;dsimp only at q1 q2 q3 ⊢;refine⟨λy=>0<=y.2.1.2.1/\0<=y.1.2.2.1/\(y.2.2.1.length:Int)+y.1.2.2.1<=4/\fK y.2.2.1,λy=>y.1.2.2.1.toNat,⟨q1,q2,ql,X3⟩,?_⟩;rintro⟨⟨_,k,m,_⟩,⟨b2,i2,h2,_⟩,l,_⟩ ⟨g1,g2,g3,g4⟩;dsimp only at g1 g2 g3 g4 ⊢;refine af (λN=>⟨g1,?_⟩) λN=>⟨g1,fC,g4⟩;have N:m>0:=rU N;rw[eH (m-1) fC];rintro⟨⟨r,_⟩,⟨b3,i3,h3,_⟩,_⟩ ⟨k1,_⟩;refine⟨k1,?_⟩;rintro⟨⟨⟨a,fl,nx,d,_⟩,_⟩,⟨b4,i4,h4,_⟩,_⟩ ⟨k2,k3⟩;refine⟨⟨g4,fC,k3⟩,?_⟩;rintro⟨⟨w,ok,⟨⟩⟩,⟨⟩⟩ ⟨e1,_⟩;have Y:=arw (n:=IntKind.i64.wrap (IntKind.i64.wrap (k+1)+r)) g4 fC k3;rw[← e1]at Y;refine⟨k2,?_⟩;rintro⟨⟨c,_⟩,⟨b5,i5,h5,_⟩,_⟩ k4;refine af (λ_=>⟨⟨Y.1,jv⟩,?_⟩) λ_=>⟨rfl,⟨k4,fC,jv,Y.1⟩,fC⟩;rintro⟨⟨u,ok2,⟨⟩⟩,⟨⟩⟩ ⟨m1,m2⟩;have e:=az3 (n:=IntKind.i64.wrap (IntKind.i64.wrap (k+1)+r)) (m:=1) Y.1;rw[← m1]at e;exact⟨rfl,⟨k4,fC,jv,e.1⟩,fC⟩
theorem aBZ(h:gQ v=true)(H:n+1<v.length):(dP v n).1<(dP v (n+1)).1:=by
 have:=aiP h H
 grind [yD]
theorem aiW{v:List gJ}(h:gQ v=true){i:Nat}:∀n,i<n->n<v.length->(dP v i).1<(dP v n).1
 |0,hi,_=>fC
 |n+1,hi,hn=>by
  have C:=aBZ h hn;rcases aQE i n with O|O
  .have:=aiW h n O fC;omega
  .have:i=n:=fC;rw[this];exact C
variable {α:Type}
theorem aGu{d:α}{v:List α}(h:n+1=v.length):v.drop n=[v.getD n d]:=by
 grind [List.drop_eq_getElem_cons]
theorem aAt{x:gJ}(h:x∈wR v n):x∈v:=List.take_subset _ _ (aQ4.1 h).1
theorem ajm(v:List gJ)(n:Nat):(wR v n).length<=n:=by have:=aQ2 (λx=>!Sp.unpinned x) (v.take n);rw[aRe]at this;show(List.filter _ _).length<=n;omega
theorem agB(h:fK v):fK (Sp.collect v)/\fK (wR v (v.length-1)++v.drop (v.length-1)):=by
 grind [fK,ajm,aAt,Sp.collect]
theorem ae7(h:gQ v=true):Sp.collect v=wR v (v.length-1)++v.drop (v.length-1):=by
 grind [Sp.collect]
theorem arK(h:gQ v=false):Sp.collect v=v:=by
 grind [Sp.collect]
theorem ae8:OK Dx.e:=by
 refine eP [kS.e,zN.e,uS.e] ⟨qL,Qo,EO,⟨⟩⟩ ahi (λ⟨v,n,_⟩ J=>⟨((((kZ v n (-1)).1,(kZ v n (-1)).2,()),())),⟨rfl,rfl⟩⟩) λv n=>show Dx.goal (afe v n) (v,n,())fromλB J=>?_
 dsimp only[Dx]at J ⊢;obtain⟨C,O⟩:fK v/\v.length<=100:=J;refine⟨C,?_⟩;rintro⟨⟨r,⟨⟩⟩,⟨⟩⟩ e;have e:r=v:=e;subst e;refine⟨trivial,C,af (λg=>?_) λg=>af (λf=>?_) λf=>?_⟩
 · grind [Md]
 · grind [Md,awW]
 have f:0<=bM r n:=jv;have b:=OZ f;have J:=auV (dN g) (n:=(bM r n).toNat) fC;refine⟨⟨f,b⟩,af (λh=>?_) λh=>⟨⟨f,b⟩,jv,⟨f,b⟩,jv,?_⟩⟩
 · grind [qo,dP,Di,Md]
 .have h:¬qo (dP r (bM r n).toNat)<=0:=Tf h;have k:Di r n (-1)=true:=by
   grind [Di]
  have o:IntKind.i64.wrap (qo (dP r (bM r n).toNat)-1)=qo (dP r (bM r n).toNat)+-1:=eH _ fC;unfold qo dP at o;rw[o,aeS (dN g) k];exact⟨rfl,rfl⟩
theorem N7:OK sZ.e:=by
 refine eP [uS.e,kS.e] ⟨EO,qL,⟨⟩⟩ abO (λ⟨v,_⟩ J=>⟨((Sp.collect v,()),()),rfl⟩) λv=>show sZ.goal (aac v) (v,())fromλB J=>?_
 dsimp only[sZ]at J ⊢;delta aac aj bJ iK;refine⟨J,af (λg=>⟨J,λr e=>e.trans (arK (kJ g)).symm⟩) λg=>?_⟩;have L:v.length<=1000:=J.1;have g:=dN g;refine bQ (λi(x:List gJ)=>(((),i,()),x,())) (λy=>y.1.2.1) (λ_ _=>rfl) v.length fC (λn l=>l=if n<v.length then wR v n else wR v (v.length-1)++v.drop (v.length-1)) ?_ (λI P n l H E next=>?_) λI P l E=>?_
 .by_cases h:0<v.length
  .rw[if_pos h];rfl
  .rw[aQ1.1 (show v.length=0 from fC)];rfl
 .rw[if_pos H]at E;subst E;have W:=ajm v n;have f:0<=qo (v.getD n V0)/\qo (v.getD n V0)<=99:=auV g H;have b:(wR v n).length+1<=big:=o6;have step:Sp.unpinned (v.getD n V0)=false\/n+1=v.length->wR v n++[v.getD n V0]=if n+1<v.length then wR v (n+1)else wR v (v.length-1)++v.drop (v.length-1):=λh=>by
   grind [wR,Sp.take_succ',aGu]
  dsimp only;rw[rE fC fC];refine dH fC ⟨⟨fC,fC⟩,af (λh=>⟨⟨fC,fC⟩,b,rfl,next _ (step (.inl ?_))⟩) λh=>af (λO=>⟨⟨fC,fC⟩,b,rfl,next _ (step (.inr ?_))⟩) λO=>⟨rfl,next _ ?_⟩⟩
  .have h:qo (v.getD n V0)>0:=rU h;exact aQl.2 fC
  · grind
  grind [qo,wR,Sp.unpinned,Sp.take_succ']
 simp_all [agB,ae7]
theorem aff:∀{l:List aW}{n:Nat}{s:Sp.Bytes},n<l.length->(∀i,i<n->(iJ l i).1≠s)->(iJ l n).1=s->dA l s=(iJ l n).2
 |[],n,_,h,_,_=>yj
 |x::r,0,s,_,_,e=>by
  have e:x.1=s:=e;rw[dA,aQv.2 e];rfl
 |x::r,n+1,s,h,hn,e=>by have b:x.1≠s:=hn 0 fC;rw[dA,aQl.2 b];exact aff (l:=r) oQ (λi D=>hn (i+1) fC) e
theorem Zn:∀{l:List aW}{s:Sp.Bytes},(∀i,i<l.length->(iJ l i).1≠s)->dA l s=(0,0,[],())
 |[],_,_=>rfl
 |x::r,s,h=>by have b:x.1≠s:=h 0 ni;rw[dA,aQl.2 b];exact Zn λi D=>h (i+1) ZQ
theorem aaZ:OK BV.e:=by
 refine dW [] ⟨⟩ avo λb e f g l s=>show BV.goal (arU b e f g l s) ((b,e,f,g,l,()),s,())fromλB J=>?_
 dsimp only[BV]at J ⊢;have L:l.length<=maxLen:=B.1.2.2.2.2.1.1;refine iW l.length L (λn=>∀i,i<n->(iJ l i).1≠s) (λi D=>fC) (λI P n H E next=>?_) λI P E=>?_
 .dsimp only;refine dH fC ⟨⟨fC,fC⟩,af (λh=>?_) λh=>⟨rfl,next λi D=>?_⟩⟩
  .exact congrArg (·,()) (aff H E (aQv.1 h)).symm
  .rcases aQE i n with h'|h'
   .exact E i h'
   .have:i=n:=fC;rw[this];exact aQl.1 h
 grind [Zn]
theorem aa0:OK BZ.e:=by
 refine dW [] ⟨⟩ avp λb e f g l s=>show BZ.goal (arV b e f g l s) ((b,e,f,g,l,()),s,())fromλB J=>?_
 dsimp only[BZ]at J ⊢;have L:l.length<=maxLen:=B.1.2.2.2.2.1.1;refine iW l.length L (λn=>∀i,i<n->(iJ l i).1≠s) (λi D=>fC) (λI P n H E next=>?_) λI P E=>?_
 .dsimp only;refine dH fC ⟨⟨fC,fC⟩,af (λh=>⟨⟨fC,fC⟩,?_⟩) λh=>⟨rfl,next λi D=>?_⟩⟩
  .exact congrArg (·,()) (aff H E (aQv.1 h)).symm
  .rcases aQE i n with h'|h'
   .exact E i h'
   .have:i=n:=fC;rw[this];exact aQl.1 h
 grind [Zn]
theorem arW:OK Gt.e:=by
 refine dW [BV.e] ⟨aaZ,⟨⟩⟩ H0 λb e f g l s=>show Gt.goal (arX b e f g l s) ((b,e,f,g,l,()),s,())fromλB J=>?_
 dsimp only[Gt]at J ⊢;refine⟨trivial,?_⟩
 grind
theorem axd{b:Type}[BEq b][LawfulBEq b](g:α->b)(v:b)(s:List α):Sp.findAt (λx=>v==g x) s=Sp.findAt (λx=>g x==v) s:=by
 grind
theorem ahj:OK LC.e:=by
 refine dW [] ⟨⟩ ajn λs v=>show LC.goal (ahk s v) (s,v,())fromλB J=>?_
 exact aGv (K:=λr=>r=(Sp.findAt (λx=>x.1==v) s,())) (λx:Int×Unit=>v==x.1) (0,()) s _ B.1.1 (by rw[axd])
theorem abP:OK Gu.e:=by
 refine dW [] ⟨⟩ adp λs v=>show Gu.goal (abQ s v) (s,v,())fromλB J=>?_
 exact aGv (K:=λr=>r=(Sp.findAt (λx=>x.1==v) s,())) (λx:List UInt8×Unit=>v==x.1) ([],()) s _ B.1.1 (by rw[axd])
theorem O6:OK zO.e:=by
 refine dW [LC.e] ⟨ahj,⟨⟩⟩ H0 λs v=>show zO.goal (abR s v) (s,v,())fromλB J=>?_
 exact⟨trivial,congrArg (·,()) (aAu _ s)⟩
theorem X7:OK CO.e:=by
 refine dW [Gu.e] ⟨abP,⟨⟩⟩ H0 λs v=>show CO.goal (X8 s v) (s,v,())fromλB J=>?_
 exact⟨trivial,congrArg (·,()) (aAu _ s)⟩
theorem ajo:OK FT.e:=by
 refine dW [zO.e] ⟨O6,⟨⟩⟩ H0 λs v=>show FT.goal (ajp s v) (s,v,())fromλB J=>?_
 exact⟨trivial,rfl⟩
theorem zx:OK pK.e:=by
 refine dW [] ⟨⟩ al0 λs v=>show pK.goal (ajq s v) (s,v,())fromλB J=>?_
 exact aIm (K:=λr=>r=(fF s v,())) (λx:Int×Unit=>x.1==v) (0,()) s _ B.1.1 rfl
theorem DT:OK qF.e:=by
 refine dW [] ⟨⟩ ajr λs=>show qF.goal (ahl s) (s,())fromλB J=>?_
 dsimp only[qF]at J ⊢;intro g b
 grind [bV]
abbrev Wu:fA:=([],[],())
variable {r:List fA}
theorem aa1(h:bW r)(H:n<r.length):(r.getD n Wu).2.1.length<=1000:=h.2 _ (getD_mem (d:=Wu) H)
variable {s:Sp.Bytes}
theorem arY(H:n<r.length)(E:∀i,i<n->(yU r i).1≠s)(e:(yU r n).1=s):gY r s=kY r n:=by
 grind [ajs]
theorem Ot:OK uw.e:=by
 refine dW [qF.e] ⟨DT,⟨⟩⟩ ao8 λr s=>show uw.goal (al1 r s) (r,s,())fromλB J=>?_
 dsimp only[uw]at J ⊢;have L:r.length<=1000:=J.1;refine iW r.length fC (λn=>∀i,i<n->(yU r i).1≠s) (λi D=>fC) (λI P n H E next=>?_) λI P E=>?_
 .dsimp only;refine dH fC ⟨⟨fC,fC⟩,af (λh=>⟨aQn (aa1 J H) jI,?_⟩) λh=>⟨rfl,next λi D=>?_⟩⟩
  .exact congrArg (·,()) (arY H E (aQv.1 h)).symm
  .rcases aQE i n with h'|h'
   .exact E i h'
   .have:i=n:=fC;rw[this];exact aQl.1 h
 grind [VD]
theorem Gg:OK qG.e:=by
 refine dW [] ⟨⟩ ao9 λr s=>show qG.goal (al2 r s) (r,s,())fromλB J=>?_
 dsimp only[qG]at J ⊢;have L:r.length<=1000:=J.1;refine iW r.length fC (λn=>∀i,i<n->(yU r i).1≠s) (λi D=>fC) (λI P n H E next=>?_) λI P E=>?_
 .dsimp only;refine dH fC ⟨⟨fC,fC⟩,af (λh=>⟨⟨fC,fC⟩,by grind [aa1,bV],?_⟩) λh=>⟨rfl,next λi D=>?_⟩⟩
  .exact congrArg (·,()) (arY H E (aQv.1 h)).symm
  .rcases aQE i n with h'|h'
   .exact E i h'
   .have:i=n:=fC;rw[this];exact aQl.1 h
 grind [VD]
variable {q:List aO}{f:aG}{X:BX}
theorem apa{a:Nat}(b:(Sp.nodeAt q a).1≠5)(e:(Sp.nodeAt q a).1≠6)(g:(Sp.nodeAt q a).1≠7):Sp.val q f X a=mQ (Sp.nodeAt q a) f X:=by
 grind [O7]
theorem aCY{a:Nat}(b:(Sp.nodeAt q a).1=5)(W:(Sp.nodeAt q a).2.1.toNat<a):Sp.val q f X a=!Sp.val q f X (Sp.nodeAt q a).2.1.toNat:=by
 grind [O7]
theorem aCZ{a:Nat}(b:(Sp.nodeAt q a).1=6)(W:(Sp.nodeAt q a).2.1.toNat<a/\(Sp.nodeAt q a).2.2.1.toNat<a):Sp.val q f X a=(Sp.val q f X (Sp.nodeAt q a).2.1.toNat&&Sp.val q f X (Sp.nodeAt q a).2.2.1.toNat):=by
 grind [O7]
theorem aGw{a:Nat}(b:(Sp.nodeAt q a).1=7)(W:(Sp.nodeAt q a).2.1.toNat<a/\(Sp.nodeAt q a).2.2.1.toNat<a):Sp.val q f X a=(Sp.val q f X (Sp.nodeAt q a).2.1.toNat||Sp.val q f X (Sp.nodeAt q a).2.2.1.toNat):=by
 grind [O7]
theorem aJJ{n:aO}(h:n.1=2):mQ n f X=!((dA f.2.2.2.2.1 n.2.2.2.1).1==0):=by
 grind [mQ]
theorem aJK{n:aO}(h:n.1=3):mQ n f X=decide (dA f.2.2.2.2.1 n.2.2.2.1=(n.2.2.2.2.1,n.2.2.2.2.2.1,n.2.2.2.2.2.2.1,())):=by
 grind [mQ]
theorem aJL{n:aO}(h:n.1=4):mQ n f X=((dA f.2.2.2.2.1 n.2.2.2.1).1==1&&decide ((dA f.2.2.2.2.1 n.2.2.2.1).2.1<n.2.2.2.2.2.1)):=by
 grind [mQ]
theorem aJM{n:aO}(h:n.1=8):mQ n f X=X n.2.2.2.1 f.1:=by
 grind [mQ]
theorem aJN{n:aO}(h:n.1=9):mQ n f X=(!(f.2.2.2.1==0)&&X n.2.2.2.1 f.2.2.2.1):=by
 grind [mQ]
theorem aJO{n:aO}(O:n.1≠2)(K:n.1≠3)(x:n.1≠4)(b:n.1≠8)(e:n.1≠9):mQ n f X=true:=by
 grind [mQ]
theorem eq3(v w:ET):(v.1==w.1&&(v.2.1==w.2.1&&(v.2.2.1==w.2.2.1&&true)))=decide (v=w):=by
 grind
theorem TJ{x y z:Int}(h:x=y)(b:y≠z):x≠z:=fC
theorem aEo{n:aO}{a:Int}(h:iM n a=true):n.1=1\/n.1=2\/n.1=3\/n.1=4\/n.1=5\/n.1=6\/n.1=7\/n.1=8\/n.1=9:=by
 grind [iM]
theorem aad[kU](D:lY prog G Aa DX):lY prog G OY LG:=by
 refine aae (XT [FT.e,uw.e,(Aa,.pure DX),Gt.e,BV.e] ⟨ajo,Ot,⟨D,ZR⟩,arW,aaZ,trivial⟩) ?_;intro q a t w y i A r B J;obtain⟨⟨u,l,C,hr⟩,W⟩:=J;have Q:a.toNat<q.length:=fC;obtain⟨E,H⟩:=nS u Q;have fin:∀z:Bool,Sp.val q (t,w,y,i,A,()) (bK r) a.toNat=z->(z,())=(Sp.val q (t,w,y,i,A,()) (bK r) a.toNat,()):=λz h=>by rw[h]
 have leaf:∀k:Int,k≠5->k≠6->k≠7->(Sp.nodeAt q a.toNat).1=k->Sp.val q (t,w,y,i,A,()) (bK r) a.toNat=mQ (Sp.nodeAt q a.toNat) (t,w,y,i,A,()) (bK r):=λk a b c h=>apa (TJ h a) (TJ h b) (TJ h c);have F:∀k:Int,0<=k->k.toNat<a.toNat->(aN q=true/\0<=k/\k<(q.length:Int)/\bW r)/\k.toNat<je:=λk O K=>⟨⟨u,O,fC,hr⟩,fC⟩;refine⟨⟨l,C⟩,af (λh=>⟨trivial,fin _ ((leaf 2 jI jI jI (aQv.1 h)).trans (aJJ (aQv.1 h)))⟩) λO=>af (λh=>⟨trivial,fin _ ((leaf 3 jI jI jI (aQv.1 h)).trans ((aJK (aQv.1 h)).trans (eq3 _ _).symm))⟩) λK=>af (λh=>⟨trivial,?_⟩) λx=>af (λh=>?_) λI=>af (λh=>?_) λL=>af (λh=>?_) λM=>af (λh=>⟨hr,trivial,fin _ ((leaf 8 jI jI jI (aQv.1 h)).trans (aJM (aQv.1 h)))⟩) λN=>af (λh=>?_) λP=>?_⟩
 · grind [aJL,Sp.nodeAt]
 .have j:=E (.inl (aQv.1 h));exact⟨F _ j.1 j.2,fin _ (aCY (aQv.1 h) j.2)⟩
 .have ht:jS (Sp.nodeAt q a.toNat)=true:=mg.2 (.inl (aQv.1 h));have j:=E (.inr ht);have o:=H ht;have e:=aCZ (f:=(t,w,y,i,A,())) (X:=bK r) (aQv.1 h) ⟨j.2,o.2⟩
  grind [Sp.nodeAt]
 .have ht:jS (Sp.nodeAt q a.toNat)=true:=mg.2 (.inr (aQv.1 h));have j:=E (.inr ht);have o:=H ht;have e:=aGw (f:=(t,w,y,i,A,())) (X:=bK r) (aQv.1 h) ⟨j.2,o.2⟩
  grind [Sp.nodeAt]
 .have e:=(leaf 9 jI jI jI (aQv.1 h)).trans (aJN (aQv.1 h));refine af (λg=>⟨hr,trivial,fin _ (e.trans ?_)⟩) λg=>fin _ (e.trans ?_)
  .have g:(!(i==0))=true:=g;rw[g];rfl
  grind
 .have n2:=aQl.1 O;have R:=aQl.1 K;have S:=aQl.1 x;have T:=aQl.1 N;have U:=aQl.1 P;exact fin _ ((apa (aQl.1 I) (aQl.1 L) (aQl.1 M)).trans (aJO n2 R S T U))
theorem al3:lY prog G Qj VR:=
 azz (λn=>@QG ⟨n⟩) (λn=>@OB ⟨n⟩) (by rintro⟨q,b,⟨i,o,s,l,a,⟨⟩⟩,r,⟨⟩⟩ h;exact aRd _ h.2) Lj (by rintro⟨q,b,⟨i,o,s,l,a,⟨⟩⟩,r,⟨⟩⟩ h;exact⟨_,h,aRZ _⟩) Lj λn h=>@aad ⟨n⟩ h
theorem adq[kU](D:lY prog G DJ Gv):lY prog G SN OD:=by
 refine adr (XT [pK.e,qG.e,(DJ,.pure Gv),BZ.e] ⟨zx,Gg,⟨D,acI⟩,aa0,trivial⟩) ?_;intro q a t w y i A r B J;obtain⟨⟨u,l,C,hr⟩,hm⟩:=J;have I:a.toNat<q.length:=fC;obtain⟨E,L⟩:=nS u I;have fin:∀z:Bool,Sp.val q (t,w,y,i,A,()) (bK r) a.toNat=z->(z,())=(Sp.val q (t,w,y,i,A,()) (bK r) a.toNat,()):=λz h=>by rw[h]
 have leaf:∀k:Int,k≠5->k≠6->k≠7->(Sp.nodeAt q a.toNat).1=k->Sp.val q (t,w,y,i,A,()) (bK r) a.toNat=mQ (Sp.nodeAt q a.toNat) (t,w,y,i,A,()) (bK r):=λk a b c h=>apa (TJ h a) (TJ h b) (TJ h c);have F:∀k:Int,0<=k->k.toNat<a.toNat->(aN q=true/\0<=k/\k<(q.length:Int)/\bW r)/\k.toNat<je:=λk O K=>⟨⟨u,O,fC,hr⟩,fC⟩;refine⟨⟨l,C⟩,trivial,af (λh=>fin _ ((leaf 1 jI jI jI (aQv.1 h)).trans (aJO (TJ (aQv.1 h) jI) (TJ (aQv.1 h) jI) (TJ (aQv.1 h) jI) (TJ (aQv.1 h) jI) (TJ (aQv.1 h) jI)))) λC=>af (λh=>fin _ ((leaf 2 jI jI jI (aQv.1 h)).trans (aJJ (aQv.1 h)))) λO=>af (λh=>fin _ ((leaf 3 jI jI jI (aQv.1 h)).trans ((aJK (aQv.1 h)).trans (eq3 _ _).symm))) λK=>af (λh=>?_) λx=>af (λh=>?_) λM=>af (λh=>?_) λN=>af (λh=>?_) λP=>af (λh=>⟨hr,trivial,fin _ ((leaf 8 jI jI jI (aQv.1 h)).trans (aJM (aQv.1 h)))⟩) λQ=>?_⟩
 · grind [aJL,Sp.nodeAt]
 .have j:=E (.inl (aQv.1 h));exact⟨F _ j.1 j.2,fin _ (aCY (aQv.1 h) j.2)⟩
 .have ht:jS (Sp.nodeAt q a.toNat)=true:=mg.2 (.inl (aQv.1 h));have j:=E (.inr ht);have o:=L ht;have e:=aCZ (f:=(t,w,y,i,A,())) (X:=bK r) (aQv.1 h) ⟨j.2,o.2⟩
  grind [Sp.nodeAt]
 .have ht:jS (Sp.nodeAt q a.toNat)=true:=mg.2 (.inr (aQv.1 h));have j:=E (.inr ht);have o:=L ht;have e:=aGw (f:=(t,w,y,i,A,())) (X:=bK r) (aQv.1 h) ⟨j.2,o.2⟩
  grind [Sp.nodeAt]
 .have n1:=aQl.1 C;have R:=aQl.1 O;have S:=aQl.1 K;have T:=aQl.1 x;have U:=aQl.1 M;have W:=aQl.1 N;have Y:=aQl.1 P;have Z:=aQl.1 Q;have H:(Sp.nodeAt q a.toNat).1=9:=by
   rcases aEo (nT u I).1 with h|h|h|h|h|h|h|h|h
   .exact(n1 h).elim
   .exact(R h).elim
   .exact(S h).elim
   .exact(T h).elim
   .exact(U h).elim
   .exact(W h).elim
   .exact(Y h).elim
   .exact(Z h).elim
   .exact h
  have e:=(leaf 9 jI jI jI H).trans (aJN H);refine af (λg=>⟨hr,trivial,fin _ (e.trans ?_)⟩) λg=>fin _ (e.trans ?_)
  .have g:(!(i==0))=true:=g;rw[g];rfl
  grind
theorem aa2:lY prog G GR Ij:=
 azz (λn=>@Ud ⟨n⟩) (λn=>@Rq ⟨n⟩) (by rintro⟨q,b,⟨i,o,s,l,a,⟨⟩⟩,r,⟨⟩⟩ h;exact aRd _ h.2) Lj (by rintro⟨q,b,⟨i,o,s,l,a,⟨⟩⟩,r,⟨⟩⟩ h;exact⟨_,h,aRZ _⟩) Lj λn h=>@adq ⟨n⟩ h
theorem arZ:OK Na.e:=by
 refine dW [(Qj,.pure VR),sF.e] ⟨⟨al3,aiB⟩,Jf,⟨⟩⟩ H0 λq b g i j k r=>show Na.goal (ar0 q b g i j k r) (q,(b,g,i,j,k,()),r,())fromλB J=>?_
 dsimp only[Na]at J ⊢;have e:∀z,aN q=z->kz q (b,g,i,j,k,()) (bK r)=(z&&Sp.val q (b,g,i,j,k,()) (bK r) (q.length-1)):=λz l=>by grind [kz]
 refine⟨fC,af (λh=>?_) λh=>?_⟩
 · grind [Sp.jF,rE]
 grind
theorem ar1:OK Nb.e:=by
 refine dW [(GR,.pure Ij),lW.e] ⟨⟨aa2,Y0⟩,rG,⟨⟩⟩ H0 λq b g i j k r=>show Nb.goal (ar2 q b g i j k r) (q,(b,g,i,j,k,()),r,())fromλB J=>?_
 dsimp only[Nb]at J ⊢;have e:∀z,aN q=z->kz q (b,g,i,j,k,()) (bK r)=(z&&Sp.val q (b,g,i,j,k,()) (bK r) (q.length-1)):=λz l=>by grind [kz]
 refine⟨fC,af (λh=>?_) λh=>?_⟩
 · grind [Sp.jF,rE]
 grind
theorem ahm:OK LH.e:=by
 refine dW [Na.e] ⟨arZ,⟨⟩⟩ ajt λe b nx q r=>show LH.goal (ahn e b nx q r) ((e,b,nx,()),q,r,())fromλB J=>?_
 obtain⟨C,O,g⟩:=J;have W:b.length<=1000:=C.2.1;exact apb (K:=λz=>z=(Sp.sel b q (bK r),())) (λf=>kz q f (bK r)) (λf:aG=>(f.1,())) (0,0,false,0,[],()) b _ (A:=λ_=>q.length<=1000/\bW r) (λ_ _=>⟨O,g⟩) fC rfl
theorem Um:OK Eo.e:=by
 refine dW [] ⟨⟩ aju λa b=>show Eo.goal (aho a b) (a,b,())fromλB J=>?_
 exact eqL (K:=λr=>r=(decide (a=b),())) (λx y:Int×Unit=>x.1 !=y.1) (λx y=>jv) _ a b _ B.1.1 rfl
variable {fs:List aG}
theorem Vd(r:List fA)(e:Sp.Bytes->Bool):∃b,(aA d&&aJ (a,fs,nx,()))=true->gX fs d r e b:=by
 by_cases h:(aA d&&aJ (a,fs,nx,()))=true
 .rw[aQm]at h;obtain⟨g,W⟩:=Y7 h.1;obtain⟨b,z⟩:=TL r e (jH.1 h.1).1 W (vI h.2)
  grind
 simp_all
theorem aa3(r:List fA)(e:Sp.Bytes->Bool):∃b,((aA d&&aJ (a,fs,nx,()))=true->gX fs d r e b)/\((aA d&&aJ (a,fs,nx,()))=false->b=[]):=by
 cases h:(aA d&&aJ (a,fs,nx,()))with
 |true=>obtain⟨b,z⟩:=Vd (fs:=fs) (a:=a) (nx:=nx) (d:=d) r e;grind
 |false=>grind
abbrev DD0:aH:=([],[],())
theorem aAd{a b:Int}(h:(a !=b)=false):a=b:=oQ
theorem apc{b:Type}(g:α->b)(d:α)(l:List α)(h:n<l.length):(l.take n).map g++[g (l.getD n d)]=(l.take (n+1)).map g:=by
 grind [Sp.take_succ']
theorem oq(h:aA d=true):dK d=true/\d.length<=5:=⟨(jH.1 h).1,aeK (jH.1 h).1⟩
theorem aAv:∀(l:List (Int×Unit)),0<l.length->∃m:Int,(∀x∈l,x.1<=m)/\(m,())∈l
 |[x],_=>⟨x.1,λy F=>jv,aQR.2 rfl⟩
 |x::y::r,_=>by
  obtain⟨m,C,O⟩:=aAv (y::r) ni;by_cases h:x.1<=m
  .exact⟨m,λz b=>by rcases aQt.1 b with rfl|b;exact h;exact C z b,aQo _ O⟩
  .exact⟨x.1,λz b=>by rcases aQt.1 b with rfl|b;exact aQN _;have:=C z b;omega,aQr⟩
theorem Un:OK zf.e:=by
 refine dW [Nb.e] ⟨ar1,⟨⟩⟩ ajv λb fs nx q r=>show zf.goal (ahp b fs nx q r) ((b,fs,nx,()),q,r,())fromλB J=>?_
 dsimp only[zf]at J ⊢;obtain⟨C,O,g⟩:=J;have W:fs.length<=1000:=C.2.1;obtain⟨I,P,e,h⟩:=apb (K:=λz=>z=(Sp.sel fs q (bK r),())) (λf=>kz q f (bK r)) (λf:aG=>(f.1,())) (0,0,false,0,[],()) fs (q,r,(b,fs,nx,()),()) (A:=λ_=>q.length<=1000/\bW r) (λ_ _=>⟨O,g⟩) fC rfl;refine⟨I,P,e,λy F=>?_⟩
 grind
theorem Ve:OK Jp.e:=by
 refine dW [] ⟨⟩ ax8 λl s=>show Jp.goal (avq l s) (l,s,())fromλB J=>?_
 exact aIm (K:=λr=>r=(iY l s,())) (λx:List UInt8×Unit=>x.1==s) ([],()) l _ B.1.1 rfl
theorem apd:OK KN.e:=by
 refine dW [] ⟨⟩ ar4 λd=>show KN.goal (ape d) (d,())fromλB J=>?_
 dsimp only[KN]at J ⊢;exact aEp (K:=λr=>r=(jM d,())) (λx:aH=>(x.1,())) ([],[],()) d _ fC rfl
theorem Qw:OK zQ.e:=by
 refine dW [] ⟨⟩ ar5 λd=>show zQ.goal (apf d) (d,())fromλB J=>?_
 dsimp only[zQ]at J ⊢;exact aEp (K:=λr=>r=(jM d,())) (λx:aH=>(x.1,())) ([],[],()) d _ fC rfl
theorem afh:OK Dy.e:=by
 refine dW [uP.e] ⟨Ai,⟨⟩⟩ ahq λa b=>show Dy.goal (afi a b) (a,b,())fromλB J=>?_
 dsimp only[Dy]at J ⊢;have L:a.length<=maxLen:=B.1.1;refine af (λh=>?_) λh=>?_
 .have h:(a.length:Int)≠b.length:=oQ;exact congrArg (·,()) (aQH λe=>h (by rw[e])).symm
 .have h:(a.length:Int)=b.length:=oQ;refine iW a.length L (λn=>∀i,i<n->a.getD i Wu=b.getD i Wu) (λi D=>fC) (λI P n H E next=>?_) λI P E=>(by dsimp only;exact gU fC (by rw[aQT (ajw fC E)]));dsimp only;have k:a.getD n Wu≠b.getD n Wu->(false,())=(decide (a=b),()):=λj=>by rw[aQH λe=>j (by rw[e])]
  refine dH fC ⟨⟨fC,fC⟩,⟨fC,fC⟩,af (λg=>k λe=>?_) λg=>⟨⟨fC,fC⟩,⟨fC,fC⟩,trivial,af (λl=>k λe=>?_) λl=>⟨rfl,next λi D=>?_⟩⟩⟩
  · grind
  · grind
  grind
theorem al4:OK Ik.e:=by
 refine eP [] ⟨⟩ apg (λ⟨l,_⟩ J=>by obtain⟨m,h⟩:=aAv l J;exact⟨((m,()),()),h⟩) λl=>show Ik.goal (al5 l) (l,())fromλB J=>?_
 dsimp only[Ik]at J ⊢;have L:l.length<=maxLen:=B.1.1;rw[maxLen_eq]at L;refine⟨λ_=>True,af (λh=>jv) λh=>⟨rfl,trivial⟩,λ_ _=>⟨⟨fC,fC⟩,?_⟩⟩;refine⟨λy=>∃n:Nat,y.1.2.1=n/\1<=n/\n<=l.length/\(∀i,i<n->Sp.lv l i<=y.1.1)/\∃i,i<l.length/\Sp.lv l i=y.1.1,λy=>((l.length:Int)-y.1.2.1).toNat,⟨1,rfl,fC,fC,λi D=>by rw[show i=0 from fC];exact aQN _,0,J,rfl⟩,?_⟩;rintro⟨⟨m,_,⟨⟩⟩,⟨⟩⟩ ⟨n,rfl,n1,n2,h1,h2⟩;dsimp only at h1 h2 ⊢;refine af (λN=>?_) λN=>⟨λx Z=>?_,?_⟩
 .have N:=rU N;have w:IntKind.i64.wrap ((n:Int)+1)=((n+1:Nat):Int):=eH _ fC;rw[w];have e:(l.getD (Int.toNat (n:Int)) (0,())).1=Sp.lv l n:=rfl;refine⟨⟨fC,fC⟩,rfl,⟨n+1,rfl,fC,fC,λi D=>?_,?_⟩,fC⟩
  · grind
  grind
 .have N:=Tf N;exact azW (p:=λz=>z<=m) (λi D=>h1 i fC) x Z
 grind [ajx]
theorem ajy:OK Oc.e:=by
 refine eP [Ik.e,Jo.e] ⟨al4,acW,⟨⟩⟩ H0 (λ⟨d,_⟩ _=>⟨(((1000:Int),()),()),⟨aQN _,λj Y W i D=>by have:=(W.2.1 i D).2;have:=(oq Y).2;grind⟩⟩) λd=>show Oc.goal (ajz d) (d,())fromλB J=>?_
 refine⟨J,?_⟩;rintro⟨⟨j,ok,⟨⟩⟩,⟨⟩⟩ ⟨e1,g⟩;have g:ok=true->nU d j:=g;refine af (λh=>?_) λh=>af (λO=>?_) λO=>⟨?_,?_⟩
 .exact⟨jI,λl Y=>jv⟩
 .have O:(j.length:Int)=0:=by simpa using O
  have W:=g (dN h);exact⟨jI,λl Y b i D=>by have:=W.1;omega⟩
 · grind
 .rintro⟨⟨m,⟨⟩⟩,⟨⟩⟩ ⟨g1,g2⟩;have W:=g (dN h);have L:=(oq (e1▸dN h)).2;refine⟨?_,λl Y b i D=>?_⟩
  .obtain⟨i,D,e⟩:=aQQ g2;have k:i<d.length:=by rw[← W.1];exact D
   have:=(W.2.1 i k).2
   grind [Sp.lv]
  .rw[ajA b W];exact g1 _ (ajx (by rw[W.1];exact D))
theorem Wv:OK FU.e:=by
 refine eP [D8.e] ⟨NG,⟨⟩⟩ al6 (λ⟨d,_⟩ _=>⟨(((1000:Int),()),()),⟨aQN _,λb Y W i D=>by have:=(W.2.1 i D).2;have:=(oq Y).2;grind⟩⟩) λd=>show FU.goal (ajB d) (d,())fromλB J=>?_
 refine⟨J,?_⟩;rintro⟨⟨b,ok,⟨⟩⟩,⟨⟩⟩ ⟨h,k,e3⟩;have h:ok=aA d:=h;have k:ok=true->nU d b:=k;have L:b.length<=5/\∀i,i<b.length->Sp.lv b i<=1000:=by
  cases j:ok with
  |false=>grind
  |true=>have W:=k j;have u:=(oq (h▸j)).2;exact⟨by rw[W.1];exact u,λi D=>by have:=(W.2.1 i (by rw[← W.1];exact D)).2;omega⟩
 refine⟨λy=>∃n:Nat,y.1.2.1=n/\n<=b.length/\y.1.1<=1000/\∀i,i<n->Sp.lv b i<=y.1.1,λy=>((b.length:Int)-y.1.2.1).toNat,⟨0,rfl,fC,jI,λi D=>fC⟩,?_⟩;rintro⟨⟨m,_,⟨⟩⟩,⟨⟩⟩ ⟨n,rfl,n2,hm,h1⟩;dsimp only at hm h1 ⊢;have e:(b.getD (Int.toNat (n:Int)) (0,())).1=Sp.lv b n:=rfl;refine af (λN=>?_) λN=>?_
 .have N:=rU N;have w:IntKind.i64.wrap ((n:Int)+1)=((n+1:Nat):Int):=eH _ fC;rw[w];have o:=L.2 n fC;refine⟨⟨fC,fC⟩,af (λg=>⟨⟨fC,fC⟩,rfl,⟨n+1,rfl,fC,o,λi D=>?_⟩,jv⟩) λg=>⟨rfl,⟨n+1,rfl,fC,hm,λi D=>?_⟩,jv⟩⟩
  · grind
  grind
 .have N:=Tf N;refine⟨hm,λl Y t i D=>?_⟩;have W:=k (h.trans Y);rw[ajA t W];exact h1 i (by rw[← W.1]at D;omega)
theorem al7:OK Il.e:=by
 refine eP [Eo.e,LH.e,Oc.e,uw.e,CO.e,xO.e,Jo.e] ⟨Um,ahm,ajy,Ot,X7,Tc,acW,⟨⟩⟩ aph (λ⟨(a,fs,nx,_),d,r,names,_⟩ _=>by obtain⟨t,h⟩:=aa3 (fs:=fs) (a:=a) (nx:=nx) (d:=d) r (iY names);exact⟨(((t,0,(aA d&&aJ (a,fs,nx,())),()),())),⟨rfl,h⟩⟩) λa fs nx d r names=>show Il.goal (al8 a fs nx d r names) ((a,fs,nx,()),d,r,names,())fromλB J=>?_
 dsimp only[Il]at J ⊢;obtain⟨Y,e,hr⟩:aV (a,fs,nx,())/\aK d/\bW r:=J;refine⟨e,?_⟩;rintro⟨⟨aS,ok0,⟨⟩⟩,⟨⟩⟩ ⟨w,z⟩;have w:ok0=aA d:=w;have z:ok0=true->nU d aS:=z;refine⟨λ_=>ok0=true/\aJ (a,fs,nx,())=true,af (λh=>?_) λh=>⟨trivial,af (λO=>?_) λO=>⟨rfl,dN h,dN O⟩⟩,?_⟩
 · grind
 · grind
 rintro y3 ⟨T,Q⟩;have R:aA d=true:=w▸T;have hz:(aA d&&aJ (a,fs,nx,()))=true:=jv;obtain⟨b,L⟩:=oq R;have W:nU d aS:=z T;have C:=vI Q;have C:Sp.distinct fs:=C;have F:fs.length<=1000:=Y.2.1;refine bQ (λi(x:List fA)=>(((),i,()),x,())) (λy=>y.1.2.1) (λ_ _=>rfl) d.length fC (λn l=>l=(d.take n).map (Ap r (iY names))) rfl (λI P n l H E next=>?_) λI P l E=>?_
 .subst E;have W:((d.take n).map (Ap r (iY names))).length<=n:=jv;have step:=apc (Ap r (iY names)) DD0 d H
  grind [bV,Ap]
 subst E;rw[aQK];dsimp only;refine gU fC ⟨λy=>∃k:Nat,y.1.2.1=k/\sQ fs d r (iY names) aS k y.2.1,λy=>(1002-y.1.2.1).toNat,⟨0,rfl,VE b W⟩,?_⟩;rintro⟨⟨ps,_,⟨⟩⟩,t,⟨⟩⟩ ⟨k,rfl,A⟩;dsimp only at A ⊢;refine⟨e,?_⟩;rintro⟨⟨m,⟨⟩⟩,⟨⟩⟩ ⟨U,Z⟩;have U:m<=1000:=U;have Z:∀i,i<d.length->Sp.lv aS i<=m:=Z aS R W;refine af (λN=>?_) λN=>⟨hz.symm,λ_=>Sp.at_end b W A λi D=>jv,λh=>o5⟩;have N:(k:Int)<=m:=rU N;refine⟨λy=>sQ fs d r (iY names) aS k y.2.1/\(y.1.2.1=false->∀i,i<d.length->iY names (Sp.nameOf d i)=true->Sp.lv aS i=k->Sp.sel fs (fQ d i) (bK y.2.1)=kY y.2.1 i),λy=>Sp.room fs.length y.2.1*2+(if y.1.2.1=true then 1 else 0),⟨A,λh=>o5⟩,?_⟩;rintro⟨⟨ps2,ch,⟨⟩⟩,ajC,⟨⟩⟩ ⟨A2,st2⟩;dsimp only at A2 st2 ⊢;have wk:IntKind.i64.wrap ((k:Int)+1)=((k+1:Nat):Int):=eH _ fC;refine af (λg=>?_) λg=>⟨rfl,⟨k+1,wk,Sp.at_next b A2 (st2 g)⟩,jv⟩;subst g;refine bQ (λi(x:Bool×List fA)=>((x.1,i,()),x.2,())) (λy=>y.1.2.1) (λ_ _=>rfl) d.length fC (λi x=>Vf fs d r (iY names) aS k ajC i x.1 x.2) (s0:=(false,ajC)) ⟨A2,λh=>o5,λ_=>⟨rfl,λj hj=>fC⟩⟩ (λI P i x D E next=>?_) λI P x E=>?_
 .obtain⟨c,o⟩:=x;have u:=E.1;have ol:o.length=d.length:=u.order.1;have M:=abT u fC F hr;dsimp only;rw[aQs];refine dH fC ⟨⟨fC,fC⟩,⟨fC,by rw[W.1];omega⟩,af (λh=>⟨rfl,next (c,o) (Ia E λ_ S=>?_)⟩) λh=>⟨trivial,af (λO=>⟨rfl,next (c,o) (Ia E λS=>?_)⟩) λO=>⟨⟨Y,yC e D,M⟩,⟨fC,fC⟩,fC,trivial,af (λK=>⟨⟨fC,fC⟩,fC,rfl,next (true,_) (apj b W C E D (dN O) ?_ ?_)⟩) λK=>⟨rfl,next (c,o) (Ia E λ_ _=>?_)⟩⟩⟩⟩
  .exact(aR5.1 h S).elim
  .have O:iY names (Sp.nameOf d i)=false:=kJ O
   grind
  .exact aAd h
  .exact Tf (kJ K)
  .exact rU (dN K)
 .obtain⟨c,o⟩:=x;dsimp only;obtain⟨u,c1,c2⟩:=E
  grind
theorem ajD:OK FV.e:=by
 refine eP [uP.e,zf.e,FU.e,Jp.e,qG.e,kQ.e,D8.e] ⟨Ai,Un,Wv,Ve,Gg,oK,NG,⟨⟩⟩ al9 (λ⟨(a,fs,nx,_),d,r,names,_⟩ _=>by obtain⟨t,h⟩:=Vd (fs:=fs) (a:=a) (nx:=nx) (d:=d) r (iY names);exact⟨(((t,(aA d&&aJ (a,fs,nx,())),()),())),⟨rfl,h⟩⟩) λa fs nx d r names=>show FV.goal (ajE a fs nx d r names) ((a,fs,nx,()),d,r,names,())fromλB J=>?_
 dsimp only[FV]at J ⊢;obtain⟨Y,e,hr⟩:aV (a,fs,nx,())/\aK d/\bW r:=J;refine⟨e,?_⟩;rintro⟨⟨aS,ok0,⟨⟩⟩,⟨⟩⟩ ⟨w,z,_⟩;have w:ok0=aA d:=w;have z:ok0=true->nU d aS:=z;refine⟨λ_=>ok0=true/\aJ (a,fs,nx,())=true,af (λh=>?_) λh=>⟨trivial,af (λO=>?_) λO=>⟨rfl,dN h,dN O⟩⟩,?_⟩
 · grind
 · grind
 rintro y3 ⟨T,Q⟩;have R:aA d=true:=w▸T;have hz:(aA d&&aJ (a,fs,nx,()))=true:=jv;obtain⟨b,L⟩:=oq R;have W:nU d aS:=z T;have C:=vI Q;have C:Sp.distinct fs:=C;have F:fs.length<=1000:=Y.2.1;refine bQ (λi(x:List fA)=>(((),i,()),x,())) (λy=>y.1.2.1) (λ_ _=>rfl) d.length fC (λn l=>l=(d.take n).map (Ap r (iY names))) rfl (λI P n l H E next=>?_) λI P l E=>?_
 .subst E;have W:((d.take n).map (Ap r (iY names))).length<=n:=jv;have step:=apc (Ap r (iY names)) DD0 d H
  grind [bV,Ap]
 subst E;rw[aQK];dsimp only;refine gU fC ⟨λy=>∃k:Nat,y.1.1=k/\sQ fs d r (iY names) aS k y.2.1,λy=>(1002-y.1.1).toNat,⟨0,rfl,VE b W⟩,?_⟩;rintro⟨⟨_,⟨⟩⟩,t,⟨⟩⟩ ⟨k,rfl,A⟩;dsimp only at A ⊢;refine⟨e,?_⟩;rintro⟨⟨m,⟨⟩⟩,⟨⟩⟩ ⟨U,Z⟩;have U:m<=1000:=U;have Z:∀i,i<d.length->Sp.lv aS i<=m:=Z aS R W;refine af (λN=>?_) λN=>⟨hz.symm,λ_=>Sp.at_end b W A λi D=>jv⟩;have N:(k:Int)<=m:=rU N;refine⟨λy=>sQ fs d r (iY names) aS k y.2.1/\(y.1.1=false->∀i,i<d.length->iY names (Sp.nameOf d i)=true->Sp.lv aS i=k->Sp.sel fs (fQ d i) (bK y.2.1)=kY y.2.1 i),λy=>Sp.room fs.length y.2.1*2+(if y.1.1=true then 1 else 0),⟨A,λh=>o5⟩,?_⟩;rintro⟨⟨ch,⟨⟩⟩,ajC,⟨⟩⟩ ⟨A2,st2⟩;dsimp only at A2 st2 ⊢;have wk:IntKind.i64.wrap ((k:Int)+1)=((k+1:Nat):Int):=eH _ fC;refine af (λg=>?_) λg=>⟨rfl,⟨k+1,wk,Sp.at_next b A2 (st2 g)⟩,jv⟩;subst g;refine bQ (λi(x:Bool×List fA)=>((x.1,i,()),x.2,())) (λy=>y.1.2.1) (λ_ _=>rfl) d.length fC (λi x=>Vf fs d r (iY names) aS k ajC i x.1 x.2) (s0:=(false,ajC)) ⟨A2,λh=>o5,λ_=>⟨rfl,λj hj=>fC⟩⟩ (λI P i x D E next=>?_) λI P x E=>?_
 .obtain⟨c,o⟩:=x;have u:=E.1;have ol:o.length=d.length:=u.order.1;have M:=abT u fC F hr;dsimp only;rw[aQs];refine dH fC ⟨⟨fC,by rw[W.1];omega⟩,af (λh=>⟨rfl,next (c,o) (Ia E λ_ S=>?_)⟩) λh=>⟨⟨fC,fC⟩,trivial,af (λO=>⟨rfl,next (c,o) (Ia E λS=>?_)⟩) λO=>⟨⟨fC,fC⟩,⟨Y,yC e D,M⟩,⟨fC,fC⟩,fC,trivial,af (λK=>⟨⟨fC,fC⟩,fC,rfl,next (true,_) (apj b W C E D (dN O) ?_ ?_)⟩) λK=>⟨rfl,next (c,o) (Ia E λ_ _=>?_)⟩⟩⟩⟩
  .exact(aR5.1 h S).elim
  .have O:iY names (Sp.nameOf d i)=false:=kJ O
   grind
  .exact aAd h
  .exact Tf (kJ K)
  .exact rU (dN K)
 .obtain⟨c,o⟩:=x;dsimp only;obtain⟨u,c1,c2⟩:=E
  grind
theorem avr:OK Pz.e:=by
 refine eP [uP.e,zf.e,FU.e,kQ.e,D8.e] ⟨Ai,Un,Wv,oK,NG,⟨⟩⟩ ax9 (λ⟨(a,fs,nx,_),d,_⟩ _=>by obtain⟨o,h⟩:=aa3 (fs:=fs) (a:=a) (nx:=nx) (d:=d) [] (λ_=>true);exact⟨(((o,0,(aA d&&aJ (a,fs,nx,())),()),())),⟨rfl,h⟩⟩) λa fs nx d=>show Pz.goal (avs a fs nx d) ((a,fs,nx,()),d,())fromλB J=>?_
 dsimp only[Pz]at J ⊢;obtain⟨Y,e⟩:aV (a,fs,nx,())/\aK d:=J;have hr:bW []:=⟨jI,λx Z=>vk⟩;refine⟨e,?_⟩;rintro⟨⟨aS,ok0,⟨⟩⟩,⟨⟩⟩ ⟨w,z,_⟩;have w:ok0=aA d:=w;have z:ok0=true->nU d aS:=z;refine⟨λ_=>ok0=true/\aJ (a,fs,nx,())=true,af (λh=>?_) λh=>⟨trivial,af (λO=>?_) λO=>⟨rfl,dN h,dN O⟩⟩,?_⟩
 · grind
 · grind
 rintro y3 ⟨S,Q⟩;have R:aA d=true:=w▸S;have hz:(aA d&&aJ (a,fs,nx,()))=true:=jv;obtain⟨b,L⟩:=oq R;have W:nU d aS:=z S;have C:=vI Q;have C:Sp.distinct fs:=C;have F:fs.length<=1000:=Y.2.1;refine bQ (λi(x:List fA)=>(((),i,()),x,())) (λy=>y.1.2.1) (λ_ _=>rfl) d.length fC (λn l=>l=(d.take n).map (Ap [] (λ_=>true))) rfl (λI P n l H E next=>?_) λI P l E=>?_
 .subst E;have W:((d.take n).map (Ap [] (λ_=>true))).length<=n:=jv;have step:=apc (Ap [] (λ_=>true)) DD0 d H;dsimp only;refine dH fC ⟨⟨fC,fC⟩,yJ,rfl,next _ ?_⟩;rw[← step];rfl
 subst E;rw[aQK];dsimp only;refine gU fC ⟨λy=>∃k:Nat,y.1.2.1=k/\sQ fs d [] (λ_=>true) aS k y.2.1,λy=>(1002-y.1.2.1).toNat,⟨0,rfl,VE b W⟩,?_⟩;rintro⟨⟨ps,_,⟨⟩⟩,o,⟨⟩⟩ ⟨k,rfl,A⟩;dsimp only at A ⊢;refine⟨e,?_⟩;rintro⟨⟨m,⟨⟩⟩,⟨⟩⟩ ⟨T,U⟩;have T:m<=1000:=T;have U:∀i,i<d.length->Sp.lv aS i<=m:=U aS R W;refine af (λN=>?_) λN=>⟨hz.symm,λ_=>Sp.at_end b W A λi D=>jv,λh=>o5⟩;have N:(k:Int)<=m:=rU N;refine⟨λy=>sQ fs d [] (λ_=>true) aS k y.2.1/\(y.1.2.1=false->∀i,i<d.length->true=true->Sp.lv aS i=k->Sp.sel fs (fQ d i) (bK y.2.1)=kY y.2.1 i),λy=>Sp.room fs.length y.2.1*2+(if y.1.2.1=true then 1 else 0),⟨A,λh=>o5⟩,?_⟩;rintro⟨⟨ps2,ch,⟨⟩⟩,ajC,⟨⟩⟩ ⟨A2,st2⟩;dsimp only at A2 st2 ⊢;have wk:IntKind.i64.wrap ((k:Int)+1)=((k+1:Nat):Int):=eH _ fC;refine af (λg=>?_) λg=>⟨rfl,⟨k+1,wk,Sp.at_next b A2 (st2 g)⟩,jv⟩;subst g;refine bQ (λi(x:Bool×List fA)=>((x.1,i,()),x.2,())) (λy=>y.1.2.1) (λ_ _=>rfl) d.length fC (λi x=>Vf fs d [] (λ_=>true) aS k ajC i x.1 x.2) (s0:=(false,ajC)) ⟨A2,λh=>o5,λ_=>⟨rfl,λj hj=>fC⟩⟩ (λI P i x D E next=>?_) λI P x E=>?_
 .obtain⟨c,t⟩:=x;have u:=E.1;have ol:t.length=d.length:=u.order.1;have M:=abT u fC F hr;dsimp only;rw[aQs];refine dH fC ⟨⟨fC,by rw[W.1];omega⟩,af (λh=>⟨rfl,next (c,t) (Ia E λ_ h'=>?_)⟩) λh=>⟨⟨fC,fC⟩,⟨Y,yC e D,M⟩,⟨fC,fC⟩,fC,trivial,af (λK=>⟨⟨fC,fC⟩,fC,rfl,next (true,_) (apj b W C E D rfl ?_ ?_)⟩) λK=>⟨rfl,next (c,t) (Ia E λ_ _=>?_)⟩⟩⟩
  .exact(aR5.1 h h').elim
  .exact aAd h
  .exact Tf (kJ K)
  .exact rU (dN K)
 .obtain⟨c,t⟩:=x;dsimp only;obtain⟨u,c1,c2⟩:=E
  grind
theorem Zo:OK KO.e:=by
 refine dW [] ⟨⟩ H0 λb e g h i id=>show KO.goal (apk b e g h i id) ((b,e,g,h,i,()),(id,()),())fromλB J=>?_
 exact rfl
theorem FI:OK kH.e:=by
 refine dW [KO.e] ⟨Zo,⟨⟩⟩ FO λh id=>show kH.goal (FK h id) (h,((id,()),()),())fromλB J=>?_
 dsimp only[kH]at J ⊢;have L:h.length<=maxLen:=B.1.1;refine iW h.length L (λn=>∀i,i<n->(Sp.fileAt h i).1≠id) (λi D=>fC) (λI P n H E next=>?_) λI P E=>?_
 · grind [Sp.fileAt,Sp.UX,Nat.lt_or_ge]
 grind [aeF]
theorem avt:OK WY.e:=by
 refine dW [kH.e,KO.e] ⟨FI,Zo,⟨⟩⟩ H0 λb h e id=>show WY.goal (avu b h e id) ((b,h,e,()),id,())fromλB J=>?_
 exact⟨trivial,rfl⟩
theorem Jg:OK wB.e:=by
 refine dW [uN.e,vX.e] ⟨Af,I8,⟨⟩⟩ H0 λb h e id=>show wB.goal (apl b h e id) ((b,h,e,()),id,())fromλB J=>?_
 dsimp only[wB]at J ⊢;obtain⟨l,C,O⟩:b.length<=1000/\h.length<=1000/\∀f∈h,fZ f:=J;refine⟨trivial,?_⟩
 grind [vT,bI,aAw,Sp.fileAt]
theorem Uo:OK zh.e:=by
 refine eP [uN.e,uM.e,kQ.e,vX.e,qW.e] ⟨Af,Ky,oK,I8,Ag,⟨⟩⟩ ajF (λ⟨s,f,_⟩ _=>⟨((((bU s f).1.1,(bU s f).1.2.1,(bU s f).1.2.2.1,()),(bU s f).2,()),()),⟨rfl,rfl,rfl,rfl⟩⟩) λo t u b g i j k=>show zh.goal (ahr o t u b g i j k) ((o,t,u,()),(b,g,i,j,k,()),())fromλB J=>?_
 dsimp only[zh]at J ⊢;refine⟨J.1,?_⟩;rintro⟨⟨⟨a,l,nx,⟨⟩⟩,⟨⟩⟩,⟨⟩⟩ e;have w:¬(aJ (a,l,nx,())=true/\0<=Sp.place l b/\fD a (b,g,i,j,k,())=true)->bU (a,l,nx,()) (b,g,i,j,k,())=((a,l,nx,()),false):=λh=>by
  grind [mG]
 refine⟨trivial,trivial,af (λC=>?_) λC=>af (λO=>?_) λO=>⟨trivial,af (λK=>?_) λK=>?_⟩⟩
 · grind
 · grind
 · grind
 grind [mG]
theorem afj{i:Nat}(D:i<d.length):iY (jM d) (Sp.nameOf d i)=true:=by rw[mV];unfold jM;rw[aQW];exact⟨dh d i,getD_mem D,rfl⟩
theorem EU:bW []:=⟨jI,λx Z=>vk⟩
variable {out:List fA}
theorem aGy(h:gX fs d [] (iY (jM d)) out):gX fs d [] (λ_=>true) out:=
 abU h (λi D=>afj D) λi D H=>absurd ((afj D).symm.trans H) jI
theorem apm:OK Rt.e:=by
 refine eP [Il.e,KN.e] ⟨al7,apd,⟨⟩⟩ H0 (λ⟨(a,fs,nx,_),d,_⟩ _=>by obtain⟨out,h⟩:=aa3 (fs:=fs) (a:=a) (nx:=nx) (d:=d) [] (λ_=>true);exact⟨(((out,(aA d&&aJ (a,fs,nx,())),()),())),⟨rfl,h⟩⟩) λa fs nx d=>show Rt.goal (apn a fs nx d) ((a,fs,nx,()),d,())fromλB J=>?_
 refine⟨J.2.1,⟨J.1,J.2,EU⟩,λr hr=>⟨hr.1,λh=>aGy (hr.2.1 h),hr.2.2⟩⟩
theorem Qx:OK Ep.e:=by
 refine eP [Pz.e] ⟨avr,⟨⟩⟩ ar6 (λ⟨(a,fs,nx,_),d,_⟩ _=>by obtain⟨out,h⟩:=aa3 (fs:=fs) (a:=a) (nx:=nx) (d:=d) [] (λ_=>true);exact⟨(((out,(aA d&&aJ (a,fs,nx,())),()),())),⟨rfl,h⟩⟩) λa fs nx d=>show Ep.goal (apo a fs nx d) ((a,fs,nx,()),d,())fromλB J=>?_
 exact⟨J,λr hr=>hr⟩
theorem aEq(a:List dm)(fs:List aG)(nx:Int)(d:List aH):∃t:((List dm×List aG×Int×List aH×List fA×Unit)×Bool×Unit)×Unit,
 t.1.2.1=(aA d&&aJ (a,fs,nx,()))/\(t.1.2.1=true->(t.1.1.1,t.1.1.2.1,t.1.1.2.2.1,())=(a,fs,nx,())/\t.1.1.2.2.2.1=d/\gX fs d [] (λ_=>true) t.1.1.2.2.2.2.1)/\(t.1.2.1=false->(t.1.1.1,t.1.1.2.1,t.1.1.2.2.1,t.1.1.2.2.2.1,t.1.1.2.2.2.2.1,())=([],[],0,[],[],())):=by
 obtain⟨out,h⟩:=Vd (fs:=fs) (a:=a) (nx:=nx) (d:=d) [] (λ_=>true);cases j:(aA d&&aJ (a,fs,nx,()))with
 |true=>exact⟨(((a,fs,nx,d,out,()),true,()),()),⟨rfl,λ_=>⟨rfl,rfl,h j⟩,λh=>o5⟩⟩
 |false=>simp_all
theorem MH:OK wU.e:=by
 refine eP [uQ.e,qW.e,Ep.e] ⟨EN,Ag,Qx,⟨⟩⟩ ama (λ⟨(a,fs,nx,_),d,_⟩ _=>aEq a fs nx d) λa fs nx d=>show wU.goal (ajG a fs nx d) ((a,fs,nx,()),d,())fromλB J=>?_
 dsimp only[wU]at J ⊢;refine⟨J,λg b=>af (λh=>?_) λh=>⟨J.1,λi e=>⟨J.2,?_⟩⟩⟩
 · grind
 grind
theorem ajH(h:(aA d&&aJ (a,fs,nx,()))=true)(z:gX fs d [] (λ_=>true) out):dn (a,fs,nx,d,r,())=decide (out=r):=by
 have e:dn (a,fs,nx,d,r,())=((aA d&&aJ (a,fs,nx,()))&&@decide (gX fs d [] (λ_=>true) r) (Classical.propDecidable _)):=rfl
 grind [TM,jH]
theorem aLI(h:(aA d&&aJ (a,fs,nx,()))=false):dn (a,fs,nx,d,r,())=false:=by
 have e:dn (a,fs,nx,d,r,())=((aA d&&aJ (a,fs,nx,()))&&@decide (gX fs d [] (λ_=>true) r) (Classical.propDecidable _)):=rfl
 grind
theorem nN:OK kR.e:=by
 refine dW [Dy.e,Ep.e] ⟨afh,Qx,⟨⟩⟩ H0 λa fs nx d r=>show kR.goal (amb a fs nx d r) ((a,fs,nx,d,r,()),())fromλB J=>?_
 dsimp only[kR]at J ⊢;obtain⟨C,O,K⟩:aV (a,fs,nx,())/\aK d/\bW r:=J;refine⟨⟨C,O⟩,λe b=>af (λh=>⟨trivial,?_⟩) λh=>?_⟩
 · grind [ajH]
 grind [aLI]
theorem aHp:OK P7.e:=by
 refine dW [] ⟨⟩ apq λb e g h a=>show P7.goal (amc b e g h a) ((b,e,g,h,a,()),())fromλB J=>?_
 dsimp only[P7]at J ⊢;exact aEp (K:=λr=>r=(nZ a,())) (λx:aW=>(x.1,())) ([],0,0,[],()) a _ fC rfl
theorem abV:OK zT.e:=by
 refine eP [] ⟨⟩ ads (λ⟨(_,_,_,_,a,_),_⟩ _=>⟨((nZ a,()),()),rfl⟩) λb e g h a=>show zT.goal (abW b e g h a) ((b,e,g,h,a,()),())fromλB J=>?_
 dsimp only[zT]at J ⊢;exact aEp (K:=λr=>r.1=nZ a) (λx:aW=>(x.1,())) ([],0,0,[],()) a _ fC rfl
theorem aGz(g:α->Sp.Bytes)(l:List α)(s:Sp.Bytes):(s,())∈l.map (λx=>(g x,()))↔s∈l.map g:=ni
theorem aa4{b:Type}(p:α->Bool)(g:α->b)(d:α)(l:List α)(h:n<l.length)(s:b):s∈((l.take (n+1)).filter p).map g↔s∈((l.take n).filter p).map g\/(p (l.getD n d)=true/\s=g (l.getD n d)):=by
 grind [JW]
def apr(n:aO):Bool:=n.1==2||(n.1==3||n.1==4)
theorem Xh(l:List Sp.Bytes)(h:l.length<=1000):iE (l.map λs=>(s,())) l:=⟨jv,λs=>ni⟩
theorem aB3(q:List aO):(yu q).length<=q.length:=by
 grind [yu]
theorem aEr(q:List aO):(AX q).length<=q.length:=by
 grind [AX]
abbrev NN0:aO:=(0,0,0,[],0,0,[],())
theorem aKx(n:aO):(decide (2<=n.1)&&decide (n.1<=4))=apr n:=by
 grind [apr]
theorem aLJ(n:aO):(decide (8<=n.1)&&decide (n.1<=9))=tN n:=by
 grind [tN]
theorem ajI:OK FX.e:=by
 refine eP [xg.e,gI.e] ⟨Hu,gW,⟨⟩⟩ amd (λ⟨q,_⟩ J=>⟨((_,()),()),Xh (yu q) (aQn (aB3 q) J)⟩) λq=>show FX.goal (ajJ q) (q,())fromλB J=>?_
 dsimp only[FX]at J ⊢;delta ajJ aY aj bJ;refine bQ (λi(x:Sp.LS)=>((x,i,()),())) (λy=>y.1.2.1) (λ_ _=>rfl) q.length fC (λn l=>l.length<=n/\∀s,(s,())∈l↔s∈((q.take n).filter apr).map λn=>n.2.2.2.1) ⟨aQp _,λs=>ni⟩ (λI P n l H E next=>?_) λI P l E=>?_
 .rw[aQs,aKx]
  grind [afk,AP,aa4]
 .obtain⟨hl,E⟩:=E;rw[aQK]at E;dsimp only;exact gU fC ⟨o6,fC,E⟩
theorem ame:OK Io.e:=by
 refine eP [xg.e,gI.e] ⟨Hu,gW,⟨⟩⟩ aps (λ⟨q,_⟩ J=>⟨((_,()),()),Xh (AX q) (aQn (aEr q) J)⟩) λq=>show Io.goal (amf q) (q,())fromλB J=>?_
 dsimp only[Io]at J ⊢;delta amf aY aj bJ;refine bQ (λi(x:Sp.LS)=>((x,i,()),())) (λy=>y.1.2.1) (λ_ _=>rfl) q.length fC (λn l=>l.length<=n/\∀s,(s,())∈l↔s∈((q.take n).filter tN).map λn=>n.2.2.2.1) ⟨aQp _,λs=>ni⟩ (λI P n l H E next=>?_) λI P l E=>?_
 .rw[aQs,aLJ]
  grind [afk,AP,aa4]
 .obtain⟨hl,E⟩:=E;rw[aQK]at E;dsimp only;exact gU fC ⟨o6,fC,E⟩
def Zp(a b:List aW)(x:Sp.Bytes×Unit):Bool:=!decide (dA a x.1=dA b x.1)
theorem aB4(e g:Int)(h:Bool)(i:Int)(a:List aW)(j k:Int)(l:Bool)(o:Int)(b:List aW)(s:Sp.Bytes):
 (s,())∈(nZ a++nZ b).filter (Zp a b)↔s∈uy (e,g,h,i,a,()) (j,k,l,o,b,()):=by
 unfold uy nZ;rw[aQ4,aQ4,← aRq,aGz];exact Iff.rfl
theorem aAx(f g:aG):(uy f g).length<=f.2.2.2.2.1.length+g.2.2.2.2.1.length:=by
 grind [uy]
theorem afl:OK Dz.e:=by
 refine eP [xg.e,BZ.e,zT.e] ⟨Hu,aa0,abV,⟨⟩⟩ ahs (λ⟨f,g,_⟩ J=>⟨((_,()),()),Xh (uy f g) (aQn (aAx f g) J.2.2)⟩) λj k o t a u z A C b=>show Dz.goal (afm j k o t a u z A C b) ((j,k,o,t,a,()),(u,z,A,C,b,()),())fromλB J=>?_
 dsimp only[Dz]at J ⊢;delta afm Aw agl aj bJ;obtain⟨K,U,M⟩:a.length<=1000/\b.length<=1000/\a.length+b.length<=1000:=J;refine⟨K,?_⟩;rintro⟨⟨r0,⟨⟩⟩,⟨⟩⟩ e;have e:r0=nZ a:=e;refine⟨U,?_⟩;rintro⟨⟨r1,⟨⟩⟩,⟨⟩⟩ w;have w:r1=nZ b:=w;subst e w;have D:(nZ a++nZ b).length=a.length+b.length:=by grind [nZ]
 refine⟨yJ,?_⟩;dsimp only;generalize F:nZ a++nZ b=L at D;refine bQ (λi(x:Sp.LS)=>((x,i,()),())) (λy=>y.1.2.1) (λ_ _=>rfl) L.length fC (λn l=>l.length<=n/\∀s,(s,())∈l↔(s,())∈(L.take n).filter (Zp a b)) ⟨aQp _,λs=>ni⟩ (λI P n l H E next=>?_) λI P l E=>?_
 .obtain⟨hl,E⟩:=E;have step:=JW (Zp a b) ([],()) L H;dsimp only;rw[eq3,aQs];refine dH fC ⟨⟨fC,fC⟩,fC,trivial,⟨fC,fC⟩,fC,trivial,af (λh=>⟨⟨fC,fC⟩,fC,fC,rfl,next _ ⟨aQn (afk _ _) fC,λs=>?_⟩⟩) λh=>⟨rfl,next _ ⟨fC,λs=>?_⟩⟩⟩
  · grind [Zp,AP]
  grind [Zp]
 .obtain⟨hl,E⟩:=E;rw[aQK]at E;dsimp only;refine gU fC ⟨o6,fC,λs=>(E s).trans ?_⟩
  grind [aB4]
def asks(name:Sp.Bytes)(x:aH):Bool:=(AX x.2.1).contains name
theorem amg:OK P8.e:=by
 refine dW [] ⟨⟩ apt λq=>show P8.goal (amh q) (q,())fromλB J=>?_
 exact aIm (K:=λr=>r=(Sp.linked q,())) (λn:aO=>n.1==9) NN0 q _ B.1.1 rfl
theorem Zq:OK xK.e:=by
 refine eP [] ⟨⟩ aaf (λ⟨s,_⟩ _=>⟨((s,()),()),rfl⟩) λs=>show xK.goal (Zr s) (s,())fromλB J=>?_
 dsimp only[xK]at J ⊢;intro g b
 grind [bV]
def ar7(f g:aG)(x:aH):Bool:=(yu x.2.1).any (λt=>(uy f g).contains t)||(Sp.linked x.2.1&&f.2.2.2.1 !=g.2.2.2.1)
theorem ano{p:aH->Bool}:iY ((d.filter p).map λx=>(x.1,())) s=true↔∃i,i<d.length/\Sp.nameOf d i=s/\p (dh d i)=true:=by
 have b:∀i(D:i<d.length),dh d i=d[i]:=λi D=>by grind [dh]
 grind [mV,List.getElem_of_mem,Sp.nameOf]
variable {g:aG}
theorem ajK(h:f.1=g.1):Sp.touched d f g ((d.filter (ar7 f g)).map λx=>(x.1,())):=by
 refine⟨jv,λs=>ano.trans ?_⟩;unfold Vg ar7;constructor
 .rintro⟨i,hi,e,J⟩;refine⟨i,hi,e,.inr ?_⟩;rw[aRo,aRA,aQm]at J;rcases J with⟨t,C,O⟩|⟨C,O⟩
  .exact .inl ⟨t,C,aR9.1 O⟩
  .exact .inr ⟨C,aR5.1 O⟩
 .rintro⟨i,hi,e,J⟩;refine⟨i,hi,e,?_⟩;rw[aRo,aRA,aQm];rcases J with J|⟨t,C,O⟩|⟨C,O⟩
  .omega
  .exact .inl ⟨t,C,aR9.2 O⟩
  .exact .inr ⟨C,aR5.2 O⟩
theorem anp(h:f.1≠g.1):Sp.touched d f g (jM d):=by
 refine⟨by grind [jM],λs=>?_⟩;have:jM d=(d.filter λ_=>true).map λx=>(x.1,()):=by rw[aR0.2 λ_ _=>rfl];rfl
 rw[this,ano];exact⟨λ⟨i,D,e,_⟩=>⟨i,D,e,.inl h⟩,λ⟨i,D,e,_⟩=>⟨i,D,e,rfl⟩⟩
theorem anq(d:List aH)(f g:aG):∃r,Sp.touched d f g r:=by
 by_cases h:f.1=g.1
 .exact⟨_,ajK h⟩
 .exact⟨_,anp h⟩
theorem aLK{b e:Sp.LS}(l:iE b (uy f g))(K:iE e (yu q)):(b.any λx=>iY e x.1)=(yu q).any λt=>(uy f g).contains t:=by
 rw[aRJ,aRA,aRA];constructor
 .rintro⟨x,hx,h⟩;exact⟨x.1,(K.2 _).1 (mV.1 h),aR9.2 ((l.2 x.1).1 hx)⟩
 .rintro⟨t,ht,h⟩;exact⟨(t,()),(l.2 t).2 (aR9.1 h),mV.2 ((K.2 t).2 ht)⟩
theorem ajL{α:Type}[BEq α][LawfulBEq α]:∀(a b:List α),a.Nodup->(∀x∈a,x∈b)->a.length<=b.length
 |[],_,_,_=>aQx _
 |x::r,b,hn,h=>by
  rw[List.nodup_cons]at hn;have e:=ajL r (b.erase x) hn.2 λy F=>by
   grind
  grind
def Grown(d:List aH)(names out:Sp.LS):Prop:=∃b,out=names++b/\b.Nodup/\(∀x∈b,x∈jM d)/\∀x∈out,Sp.Reach d (λs=>iY names s=true) x.1
theorem Grown.len{names out:Sp.LS}(h:Grown d names out):out.length<=names.length+d.length:=by
 obtain⟨b,rfl,C,O,_⟩:=h;have:=ajL b (jM d) C O
 grind [jM]
theorem Grown.add{names out:Sp.LS}(h:Grown d names out){x:Sp.Bytes×Unit}(C:x∈jM d)(O:x ∉ out)(K:Sp.Reach d (λs=>iY names s=true) x.1):Grown d names (out++[x]):=by
 obtain⟨b,rfl,e,i,j⟩:=h;refine⟨b++[x],jv,?_,λy F=>?_,λy F=>?_⟩
 · grind
 · grind
 grind
theorem ajM{i:Nat}(D:i<d.length):(Sp.nameOf d i,())∈jM d:=mV.1 (afj D)
theorem anr(d:List aH)(e:d.length<=5)(names:Sp.LS)(H:names.length<=900):∃r,Sp.reached d names r:=by
 refine⟨names++(jM d).filter (λx=>@decide (Sp.Reach d (λs=>iY names s=true) x.1) (Classical.propDecidable _)),?_,λs=>?_⟩
 · grind [jM]
 .rw[mV,aQM,aQ4];constructor
  .rintro(h|⟨_,h⟩)
   .exact .base (mV.2 h)
   grind
  .intro h;have b:=h;cases h with
   |base hb=>grind [mV]
   |step _ hi _=>grind [ajM]
theorem aKy(d:List aH)(e:d.length<=5)(f g:aG):∃r,Sp.isSet r (Aff d f g):=by obtain⟨t,b⟩:=anq d f g;obtain⟨r,hr⟩:=anr d e t (by have:=b.1;omega);refine⟨r,hr.1,λs=>(hr.2 s).trans ?_⟩;have:(λs=>iY t s=true)=Vg d f g:=funext λs=>propext (b.2 s);rw[this];rfl
theorem aLL{t r:Sp.LS}(b:Sp.touched d f g t)(hr:Sp.reached d t r):Sp.isSet r (Aff d f g):=by refine⟨hr.1,λs=>(hr.2 s).trans ?_⟩;have:(λs=>iY t s=true)=Vg d f g:=funext λs=>propext (b.2 s);rw[this];rfl
theorem Ov:OK CP.e:=by
 refine dW [zO.e] ⟨O6,⟨⟩⟩ H0 λx b=>show CP.goal (ami x b) (x,(b,()),())fromλB J=>?_
 exact⟨trivial,rfl⟩
theorem JE:OK pW.e:=by
 refine dW [CP.e] ⟨Ov,⟨⟩⟩ KA λl b=>show pW.goal (JF l b) (l,((b,()),()),())fromλB J=>?_
 exact aGA (K:=λr=>r=(Sp.findAt (λx:Int×Unit=>fF b x.1) l,())) (λx:Int×Unit=>fF b x.1) (0,()) l _ B.1.1 rfl
theorem Jh:OK lG.e:=by
 refine eP [pW.e,CP.e] ⟨JE,Ov,⟨⟩⟩ JG (λ⟨s,((b,_),_),_⟩ _=>⟨((s.filter (λx=>!fF b x.1),()),()),rfl⟩) λs b=>show lG.goal (Ji s b) (s,((b,()),()),())fromλB J=>?_
 dsimp only[lG]at J ⊢;exact⟨trivial,aKz (K:=λr=>r.1.1=s.filter λx=>!fF b x.1) (λx:Int×Unit=>fF b x.1) (0,()) s _ fC rfl⟩
theorem arp:OK Gx.e:=by
 refine eP [lG.e,CP.e,xK.e] ⟨Jh,Ov,Zq,⟨⟩⟩ avv (λ⟨a,b,_⟩ _=>⟨((Sp.without a b,()),()),rfl⟩) λa b=>show Gx.goal (ar8 a b) (a,b,())fromλB J=>?_
 refine⟨J,?_⟩;rintro⟨⟨r0,⟨⟩⟩,⟨⟩⟩ e;subst e;exact⟨J,λr h=>h⟩
theorem ae2(h:bW r)(s:Sp.Bytes):(gY r s).length<=1000:=by
 have:∀l:List fA,(∀x∈l,x.2.1.length<=1000)->(gY l s).length<=1000:=by
  intro l
  induction l with
  |nil=>exactλ_=>aQx _
  |cons x t ih=>
   grind [gY]
 exact this r h.2
theorem aEs(a b:List fA)(h:n<b.length):((b.take (n+1)).map (O8 a)).filter Wy=((b.take n).map (O8 a)).filter Wy++(bif Wy (O8 a (b.getD n Wu))then[O8 a (b.getD n Wu)]else[]):=by
 grind [Sp.take_succ']
theorem ajN:OK FY.e:=by
 refine eP [] ⟨⟩ amj (λ⟨r,_⟩ _=>⟨((r,()),()),rfl⟩) λr=>show FY.goal (ajO r) (r,())fromλB J=>?_
 dsimp only[FY]at J ⊢;have W:=J.1;refine bQ (λi(x:List fA)=>(((),i,()),x,())) (λy=>y.1.2.1) (λ_ _=>rfl) r.length fC (λn l=>l=r.take n) ni (λI P n l H E next=>?_) λI P l E=>?_
 · grind [aa1,Int.toNat_natCast,bV,Sp.take_succ']
 grind
theorem qx:OK mW.e:=by
 refine eP [FY.e,uQ.e,qW.e] ⟨ajN,EN,Ag,⟨⟩⟩ H0 (λ⟨(a,l,nx,d,r,_),_⟩ _=>⟨(((a,l,nx,d,r,()),()),()),rfl⟩) λa l nx d r=>show mW.goal (ar9 a l nx d r) ((a,l,nx,d,r,()),())fromλB J=>?_
 dsimp only[mW]at J ⊢;obtain⟨C,O,K⟩:aV (a,l,nx,())/\aK d/\bW r:=J;refine⟨C,?_⟩
 grind
theorem VF{j:Sp.Bytes->Bool}(h:gX fs d r j out)(k:d.length<=1000)(l:fs.length<=1000)(hr:bW r):bW out:=by
 refine⟨by rw[h.order.1];exact k,λx Z=>?_⟩;obtain⟨i,D,rfl⟩:=aQQ Z;have b:i<d.length:=by rw[← h.order.1];exact D
 have e:(out[i]).2.1=kY out i:=by
  grind [kY,yU]
 rw[e];cases H:j (Sp.nameOf d i)with
 |true=>
  rw[h.fix i b H]
  grind [Sp.sel]
 |false=>rw[h.kept i b H];exact ae2 hr _
theorem aEt(c:dF)(s:bT)(d:List aH)(b:Sp.Bytes->Bool):∃e i,Sp.turned c s d b e i (aA d&&aJ s):=by
 obtain⟨a,fs,nx,_⟩:=s;obtain⟨out,h⟩:=Vd (fs:=fs) (a:=a) (nx:=nx) (d:=d) (uK c) b;cases j:(aA d&&aJ (a,fs,nx,()))with
 |true=>exact⟨(a,fs,nx,d,out,()),KP (uK c) out,j.symm,λ_=>⟨rfl,rfl,h j,rfl⟩,λh=>o5⟩
 |false=>exact⟨c,[],j.symm,λh=>o5,λ_=>⟨rfl,rfl⟩⟩
theorem vJ{c:dF}(h:dn c=true):aA (bF c)=true/\aJ (aQ c)=true/\gX c.2.1 (bF c) [] (λ_=>true) (uK c):=by
 grind [dn]
theorem aIn:avw d f g s=true↔Aff d f g s:=@aSC _ (Classical.propDecidable _)
theorem aKA{r:Sp.LS}(h:Sp.isSet r (Aff d f g))(s:Sp.Bytes):iY r s=avw d f g s:=by rw[aRJ,aIn];exact h.2 s
theorem asa{s:bT}(h:(bU s f).2=true):aJ (bU s f).1=true:=by
 grind [mG,Lc]
theorem ant(c:dF)(f:aG):∃e i,Sp.updated c f e i (dn c&&(bU (aQ c) f).2):=by
 cases j:(dn c&&(bU (aQ c) f).2)with
 |false=>exact⟨c,[],j.symm,λh=>o5,λ_=>⟨rfl,rfl⟩⟩
 |true=>have b:=j;rw[aQm]at b;obtain⟨C,O,K⟩:=vJ b.1;have k:=asa b.2;rcases hs:(bU (aQ c) f).1 with⟨a,fs,nx,u⟩;obtain⟨out,h⟩:=Vd (fs:=fs) (a:=a) (nx:=nx) (d:=bF c) (uK c) (avw (bF c) (bI (aQ c) f.1).1 f);refine⟨(a,fs,nx,bF c,out,()),KP (uK c) out,j.symm,λ_=>⟨hs.symm,rfl,?_,rfl⟩,λh=>o5⟩;rw[hs];exact h jv
theorem ao3:OK Ru.e:=by
 refine dW [] ⟨⟩ asb λa b=>show Ru.goal (apu a b) (a,b,())fromλB J=>?_
 exact eqL (K:=λr=>r=(decide (a=b),())) (λx y:Int×Unit=>x.1 !=y.1) (λx y=>jv) _ a b _ B.1.1 rfl
theorem aC0(C:a=Sp.usual)(O:aJ (a,fs,nx,())=true)(K:aV (a,fs,nx,()))(x:0<fs.length)(b:aK d)(h:aA d=true)(e:gX fs d [] (λ_=>true) r):aqb (a,fs,nx,d,r,()):=by
 refine⟨⟨K,b,VF e b.1 K.2.1 EU⟩,C,x,?_⟩
 grind [ajH]
theorem aGB:∃c,aqb c/\0<c.2.2.2.1.length:=by obtain⟨out,h⟩:=Vd (fs:=[(1,0,false,0,[],())]) (a:=Sp.usual) (nx:=2) (d:=[([100,97],[(1,0,0,[],0,0,[],())],())]) [] (λ_=>true);exact⟨_,aC0 rfl Ql.1 Ql.2 jI (Tv ES ni ni) ars (h (by rw[ars,Ql.1];rfl)),Nat.zero_lt_one⟩
theorem ase:OK Nc.e:=by
 refine eP [wU.e,BU.e,zI.e] ⟨MH,Tt,Qm,⟨⟩⟩ avx (λ_ _=>by obtain⟨c,h⟩:=aGB;exact⟨(((c.1,c.2.1,c.2.2.1,c.2.2.2.1,c.2.2.2.2.1,()),()),(([],0,0,()),())),⟨aQN 0,h⟩⟩) λb i h=>show Nc.goal (asf b i h) ((b,i,h,()),())fromλB J=>?_
 dsimp only[Nc]at J ⊢;refine⟨J,λk e=>⟨e.1,λl j=>⟨⟨e.2.2.2.2.1,j.2.2.1⟩,?_⟩⟩⟩
 grind [aC0]
end Go.Proofs.Tryz
