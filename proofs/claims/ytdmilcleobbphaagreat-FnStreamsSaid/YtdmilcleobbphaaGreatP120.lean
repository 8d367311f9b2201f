import Derived.Test.YtdmilcleobbphaaGreatV26
import Derived.Test.YtdmilcleobbphaaGreatP104
import Derived.Test.YtdmilcleobbphaaGreatSp
import Derived.Test.YtdmilcleobbphaaGreatP37
import Derived.Test.YtdmilcleobbphaaGreatV27
import Derived.Test.YtdmilcleobbphaaGreatV28
namespace Go.Proofs.Tryz
open Go Go.Fw Go.IntWalk Sp
variable {α:Type}
theorem aKn(a:List (Int×Unit))(t:α)(L:a.length<=maxLen){K:Bool×Unit->Prop}(f:K (Sp.rise a,())):
 LP (α:=(Int×Unit)×Unit) (((1:Int),()),()) λI P b=>
  bif decide (b.1.1<(↑a.length:Int))then
   ((0:Int)<=IntKind.i64.wrap (b.1.1-(1:Int))/\IntKind.i64.wrap (b.1.1-(1:Int))<(↑a.length:Int))/\
     ((0:Int)<=b.1.1/\b.1.1<(↑a.length:Int))/\
       bif decide ((a.getD (IntKind.i64.wrap (b.1.1-(1:Int))).toNat ((0:Int),())).1>=(a.getD (Int.toNat b.1.1) ((0:Int),())).1)then K (false,())
       else NX t I P ((IntKind.i64.wrap (b.1.1+(1:Int)),()),()) b
  else K (true,()):=by
 rw[maxLen_eq]at L;refine⟨λy=>∃n:Nat,y.1.1=n+1/\n<=a.length-1/\∀i,i<n->decide ((a.getD i (0,())).1<(a.getD (i+1) (0,())).1)=true,λy=>((a.length:Int)-y.1.1).toNat,⟨0,rfl,aQx _,λi D=>fC⟩,?_⟩;rintro⟨⟨_,⟨⟩⟩,⟨⟩⟩ ⟨n,rfl,hn,hJ⟩;dsimp only;refine af (λh=>?_) λh=>?_
 .have h:=rU h;have e:IntKind.i64.wrap ((n:Int)+1-1)=n:=by grind [eH]
  have d:IntKind.i64.wrap ((n:Int)+1+1)=(n:Int)+1+1:=eH _ fC;refine⟨⟨fC,fC⟩,⟨fC,fC⟩,af (λg=>?_) λg=>⟨rfl,⟨n+1,jv,fC,fH hJ (aQT jv)⟩,jv⟩⟩;have:Sp.rise a=false:=uf (n:=n) fC (aQH jv)
  grind
 grind [Sp.rise,kV]
theorem arA:OK UJ.e:=by
 refine dW [] ⟨⟩ au3 λa=>show UJ.goal (arB a) (a,())fromλB J=>?_
 exact aKn (K:=λr=>r=(Sp.rise a,())) a _ B.1.1 rfl
theorem aEd(l:List (Int×Unit))(a:List jy)(e:jy):Sp.replay l (a++[e])=arC (Sp.replay l a) e:=by
 grind [Sp.replay]
variable {es:List jy}{n:Nat}
theorem aAb(h:n<es.length):kP (es.take (n+1))=kP (es.take n)+(AO es n).2.1.length:=by
 grind [kP,Sp.take_succ',AO]
theorem aEe(es:List jy)(n:Nat):kP (es.take n)<=kP es:=by
 grind [kP,List.take_append_drop]
theorem arD(l:List (Int×Unit))(es:List jy):(Sp.replay l es).length<=l.length+kP es:=by
 induction es generalizing l with
 |nil=>exact Nat.le_add_right _ _
 |cons e r ih=>
  grind [arC,aAc,Sp.replay,kP]
variable {l:List (Int×Unit)}
theorem aiX(X:RJ l es)(H:n<es.length):
 (Sp.replay l (es.take n)).length+(AO es n).2.1.length<=4000000/\Sp.replay l (es.take (n+1))=uz (Sp.replay l (es.take n)) (AO es n).2.1 (AO es n).2.2.1:=by
 have C:=arD l (es.take n);have O:=aAb H;have K:=aEe es (n+1);have x:l.length+kP es<=4000000:=X;exact⟨fC,by rw[Sp.take_succ' es n (0,[],[],()) H,aEd];rfl⟩
theorem Tz:OK xQ.e:=by
 refine dW [(SY,.pure Oh),qF.e] ⟨⟨aoL,alu⟩,DT,⟨⟩⟩ ag0 λa es=>show xQ.goal (aeX a es) (a,es,())fromλB J=>?_
 dsimp only[xQ]at J ⊢;have W:es.length<=maxLen:=B.2.1.1;rw[maxLen_eq]at W;have b:a.length+kP es<=4000000:=J;refine⟨fC,bQ (λi(z:List (Int×Unit))=>((z,i,()),())) (λy=>y.1.2.1) (λ_ _=>rfl) es.length fC (λn z=>z=Sp.replay a (es.take n)) rfl (λI P n z H E next=>?_) λI P z E=>?_⟩
 .subst E;obtain⟨C,O⟩:=aiX J H;dsimp only;exact dH fC ⟨⟨fC,fC⟩,aQn C jI,rfl,next _ O.symm⟩
 grind
theorem Je:OK sK.e:=by
 refine dW [zS.e] ⟨abH,⟨⟩⟩ ag1 λa es=>show sK.goal (aeY a es) (a,es,())fromλB J=>?_
 dsimp only[sK]at J ⊢;have W:es.length<=maxLen:=B.2.1.1;rw[maxLen_eq]at W;have b:a.length+kP es<=4000000:=J;refine⟨o6,bQ (λi(z:List (Int×Unit))=>((z,i,()),())) (λy=>y.1.2.1) (λ_ _=>rfl) es.length fC (λn z=>z=Sp.replay a (es.take n)) rfl (λI P n z H E next=>?_) λI P z E=>?_⟩
 .subst E;obtain⟨C,O⟩:=aiX J H;dsimp only;exact dH fC ⟨⟨fC,fC⟩,⟨fC,fC⟩,aQn C jI,rfl,next _ O.symm⟩
 grind
theorem aeZ:OK Kv.e:=by
 refine dW [xQ.e] ⟨Tz,⟨⟩⟩ H0 λa b d e=>show Kv.goal (ae0 a b d e) ((a,b,d,e,()),())fromλB J=>?_
 exact⟨J.1,rfl⟩
theorem BG:OK sN.e:=by
 refine dW [sK.e] ⟨Je,⟨⟩⟩ H0 λa b d e=>show sN.goal (ae1 a b d e) ((a,b,d,e,()),())fromλB J=>?_
 exact⟨J.1,rfl⟩
theorem Xw:OK IC.e:=by
 refine eP [qF.e] ⟨DT,⟨⟩⟩ H0 (λ⟨e,_⟩ _=>⟨((e,()),()),rfl⟩) λa w d=>show IC.goal (alL a w d) ((a,w,d,()),())fromλB J=>?_
 exact⟨aQn J.1 jI,aQn J.2 jI,rfl⟩
theorem alM:OK IE.e:=by
 refine eP [qF.e,IC.e] ⟨DT,Xw,⟨⟩⟩ aoN (λ⟨w,_⟩ _=>⟨((w,()),()),rfl⟩) λd e b a=>show IE.goal (alN d e b a) ((d,e,b,a,()),())fromλB J=>?_
 dsimp only[IE]at J ⊢;obtain⟨C,O,K⟩:jP (d,e,b,a,()):=J;have C:b.length+kP a<=4000000:=C;have O:a.length<=4000000:=O;refine bQ (λi(z:List jy)=>(((),i,()),z,())) (λy=>y.1.2.1) (λ_ _=>rfl) a.length fC (λn z=>z=a.take n) rfl (λI P n z H E next=>?_) λI P z E=>?_
 .dsimp only;refine dH fC ⟨⟨fC,fC⟩,K _ (getD_mem H),λr hr=>?_⟩;have hr:r.1.1=a.getD n (0,[],[],()):=hr
  grind [bV,Sp.take_succ']
 grind
theorem Oo:OK yB.e:=by
 refine eP [] ⟨⟩ aoO (λ⟨es,_⟩ _=>⟨((es,()),()),rfl⟩) λes=>show yB.goal (alO es) (es,())fromλB J=>?_
 dsimp only[yB]at J ⊢;obtain⟨O,K⟩:es.length<=4000000/\∀e∈es,RN e:=J;refine bQ (λi(z:List jy)=>(((),i,()),z,())) (λy=>y.1.2.1) (λ_ _=>rfl) es.length fC (λn z=>z=es.take n) rfl (λI P n z H E next=>?_) λI P z E=>?_
 .have hb:=bV;have g:(es.getD n (0,[],[],())).2.1.length<=4000000/\(es.getD n (0,[],[],())).2.2.1.length<=4000000:=K _ (getD_mem H)
  grind [Int.toNat_natCast,Sp.take_succ']
 grind
theorem O1:OK uX.e:=by
 refine eP [yB.e] ⟨Oo,⟨⟩⟩ ac4 (λ⟨w,_⟩ _=>⟨((w,()),()),rfl⟩) λd e a b=>show uX.goal (abI d e a b) ((d,e,a,b,()),())fromλB J=>?_
 dsimp only[uX]at J ⊢;obtain⟨C,O,K⟩:jP (d,e,a,b,()):=J;have C:a.length+kP b<=4000000:=C;refine⟨o6,⟨O,K⟩,λr hr=>?_⟩
 grind
theorem aaR:OK GK.e:=by
 refine eP [yB.e] ⟨Oo,⟨⟩⟩ au4 (λ⟨w,_⟩ _=>⟨((w,()),()),rfl⟩) λd e a b=>show GK.goal (arE d e a b) ((d,e,a,b,()),())fromλB J=>?_
 dsimp only[GK]at J ⊢;obtain⟨C,O,K⟩:jP (d,e,a,b,()):=J;have C:a.length+kP b<=4000000:=C;refine⟨o6,⟨O,K⟩,λr hr=>?_⟩
 grind
variable {w:iQ}
theorem ane(h:jP w):(Sp.listing w).length<=4000000:=aQn (arD _ _) h.1
variable {u:Int}
theorem anf{s:bT}{d:List aH}{n:Sp.Bytes}(Y:aV s)(e:aK d):(dI s d u n).length<=1000:=ae2 (Xe Y e) n
theorem MF{n:Int}(h:0<(Sp.without l (Sp.listing w)).length+(Sp.without (Sp.listing w) l).length):Sp.told w n l=(w.1,w.2.1,w.2.2.1,w.2.2.2.1++[(n,Sp.without l (Sp.listing w),Sp.without (Sp.listing w) l,())],()):=by
 grind [Sp.told]
theorem Yr{n:Int}(h:¬0<(Sp.without l (Sp.listing w)).length+(Sp.without (Sp.listing w) l).length):Sp.told w n l=w:=by
 grind [Sp.told]
theorem ac5:OK Jt.e:=by
 refine eP [Cb.e,nP.e,sN.e,GK.e] ⟨TA,qp,BG,aaR,⟨⟩⟩ ax2 (λ⟨w,n,s,d,_⟩ _=>⟨((Sp.told w n (dI s d w.1 w.2.1),()),()),rfl⟩) λb f k a n g i j d=>show Jt.goal (au5 b f k a n g i j d) ((b,f,k,a,()),n,(g,i,j,()),d,())fromλB J=>?_
 dsimp only[Jt]at J ⊢;obtain⟨o,Y,e⟩:jP (b,f,k,a,())/\aV (g,i,j,())/\aK d:=J;have q:=ane o;have r:=anf (u:=b) (n:=f) Y e;have t:a.length<=4000000:=o.2.1;refine⟨o,?_⟩;rintro⟨⟨y,⟨⟩⟩,⟨⟩⟩ hr0;subst hr0;dsimp only;refine⟨o,⟨Y,e⟩,⟨fC,fC⟩,λx m=>?_⟩;have W:a.length+1<=big:=o6;refine af (λh=>⟨W,?_⟩) λh=>af (λO=>⟨W,?_⟩) λO=>?_
 · grind [MF]
 · grind [MF]
 grind [Yr]
theorem aoP:OK RP.e:=by
 refine eP [nP.e] ⟨qp,⟨⟩⟩ H0 (λ⟨s,d,u,t,_⟩ _=>⟨(((u,t,dI s d u t,[],()),()),()),rfl⟩) λa h b d u t=>show RP.goal (aoQ a h b d u t) ((a,h,b,()),d,u,t,())fromλB J=>?_
 exact⟨J,rfl⟩
theorem aiY{f:α->Bool}{d:α}{a:List α}(h:∀i,i<a.length->f (a.getD i d)=true):a.all f=true:=by
 grind [List.getElem_of_mem]
theorem aGd{f:α->Bool}{d:α}{a:List α}{i:Nat}(D:i<a.length)(h:f (a.getD i d)=false):a.all f=false:=by
 grind
theorem ac6{w0:Int}{d:Sp.Bytes}{b:List (Int×Unit)}{a:List jy}(H:n<a.length)(h:O3 b a n=false):(false,())=(sO (w0,d,b,a,()),()):=by
 grind [sO,uf]
theorem aKo{w0:Int}{d:Sp.Bytes}{a:List (Int×Unit)}{b:List jy}(h:∀i,i<b.length->O3 a b i=true):sO (w0,d,a,b,())=(qw w0&&Sp.rise a):=by
 grind [sO,kV]
theorem aKp(l:List (Int×Unit))(es:List jy)(i:Nat):O3 l es i=(!decide ((es.getD i (0,[],[],())).2.1.length+(es.getD i (0,[],[],())).2.2.1.length=0)&&(Sp.rise (es.getD i (0,[],[],())).2.1&&(Sp.rise (es.getD i (0,[],[],())).2.2.1&&(!(decide (0<i)&&decide ((es.getD (i-1) (0,[],[],())).1>=(es.getD i (0,[],[],())).1))&&
 (((es.getD i (0,[],[],())).2.1.all λx=>!fF (Sp.replay l (es.take i)) x.1)&&(es.getD i (0,[],[],())).2.2.1.all λx=>fF (Sp.replay l (es.take i)) x.1))))):=rfl
theorem aLG{a b:Int}(H:n<=9223372036854775807)(h:0<n->¬a>=b):(!(decide (0<n)&&decide (a>=b)))=true:=by
 grind
theorem ae3:OK DF.e:=by
 refine dW [gI.e,sK.e,pK.e,UJ.e] ⟨gW,Je,zx,arA,⟨⟩⟩ ag2 λA F b a=>show DF.goal (ae4 A F b a) ((A,F,b,a,()),())fromλB J=>?_
 dsimp only[DF]at J ⊢;delta ae4 TY aj bJ lU mX;obtain⟨C,O,K⟩:jP (A,F,b,a,()):=J;have C:RJ b a:=C;have Q:b.length+kP a<=4000000:=C;have O:a.length<=4000000:=O;refine⟨o6,bQ (λi(z:List (Int×Unit))=>((z,i,()),())) (λy=>y.1.2.1) (λ_ _=>rfl) a.length fC (λn z=>z=Sp.replay b (a.take n)/\∀i,i<n->O3 b a i=true) ⟨rfl,λi L=>fC⟩ (λI P n z H E next=>?_) λI P z E=>?_⟩
 .obtain⟨rfl,E⟩:=E;obtain⟨R,N⟩:=aiX C H;have g:(a.getD n (0,[],[],())).2.1.length<=4000000/\(a.getD n (0,[],[],())).2.2.1.length<=4000000:=K _ (getD_mem H);have D:=aKp b a n;dsimp only;rw[aQs];refine dH fC ⟨⟨fC,fC⟩,λ_=>(!(decide (0<n)&&decide ((a.getD (n-1) (0,[],[],())).1>=(a.getD n (0,[],[],())).1)))=true/\Sp.rise (a.getD n (0,[],[],())).2.1=true/\Sp.rise (a.getD n (0,[],[],())).2.2.1=true/\¬(a.getD n (0,[],[],())).2.1.length+(a.getD n (0,[],[],())).2.2.1.length=0,?_,?_⟩
  .rw[eH _ fC];refine af (λm=>ac6 H ?_) λm=>⟨trivial,af (λo=>ac6 H ?_) λo=>⟨trivial,af (λq=>ac6 H ?_) λq=>?_⟩⟩
   · grind
   · grind
   · grind
   have m:=aQl.1 m;refine af (λt=>?_) λt=>⟨rfl,aLG fC λh=>absurd h jv,dN o,dN q,fC⟩;have t:=rU t;rw[rE fC fC,aQs]
   grind [ac6]
  rintro y ⟨M,o,q,m⟩;rw[o,q,M,aQH m]at D;refine iW (a.getD n (0,[],[],())).2.1.length fC (λk=>∀i,i<k->(!fF (Sp.replay b (a.take n)) ((a.getD n (0,[],[],())).2.1.getD i (0,())).1)=true) (λi L=>fC) (λr e k j d s=>?_) λr e d=>?_
  .dsimp only;refine dH fC ⟨⟨fC,fC⟩,trivial,af (λh=>ac6 H ?_) λh=>⟨rfl,s (fH (f:=λi=>!fF (Sp.replay b (a.take n)) ((a.getD n (0,[],[],())).2.1.getD i (0,())).1) d x9)⟩⟩
   grind
  rw[aiY (f:=λx:Int×Unit=>!fF (Sp.replay b (a.take n)) x.1) d]at D;dsimp only;refine gU fC (iW (a.getD n (0,[],[],())).2.2.1.length fC (λk=>∀i,i<k->fF (Sp.replay b (a.take n)) ((a.getD n (0,[],[],())).2.2.1.getD i (0,())).1=true) (λi L=>fC) (λr e k j d s=>?_) λr e d=>?_)
  .dsimp only;refine dH fC ⟨⟨fC,fC⟩,trivial,af (λh=>ac6 H ?_) λh=>⟨rfl,s (fH (f:=λi=>fF (Sp.replay b (a.take n)) ((a.getD n (0,[],[],())).2.2.1.getD i (0,())).1) d (dN h))⟩⟩
   grind
  rw[aiY (f:=λx:Int×Unit=>fF (Sp.replay b (a.take n)) x.1) d]at D;dsimp only;refine gU fC ⟨?_,rfl,next _ ⟨N.symm,fH (f:=λi=>O3 b a i) E D⟩⟩;show(Sp.replay b (a.take n)).length+kP [AO a n]<=4000000
  grind [kP]
 grind [aKo,qw]
variable {q:List (Int×Unit)}
theorem aIb(H:n<q.length)(h:(decide (0<=(q.getD n (0,())).1)&&decide ((q.getD n (0,())).1<=999))=false):pG q=false:=by
 grind [pG]
theorem aGe(h:∀i,i<q.length->(decide (0<=(q.getD i (0,())).1)&&decide ((q.getD i (0,())).1<=999))=true):pG q=decide (q.length=3):=by
 grind [pG,List.getElem_of_mem]
theorem TB:OK xR.e:=by
 refine dW [gI.e] ⟨gW,⟨⟩⟩ ag3 λq=>show xR.goal (ae5 q) (q,())fromλB J=>?_
 dsimp only[xR]at J ⊢;have W:q.length<=maxLen:=B.1.1;rw[maxLen_eq]at W;refine iW q.length fC (λn=>∀i,i<n->(decide (0<=(q.getD i (0,())).1)&&decide ((q.getD i (0,())).1<=999))=true) (λi D=>fC) (λI P n H E next=>?_) λI P E=>?_
 · grind [aIb]
 .dsimp only;refine gU fC ?_;rw[aGe E];exact congrArg (·,()) (aRJ.2 ql)
theorem FD:OK uY.e:=by
 refine eP [zM.e] ⟨Jc,⟨⟩⟩ H0 (λ⟨x,_⟩ _=>⟨((rX x,()),()),rfl⟩) λS T a b d e f g h i M=>show uY.goal (abJ S T a b d e f g h i M) ((S,T,a,b,d,e,f,g,h,i,M,()),())fromλB J=>?_
 exact⟨⟨J.1,J.2.1⟩,λr hr=>hr⟩
theorem Qs:OK Ez.e:=by
 refine dW [zX.e,l9.e] ⟨Y9,FB,⟨⟩⟩ H0 λa b d e f g h i=>show Ez.goal (aoR a b d e f g h i) ((a,b,d,e,()),(f,g,h,i,()),())fromλB J=>?_
 exact⟨J.1,J.2,trivial,rfl⟩
theorem Am:OK qY.e:=by
 refine eP [uX.e,uS.e,mW.e] ⟨O1,EO,qx,⟨⟩⟩ au6 (λ⟨x,_⟩ _=>⟨((x,()),()),rfl⟩) λS T d e f g h j o b M=>show qY.goal (arF S T d e f g h j o b M) ((S,T,d,e,f,g,h,j,o,b,M,()),())fromλB J=>?_
 dsimp only[qY]at J ⊢;obtain⟨⟨A,_,_⟩,_,⟨C,_⟩,⟨t,k⟩,s⟩:Sp.anyS (S,T,d,e,f,g,h,j,o,b,M,()):=J;have t:b.length<=90:=t;have s:M.length<=1000:=s;refine⟨A,?_⟩;rintro⟨⟨c,⟨⟩⟩,⟨⟩⟩ a;have a:c=(S,T,d,e,f,()):=a;subst a;refine⟨C,λD m=>⟨o6,?_⟩⟩;rw[m];dsimp only;refine bQ (λi(z:List iQ)=>((i,()),(S,T,d,e,f,g,h,j,(),(),(),()),z,())) (λy=>y.1.1) (λ_ _=>rfl) b.length fC (λn z=>z=b.take n) rfl (λI P n z H E next=>?_) λI P z E=>?_
 .subst E;dsimp only;refine dH fC ⟨⟨fC,fC⟩,k _ (getD_mem H),λr hr=>?_⟩;have hr:r.1.1=b.getD n (0,[],[],[],()):=hr
  grind [bV,Sp.take_succ']
 grind
theorem aiZ(a b:Sp.Bytes):fB (Sp.latest a b).2.1:=by
 grind [Sp.latest,ax3]
variable {x:fP}
theorem aaS{i:Int}(h:(decide (0<=i)&&decide (i<=((oM x).length:Int)-1))=true):yN x i=(aJI (oM x) i.toNat,true):=by grind [yN]
theorem aoS{i:Int}(h:(decide (0<=i)&&decide (i<=((oM x).length:Int)-1))=false):yN x i=(au7,false):=by grind [yN]
theorem ang:jP au7:=⟨by show([]:List (Int×Unit)).length+kP []<=4000000;decide,jI,λe h=>o5⟩
theorem awY(h:Sp.anyS x)(i:Int):jP (yN x i).1:=by
 cases D:(decide (0<=i)&&decide (i<=((oM x).length:Int)-1))with
 |false=>grind [aoS,ang]
 |true=>rw[aaS D];simp only[aQm,aQF]at D;exact h.2.2.2.1.2 _ (getD_mem fC)
theorem alP:OK IG.e:=by
 refine eP [IE.e,oV.e] ⟨alM,vG,⟨⟩⟩ H0 (λ⟨x,i,_⟩ _=>⟨(((yN x i).1,(yN x i).2,()),()),⟨rfl,rfl⟩⟩) λS T b d e f j k m a M i=>show IG.goal (alQ S T b d e f j k m a M i) ((S,T,b,d,e,f,j,k,m,a,M,()),i,())fromλB J=>?_
 dsimp only[IG]at J ⊢;obtain⟨_,_,_,⟨s,o⟩,_⟩:Sp.anyS (S,T,b,d,e,f,j,k,m,a,M,()):=J;have s:a.length<=90:=s;refine⟨trivial,?_⟩;rw[eH _ fC];refine af (λh=>?_) λh=>?_
 .rw[aoS (x:=(S,T,b,d,e,f,j,k,m,a,M,())) (kJ h)];exact⟨rfl,rfl⟩
 .have h:=dN h;have g:=h;simp only[aQm,aQF]at g;refine⟨⟨fC,fC⟩,o _ (getD_mem (show i.toNat<a.length from fC)),λr hr=>?_⟩;rw[hr];rw[aaS (x:=(S,T,b,d,e,f,j,k,m,a,M,())) h];exact⟨rfl,rfl⟩
theorem JC:OK qi.e:=by
 refine dW [Eo.e,Nk.e,Kv.e,IG.e] ⟨Um,aaT,aeZ,alP,⟨⟩⟩ H0 λS T a b d e f g j k M i=>show qi.goal (Xf S T a b d e f g j k M i) ((S,T,a,b,d,e,f,g,j,k,M,()),i,())fromλB J=>?_
 dsimp only[qi]at J ⊢;refine⟨J,?_⟩;rintro⟨⟨w,ok,⟨⟩⟩,⟨⟩⟩ ⟨e1,e2⟩;subst e1 e2;refine af (λh=>⟨awY J i,⟨J.1.1.1,J.1.1.2.1⟩,trivial,?_⟩) λh=>?_
 .unfold AB;rw[show(yN (S,T,a,b,d,e,f,g,j,k,M,()) i).2=true from h];rfl
 grind [AB]
theorem awZ(H:n<(oM x).length):AB x (n:Int)=Zc (aQ (jQ x)) (bF (jQ x)) ((oM x).getD n (0,[],[],[],())):=by unfold AB;rw[aaS jv];rfl
theorem U2:OK rY.e:=by
 refine dW [qi.e] ⟨JC,⟨⟩⟩ Wn λS T b d g j k m o a M=>show rY.goal (U3 S T b d g j k m o a M) ((S,T,b,d,g,j,k,m,o,a,M,()),())fromλB J=>?_
 dsimp only[rY]at J ⊢;have r:a.length<=90:=J.2.2.2.1.1;refine iW a.length fC (λn=>∀i,i<n->Zc (S,T,b,()) d (a.getD i (0,[],[],[],()))=true) (λi D=>fC) (λI P n H E next=>?_) λI P E=>?_
 .dsimp only;have e:=awZ (x:=(S,T,b,d,g,j,k,m,o,a,M,())) H;refine dH fC ⟨J,?_⟩;rw[e];refine af (λh=>?_) λh=>⟨rfl,next (fH (f:=λi=>Zc (S,T,b,()) d (a.getD i (0,[],[],[],()))) E (dN h))⟩;have:Sp.streams (S,T,b,d,g,j,k,m,o,a,M,())=false:=aGd H (kJ h);rw[this]
 .dsimp only;refine gU fC ?_;have:Sp.streams (S,T,b,d,g,j,k,m,o,a,M,())=true:=aiY E;rw[this]
theorem ak4(x:fP):lX x=(dn (jQ x)&&((Sp.latest (jX x) (jY x)).2.2.1&&(decide ((Sp.latest (jX x) (jY x)).1=rF x)&&(kL (Sp.latest (jX x) (jY x)).2.1 (rX x)&&
 (gQ (eu x)&&(decide (eu x≠[])&&(decide ((oM x).length<=4)&&(pG (zk x)&&
   ((decide ((dP (eu x) ((eu x).length-1)).1=rF x)&&kL (pJ (dP (eu x) ((eu x).length-1))) (rX x))&&
     (oM x).all (vH (aQ (jQ x)) (bF (jQ x)) (rF x))))))))))):=rfl
theorem O4(h:dn (jQ x)=false\/(Sp.latest (jX x) (jY x)).2.2.1=false\/¬(Sp.latest (jX x) (jY x)).1=rF x\/kL (Sp.latest (jX x) (jY x)).2.1 (rX x)=false\/gQ (eu x)=false\/(eu x).length=0\/¬(oM x).length<=4\/pG (zk x)=false\/
 ¬(dP (eu x) ((eu x).length-1)).1=rF x\/kL (pJ (dP (eu x) ((eu x).length-1))) (rX x)=false\/(oM x).all (vH (aQ (jQ x)) (bF (jQ x)) (rF x))=false):(false,())=(lX x,()):=by
 have:lX x=false:=by
  rw[ak4];rcases h with h|h|h|h|h|h|h|h|h|h|h
  .rw[h];simp
  .rw[h];simp
  · grind
  .rw[h];simp
  .rw[h];simp
  · grind
  · grind
  .rw[h];simp
  · grind
  .rw[h];simp
  .rw[h];simp
 rw[this]
theorem aKq(C:dn (jQ x)=true)(O:(Sp.latest (jX x) (jY x)).2.2.1=true)(K:(Sp.latest (jX x) (jY x)).1=rF x)(b:kL (Sp.latest (jX x) (jY x)).2.1 (rX x)=true)(d:gQ (eu x)=true)(e:0<(eu x).length)(f:(oM x).length<=4)(g:pG (zk x)=true)
 (h:(dP (eu x) ((eu x).length-1)).1=rF x) (a:kL (pJ (dP (eu x) ((eu x).length-1))) (rX x)=true):lX x=(oM x).all (vH (aQ (jQ x)) (bF (jQ x)) (rF x)):=by
 grind [ak4]
structure aOl(x:fP):Prop where
 h1:dn (jQ x)=true
 h2:(Sp.latest (jX x) (jY x)).2.2.1=true
 h3:(Sp.latest (jX x) (jY x)).1=rF x
 h4:kL (Sp.latest (jX x) (jY x)).2.1 (rX x)=true
 h5:gQ (eu x)=true
 h6:0<(eu x).length
 h7:(oM x).length<=4
 h8:pG (zk x)=true
theorem Hr:OK qZ.e:=by
 refine dW [uP.e,nP.e,sN.e,DF.e,xR.e,kS.e,Ez.e,uY.e,kR.e,zY.e] ⟨Ai,qp,BG,ae3,TB,qL,Qs,FD,nN,O0,⟨⟩⟩ ae6 λS T k m t o s j a b M=>show qZ.goal (ac7 S T k m t o s j a b M) ((S,T,k,m,t,o,s,j,a,b,M,()),())fromλB J=>?_
 dsimp only[qZ]at J ⊢;delta ac7 aj atQ bJ iK lU qc;have J:Sp.anyS (S,T,k,m,t,o,s,j,a,b,M,()):=J;obtain⟨⟨A,_,_⟩,hD,⟨hV,N⟩,⟨hW,hWs⟩,hQ⟩:=J;have hW:b.length<=90:=hW;have N:a.length<=90:=N;have hn0:=Tj o s;refine⟨hD,λ_=>aOl (S,T,k,m,t,o,s,j,a,b,M,()),⟨A,af (λU=>O4 (x:=(S,T,k,m,t,o,s,j,a,b,M,())) (.inl (kJ U))) λU=>af (λz=>O4 (x:=(S,T,k,m,t,o,s,j,a,b,M,())) (.inr (.inl (kJ z)))) λz=>af (λZ=>O4 (x:=(S,T,k,m,t,o,s,j,a,b,M,())) (.inr (.inr (.inl (aR5.1 Z))))) λZ=>⟨A,λr hr=>?_⟩⟩,?_⟩
 .rw[hr];refine⟨⟨aiZ _ _,A.1,A.2.1⟩,af (λg4=>O4 (x:=(S,T,k,m,t,o,s,j,a,b,M,())) (.inr (.inr (.inr (.inl (kJ g4)))))) λg4=>⟨hV,af (λg5=>O4 (x:=(S,T,k,m,t,o,s,j,a,b,M,())) (.inr (.inr (.inr (.inr (.inl (kJ g5))))))) λg5=>af (λC=>O4 (x:=(S,T,k,m,t,o,s,j,a,b,M,())) (.inr (.inr (.inr (.inr (.inr (.inl (by have C:=aQv.1 C;show a.length=0;omega)))))))) λC=>af (λL=>O4 (x:=(S,T,k,m,t,o,s,j,a,b,M,())) (.inr (.inr (.inr (.inr (.inr (.inr (.inl (by have L:=rU L;show ¬b.length<=4;omega))))))))) λL=>⟨trivial,af (λg8=>O4 (x:=(S,T,k,m,t,o,s,j,a,b,M,())) (.inr (.inr (.inr (.inr (.inr (.inr (.inr (.inl (kJ g8)))))))))) λg8=>⟨rfl,dN U,dN z,aAd Z,dN g4,dN g5,(by have C:=aQl.1 C;show 0<a.length;omega),(by have L:=Tf L;show b.length<=4;omega),dN g8⟩⟩⟩⟩
 rintro y F;have h6:0<a.length:=F.h6;have K:(Sp.latest o s).1=j:=F.h3;rw[rE h6 fC,aQs];refine⟨⟨fC,fC⟩,λ_=>(dP a (a.length-1)).1=j/\kL (pJ (dP a (a.length-1))) (rX (S,T,k,m,t,o,s,j,a,b,M,()))=true,af (λg=>O4 (x:=(S,T,k,m,t,o,s,j,a,b,M,())) (.inr (.inr (.inr (.inr (.inr (.inr (.inr (.inr (.inl (aR5.1 g))))))))))) λg=>⟨A,λr hr=>?_⟩,?_⟩
 .rw[hr];refine⟨⟨hV.2 _ (getD_mem (by show a.length-1<a.length;omega)),A.1,A.2.1⟩,af (λz=>O4 (x:=(S,T,k,m,t,o,s,j,a,b,M,())) (.inr (.inr (.inr (.inr (.inr (.inr (.inr (.inr (.inr (.inl (kJ z)))))))))))) λz=>⟨rfl,aAd g,dN z⟩⟩
 rintro y2 ⟨e9,Q⟩;have Y:=aKq (x:=(S,T,k,m,t,o,s,j,a,b,M,())) F.h1 F.h2 F.h3 F.h4 F.h5 F.h6 F.h7 F.h8 e9 Q;refine iW b.length fC (λn=>∀i,i<n->vH (S,T,k,()) m j (b.getD i (0,[],[],[],()))=true) (λi D=>fC) (λI P n H E next=>?_) λI P E=>?_
 .have fl:vH (S,T,k,()) m j (b.getD n (0,[],[],[],()))=false->(false,())=(lX (S,T,k,m,t,o,s,j,a,b,M,()),()):=λh=>by
   grind [oM,aQ,jQ,bF,rF]
  have X:jP (b.getD n (0,[],[],[],())):=hWs _ (getD_mem (d:=(0,[],[],[],())) H);have W:(b.getD n (0,[],[],[],())).2.2.2.1.length<=4000000:=X.2.1;have nx:=λh=>next (fH (f:=λi=>vH (S,T,k,()) m j (b.getD i (0,[],[],[],()))) E h);dsimp only;rw[aQs];refine dH fC ⟨⟨fC,fC⟩,?_⟩;generalize b.getD n (0,[],[],[],())=w at fl X W nx ⊢;have O:ug w<=j->(jP w/\bif !sO w then(false,())=(lX (S,T,k,m,t,o,s,j,a,b,M,()),())else
   jP w/\(aV (S,T,k,())/\aK m)/\True/\bif !decide (Sp.listing w=dI (S,T,k,()) m w.1 w.2.1)then(false,())=(lX (S,T,k,m,t,o,s,j,a,b,M,()),())else
    NX (((S,T,k,m,t,o,s,j,a,b,M,()),()),()) I P ((IntKind.i64.wrap (↑n+1),()),()) ((↑n,()),())):=λR=>
   ⟨X,af (λg=>fl (by grind [vH])) λg=>⟨X,⟨A.1,A.2.1⟩,trivial,af (λz=>fl (by grind [vH])) λz=>⟨rfl,nx (by grind [vH])⟩⟩⟩
  obtain⟨u,nm,ls,es,⟨⟩⟩:=w;dsimp only at O fl W ⊢;rcases aRB es.length with h0|h0
  · grind [ug]
  .refine dH fC ?_;rw[rE h0 fC,aQs];refine⟨⟨fC,fC⟩,?_⟩;have e:ug (u,nm,ls,es,PUnit.unit)=(es.getD (es.length-1) (0,[],[],())).1:=by unfold ug;rw[show decide ((u,nm,ls,es,()).2.2.2.1.length=0)=false from aQH jv];rfl
   grind [vH]
 .dsimp only;refine gU fC ?_;rw[Y,show(oM (S,T,k,m,t,o,s,j,a,b,M,())).all (vH (aQ (jQ (S,T,k,m,t,o,s,j,a,b,M,()))) (bF (jQ (S,T,k,m,t,o,s,j,a,b,M,()))) (rF (S,T,k,m,t,o,s,j,a,b,M,())))=true from aiY E]
theorem au8(f:α->α)(l:List α)(H:n<l.length)(d:α):((l.take n).map f++l.drop n).getD n d=l.getD n d:=by
 grind
theorem au9(f:α->α)(l:List α)(H:n<=l.length):((l.take n).map f++l.drop n).length=l.length:=by
 grind
theorem ava(f:α->α)(l:List α)(H:n<l.length)(d:α):((l.take n).map f++l.drop n).set n (f (l.getD n d))=(l.take (n+1)).map f++l.drop (n+1):=by
 grind [List.drop_eq_getElem_cons,List.take_add_one]
theorem upd_same(f:α->α)(l:List α)(H:n<l.length)(d:α)(h:f (l.getD n d)=l.getD n d):(l.take n).map f++l.drop n=(l.take (n+1)).map f++l.drop (n+1):=by
 rw[← ava f l H d,h,← au8 f l H d]
 grind [List.set_getElem_self]
theorem anh{a b:Sp.Bytes}(h:(Sp.latest a b).2.2.1=true):eU (Sp.latest a b).2.1=true:=by
 grind [Sp.latest,MG]
theorem Zd{a b:Sp.Bytes}(h:(Sp.latest a b).2.2.1=true):1<=(Sp.latest a b).1/\(Sp.latest a b).1<=1000000000:=by
 grind [Sp.latest,MG]
variable {y:dw}
theorem ai0{n:Int}(h:eU y=true)(C:1<=n)(O:n<=1000000000):jq [] n y=([F9 n y],true):=by
 have e:gQ ([]++[(n,y.1,y.2.1,y.2.2.1,y.2.2.2.1,0,())])=true:=by unfold gQ;rw[aQm];refine⟨kV λi D=>?_,aQT jv⟩;have:i=0:=jv;subst this;unfold yD;have F:eU (pJ (dP ([]++[(n,y.1,y.2.1,y.2.2.1,y.2.2.2.1,0,())]) 0))=true:=h;rw[F];show((decide (1<=n)&&decide (n<=1000000000))&&_)=true;rw[aQT C,aQT O];rfl
 unfold jq;rw[e];rfl
theorem arG:OK Nr.e:=by
 refine eP [Jt.e,oD.e,wU.e,zY.e,qY.e] ⟨ac5,Ak,MH,O0,Am,⟨⟩⟩ avb (λ⟨x,_⟩ J=>⟨(((Sp.recover x).1,(Sp.recover x).2,()),()),rfl⟩) λS T A C D e i F K b M=>show Nr.goal (arH S T A C D e i F K b M) ((S,T,A,C,D,e,i,F,K,b,M,()),())fromλB J=>?_
 dsimp only[Nr]at J ⊢;delta arH Lp aj alk bJ lU qc;have J:Sp.anyS (S,T,A,C,D,e,i,F,K,b,M,()):=J;have o:b.length<=90/\∀w∈b,jP w:=J.2.2.2.1;have hD:dJ e/\dJ i:=J.2.1;have Y:=aiZ e i;have j:=@anh e i;have Q:=@Zd e i;refine⟨J,?_⟩;rintro⟨⟨r,⟨⟩⟩,⟨⟩⟩ hr;have hr:r=(S,T,A,C,D,e,i,F,K,b,M,()):=hr;subst hr;refine⟨hD,?_⟩;have hR:Sp.recover (S,T,A,C,D,e,i,F,K,b,M,())=bif (Sp.latest e i).2.2.1 then
  (Sp.mkS (arI (Sp.latest e i).2.1) e i (Sp.latest e i).1 [F9 (Sp.latest e i).1 (Sp.latest e i).2.1]
    (b.map (Dl (kG (Sp.latest e i).2.1) (Sp.latest e i).2.1.2.2.2.1 (Sp.latest e i).1)) M,true)
  else((S,T,A,C,D,e,i,F,K,b,M,()),false):=rfl
 rw[hR];clear hR;generalize Sp.latest e i=L at Y j Q ⊢;obtain⟨N,⟨a,l,Z,d,⟨⟩⟩,ok,sl⟩:=L;dsimp only;refine af (λg=>?_) λg=>⟨⟨Y.1,Y.2⟩,?_⟩
 · grind
 have g:ok=true:=dN g;subst g;have j:eU (a,l,Z,d,PUnit.unit)=true:=j rfl;have Q:1<=N/\N<=1000000000:=Q rfl;have hap:=ai0 j Q.1 Q.2;unfold eU at j;rw[aQm]at j;rintro⟨⟨⟨ca,cl,cn,cd,cr,⟨⟩⟩,co,⟨⟩⟩,⟨⟩⟩ ⟨O,c2,-⟩;have O:co=(aA d&&aJ (a,l,Z,PUnit.unit)):=O;have hk1:aJ (a,l,Z,PUnit.unit)=true:=j.1;have R:aA d=true:=j.2;rw[hk1,R]at O;obtain⟨e1,e2,t⟩:=c2 O;have e1:(ca,cl,cn,())=(a,l,Z,()):=e1;have e2:cd=d:=e2;obtain⟨rfl,rfl,rfl⟩:ca=a/\cl=l/\cn=Z:=by simpa using e1
 subst e2;have t:gX cl cd [] (λ_=>true) cr:=t;have t:=ai1 (NK R) t;have U:∀ws,Sp.mkS (arI (ca,cl,cn,cd,PUnit.unit)) e i N [F9 N (ca,cl,cn,cd,PUnit.unit)] ws M=(ca,cl,cn,cd,cr,e,i,N,[F9 N (ca,cl,cn,cd,PUnit.unit)],ws,M,()):=λws=>by rw[← t];rfl
 rw[U];clear U t O c2 e1;refine⟨⟨X3,jI,Y⟩,?_⟩;rintro⟨⟨v,vo,⟨⟩⟩,⟨⟩⟩ ⟨z,-⟩;have z:v=(jq [] N (ca,cl,cn,cd,PUnit.unit)).1:=z;rw[hap]at z;have z:v=[F9 N (ca,cl,cn,cd,PUnit.unit)]:=z;subst z;have hst:kG (ca,cl,cn,cd,PUnit.unit)=(ca,cl,cn,()):=rfl;rw[hst];dsimp only;obtain⟨f,X⟩:∃f,f=Dl (ca,cl,cn,()) cd N:=⟨_,rfl⟩;rw[← X];refine aoT b.length fC (λn s=>s=(b.take n).map f++b.drop n) rfl (λI P n s H E next=>?_) λI P s E=>?_
 .subst E;have gl:=au9 f b (aSl H);have gg:=au8 f b H (0,[],[],[],());have gs:=ava f b H (0,[],[],[],());have gm:=upd_same f b H (0,[],[],[],());have m:=o.2 _ (getD_mem (d:=(0,[],[],[],())) H);have hc:∀w,f w=bif decide (ug w<N)then Sp.told w N (dI (ca,cl,cn,()) cd w.1 w.2.1)else w:=λw=>by rw[X];rfl
  dsimp only;rw[gl,aQs,gg];refine dH fC ⟨⟨fC,fC⟩,fC,?_⟩;have W:=m.2.1;have hv0:(b.getD n (0,[],[],[],())).2.2.2.1.length=0->ug (b.getD n (0,[],[],[],()))=0:=λh=>by grind [ug]
  have hv1:∀k,(b.getD n (0,[],[],[],())).2.2.2.1.length=k+1->ug (b.getD n (0,[],[],[],()))=((b.getD n (0,[],[],[],())).2.2.2.1.getD k (0,[],[],())).1:=λk h=>by unfold ug;rw[h];rfl
  have go:∀w,decide (ug (b.getD n (0,[],[],[],()))<N)=true->w=Sp.told (b.getD n (0,[],[],[],())) N (dI (ca,cl,cn,()) cd (b.getD n (0,[],[],[],())).1 (b.getD n (0,[],[],[],())).2.1)->List.set ((b.take n).map f++b.drop n) n w=(b.take (n+1)).map f++b.drop (n+1):=λw g hwt=>by
   grind
  have stay:decide (ug (b.getD n (0,[],[],[],()))<N)=false->(b.take n).map f++b.drop n=(b.take (n+1)).map f++b.drop (n+1):=λg=>gm (by rw[hc,g];rfl);rcases aRB (b.getD n (0,[],[],[],())).2.2.2.1.length with h0|h0
  .refine gU fC (af (λg=>?_) λg=>?_)
   .refine⟨⟨fC,fC⟩,fC,⟨m,Y.1,Y.2⟩,?_⟩
    grind
   grind
  .obtain⟨k,j⟩:∃k,(b.getD n (0,[],[],[],())).2.2.2.1.length=k+1:=⟨_,(Nat.succ_pred_eq_of_pos h0).symm⟩;refine dH fC ?_;rw[rE h0 fC,aQs,j,aSk];refine⟨⟨fC,fC⟩,fC,⟨fC,fC⟩,af (λg=>?_) λg=>?_⟩
   .refine⟨⟨fC,fC⟩,fC,⟨m,Y.1,Y.2⟩,?_⟩
    grind
   grind
 grind
theorem aKr(h:lX x=true):(Sp.latest (jX x) (jY x)).1=rF x:=by
 grind [lX]
variable {v:List gJ}
theorem aEf(h:fK v):fK (Gf v):=by
 grind [Gf,agB]
def aM0(x:gJ):Prop:=1<=x.1/\x.1<=1000000000/\eU (pJ x)=true/\0<=x.2.2.2.2.2.1/\x.2.2.2.2.2.1<=99
theorem zy{i:Nat}(h:i<v.length):dP v i=v[i]:=by
 grind [dP]
theorem BH:gQ v=true↔v.length<=6/\(∀x∈v,aM0 x)/\v.Pairwise λa b=>a.1<b.1:=by
 constructor
 .intro h;have W:v.length<=6:=by
   grind [gQ]
  refine⟨W,λx Z=>?_,?_⟩
  .obtain⟨i,D,rfl⟩:=aQQ Z;have:=aiP h D;unfold yD at this;rw[zy D]at this;simp only[aQm,aQF]at this;exact⟨this.1.1,this.1.2,this.2.2.1,this.2.2.2.1,this.2.2.2.2⟩
  .rw[aRb];intro i j D g f;have:=aiW h j f g
   grind [zy]
 .rintro⟨W,h1,h2⟩;unfold gQ;rw[aQm];refine⟨kV λi D=>?_,aQT fC⟩;obtain⟨a,b,c,d,e⟩:=h1 _ (aRM D)
  grind [yD,zy,List.pairwise_iff_getElem]
theorem arJ{w:List gJ}(h:gQ v=true)(Y:w.Sublist v):gQ w=true:=by
 grind [BH]
theorem ani(v:List gJ):(Sp.collect v).Sublist v:=by
 cases h:gQ v with
 |false=>grind [arK]
 |true=>
  rw[ae7 h]
  conv=>rhs;rw[← List.take_append_drop (v.length-1) v]
  exact List.Sublist.append List.filter_sublist (List.Sublist.refl _)
theorem aAe(v:List gJ):(Gf v).Sublist v:=by
 grind [Gf,ani]
theorem aGf(h:gQ v=true){x:gJ}(Z:x∈v):x.1<=(dP v (v.length-1)).1:=by
 obtain⟨i,D,rfl⟩:=aQQ Z;rcases aQE i (v.length-1)with hl|hl
 .have:=aiW h (i:=i) (v.length-1) hl fC
  grind [zy]
 grind [zy]
theorem anj{n:Int}(h:gQ v=true)(H:(dP v (v.length-1)).1=n)(d:0<=n)(C:n<1000000000)(W:(Gf v).length<6)(F:eU y=true):
 jq (Gf v) (n+1) y=(Gf v++[F9 (n+1) y],true):=by
 have hr:=arJ h (aAe v);refine ac0 hr ?_;rw[BH]at hr ⊢;refine⟨jv,λx Z=>?_,?_⟩
 .rcases aQM.1 Z with Z|Z
  · grind
  .rw[aQR]at Z;subst Z;exact⟨fC,fC,F,jv,jv⟩
 .rw[aRF];refine⟨hr.2.2,aRg _ _,λa r b U=>?_⟩;rw[aQR]at U;subst U;have:=aGf h ((aAe v).subset r);omega
theorem aIc(h:lX x=true):gQ (eu x)=true/\(dP (eu x) ((eu x).length-1)).1=rF x:=by
 grind [lX]
variable {c:dF}
theorem U4(h:dn c=true):eU (wQ c)=true:=by have:=ai2 h;unfold eU;rw[aQm];exact⟨this.1,this.2.1⟩
theorem ac8:OK Ju.e:=by
 refine eP [Jt.e,mW.e,uF.e,oD.e,sZ.e,Ez.e,uY.e,kR.e,qZ.e,qY.e] ⟨ac5,qx,F8,Ak,N7,Qs,FD,nN,Hr,Am,⟨⟩⟩ ax4 (λ⟨x,c,_⟩ J=>⟨(((Sp.commit x c).1,(Sp.commit x c).2,()),()),rfl⟩) λS T F K L A C a i b M j m t z Q=>show Ju.goal (avc S T F K L A C a i b M j m t z Q) ((S,T,F,K,L,A,C,a,i,b,M,()),(j,m,t,z,Q,()),())fromλB J=>?_
 dsimp only[Ju]at J ⊢;delta avc aj bJ qc;have J:Sp.anyS (S,T,F,K,L,A,C,a,i,b,M,())/\kC (j,m,t,z,Q,()):=J;obtain⟨Z,N⟩:=J;have o:b.length<=90/\∀w∈b,jP w:=Z.2.2.2.1;have hD:dJ A/\dJ C:=Z.2.1;have hV:fK i:=Z.2.2.1.1;have Y:iU (jQ (S,T,F,K,L,A,C,a,i,b,M,())):=Z.1.1;have O:iU (j,m,t,z,Q,()):=N.1;have hsx:fB (j,m,t,z,()):=⟨O.1,O.2.1⟩;have hvr:=aEf hV;have H:=Tj A C;have hK:Sp.commit (S,T,F,K,L,A,C,a,i,b,M,()) (j,m,t,z,Q,())=
  bif !(lX (S,T,F,K,L,A,C,a,i,b,M,())&&dn (j,m,t,z,Q,()))then((S,T,F,K,L,A,C,a,i,b,M,()),false)else
  bif kL (j,m,t,z,()) (rX (S,T,F,K,L,A,C,a,i,b,M,()))then((S,T,F,K,L,A,C,a,i,b,M,()),true)else
  bif decide (1000000000<=a)||decide (6<=(Gf i).length)then((S,T,F,K,L,A,C,a,i,b,M,()),false)else
  ((j,m,t,z,Q,(oN A C (j,m,t,z,())).1,(oN A C (j,m,t,z,())).2.1,a+1,Gf i++[F9 (a+1) (j,m,t,z,())],Sp.toldAll (j,m,t,()) z (a+1) b,M,()),true):=rfl
 rw[hK];have hnum:lX (S,T,F,K,L,A,C,a,i,b,M,())=true->a<=1000000000/\0<=a:=λh=>by have e:(Sp.latest A C).1=a:=aKr h;omega
 have D:lX (S,T,F,K,L,A,C,a,i,b,M,())=true->gQ i=true/\(dP i (i.length-1)).1=a:=aIc;have U:dn (j,m,t,z,Q,())=true->eU (j,m,t,z,())=true:=U4;refine⟨Z,?_⟩;rintro⟨⟨r,⟨⟩⟩,⟨⟩⟩ hr;have hr:r=(S,T,F,K,L,A,C,a,i,b,M,()):=hr;subst hr;refine⟨λ_=>lX (S,T,F,K,L,A,C,a,i,b,M,())=true/\dn (j,m,t,z,Q,())=true,⟨Z,af (λg=>?_) λg=>⟨O,af (λg2=>?_) λg2=>⟨rfl,dN g,dN g2⟩⟩⟩,?_⟩
 · grind
 · grind
 rintro y ⟨hO,hU⟩;rw[hO,hU];have D:=D hO;have U:=U hU;refine⟨Y,?_⟩;rintro⟨⟨q,⟨⟩⟩,⟨⟩⟩ hq;have hq:q=rX (S,T,F,K,L,A,C,a,i,b,M,()):=hq;subst hq;refine⟨⟨hsx,⟨Y.1,Y.2.1⟩⟩,?_⟩;dsimp only;generalize kL (j,m,t,z,()) (rX (S,T,F,K,L,A,C,a,i,b,M,()))=SE;refine af (λg=>?_) λg=>?_
 .subst g;rfl
 subst g;have h7:=hnum hO;have h7b:=h7.2;refine⟨λy=>y=((Gf i,()),(S,T,F,K,L,A,C,a,i,(),M,()),()),af (λg=>⟨hV,?_⟩) λg=>⟨rfl,?_⟩,?_⟩
 · grind [Gf]
 · grind [Gf]
 rintro y rfl;dsimp only;have R:=λ(h7:a<1000000000) W=>anj D.1 D.2 h7b h7 W U;generalize Gf i=rv at hvr R ⊢;refine⟨λ_=>a<1000000000/\rv.length<6,af (λg=>?_) λg=>af (λg2=>?_) λg2=>⟨rfl,?_⟩,?_⟩
 · grind
 · grind
 · grind
 rintro y ⟨l7,l8⟩;rw[aQH (by omega:¬1000000000<=a),aQH (by omega:¬6<=rv.length)];have R:=R l7 l8;rw[eH _ fC];refine⟨⟨hvr,fC,hsx⟩,?_⟩;rintro⟨⟨v,vo,⟨⟩⟩,⟨⟩⟩ ⟨v1,-⟩;have v1:v=(jq rv (a+1) (j,m,t,z,())).1:=v1;rw[R]at v1;have v1:v=rv++[F9 (a+1) (j,m,t,z,())]:=v1;subst v1;refine⟨⟨hD.1,hD.2,hsx⟩,O,?_⟩;rintro⟨⟨r,⟨⟩⟩,⟨⟩⟩ hr;have hr:r=(j,m,t,z,Q,()):=hr;subst hr;dsimp only;obtain⟨f,X⟩:∃f:iQ->iQ,f=λw=>Sp.told w (a+1) (dI (j,m,t,()) z w.1 w.2.1):=⟨_,rfl⟩;have k:Sp.toldAll (j,m,t,()) z (a+1) b=b.map f:=by rw[X];rfl
 rw[k];refine aoT b.length fC (λn s=>s=(b.take n).map f++b.drop n) rfl (λI P n s H E next=>?_) λI P s E=>?_
 .subst E;have gl:=au9 f b (aSl H);have gg:=au8 f b H (0,[],[],[],());have gs:=ava f b H (0,[],[],[],());have hfw:=o.2 _ (getD_mem (d:=(0,[],[],[],())) H);dsimp only;rw[gl,aQs,gg];refine dH fC ?_;refine⟨⟨fC,fC⟩,fC,⟨hfw,O.1,O.2.1⟩,?_⟩
  grind
 .subst E;dsimp only;rw[au9 f b (aQp _)];refine gU fC ?_;rw[aQK,aSJ,aQY];rfl
theorem aCU{u:Int}:∀{l:List eG}{c a:dF},kC c->dn c=true->(∀x∈l,tC x)->xZ u c l a->dn a=true/\kC a
 |[],c,a,ha,hu,_,h=>by
  have h:a=c:=h
  grind
 |x::r,c,a,ha,hu,hf,⟨c1,df,h1,h2⟩=>by have h:=aGg ha (hf x aQr) h1;exact aCU h.2 h.1 (λy F=>hf y (aQo _ F)) h2
variable {ok:Bool}
theorem trans_any{a:dF}{l:List eG}{b:List pz}(h:wE c u l q a b ok)(r:kC c)(X:∀x∈l,tC x):kC a/\(ok=true->dn a=true):=by
 cases ok with
 |false=>rw[(h.2.2 rfl).1];grind
 |true=>
  have:=aCU r (h.1.1 rfl).1 X (h.2.1 rfl).1
  grind
theorem aGh(x:fP)(u:Int)(ops:List eG):∃y ok,akI x u ops y ok:=by obtain⟨c,a,o,h⟩:=ai3 (jQ x) u ops (zk x);exact⟨_,_,c,a,o,h,rfl⟩
theorem abK:OK GL.e:=by
 refine eP [Ju.e,qY.e,rJ.e] ⟨ac8,Am,MI,⟨⟩⟩ ac9 (λ⟨x,u,a,_⟩ J=>by obtain⟨y,ok,h⟩:=aGh x u a;exact⟨((y,ok,()),()),h⟩) λS T b d e f i j k m M u a=>show GL.goal (abL S T b d e f i j k m M u a) ((S,T,b,d,e,f,i,j,k,m,M,()),u,a,())fromλB J=>?_
 refine⟨⟨J.1.1,J.2⟩,?_⟩;rintro⟨⟨c,df,o,⟨⟩⟩,⟨⟩⟩ ht;have s:=trans_any ht J.1.1 J.2.2;refine af (λg=>⟨J.1,λr hr=>⟨c,df,o,ht,?_⟩⟩) λg=>⟨⟨J.1,s.1⟩,λr hr=>⟨c,df,o,ht,?_⟩⟩
 · grind
 grind
theorem aoU:OK KY.e:=by
 refine eP [Ju.e,qY.e,wC.e] ⟨ac8,Am,QZ,⟨⟩⟩ arL (λ⟨x,c,ok,_⟩ J=>⟨(((bif ok&&wV c.2.1 (zk x)then Sp.commit x c else(x,false)).1,(bif ok&&wV c.2.1 (zk x)then Sp.commit x c else(x,false)).2,()),()),rfl⟩) λS T a b d e f h i j M k m o r s ok=>show KY.goal (aoV S T a b d e f h i j M k m o r s ok) ((S,T,a,b,d,e,f,h,i,j,M,()),(k,m,o,r,s,()),ok,())fromλB J=>?_
 dsimp only[KY]at J ⊢;have z:(zk (S,T,a,b,d,e,f,h,i,j,M,()))=M:=rfl;refine af (λg=>⟨J.1,?_⟩) λg=>⟨J.2.1.1,af (λt=>⟨J.1,?_⟩) λt=>⟨J,?_⟩⟩
 · grind
 · grind
 grind
variable {a b:Sp.Bytes}
theorem aIe{S:List dm}{T:List aG}{d g:Int}{e:List aH}{f:List fA}{k m:Sp.Bytes}{i:List gJ}{j:List iQ}{M:List (Int×Unit)}(h:Sp.anyS (S,T,d,e,f,k,m,g,i,j,M,()))(r:dJ a)(U:dJ b):Sp.anyS (S,T,d,e,f,a,b,g,i,j,M,()):=
 ⟨h.1,⟨r,U⟩,h.2.2.1,h.2.2.2.1,h.2.2.2.2⟩
theorem aw0(x:fP)(u:Int)(ops:List eG)(k:Int):∃y ok,Sp.crashed x u ops k y ok:=by
 unfold Sp.crashed;cases lX x with
 |false=>simp_all
 |true=>
  obtain⟨c,d,o,h⟩:=ai3 (jQ x) u ops (zk x)
  grind
variable {ops:List eG}
theorem aIf{k:Int}(h:lX x=false):Sp.crashed x u ops k x false:=by
 grind [Sp.crashed]
theorem ai4{y:fP}{k:Int}{d:List pz}{o:Bool}(h:lX x=true)(e:wE (jQ x) u ops (zk x) c d o)(F:(y,ok)=Sp.recover (bif o&&!kL (wQ c) (rX x)then Ze x (gq (jX x) (jY x) (wQ c) k).1 else x)):Sp.crashed x u ops k y ok:=by
 grind [Sp.crashed]
theorem X5:OK wH.e:=by
 refine eP [Nr.e,uF.e,Ez.e,uY.e,rJ.e,qZ.e,qY.e] ⟨arG,F8,Qs,FD,MI,Hr,Am,⟨⟩⟩ Zf (λ⟨x,u,ops,k,_⟩ J=>by obtain⟨y,ok,h⟩:=aw0 x u ops k;exact⟨((y,ok,()),()),h⟩) λS T d e f i j m s t M u ops k=>show wH.goal (X6 S T d e f i j m s t M u ops k) ((S,T,d,e,f,i,j,m,s,t,M,()),u,ops,k,())fromλB J=>?_
 dsimp only[wH]at J ⊢;have J:Sp.anyS (S,T,d,e,f,i,j,m,s,t,M,())/\ops.length<=1000/\(∀c∈ops,tC c):=J;have z:iU (jQ (S,T,d,e,f,i,j,m,s,t,M,())):=J.1.1.1;have D:dJ i/\dJ j:=J.1.2.1;refine⟨J.1,?_⟩;rintro⟨⟨r,⟨⟩⟩,⟨⟩⟩ hr;have hr:r=(S,T,d,e,f,i,j,m,s,t,M,()):=hr;subst hr;refine⟨J.1,af (λg=>aIf (kJ g)) λg=>⟨⟨J.1.1,J.2⟩,?_⟩⟩;have E:lX (S,T,d,e,f,i,j,m,s,t,M,())=true:=dN g;rintro⟨⟨c,df,o,⟨⟩⟩,⟨⟩⟩ A;have A:wE (S,T,d,e,f,()) u ops M c df o:=A;have H:=trans_any A J.1.1 J.2.2;cases o with
 |false=>exact⟨J.1,λr hr=>ai4 E A hr⟩
 |true=>
  have C:fB (wQ c):=⟨H.1.1.1,H.1.1.2.1⟩;refine⟨z,?_⟩;rintro⟨⟨q,⟨⟩⟩,⟨⟩⟩ F;have F:q=rX (S,T,d,e,f,i,j,m,s,t,M,()):=F;subst F;refine⟨⟨C,z.1,z.2.1⟩,af (λg=>⟨⟨D.1,D.2,C⟩,?_⟩) λg=>⟨J.1,λr hr=>ai4 E A ?_⟩⟩
  .have hw:=aaU (x:=wQ c) (k:=k) D.1 D.2;refine⟨aIe J.1 hw.1 hw.2,λr hr=>ai4 E A ?_⟩;have g:kL (wQ c) (rX (S,T,d,e,f,i,j,m,s,t,M,()))=false:=kJ g;rw[g];exact hr
  grind [wQ]
variable {id:Int}{name:Sp.Bytes}
theorem ank{x:dF}{b:Bool}{st:List aW}(N:kC c)(h:Sp.written c u name id b x st ok):kC x:=by
 cases ok with
 |true=>exact(aAg N h).1
 |false=>rw[(h.2.2 rfl).1];exact N
theorem aw1{b:Bool}{k:Int}(h:YF k ops.length=b):Vz (k,u,ops,name,id,())=b:=by
 grind [Vz,YF]
theorem aGi{k:Int}(h:Vz (k,u,ops,name,id,())=true):1<=k/\k<=8:=by
 grind [Vz]
theorem aAh{a:Oq}(h:Vz a=false\/lX x=false):IJ x a x false:=by
 grind [IJ]
theorem TD{y:fP}{k:Int}(C:Vz (k,u,ops,name,id,())=true)(O:lX x=true)
 (h:bif k==1 then akI x u ops y ok else bif k==2 then Sp.crashed x u ops id y ok else bif k==3 then(y,ok)=Sp.watched x u name else
   bif k==4 then y=FH x (kZ (eu x) id 1).1/\ok=(kZ (eu x) id 1).2 else
   bif k==5 then y=FH x (kZ (eu x) id (-1)).1/\ok=(kZ (eu x) id (-1)).2 else
   bif k==6 then y=FH x (Sp.collect (eu x))/\ok=true else aoW x u name id (k==7) y ok):IJ x (k,u,ops,name,id,()) y ok:=by
 grind [IJ]
theorem aCV{y:fP}{k:Int}{b o:Bool}{st:List aW}(C:Vz (k,u,ops,name,id,())=true)(O:lX x=true)(g:7<=k)(U:(k==7)=b)
 (d:Sp.written (jQ x) u name id b c st o) (F:(y,ok)=bif o&&wV c.2.1 (zk x)then Sp.commit x c else(x,false)):IJ x (k,u,ops,name,id,()) y ok:=by
 have e:∀j:Int,j<7->(k==j)=false:=λj f=>aQl.2 fC;refine TD C O ?_;rw[e 1 jI,e 2 jI,e 3 jI,e 4 jI,e 5 jI,e 6 jI,U];exact⟨c,st,o,d,F⟩
theorem Zg{A B:fP->Bool->Prop}(b:Bool)(r:∃y ok,A y ok)(U:∃y ok,B y ok):∃y ok,bif b then A y ok else B y ok:=by
 grind
theorem aCW(x:fP)(a:Oq):∃y ok,IJ x a y ok:=by refine Zg _ ⟨x,false,rfl,rfl⟩ (Zg _ (aGh _ _ _) (Zg _ (aw0 _ _ _ _) (Zg _ ⟨_,_,rfl⟩ (Zg _ ⟨_,_,rfl,rfl⟩ (Zg _ ⟨_,_,rfl,rfl⟩ (Zg _ ⟨_,_,rfl,rfl⟩ ?_))))));obtain⟨c,d,h⟩:=VA (jQ x) a.2.1 a.2.2.2.2.1 a.2.2.2.1 (a.1==7);exact⟨_,_,c,d,_,h,rfl⟩
theorem aAi(h:4<=(oM x).length):Sp.watched x u name=(x,false):=by
 grind [Sp.watched]
theorem aAj(h:qw u=false):Sp.watched x u name=(x,false):=by
 grind [Sp.watched]
theorem aw2(h:¬4<=(oM x).length)(O:qw u=true):Sp.watched x u name=(aAk x (oM x++[(u,name,dI (aQ (jQ x)) (bF (jQ x)) u name,[],())]),true):=by
 grind [Sp.watched]
theorem alR:OK II.e:=by
 refine eP [Iy.e,KY.e,RD.e,sZ.e,Dx.e,AU.e,RP.e,gI.e,wH.e,GL.e,qZ.e,IB.e,qY.e] ⟨ada,aoU,aoX,N7,ae8,Wi,aoP,gW,X5,abK,Hr,adb,Am,⟨⟩⟩ aoY (λ⟨x,a,_⟩ J=>by obtain⟨y,ok,h⟩:=aCW x a;exact⟨((y,ok,()),()),h⟩) λS T m s z A D E e i M j F H t I=>show II.goal (alS S T m s z A D E e i M j F H t I) ((S,T,m,s,z,A,D,E,e,i,M,()),(j,F,H,t,I,()),())fromλB J=>?_
 dsimp only[II]at J ⊢;have J:Sp.anyS (S,T,m,s,z,A,D,E,e,i,M,())/\H.length<=1000/\∀c∈H,tC c:=J;have K:fK e/\e.length<=90:=J.1.2.2.1;have X:i.length<=90/\∀w∈i,jP w:=J.1.2.2.2.1;refine⟨J.1,?_⟩;rintro⟨⟨r,⟨⟩⟩,⟨⟩⟩ hr;have hr:r=(S,T,m,s,z,A,D,E,e,i,M,()):=hr;subst hr;refine⟨λ_=>Vz (j,F,H,t,I,())=true/\lX (S,T,m,s,z,A,D,E,e,i,M,())=true,⟨trivial,af (λg=>aAh (.inl (aw1 (kJ g)))) λg=>⟨J.1,af (λf=>aAh (.inr (kJ f))) λf=>⟨rfl,aw1 (dN g),dN f⟩⟩⟩,?_⟩;rintro y ⟨C,O⟩;dsimp only;refine af (λg=>⟨J,λr hr=>?_⟩) λL=>af (λg=>⟨J,λr hr=>?_⟩) λf=>af (λg=>?_) λN=>af (λg=>⟨⟨K.1,fC⟩,?_⟩) λP=>af (λg=>⟨⟨K.1,fC⟩,?_⟩) λQ=>af (λg=>⟨K.1,?_⟩) λR=>af (λg=>⟨J.1.1,?_⟩) λU=>⟨J.1.1,?_⟩
 · grind [TD]
 · grind [TD]
 .obtain rfl:j=3:=aQv.1 g;refine af (λg=>TD C O (aAi (by have g:=rU g;show 4<=i.length;omega)).symm) λg=>⟨trivial,af (λf=>TD C O (aAj (kJ f)).symm) λf=>⟨⟨J.1.1.1.1,J.1.1.1.2.1⟩,?_⟩⟩;rintro⟨⟨w,⟨⟩⟩,⟨⟩⟩ k;have k:w=(F,t,dI (S,T,m,()) s F t,[],()):=k;subst k;have g:=Tf g;have W:=(aw2 (x:=(S,T,m,s,z,A,D,E,e,i,M,())) (name:=t) (show ¬4<=i.length from fC) (dN f)).symm;exact⟨yJ,TD C O W⟩
 .obtain rfl:j=4:=aQv.1 g;rintro⟨⟨v,ok,⟨⟩⟩,⟨⟩⟩ ⟨d,e2⟩;have d:v=(kZ e I 1).1:=d;subst d;exact TD C O (show _/\_ from⟨rfl,e2⟩)
 .obtain rfl:j=5:=aQv.1 g;rintro⟨⟨v,ok,⟨⟩⟩,⟨⟩⟩ ⟨d,e2⟩;have d:v=(kZ e I (-1)).1:=d;subst d;exact TD C O (show _/\_ from⟨rfl,e2⟩)
 .obtain rfl:j=6:=aQv.1 g;rintro⟨⟨v,⟨⟩⟩,⟨⟩⟩ d;have d:v=Sp.collect e:=d;subst d;exact TD C O (show _/\_ from⟨rfl,rfl⟩)
 .obtain rfl:j=7:=aQv.1 g;rintro⟨⟨c,st,o,⟨⟩⟩,⟨⟩⟩ hwr;exact⟨⟨J.1,ank J.1.1 hwr⟩,λr hr=>aCV C O jI rfl hwr hr⟩
 .have hk:7<=j:=by have L:=aQl.1 L;have f:=aQl.1 f;have N:=aQl.1 N;have P:=aQl.1 P;have Q:=aQl.1 Q;have R:=aQl.1 R;have:=aGi C;omega
  rintro⟨⟨c,st,o,⟨⟩⟩,⟨⟩⟩ hwr;exact⟨⟨J.1,ank J.1.1 hwr⟩,λr hr=>aCV C O hk U hwr hr⟩
theorem aaV(p:jy->Bool)(l:List jy)(H:n<l.length)(d:jy)(h:p (l.getD n d)=true):(l.take n).filter p++[l.getD n d]=(l.take (n+1)).filter p:=by
 grind [List.take_add_one]
theorem aaW(p:jy->Bool)(l:List jy)(H:n<l.length)(d:jy)(h:p (l.getD n d)=false):(l.take n).filter p=(l.take (n+1)).filter p:=by
 grind [List.take_add_one]
theorem aIg(p:jy->Bool)(l:List jy)(n:Nat):((l.take n).filter p).length<=l.length:=
 aQn (aQ2 _ _) jv
theorem ag4:OK LJ.e:=by
 refine eP [IC.e] ⟨Xw,⟨⟩⟩ ai5 (λ⟨w,n,_⟩ J=>⟨((Sp.since w n,()),()),rfl⟩) λf h j d v=>show LJ.goal (ag5 f h j d v) ((f,h,j,d,()),v,())fromλB J=>?_
 have W:d.length<=4000000:=J.2.1;have g:∀e∈d,RN e:=J.2.2;refine bQ (λi s=>(((),i,()),s,())) (λy=>y.1.2.1) (λ_ _=>rfl) d.length fC (λn s=>s=(d.take n).filter λe=>decide (e.1>v)) rfl (λI P n s H E next=>?_) λI P s E=>?_
 · grind [aaV,aaW,Int.toNat_natCast,bV]
 .subst E;dsimp only;refine gU fC ?_;rw[aQK];rfl
theorem ag6:OK LK.e:=by
 refine eP [yB.e] ⟨Oo,⟨⟩⟩ ai6 (λ⟨w,n,_⟩ J=>⟨((Sp.since w n,()),()),rfl⟩) λf j k d v=>show LK.goal (ag7 f j k d v) ((f,j,k,d,()),v,())fromλB J=>?_
 have W:d.length<=4000000:=J.2.1;have g:∀e∈d,RN e:=J.2.2;refine bQ (λi s=>(((),i,()),s,())) (λy=>y.1.2.1) (λ_ _=>rfl) d.length fC (λn s=>s=(d.take n).filter λe=>decide (e.1>v)) rfl (λI P n s H E next=>?_) λI P s E=>?_
 · grind [aaV,aaW,Int.toNat_natCast,bV]
 .subst E;dsimp only;refine gU fC ⟨⟨aQn (aIg _ _ _) W,λe h=>g e (aRa (aQ4.1 h).1)⟩,?_⟩;rintro⟨⟨r,⟨⟩⟩,⟨⟩⟩ hr;subst hr;rw[aQK];rfl
theorem ai7(p:jy->Bool):∀l:List jy,kP (l.filter p)<=kP l
 |[]=>aQp _
 |e::l=>by
  have:=ai7 p l;have C:kP (e::l)=e.2.1.length+kP l:=by unfold kP;rw[aQB,aRh]
  cases h:p e with
  |true=>
   rw[List.filter_cons_of_pos h];have O:kP (e::l.filter p)=e.2.1.length+kP (l.filter p):=by unfold kP;rw[aQB,aRh]
   omega
  |false=>rw[aSo (by rw[h];decide)];omega
theorem arM(p:jy->Bool)(h:RJ l es):RJ l (es.filter p):=by
 grind [RJ,ai7]
theorem ag8:OK LM.e:=by
 refine dW [xQ.e] ⟨Tz,⟨⟩⟩ ai8 λf g h d v=>show LM.goal (ag9 f g h d v) ((f,g,h,d,()),v,())fromλB J=>?_
 have W:d.length<=4000000:=J.2.1;refine bQ (λi s=>(((),i,()),s,())) (λy=>y.1.2.1) (λ_ _=>rfl) d.length fC (λn s=>s=(d.take n).filter λe=>decide (e.1<=v)) rfl (λI P n s H E next=>?_) λI P s E=>?_
 · grind [aaV,aaW,Int.toNat_natCast,bV]
 .subst E;dsimp only;rw[aQK];exact gU fC ⟨arM _ J.1,rfl⟩
theorem aha:OK LQ.e:=by
 refine dW [sK.e] ⟨Je,⟨⟩⟩ ai9 λf g h d v=>show LQ.goal (ahb f g h d v) ((f,g,h,d,()),v,())fromλB J=>?_
 have W:d.length<=4000000:=J.2.1;refine bQ (λi s=>(((),i,()),s,())) (λy=>y.1.2.1) (λ_ _=>rfl) d.length fC (λn s=>s=(d.take n).filter λe=>decide (e.1<=v)) rfl (λI P n s H E next=>?_) λI P s E=>?_
 · grind [aaV,aaW,Int.toNat_natCast,bV]
 .subst E;dsimp only;rw[aQK];exact gU fC ⟨arM _ J.1,rfl⟩
def NM(l:List jy):Nat:=(l.map λe=>e.2.1.length+e.2.2.1.length).sum
theorem aw3(l:List jy)(H:n<l.length)(d:jy):NM (l.take (n+1))=NM (l.take n)+((l.getD n d).2.1.length+(l.getD n d).2.2.1.length):=by
 grind [NM,List.take_add_one]
theorem avd:∀l:List jy,(∀e∈l,RN e)->NM l<=8000000*l.length
 |[],_=>aQx _
 |e::l,h=>by
  have C:=avd l λx Z=>h x (aQo _ Z);have O:=h e aQr;have K:=O.1;have d:=O.2
  grind [NM]
theorem ahc:OK EC.e:=by
 refine dW [LJ.e] ⟨ag4,⟨⟩⟩ aja λj m o f v=>show EC.goal (ahd j m o f v) ((j,m,o,f,()),v,())fromλB J=>?_
 dsimp only[EC]at J ⊢;have W:f.length<=4000000:=J.2.1;refine⟨J,?_⟩;rintro⟨⟨r,⟨⟩⟩,⟨⟩⟩ hr;have hr:r=Sp.since (j,m,o,f,()) v:=hr;have A:r.length<=4000000:=by rw[hr];exact aQn (aQ2 _ _) W
 have X:∀e∈r,RN e:=λe h=>by rw[hr]at h;exact J.2.2 e (aQ4.1 h).1
 have k:Sp.missed (j,m,o,f,()) v=(NM r:Nat):=by rw[hr];rfl
 refine bQ (λi s=>((s,i,()),())) (λy=>y.1.2.1) (λ_ _=>rfl) r.length fC (λn(s:Int)=>s=(NM (r.take n):Nat)) rfl (λI P n s H E next=>?_) λI P s E=>?_
 .have hs:=aw3 r H (0,[],[],());have U:=avd (r.take n) λe h=>X e (aRa h);have g:=X _ (getD_mem (d:=(0,[],[],())) H);have t:=g.1;have z:=g.2
  grind [eH]
 grind
theorem ahe:OK ED.e:=by
 refine dW [LK.e] ⟨ag6,⟨⟩⟩ ajb λj m o f v=>show ED.goal (ahf j m o f v) ((j,m,o,f,()),v,())fromλB J=>?_
 dsimp only[ED]at J ⊢;have W:f.length<=4000000:=J.2.1;refine⟨J,?_⟩;rintro⟨⟨r,⟨⟩⟩,⟨⟩⟩ hr;have hr:r=Sp.since (j,m,o,f,()) v:=hr;have A:r.length<=4000000:=by rw[hr];exact aQn (aQ2 _ _) W
 have X:∀e∈r,RN e:=λe h=>by rw[hr]at h;exact J.2.2 e (aQ4.1 h).1
 have k:Sp.missed (j,m,o,f,()) v=(NM r:Nat):=by rw[hr];rfl
 refine bQ (λi s=>((s,i,()),())) (λy=>y.1.2.1) (λ_ _=>rfl) r.length fC (λn(s:Int)=>s=(NM (r.take n):Nat)) rfl (λI P n s H E next=>?_) λI P s E=>?_
 .have hs:=aw3 r H (0,[],[],());have U:=avd (r.take n) λe h=>X e (aRa h);have g:=X _ (getD_mem (d:=(0,[],[],())) H);have t:=g.1;have z:=g.2
  grind [eH]
 grind
theorem aAl{n:Int}(h:(jB (eu x) n).2=false):([],false)=pX x n u name:=by grind [pX]
theorem aw4{n:Int}(h:(jB (eu x) n).2=true):(dI (kG (jB (eu x) n).1) (jB (eu x) n).1.2.2.2.1 u name,true)=pX x n u name:=by grind [pX]
theorem agC{n:Int}(h:fK v)(X:(jB v n).2=true):fB (jB v n).1:=by
 unfold jB at X ⊢;cases e:decide (0<=bM v n)with
 |false=>grind
 |true=>
  rcases aQE (bM v n).toNat v.length with W|W
  .exact h.2 _ (getD_mem W)
  .unfold dP;rw[aQJ,aRC W];exact⟨⟨jI,jI,λx Z=>vk⟩,jI,λx Z=>vk⟩
theorem Zh:OK D5.e:=by
 refine eP [Nk.e,Em.e] ⟨aaT,agW,⟨⟩⟩ H0 (λ⟨x,n,u,d,_⟩ J=>⟨(((pX x n u d).1,(pX x n u d).2,()),()),rfl⟩) λS T f h i j k m e o M n u d=>show D5.goal (Zi S T f h i j k m e o M n u d) ((S,T,f,h,i,j,k,m,e,o,M,()),n,u,d,())fromλB J=>?_
 have r:fK e:=J.2.2.1.1;refine⟨r,?_⟩;rintro⟨⟨y,ok,⟨⟩⟩,⟨⟩⟩ ⟨e1,e2⟩;subst e1 e2;refine af (λg=>aAl (kJ g)) λg=>⟨agC r (dN g),aw4 (x:=(S,T,f,h,i,j,k,m,e,o,M,())) (dN g)⟩
theorem Zj:OK D6.e:=by
 refine eP [nP.e,En.e] ⟨qp,agY,⟨⟩⟩ H0 (λ⟨x,n,u,d,_⟩ J=>⟨(((pX x n u d).1,(pX x n u d).2,()),()),rfl⟩) λS T f h i j k m e o M n u d=>show D6.goal (Zk S T f h i j k m e o M n u d) ((S,T,f,h,i,j,k,m,e,o,M,()),n,u,d,())fromλB J=>?_
 have r:fK e:=J.2.2.1.1;refine⟨r,?_⟩;rintro⟨⟨y,ok,⟨⟩⟩,⟨⟩⟩ ⟨e1,e2⟩;subst e1 e2;refine af (λg=>aAl (kJ g)) λg=>⟨agC r (dN g),aw4 (x:=(S,T,f,h,i,j,k,m,e,o,M,())) (dN g)⟩
theorem alT:OK IK.e:=by
 refine eP [uX.e,gI.e] ⟨O1,gW,⟨⟩⟩ H0 (λ⟨x,i,_⟩ _=>⟨(((yN x i).1,(yN x i).2,()),()),⟨rfl,rfl⟩⟩) λS T e f j k m o r d M i=>show IK.goal (alU S T e f j k m o r d M i) ((S,T,e,f,j,k,m,o,r,d,M,()),i,())fromλB J=>?_
 dsimp only[IK]at J ⊢;obtain⟨_,_,_,⟨t,s⟩,_⟩:Sp.anyS (S,T,e,f,j,k,m,o,r,d,M,()):=J;have t:d.length<=90:=t;refine⟨trivial,?_⟩;rw[eH _ fC];refine af (λh=>?_) λh=>?_
 .rw[aoS (x:=(S,T,e,f,j,k,m,o,r,d,M,())) (kJ h)];exact⟨rfl,rfl⟩
 .have h:=dN h;have g:=h;simp only[aQm,aQF]at g;refine⟨⟨fC,fC⟩,s _ (getD_mem (show i.toNat<d.length from fC)),?_⟩;rintro⟨⟨w,⟨⟩⟩,⟨⟩⟩ hr;subst hr;rw[aaS (x:=(S,T,e,f,j,k,m,o,r,d,M,())) h];exact⟨rfl,rfl⟩
theorem JD:OK qj.e:=by
 refine dW [uP.e,nP.e,sN.e,IK.e] ⟨Ai,qp,BG,alT,⟨⟩⟩ H0 λS T d e f g j k m o M i=>show qj.goal (Xg S T d e f g j k m o M i) ((S,T,d,e,f,g,j,k,m,o,M,()),i,())fromλB J=>?_
 dsimp only[qj]at J ⊢;refine⟨J,?_⟩;rintro⟨⟨w,ok,⟨⟩⟩,⟨⟩⟩ ⟨e1,e2⟩;subst e1 e2;refine af (λh=>⟨awY J i,⟨J.1.1.1,J.1.1.2.1⟩,trivial,?_⟩) λh=>?_
 .unfold AB;rw[show(yN (S,T,d,e,f,g,j,k,m,o,M,()) i).2=true from h];rfl
 grind [AB]
theorem U5:OK rZ.e:=by
 refine dW [qj.e] ⟨JD,⟨⟩⟩ Wp λS T g j k m o r s d M=>show rZ.goal (U6 S T g j k m o r s d M) ((S,T,g,j,k,m,o,r,s,d,M,()),())fromλB J=>?_
 dsimp only[rZ]at J ⊢;have t:d.length<=90:=J.2.2.2.1.1;refine iW d.length fC (λn=>∀i,i<n->Zc (S,T,g,()) j (d.getD i (0,[],[],[],()))=true) (λi D=>fC) (λI P n H E next=>?_) λI P E=>?_
 .dsimp only;have e:=awZ (x:=(S,T,g,j,k,m,o,r,s,d,M,())) H;refine dH fC ⟨J,?_⟩;rw[e];refine af (λh=>?_) λh=>⟨rfl,next (fH (f:=λi=>Zc (S,T,g,()) j (d.getD i (0,[],[],[],()))) E (dN h))⟩;have:Sp.streams (S,T,g,j,k,m,o,r,s,d,M,())=false:=aGd H (kJ h);rw[this]
 .dsimp only;refine gU fC ?_;have:Sp.streams (S,T,g,j,k,m,o,r,s,d,M,())=true:=aiY E;rw[this]
def wk(k:Nat)(w:iQ):Prop:=w.2.2.1.length<=12/\w.2.2.2.1.length<=k/\∀e∈w.2.2.2.1,e.2.1.length<=12/\e.2.2.1.length<=12
def qB(k:Nat)(x:fP):Prop:=lX x=true/\(dJ (jX x)/\dJ (jY x))/\∀w∈oM x,wk k w
structure Good(c:dF)(a b:Sp.Bytes)(n:Int)(vs:List gJ)(ws:List iQ)(q:List (Int×Unit)):Prop where
 cur:dn c=true
 lat:(Sp.latest a b).2.2.1=true
 num:(Sp.latest a b).1=n
 enc:kL (Sp.latest a b).2.1 (wQ c)=true
 afa:gQ vs=true
 some:vs≠[]
 few:ws.length<=4
 quo:pG q=true
 last:(dP vs (vs.length-1)).1=n
 aEi:kL (pJ (dP vs (vs.length-1))) (wQ c)=true
 fits:∀w∈ws,ug w<=n/\sO w=true/\Sp.listing w=dI (aQ c) (bF c) w.1 w.2.1
theorem Vb{n:Int}{I:List gJ}{d:List iQ}:lX (Sp.mkS c a b n I d q)=true↔Good c a b n I d q:=by
 rw[ak4];simp only[aQm,aQF,aQA,vH];exact⟨λh=>⟨h.1,h.2.1,h.2.2.1,h.2.2.2.1,h.2.2.2.2.1,h.2.2.2.2.2.1,h.2.2.2.2.2.2.1,h.2.2.2.2.2.2.2.1,h.2.2.2.2.2.2.2.2.1.1,h.2.2.2.2.2.2.2.2.1.2,h.2.2.2.2.2.2.2.2.2⟩,
  λh=>⟨h.1,h.2,h.3,h.4,h.5,h.6,h.7,h.8,⟨h.9,h.10⟩,h.11⟩⟩
theorem Ht(h:lX x=true):Good (jQ x) (jX x) (jY x) (rF x) (eu x) (oM x) (zk x):=Vb.1 h
theorem aAn(m:Nat):∀es:List jy,(∀e∈es,e.2.1.length<=m)->kP es<=es.length*m
 |[],_=>aQx _
 |e::l,h=>by
  have C:=aAn m l λx Z=>h x (aQo _ Z)
  grind [kP,Nat.succ_mul]
variable {k:Nat}
theorem ajh(h:wk k w)(j:k<=1000):jP w:=by obtain⟨C,O,K⟩:=h;have r:=aAn 12 w.2.2.2.1 λe g=>(K e g).1;exact⟨by grind [RJ],fC,λe g=>⟨aQn (K e g).1 jI,aQn (K e g).2 jI⟩⟩
theorem adk{m:Nat}(h:wk k w)(d:k<=m):wk m w:=⟨h.1,aQn h.2.1 d,h.2.2⟩
theorem Q5{m:Nat}(h:qB k x)(d:k<=m):qB m x:=⟨h.1,h.2.1,λw o=>adk (h.2.2 w o) d⟩
theorem aGr(h:pG q=true):q.length=3:=by
 grind [pG]
theorem aKu(h:dn c=true):kC c:=avm h (afb (U4 h)).2
theorem aw8(h:qB k x)(j:k<=1000):Sp.anyS x:=by obtain⟨C,O,K⟩:=h;have g:=Ht C;have R:=BH.1 g.afa;have X:=g.few;refine⟨aKu g.cur,O,⟨⟨fC,λv d=>afb (R.2.1 v d).2.2.1⟩,fC⟩,⟨fC,λw o=>ajh (K w o) j⟩,?_⟩;rw[aGr g.quo];decide
theorem aM1(a b:List (Int×Unit)):(Sp.without a b).length<=a.length:=aQ2 _ _
theorem avn{n:Int}(h:wk k w)(W:l.length<=12)(d:(Sp.listing w).length<=12):wk (k+1) (Sp.told w n l):=by
 by_cases N:0<(Sp.without l (Sp.listing w)).length+(Sp.without (Sp.listing w) l).length
 .rw[MF N];refine⟨h.1,?_,λe g=>?_⟩
  .rw[aQu];exact Nat.succ_le_succ h.2.1
  .rcases aQM.1 g with g|g
   .exact h.2.2 e g
   grind [aM1]
 grind [Yr,adk]
theorem aIj(w:iQ)(n:Int)(l:List (Int×Unit)):(Sp.told w n l).1=w.1/\(Sp.told w n l).2.1=w.2.1:=by
 grind [MF,Yr]
theorem aw9{s f:bT}{d e:List aH}{m n:Int}(h:ug w<=m/\sO w=true/\Sp.listing w=dI s d w.1 w.2.1)(g:m<n):
 ug (Sp.told w n (dI f e w.1 w.2.1))<=n/\sO (Sp.told w n (dI f e w.1 w.2.1))=true/\Sp.listing (Sp.told w n (dI f e w.1 w.2.1))=dI f e (Sp.told w n (dI f e w.1 w.2.1)).1 (Sp.told w n (dI f e w.1 w.2.1)).2.1:=by
 grind [aIj,aKv,BO]
theorem ao5(v:List gJ)(x:gJ):dP (v++[x]) ((v++[x]).length-1)=x:=by
 grind [dP]
theorem afc(a:dw):kL a a=true:=aQT rfl
theorem aB1{n:Int}(h:(jq v n y).2=true):gQ (v++[F9 n y])=true:=by
 unfold jq at h;cases N:gQ v&&gQ (v++[(n,y.1,y.2.1,y.2.2.1,y.2.2.2.1,0,())])with
 |true=>rw[aQm]at N;exact N.2
 |false=>grind
theorem anl(F:eU y=true)(C:(Sp.latest a b).1<1000000000):
 (Sp.latest (oN a b y).1 (oN a b y).2.1).1=(Sp.latest a b).1+1/\(Sp.latest (oN a b y).1 (oN a b y).2.1).2.1=Sp.norm y/\(Sp.latest (oN a b y).1 (oN a b y).2.1).2.2.1=true:=by
 have H:=Tj a b;have o:=aB2 (a:=a) (b:=b) (x:=y) (k:=1000000) (Sp.slot_ne F fC fC) jI
 grind [ajl,oN]
theorem aAo(F:eU y=true):kL (Sp.norm y) y=true:=aQT (aIk F)
theorem aAp(r:dJ a)(U:dJ b):dJ (oN a b y).1/\dJ (oN a b y).2.1:=aaU r U
theorem anm(h:qB k x):qB (k+1) (Sp.commit x c).1:=by
 obtain⟨C,O,K⟩:=h;have d:qB (k+1) x:=Q5 ⟨C,O,K⟩ (aRW _);have g:=Ht C;unfold Sp.commit;rw[C,aRz];cases N:dn c with
 |false=>exact d
 |true=>
  cases Y:kL (wQ c) (rX x)with
  |true=>exact d
  |false=>
   cases H:decide (1000000000<=rF x)||decide (6<=(Gf (eu x)).length)with
   |true=>exact d
   |false=>
    rw[aRw,aQP,aQP]at H;have F:=U4 N;have e:=g.num;have hr:=Tj (jX x) (jY x);obtain⟨f,j,i⟩:=anl (a:=jX x) (b:=jY x) F fC;have R:=aB1 (congrArg Prod.snd (anj g.afa g.last fC fC fC F));refine⟨Vb.2 ⟨N,i,by rw[f,e],by grind [aAo],R,ni,?_,g.quo,by rw[ao5];rfl,by rw[ao5];exact afc _,?_⟩,aAp O.1 O.2,?_⟩
    .show((oM x).map _).length<=4;rw[aQG];exact g.few
    .intro w hw;obtain⟨v,R,rfl⟩:=aQW.1 hw;exact aw9 (g.fits v R) fC
    .intro w hw;obtain⟨v,R,rfl⟩:=aQW.1 hw;exact avn (K v R) (BO _ _ _ _).2 (by rw[(g.fits v R).2.2];grind [BO])
theorem abN(h:qB k x)(r:dJ a)(U:dJ b)(W:(Sp.latest a b).2.2.1=true)(H:rF x<(Sp.latest a b).1\/((Sp.latest a b).1=rF x/\kL (Sp.latest a b).2.1 (rX x)=true)):
 qB (k+1) (Sp.recover (Ze x (a,b,()))).1:=by
 obtain⟨C,O,K⟩:=h;have g:=Ht C;have Y:=anh W;obtain⟨j,m⟩:=Zd W;have d:=afd Y;have f:dn (arI (Sp.latest a b).2.1)=true:=by unfold dn;simp only[aQm,aQF];exact⟨⟨d.2,d.1⟩,Ws d.1 d.2⟩
 have e:(Sp.recover (Ze x (a,b,()))).1=Sp.mkS (arI (Sp.latest a b).2.1) a b (Sp.latest a b).1 [F9 (Sp.latest a b).1 (Sp.latest a b).2.1] ((oM x).map (Dl (kG (Sp.latest a b).2.1) (Sp.latest a b).2.1.2.2.2.1 (Sp.latest a b).1)) (zk x):=by show(bif (Sp.latest a b).2.2.1 then _ else _:fP×Bool).1=_;rw[W];rfl
 have one:∀w∈oM x,((ug (Dl (kG (Sp.latest a b).2.1) (Sp.latest a b).2.1.2.2.2.1 (Sp.latest a b).1 w)<=(Sp.latest a b).1/\sO (Dl (kG (Sp.latest a b).2.1) (Sp.latest a b).2.1.2.2.2.1 (Sp.latest a b).1 w)=true/\
  Sp.listing (Dl (kG (Sp.latest a b).2.1) (Sp.latest a b).2.1.2.2.2.1 (Sp.latest a b).1 w)=dI (kG (Sp.latest a b).2.1) (Sp.latest a b).2.1.2.2.2.1 (Dl (kG (Sp.latest a b).2.1) (Sp.latest a b).2.1.2.2.2.1 (Sp.latest a b).1 w).1 (Dl (kG (Sp.latest a b).2.1) (Sp.latest a b).2.1.2.2.2.1 (Sp.latest a b).1 w).2.1)/\
  wk (k+1) (Dl (kG (Sp.latest a b).2.1) (Sp.latest a b).2.1.2.2.2.1 (Sp.latest a b).1 w)):=λw o=>by
  have X:=g.fits w o;unfold Dl;cases N:decide (ug w<(Sp.latest a b).1)with
  |true=>
   have N:=aQ6 N;exact⟨aw9 ⟨aQN _,X.2⟩ N,avn (K w o) (BO _ _ _ _).2 (by grind [BO])⟩
  |false=>
   have N:=aSm N;rcases H with H|⟨H,i⟩
   .omega
   .refine⟨⟨jv,X.2.1,?_⟩,adk (K w o) (aRW _)⟩;show Sp.listing w=dI _ _ w.1 w.2.1;rw[X.2.2];exact(ann Y (U4 g.cur) i w.1 w.2.1).symm
 rw[e];refine⟨Vb.2 ⟨f,W,rfl,afc _,?_,ni,?_,g.quo,rfl,afc _,λw o=>?_⟩,⟨r,U⟩,λw o=>?_⟩
 .rw[BH];refine⟨jv,λv R=>?_,aRg _ _⟩;rw[aQR]at R;subst R;exact⟨j,m,Y,by show(0:Int)<=0;decide,by show(0:Int)<=99;decide⟩
 .rw[aQG];exact g.few
 .obtain⟨v,R,rfl⟩:=aQW.1 o;exact(one v R).1
 .obtain⟨v,R,rfl⟩:=aQW.1 o
  grind
theorem aEj(h:qB k x)(c:dF)(d:Int)(b:Bool):qB (k+1) (Sp.recover (bif b then Ze x (gq (jX x) (jY x) (wQ c) d).1 else x)).1:=by
 have g:=Ht h.1;cases b with
 |false=>exact abN (a:=jX x) (b:=jY x) h h.2.1.1 h.2.1.2 g.lat (.inr ⟨g.num,g.enc⟩)
 |true=>
  have X:=aaU (x:=wQ c) (k:=d) h.2.1.1 h.2.1.2;cases o:(gq (jX x) (jY x) (wQ c) d).2.1 with
  |true=>
   have W:=(ajl o).2;refine abN (a:=(gq (jX x) (jY x) (wQ c) d).1.1) (b:=(gq (jX x) (jY x) (wQ c) d).1.2.1) h X.1 X.2 (by rw[W]) (.inl ?_);rw[W,g.num];omega
  |false=>obtain⟨e,f,i⟩:=aEk o;exact abN (a:=(gq (jX x) (jY x) (wQ c) d).1.1) (b:=(gq (jX x) (jY x) (wQ c) d).1.2.1) h X.1 X.2 (by rw[i];exact g.lat) (.inr ⟨by rw[e];exact g.num,by rw[f];exact g.enc⟩)
theorem axa(h:qB k x)(R:gQ v=true)(d:v≠[])(W:(dP v (v.length-1)).1=(dP (eu x) ((eu x).length-1)).1/\pJ (dP v (v.length-1))=pJ (dP (eu x) ((eu x).length-1))):qB (k+1) (FH x v):=by have g:=Ht h.1;exact Q5 ⟨Vb.2 ⟨g.cur,g.lat,g.num,g.enc,R,d,g.few,g.quo,by rw[W.1];exact g.last,by rw[W.2];exact g.aEi,g.fits⟩,h.2⟩ (aRW _)
theorem aIl(h:qB k x)(n m:Int):qB (k+1) (FH x (kZ (eu x) n m).1):=by
 have g:=Ht h.1;unfold kZ;rw[g.afa,aRz];cases d:Di (eu x) n m with
 |false=>exact Q5 h (aRW _)
 |true=>
  unfold Di at d;simp only[aQm,aQF]at d;generalize (bM (eu x) n).toNat=i at d;show qB (k+1) (FH x ((eu x).set i (UZ (dP (eu x) i) (qo (dP (eu x) i)+m))));rcases aQE i (eu x).length with D|D
  .have hg:=BH.1 g.afa;have z:=hg.2.1 _ (aRM D);have f:∀j,j<(eu x).length->dP ((eu x).set i (UZ (dP (eu x) i) (qo (dP (eu x) i)+m))) j=if i=j then UZ (dP (eu x) i) (qo (dP (eu x) i)+m)else dP (eu x) j:=λj s=>by
    grind [zy]
   refine axa h (BH.2 ⟨jv,λv R=>?_,?_⟩) (λe=>g.some ((List.set_eq_nil_iff _ _).1 e)) ?_
   .rcases aRD R with R|rfl
    · grind
    .rw[zy D]at d ⊢;exact⟨z.1,z.2.1,z.2.2.1,d.2.1,d.2.2⟩
   .rw[aRb];intro p q J r o;rw[aRp]at J r;have:=aRb.1 hg.2.2 p q J r o
    grind [UZ,zy]
   .rw[aRp,f _ fC];split
    · rename_i e;rw[e];exact⟨rfl,rfl⟩
    grind
  .rw[List.set_eq_of_length_le D];exact Q5 h (aRW _)
theorem aAq(h:qB k x):qB (k+1) (FH x (Sp.collect (eu x))):=by
 have g:=Ht h.1;have L:0<(eu x).length:=aRL.2 g.some;have e:∃p,Sp.collect (eu x)=p++[dP (eu x) ((eu x).length-1)]:=by refine⟨wR (eu x) ((eu x).length-1),?_⟩;rw[ae7 g.afa,zy (by omega:(eu x).length-1<(eu x).length),aSj (by omega:(eu x).length-1<(eu x).length),List.drop_eq_nil_of_le fC]
 obtain⟨p,e⟩:=e;refine axa h (arJ g.afa (ani _)) (by rw[e];simp) ?_
 grind [ao5]
theorem aEl(h:qB k x)(u:Int)(name:Sp.Bytes):qB (k+1) (Sp.watched x u name).1:=by
 have g:=Ht h.1;have i:qB (k+1) x:=Q5 h (aRW _);by_cases j:4<=(oM x).length
 · grind [aAi]
 .cases hu:qw u with
  |false=>grind [aAj]
  |true=>
   rw[aw2 j hu];have hr:=Zd g.lat;have f:=g.num;have d:∀w∈oM x++[(u,name,dI (aQ (jQ x)) (bF (jQ x)) u name,[],())],w∈oM x\/w=(u,name,dI (aQ (jQ x)) (bF (jQ x)) u name,[],()):=λw o=>by
    grind
   obtain⟨s,r⟩:=BO (aQ (jQ x)) (bF (jQ x)) u name;refine⟨Vb.2 ⟨g.cur,g.lat,g.num,g.enc,g.afa,g.some,?_,g.quo,g.last,g.aEi,λw o=>?_⟩,h.2.1,λw o=>?_⟩
   · grind
   .rcases d w o with o|rfl
    .exact g.fits w o
    .refine⟨by show(0:Int)<=_;omega,?_,rfl⟩;show((qw u&&Sp.rise (dI _ _ u name))&&true)=true
     grind [ao6]
   .rcases d w o with o|rfl
    .exact adk (h.2.2 w o) (aRW _)
    .exact⟨r,aQx _,λe m=>by cases m⟩
theorem aAr{y:fP}{a:Oq}(h:qB k x)(r:IJ x a y ok):qB (k+1) y:=by
 have d:qB (k+1) x:=Q5 h (aRW _);unfold IJ at r;rw[h.1,Bool.and_true]at r;cases e:Vz a with
 |false=>grind
 |true=>
  rw[e]at r;cases C:a.1==1 with
  |true=>
   grind [akI,anm]
  |false=>
   rw[C]at r;cases O:a.1==2 with
   |true=>
    rw[O]at r;unfold Sp.crashed at r;rw[h.1]at r;obtain⟨c,f,o,_,g⟩:=r;rw[show y=_ from congrArg Prod.fst g];exact aEj h c _ _
   |false=>
    grind [aEl,aIl,aAq,aoW,anm]
theorem O5:dJ []:=by
 have h:Sp.pieces 10 []=[([],())]:=by first|rfl|decide|simp[Sp.pieces]
 grind [dJ]
theorem ajc:aA []=true:=by rw[jH];refine⟨rfl,?_⟩;exact⟨λ_=>0,λe g=>by cases g⟩
theorem aw5{fs:List aG}{r:List fA}(h:gX fs [] [] (λ_=>true) r):r=[]:=by
 have:=h.1.1
 grind
theorem aKw:lX Sp.zeroS=false:=by
 grind [ak4,eu,Sp.zeroS]
theorem Zm:Sp.anyS Sp.zeroS:=by have H:dJ []:=O5;have d:∀{α:Type}{p:α->Prop},∀x∈([]:List α),p x:=λx Z=>vk;exact⟨⟨⟨⟨jI,jI,d⟩,⟨jI,d⟩,⟨jI,d⟩⟩,d,jI⟩,⟨H,H⟩,⟨⟨jI,d⟩,jI⟩,⟨jI,d⟩,jI⟩
def going(k:Nat)(x:fP):Prop:=qB k x\/x=Sp.zeroS
theorem aGk(h:going k x)(j:k<=1000):Sp.anyS x:=by
 rcases h with h|rfl
 .exact aw8 h j
 .exact Zm
theorem aGl{y:fP}{a:Oq}(h:going k x)(r:IJ x a y ok):going (k+1) y:=by
 rcases h with h|rfl
 .exact .inl (aAr h r)
 .unfold IJ at r;rw[aKw,aR8]at r;exact .inr r.1
theorem aGs{s:List dm}(h:aJ (s,[],1,())=true):dn (s,[],1,[],[],())=true:=by have g:=Ws h ajc;rw[aw5 g]at g;unfold dn;simp only[aQm,aQF];exact⟨⟨ajc,h⟩,g⟩
theorem ao7{s:List dm}(h:(aJ (s,[],1,())&&pG q)=true):qB 0 (xU s q).1:=by
 have e:(xU s q).1=Sp.mkS (s,[],1,[],[],()) (oN [] [] (s,[],1,[],())).1 (oN [] [] (s,[],1,[],())).2.1 1 [F9 1 (s,[],1,[],())] [] q:=by
  grind [xU]
 rw[aQm]at h;have N:=aGs h.1;have F:eU (s,[],1,[],())=true:=U4 N;have g:(Sp.latest [] []).1=0:=by rw[aEm]
 obtain⟨i,d,f⟩:=anl (a:=[]) (b:=[]) F jI;rw[e];refine⟨Vb.2 ⟨N,f,fC,by rw[d];exact aAo F,?_,ni,jI,h.2,rfl,afc _,λw o=>by cases o⟩,aAp O5 O5,λw o=>by cases o⟩;rw[BH];refine⟨jv,λv R=>?_,aRg _ _⟩;rw[aQR]at R;subst R;exact⟨by show(1:Int)<=1;decide,by show(1:Int)<=1000000000;decide,F,by show(0:Int)<=0;decide,by show(0:Int)<=99;decide⟩
theorem aGj(s:List dm)(q:List (Int×Unit)):going 0 (xU s q).1:=by
 cases h:aJ (s,[],1,())&&pG q with
 |true=>exact .inl (ao7 h)
 |false=>exact .inr (by grind [xU])
theorem axb:∀{d:List Oq}{k:Nat}{x y:fP}{t:List (Bool×Unit)}{l:List (Int×Unit)},qB k x->Sp.runs x d y t l->qB (k+d.length) y
 |[],_,_,_,_,_,h,⟨e,_⟩=>by rw[e];exact h
 |a::r,k,x,y,t,l,h,⟨x1,ok,t',l',h1,h2,_⟩=>by
  have:=axb (aAr h h1) h2
  grind
theorem aw6:∀{d:List Oq}{x y z:fP}{t:List (Bool×Unit)}{l:List (Int×Unit)}{a:Oq}{ok:Bool},Sp.runs x d y t l->IJ y a z ok->Sp.runs x (d++[a]) z (t++[(ok,())]) (l++[(rF z,())])
 |[],x,y,z,t,l,a,ok,⟨e1,e2,e3⟩,h=>by
  subst e1 e2 e3;exact⟨z,ok,[],[],h,⟨rfl,rfl,rfl⟩,rfl,rfl⟩
 |b::r,x,y,z,t,l,a,ok,⟨x1,o,t',l',h1,h2,e1,e2⟩,h=>by subst e1 e2;exact⟨x1,o,t'++[(ok,())],l'++[(rF z,())],h1,aw6 h2 h,rfl,rfl⟩
theorem aAm:∀{d:List Oq}{x y:fP}{t:List (Bool×Unit)}{l:List (Int×Unit)},Sp.runs x d y t l->t.length=d.length/\l.length=d.length
 |[],_,_,_,_,⟨_,e2,e3⟩=>jv
 |_::_,_,_,_,_,⟨_,_,_,_,_,h2,e1,e2⟩=>by subst e1 e2;have:=aAm h2;simp only[aQz];omega
theorem aGt(h:qB k x)(j:k<=1000):Vp x:=⟨aw8 h j,h.1⟩
theorem axc:(aJ (Sp.usual,[],1,())&&pG [(60,()),(60,()),(60,())])=true:=jI
theorem aIh{d:List Oq}{y:fP}{t:List (Bool×Unit)}(h:Sp.ran [(60,()),(60,()),(60,())] d y t l):Vp y:=by
 have C:=axb (ao7 axc) h
 grind [aGt]
theorem aji:∃x,Vp x:=⟨_,aGt (ao7 axc) jI⟩
theorem aEn(h:gQ v=true)(d:v≠[]):jB v (dP v (v.length-1)).1=(pJ (dP v (v.length-1)),true):=by
 have J:=(BH.1 h).2.2;have W:=aRL.2 d;have e:∀(w:List gJ)(k:Int)(i:Nat)(D:i<w.length),(∀j(f:j<i),(w[j]' fC).1≠(w[i]).1)->Ec k w (w[i]).1=k+i:=by
  intro w
  induction w with
  |nil=>grind
  |cons x r ih=>
   intro k i D H;cases i with
   |zero=>rw[Ec];simp
   |succ i=>
    have Z:x.1≠((x::r)[i+1]).1:=H 0 fC
    grind [Ec]
 grind [bM,zy,List.pairwise_iff_getElem,jB]
theorem aKt(h:lX x=true)(u:Int)(name:Sp.Bytes):pX x (rF x) u name=(dI (aQ (jQ x)) (bF (jQ x)) u name,true):=by have g:=Ht h;have X:=aEn g.afa g.some;rw[g.last]at X;have z:=((BH.1 g.afa).2.1 _ (aRM (by have:=aRL.2 g.some;omega:(eu x).length-1<(eu x).length))).2.2.1;rw[← zy]at z;unfold pX;rw[X];have:=ann z (U4 g.cur) g.aEi u name;rw[this];rfl
theorem aB0(h:lX x=true):Sp.streams x=true:=by unfold Sp.streams;rw[aQA];intro w o;exact aQT ((Ht h).fits w o).2.2
theorem aEh(h:GN w):Sp.missed w 1000000=0:=by
 have:Sp.since w 1000000=[]:=by unfold Sp.since;rw[List.filter_eq_nil_iff];intro e g;have:=h.2 e g;simp;omega
 grind [Sp.missed]
theorem aAs{n:Int}(d:zu (Sp.listing w))(W:zu l):Sp.listing (Sp.told w n l)=l:=by
 by_cases N:0<(Sp.without l (Sp.listing w)).length+(Sp.without (Sp.listing w) l).length
 .rw[MF N];show(w.2.2.2.1++[_]).foldl arC w.2.2.1=l;rw[List.foldl_append];exact agD W
 grind [Yr,aCX]
def VB(k:Nat)(w:iQ):Prop:=wk k w/\(∀e∈w.2.2.2.1,e.1<=1000000)/\zu (Sp.listing w)/\(Sp.listing w).length<=12
theorem aIi(s:bT)(d:List aH)(u:Int)(name:Sp.Bytes):VB 0 (u,name,dI s d u name,[],()):=by obtain⟨h,f⟩:=BO s d u name;exact⟨⟨f,aQp _,λe g=>by cases g⟩,λe g=>(by cases g),h,f⟩
theorem aGp{n:Int}(h:VB k w)(s:bT)(d:List aH)(H:n<=1000000):VB (k+1) (Sp.told w n (dI s d w.1 w.2.1)):=by
 obtain⟨i,j⟩:=BO s d w.1 w.2.1;obtain⟨C,O,K,f⟩:=h;have e:=aAs (n:=n) K i;refine⟨avn C j f,λe g=>?_,jv,jv⟩
 grind [MF,Yr]
theorem aEg(h:VB k w)(j:k<=1000):GN w:=⟨ajh h.1 j,h.2.1⟩
theorem aoZ:∀(d:List Oq)(x:fP),∃y t l,Sp.runs x d y t l
 |[],x=>⟨x,[],[],rfl,rfl,rfl⟩
 |a::r,x=>by obtain⟨T,ok,h⟩:=aCW x a;obtain⟨y,t,l,O⟩:=aoZ r T;exact⟨y,_,_,T,ok,t,l,h,O,rfl,rfl⟩
theorem alV:OK IL.e:=by
 refine eP [oD.e,uF.e,xR.e,wU.e,zH.e] ⟨Ak,F8,TB,MH,Qk,⟨⟩⟩ ao0 (λ⟨s,q,_⟩ J=>⟨(((xU s q).1,(xU s q).2,()),()),rfl⟩) λs q=>show IL.goal (alW s q) (s,q,())fromλB J=>?_
 dsimp only[IL]at J ⊢;have J:s.length<=1000/\q.length<=1000:=J;have H:xU s q=bif aJ (s,[],1,())&&pG q then((s,[],1,[],[],(oN [] [] (s,[],1,[],())).1,(oN [] [] (s,[],1,[],())).2.1,1,[F9 1 (s,[],1,[],())],[],q,()),true)else(([],[],0,[],[],[],[],0,[],[],[],()),false):=rfl
 rw[H];have Y:aV (s,[],1,()):=⟨J.1,jv,λx Z=>vk⟩;have e:aK []:=⟨jI,λx Z=>vk⟩;have f:aA []=true:=ajc;refine⟨J.1,?_⟩;rintro⟨⟨⟨a,l,n,⟨⟩⟩,⟨⟩⟩,⟨⟩⟩ ⟨h,d,i⟩;have h:a=s:=h;have d:l=[]:=d;have i:n=1:=i;subst h d i;refine⟨⟨Y,e⟩,?_⟩;rintro⟨⟨⟨ca,cl,cn,cd,cr,⟨⟩⟩,co,⟨⟩⟩,⟨⟩⟩ ⟨r,c2,-⟩;have r:co=(aA []&&aJ (a,[],1,())):=r;rw[f,aRz]at r;refine af (λg=>?_) λg=>⟨trivial,af (λt=>?_) λt=>⟨J.1,?_⟩⟩
 · grind
 · grind
 have z:co=true:=dN g;have t:pG q=true:=dN t;rw[← r,z,t];obtain⟨D,E,I⟩:=c2 z;have D:(ca,cl,cn,())=(a,[],1,()):=D;have E:cd=[]:=E;obtain⟨rfl,rfl,rfl⟩:ca=a/\cl=[]/\cn=1:=ZQ;subst E;have A:cr=[]:=aw5 I;subst A;rintro⟨⟨⟨b,m,j,⟨⟩⟩,⟨⟩⟩,⟨⟩⟩ ⟨h,d,i⟩;obtain⟨K,L,M⟩:b=ca/\m=[]/\j=1:=⟨h,d,i⟩;clear h d i;subst K L M;have C:eU (b,[],1,[],())=true:=by unfold eU;rw[aQm];have F:(aA []&&aJ (b,[],1,()))=true:=r.symm.trans z;rw[f,aRz]at F;exact⟨F,f⟩
 refine⟨⟨O5,O5,Y,e⟩,⟨X3,jI,Y,e⟩,?_⟩;rintro⟨⟨v,vo,⟨⟩⟩,⟨⟩⟩ ⟨o,-⟩;have o:v=(jq [] 1 (b,[],1,[],())).1:=o;rw[ai0 C jI jI]at o;have o:v=[F9 1 (b,[],1,[],())]:=o;subst o;exact⟨o6,rfl⟩
theorem ave:OK PI.e:=by
 refine eP [II.e,IL.e,Iz.e] ⟨alR,alV,ade,⟨⟩⟩ ax5 (λ⟨q,d,_⟩ J=>by obtain⟨y,t,l,h⟩:=aoZ (d.take 40) (xU Sp.usual q).1;exact⟨((y,t,l,()),()),h⟩) λq d=>show PI.goal (avf q d) (q,d,())fromλB J=>?_
 dsimp only[PI]at J ⊢;have J:q.length<=1000/\∀a∈d,zZ a:=J;refine⟨trivial,?_⟩;rintro⟨⟨s,⟨⟩⟩,⟨⟩⟩ hs;obtain rfl:s=Sp.usual:=hs;refine⟨⟨(show Sp.usual.length<=1000 from jI),J.1⟩,?_⟩;rintro⟨⟨x0,ok,⟨⟩⟩,⟨⟩⟩ Z;have Z:(x0,ok)=xU Sp.usual q:=Z;obtain rfl:x0=(xU Sp.usual q).1:=congrArg Prod.fst Z;clear Z;refine bQ (S:=fP×List (Bool×Unit)×List (Int×Unit)) (λi s=>(((),(),i,()),(s.1.1,s.1.2.1,s.1.2.2.1,s.1.2.2.2.1,s.1.2.2.2.2.1,s.1.2.2.2.2.2.1,s.1.2.2.2.2.2.2.1,s.1.2.2.2.2.2.2.2.1,s.1.2.2.2.2.2.2.2.2.1,(),s.1.2.2.2.2.2.2.2.2.2.2.1,()),s.2.1,s.2.2,s.1.2.2.2.2.2.2.2.2.2.1,())) (λy=>y.1.2.2.1) (λ_ _=>rfl) (min d.length 40) fC
  (λn s=>going n s.1/\Sp.runs (xU Sp.usual q).1 (d.take n) s.1 s.2.1 s.2.2) (s0:=((xU Sp.usual q).1,[],[])) ⟨aGj _ _,rfl,rfl,rfl⟩ (λI P n s H E next=>?_) λI P s E=>?_
 .obtain⟨x,t,l⟩:=s;obtain⟨f,hr⟩:going n x/\Sp.runs (xU Sp.usual q).1 (d.take n) x t l:=E;have e:n<d.length:=fC;have L:=aAm hr;rw[aRe]at L;dsimp only;rw[aQs];refine dH fC (dH fC ⟨⟨fC,fC⟩,⟨aGk f fC,J.2 _ (getD_mem e)⟩,?_⟩);rintro⟨⟨x1,ok,⟨⟩⟩,⟨⟩⟩ r;have r:IJ x (d.getD n (0,0,[],[],0,())) x1 ok:=r;refine⟨by rw[bV];simp only[aQz,aQZ];omega,by rw[bV];simp only[aQz,aQZ];omega,rfl,next (x1,t++[(ok,())],l++[(rF x1,())]) ⟨aGl f r,?_⟩⟩;rw[List.take_add_one,aQD e];rw[aQJ,aQD e]at r;exact aw6 hr r
 grind [Sp.ran]
theorem ajd:OK F5.e:=by
 refine eP [PI.e] ⟨ave,⟨⟩⟩ alX (λ⟨q,d,_⟩ J=>by obtain⟨y,t,l,h⟩:=aoZ (d.take 40) (xU Sp.usual q).1;exact⟨((y,t,()),()),l,h⟩) λq d=>show F5.goal (aje q d) (q,d,())fromλB J=>?_
 dsimp only[F5]at J ⊢;refine⟨J,?_⟩
 grind
end Go.Proofs.Tryz
