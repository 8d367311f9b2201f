import Derived.Test.YtpipombdnmdimaaGreatDoorV26
import Derived.Test.YtpipombdnmdimaaGreatDoorP104
import Derived.Test.YtpipombdnmdimaaGreatDoorSp
import Derived.Test.YtpipombdnmdimaaGreatDoorP152
import Derived.Test.YtpipombdnmdimaaGreatDoorV30
namespace Go.Proofs.Tryz
open Go Go.Fw Go.IntWalk Sp
variable {α:Type}
theorem avz(a:List (Int×Unit))(t:α)(Y:a.length<=maxLen){K:Bool×Unit->Prop}(d:K (Sp.rise a,())):
 LP (α:=(Int×Unit)×Unit) (((1:Int),()),()) λI P b=>
  bif decide (b.1.1<(↑a.length:Int))then
   ((0:Int)<=IntKind.i64.wrap (b.1.1-(1:Int))/\IntKind.i64.wrap (b.1.1-(1:Int))<(↑a.length:Int))/\
     ((0:Int)<=b.1.1/\b.1.1<(↑a.length:Int))/\
       bif decide ((a.getD (IntKind.i64.wrap (b.1.1-(1:Int))).toNat ((0:Int),())).1>=(a.getD (Int.toNat b.1.1) ((0:Int),())).1)then K (false,())
       else NX t I P ((IntKind.i64.wrap (b.1.1+(1:Int)),()),()) b
  else K (true,()):=by
 rw[maxLen_eq]at Y;refine⟨λy=>∃n:Nat,y.1.1=n+1/\n<=a.length-1/\∀i,i<n->decide ((a.getD i (0,())).1<(a.getD (i+1) (0,())).1)=true,λy=>((a.length:Int)-y.1.1).toNat,⟨0,rfl,aHV _,λi D=>lu⟩,?_⟩;rintro⟨⟨_,⟨⟩⟩,⟨⟩⟩ ⟨n,rfl,hn,hJ⟩;dsimp only;refine af (λh=>?_) λh=>?_
 .have h:=fG h;have e:IntKind.i64.wrap ((n:Int)+1-1)=n:=by rw[fU _ lu];omega
  have T:IntKind.i64.wrap ((n:Int)+1+1)=(n:Int)+1+1:=fU _ lu;rw[e,T,aHB,show((n:Int)+1).toNat=n+1 from lu];refine⟨⟨lu,lu⟩,⟨lu,lu⟩,af (λg=>?_) λg=>⟨rfl,⟨n+1,X3,lu,bV hJ (aHF (by have:=fK g;omega))⟩,by show((a.length:Int)-((n:Int)+1+1)).toNat<((a.length:Int)-((n:Int)+1)).toNat;omega⟩⟩;have:Sp.rise a=false:=sJ (n:=n) lu (aHD (by have:=fG g;omega));rw[← this];exact d
 .have h:=fK h;have:Sp.rise a=true:=kG λi D=>hJ i lu;rw[← this];exact d
theorem alg:OK I4.e:=by
 refine aO [] ⟨⟩ aon λa=>show I4.goal (alh a) (a,())fromλN C=>?_
 dsimp only[I4]at C ⊢;exact avz (K:=λr=>r=(Sp.rise a,())) a _ N.1.1 rfl
theorem ach:OK Ar.e:=by
 refine aO [] ⟨⟩ ad8 λa=>show Ar.goal (aci a) (a,())fromλN C=>?_
 dsimp only[Ar]at C ⊢;exact avz (K:=λr=>r=(Sp.rise a,())) a _ N.1.1 rfl
theorem acj:OK Au.e:=by
 refine aO [] ⟨⟩ H0 λb d e a=>show Au.goal (ack b d e a) ((b,d,e,a,()),())fromλN C=>?_
 dsimp only[Au]at C ⊢;have Q:a.length<=maxLen:=N.1.2.2.2.1.1;rw[maxLen_eq]at Q;refine af (λh=>?_) λh=>?_
 .have h:a.length=0:=y7;show(0,())=(qO (b,d,e,a,()),());unfold qO;rw[aHF (by exact h)];rfl
 .have h:¬a.length=0:=y7;rw[nH lu lu];refine⟨⟨lu,lu⟩,?_⟩;rw[aHB];unfold qO;rw[aHD (by exact h)];rfl
theorem aw3(l:List (Int×Unit))(a:List oM)(e:oM):Sp.replay l (a++[e])=ali (Sp.replay l a) e:=by unfold Sp.replay;rw[aJ1];rfl
variable {n:Nat}
theorem atg{a:List oM}(h:n<a.length):jG (a.take (n+1))=jG (a.take n)+(Iw a n).2.1.length:=by unfold jG;rw[Sp.take_succ' a n (0,[],[],()) h,aIk,aJx];simp[Iw]
theorem alj(es:List oM)(n:Nat):jG (es.take n)<=jG es:=by
 unfold jG
 conv=>rhs;rw[← aJo n es]
 rw[aIk,aJx];omega
theorem aw4(l:List (Int×Unit))(a:List oM):(Sp.replay l a).length<=l.length+jG a:=by
 induction a generalizing l with
 |nil=>exact aJt _ _
 |cons e r ih=>
  have E:=ih (ali l e);have O:=ath l e.2.1 e.2.2.1;have U:(ali l e).length<=l.length+e.2.1.length:=O;show(Sp.replay (ali l e) r).length<=l.length+jG (e::r);have j:jG (e::r)=e.2.1.length+jG r:=by unfold jG;simp
  omega
theorem ad9{l:List (Int×Unit)}{a:List oM}(q:Q8 l a)(H:n<a.length):
 (Sp.replay l (a.take n)).length+(Iw a n).2.1.length<=4000000/\Sp.replay l (a.take (n+1))=rC (Sp.replay l (a.take n)) (Iw a n).2.1 (Iw a n).2.2.1:=by
 have E:=aw4 l (a.take n);have O:=atg H;have U:=alj a (n+1);have j:l.length+jG a<=4000000:=q;exact⟨lu,by rw[Sp.take_succ' a n (0,[],[],()) H,aw3];rfl⟩
theorem Ot:OK tC.e:=by
 refine aO [(Og,.pure JV),nK.e] ⟨⟨aiQ,af4⟩,zh,⟨⟩⟩ acn λa b=>show tC.goal (aaj a b) (a,b,())fromλN C=>?_
 dsimp only[tC]at C ⊢;have Q:b.length<=maxLen:=N.2.1.1;rw[maxLen_eq]at Q;have C:Q8 a b:=C;have S:a.length+jG b<=4000000:=C;refine⟨lu,dI (λi(z:List (Int×Unit))=>((z,i,()),())) (λy=>y.1.2.1) (λ_ _=>rfl) b.length lu (λn z=>z=Sp.replay a (b.take n)) rfl (λI P n z H o next=>?_) λI P z o=>?_⟩
 .subst o;obtain⟨E,O⟩:=ad9 C H;dsimp only;exact bT lu ⟨⟨lu,lu⟩,aHw E lZ,rfl,next _ O.symm⟩
 .subst o;dsimp only;exact bP lu (by rw[aH4])
theorem Ou:OK tH.e:=by
 refine aO [vC.e] ⟨Xu,⟨⟩⟩ aco λa b=>show tH.goal (aak a b) (a,b,())fromλN C=>?_
 dsimp only[tH]at C ⊢;have Q:b.length<=maxLen:=N.2.1.1;rw[maxLen_eq]at Q;have C:Q8 a b:=C;have S:a.length+jG b<=4000000:=C;refine⟨FT,dI (λi(z:List (Int×Unit))=>((z,i,()),())) (λy=>y.1.2.1) (λ_ _=>rfl) b.length lu (λn z=>z=Sp.replay a (b.take n)) rfl (λI P n z H o next=>?_) λI P z o=>?_⟩
 .subst o;obtain⟨E,O⟩:=ad9 C H;dsimp only;exact bT lu ⟨⟨lu,lu⟩,⟨lu,lu⟩,aHw E lZ,rfl,next _ O.symm⟩
 .subst o;dsimp only;exact bP lu (by rw[aH4])
theorem aal:OK yQ.e:=by
 refine aO [tC.e] ⟨Ot,⟨⟩⟩ H0 λa b d e=>show yQ.goal (aam a b d e) ((a,b,d,e,()),())fromλN C=>?_
 dsimp only[yQ]at C ⊢;exact⟨C.1,rfl⟩
theorem aan:OK yR.e:=by
 refine aO [tH.e] ⟨Ou,⟨⟩⟩ H0 λa b d e=>show yR.goal (aao a b d e) ((a,b,d,e,()),())fromλN C=>?_
 dsimp only[yR]at C ⊢;exact⟨C.1,rfl⟩
theorem agb:OK Ew.e:=by
 refine zn [nK.e] ⟨zh,⟨⟩⟩ H0 (λ⟨e,_⟩ _=>⟨((e,()),()),rfl⟩) λa h T=>show Ew.goal (agc a h T) ((a,h,T,()),())fromλN C=>?_
 dsimp only[Ew]at C ⊢;exact⟨aHw C.1 lZ,aHw C.2 lZ,rfl⟩
theorem agd:OK Ey.e:=by
 refine zn [nK.e,Ew.e] ⟨zh,agb,⟨⟩⟩ aiR (λ⟨w,_⟩ _=>⟨((w,()),()),rfl⟩) λd e b a=>show Ey.goal (agf d e b a) ((d,e,b,a,()),())fromλN C=>?_
 dsimp only[Ey]at C ⊢;obtain⟨E,O,U⟩:zC (d,e,b,a,()):=C;have E:b.length+jG a<=4000000:=E;have O:a.length<=4000000:=O;refine dI (λi(z:List oM)=>(((),i,()),z,())) (λy=>y.1.2.1) (λ_ _=>rfl) a.length lu (λn z=>z=a.take n) rfl (λI P n z H o next=>?_) λI P z o=>?_
 .subst o;dsimp only;refine bT lu ⟨⟨lu,lu⟩,U _ (getD_mem H),λr W=>?_⟩;have W:r.1.1=a.getD n (0,[],[],()):=W;rw[W];exact⟨by rw[dJ,aHP,aHx,aHG];omega,rfl,next _ (Sp.take_succ' a n (0,[],[],()) H).symm⟩
 .subst o;dsimp only;exact bP lu ⟨lu,by rw[aH4]⟩
theorem aea{f:α->Bool}{d:α}{a:List α}(h:∀i,i<a.length->f (a.getD i d)=true):a.all f=true:=by
 rw[aHS];intro x Z;obtain⟨i,D,rfl⟩:=aIf Z;have:=h i D
 rwa [aHI,aHK D]at this
theorem aeb{f:α->Bool}{d:α}{a:List α}{i:Nat}(D:i<a.length)(h:f (a.getD i d)=false):a.all f=false:=by rw[List.all_eq_false];exact⟨_,getD_mem D,by rw[h];decide⟩
theorem ayr(a b:List (Int×Unit)):(((Sp.without a b).length:Int) !=(a.length:Int))=!(a.all λx=>!bQ b x.1):=by
 unfold Sp.without;have:=aIq (λx=>!bQ b x.1) a;have O:(a.filter λx=>!bQ b x.1).length=a.length↔(a.all λx=>!bQ b x.1)=true:=by rw[List.length_filter_eq_length_iff,aHS]
 cases h:(a.all λx=>!bQ b x.1)with
 |true=>rw[O.2 h];simp
 |false=>
  have:¬(a.filter λx=>!bQ b x.1).length=a.length:=λe=>by rw[O.1 e]at h;cases h
  simp;omega
theorem avA(a b:List (Int×Unit)):(((Sp.without a b).length:Int) !=0)=!(a.all λx=>bQ b x.1):=by
 unfold Sp.without;have O:(a.filter λx=>!bQ b x.1).length=0↔(a.all λx=>bQ b x.1)=true:=by rw[aH0,List.filter_eq_nil_iff,aHS];simp
 cases h:(a.all λx=>bQ b x.1)with
 |true=>rw[O.2 h];rfl
 |false=>
  have:¬(a.filter λx=>!bQ b x.1).length=0:=λe=>by rw[O.1 e]at h;cases h
  simp only[Bool.not_false,aI0,ne_eq];omega
theorem AY{w0:Int}{d:Sp.Bytes}{b:List (Int×Unit)}{a:List oM}(H:n<a.length)(h:FM b a n=false):(false,())=(kX (w0,d,b,a,()),()):=by have:kX (w0,d,b,a,())=((rX w0&&Sp.rise b)&&iF a.length (FM b a)):=rfl;rw[this,sJ H h,aH8]
theorem aoo{w0:Int}{d:Sp.Bytes}{a:List (Int×Unit)}{b:List oM}(h:∀i,i<b.length->FM a b i=true):kX (w0,d,a,b,())=(rX w0&&Sp.rise a):=by have:kX (w0,d,a,b,())=((rX w0&&Sp.rise a)&&iF b.length (FM a b)):=rfl;rw[this,kG h,aIV]
theorem avC(l:List (Int×Unit))(a:List oM)(i:Nat):FM l a i=(!decide ((a.getD i (0,[],[],())).2.1.length+(a.getD i (0,[],[],())).2.2.1.length=0)&&(Sp.rise (a.getD i (0,[],[],())).2.1&&(Sp.rise (a.getD i (0,[],[],())).2.2.1&&(!(decide (0<i)&&decide ((a.getD (i-1) (0,[],[],())).1>=(a.getD i (0,[],[],())).1))&&
 (((a.getD i (0,[],[],())).2.1.all λx=>!bQ (Sp.replay l (a.take i)) x.1)&&(a.getD i (0,[],[],())).2.2.1.all λx=>bQ (Sp.replay l (a.take i)) x.1))))):=rfl
theorem alk{a b:Int}(H:n<=9223372036854775807)(h:0<n->¬a>=b):(!(decide (0<n)&&decide (a>=b)))=true:=by
 cases S:decide (0<n)with
 |false=>rfl
 |true=>rw[aHD (h (fG S))];rfl
theorem aap:OK yS.e:=by
 refine aO [tZ.e,tC.e,Ar.e,vP.e] ⟨Wj,Ot,ach,Jv,⟨⟩⟩ acp λm u b a=>show yS.goal (aaq m u b a) ((m,u,b,a,()),())fromλN C=>?_
 dsimp only[yS]at C ⊢;obtain⟨E,O,U⟩:zC (m,u,b,a,()):=C;have S:b.length+jG a<=4000000:=E;have O:a.length<=4000000:=O;have z:kX (m,u,b,a,())=((rX m&&Sp.rise b)&&iF a.length (FM b a)):=rfl;refine⟨λ_=>rX m=true/\Sp.rise b=true,⟨trivial,af (λh=>?_) λh=>⟨trivial,af (λO=>?_) λO=>⟨rfl,bI h,bI O⟩⟩⟩,?_⟩
 .dsimp only;rw[z,show rX m=false from dD h];rfl
 .dsimp only;rw[z,dD O,aH8];rfl
 rintro y ⟨B,J⟩;refine dY a.length lu (λn=>∀i,i<n->FM b a i=true) (λi M=>lu) (λI P n H o next=>?_) λI P o=>?_
 .have ha:=alj a n;have g:(a.getD n (0,[],[],())).2.1.length<=4000000/\(a.getD n (0,[],[],())).2.2.1.length<=4000000:=U _ (getD_mem H);have D:=avC b a n;dsimp only;rw[aHB];refine bT lu ⟨⟨lu,lu⟩,⟨lu,lu⟩,show b.length+jG (a.take n)<=4000000 from lu,trivial,af (λq=>AY H ?_) λq=>⟨trivial,af (λr=>AY H ?_) λr=>?_⟩⟩
  .rw[D,dD q];simp
  .rw[D,dD r];simp
  have q:=bI q;have r:=bI r;rw[fU _ lu];refine af (λs=>AY H ?_) λs=>?_
  .have s:=aHE.1 s;rw[D,aHF lu];rfl
  have s:=aHt.1 s;have d:(!(decide (0<n)&&decide ((a.getD (n-1) (0,[],[],())).1>=(a.getD n (0,[],[],())).1)))=true->FM b a n=(((a.getD n (0,[],[],())).2.1.all λx=>!bQ (Sp.replay b (a.take n)) x.1)&&(a.getD n (0,[],[],())).2.2.1.all λx=>bQ (Sp.replay b (a.take n)) x.1):=λF=>by rw[D,q,r,F,aHD lu];rfl
  have A:=λh=>next (bV (f:=λi=>FM b a i) o h);refine af (λt=>?_) λt=>⟨lu,λK k=>?_⟩
  .have t:=fG t;rw[nH lu lu,aHB];refine⟨⟨lu,lu⟩,af (λw=>AY H ?_) λw=>⟨lu,λK k=>?_⟩⟩
   .rw[D,w,aHF (p:=0<n) lu];simp
   have T:=d (alk lu λ_=>fK w);rw[k,ayr];refine af (λe=>AY H ?_) λe=>⟨lu,λL l=>?_⟩
   .rw[T];rw[show((a.getD n (0,[],[],())).2.1.all λx=>!bQ (Sp.replay b (a.take n)) x.1)=false from dD e];rfl
   rw[l,avA];refine af (λj=>AY H ?_) λj=>⟨rfl,A ?_⟩
   .rw[T];rw[show((a.getD n (0,[],[],())).2.2.1.all λx=>bQ (Sp.replay b (a.take n)) x.1)=false from dD j,aH8]
   .rw[T,aHy];exact⟨bI e,bI j⟩
  .have T:=d (alk lu λh=>absurd h (by have:=fK t;omega));rw[k,ayr];refine af (λe=>AY H ?_) λe=>⟨lu,λL l=>?_⟩
   .rw[T];rw[show((a.getD n (0,[],[],())).2.1.all λx=>!bQ (Sp.replay b (a.take n)) x.1)=false from dD e];rfl
   rw[l,avA];refine af (λj=>AY H ?_) λj=>⟨rfl,A ?_⟩
   .rw[T];rw[show((a.getD n (0,[],[],())).2.2.1.all λx=>bQ (Sp.replay b (a.take n)) x.1)=false from dD j,aH8]
   .rw[T,aHy];exact⟨bI e,bI j⟩
 .dsimp only;refine bP lu ?_;rw[aoo o,B,J];rfl
theorem aar:OK yT.e:=by
 refine aO [gX.e,tH.e,oP.e,I4.e] ⟨jd,Ou,Iy,alg,⟨⟩⟩ acr λr A b a=>show yT.goal (aas r A b a) ((r,A,b,a,()),())fromλN C=>?_
 dsimp only[yT]at C ⊢;obtain⟨E,O,U⟩:zC (r,A,b,a,()):=C;have E:Q8 b a:=E;have S:b.length+jG a<=4000000:=E;have O:a.length<=4000000:=O;refine⟨FT,dI (λi(z:List (Int×Unit))=>((z,i,()),())) (λy=>y.1.2.1) (λ_ _=>rfl) a.length lu (λn z=>z=Sp.replay b (a.take n)/\∀i,i<n->FM b a i=true) ⟨rfl,λi B=>lu⟩ (λI P n z H o next=>?_) λI P z o=>?_⟩
 .obtain⟨rfl,o⟩:=o;obtain⟨K,J⟩:=ad9 E H;have g:(a.getD n (0,[],[],())).2.1.length<=4000000/\(a.getD n (0,[],[],())).2.2.1.length<=4000000:=U _ (getD_mem H);have D:=avC b a n;dsimp only;rw[aHB];refine bT lu ⟨⟨lu,lu⟩,λ_=>(!(decide (0<n)&&decide ((a.getD (n-1) (0,[],[],())).1>=(a.getD n (0,[],[],())).1)))=true/\Sp.rise (a.getD n (0,[],[],())).2.1=true/\Sp.rise (a.getD n (0,[],[],())).2.2.1=true/\¬(a.getD n (0,[],[],())).2.1.length+(a.getD n (0,[],[],())).2.2.1.length=0,?_,?_⟩
  .rw[fU _ lu];refine af (λe=>AY H ?_) λe=>⟨trivial,af (λm=>AY H ?_) λm=>⟨trivial,af (λq=>AY H ?_) λq=>?_⟩⟩
   .have e:=aHE.1 e;rw[D,aHF lu];rfl
   .rw[D,dD m];simp
   .rw[D,dD q];simp
   have e:=aHt.1 e;refine af (λs=>?_) λs=>⟨rfl,alk lu λh=>absurd h (by have:=fK s;omega),bI m,bI q,lu⟩;have s:=fG s;rw[nH lu lu,aHB];refine⟨⟨lu,lu⟩,af (λw=>AY H ?_) λw=>⟨rfl,alk lu λ_=>fK w,bI m,bI q,lu⟩⟩;rw[D,w,aHF (p:=0<n) lu];simp
  rintro y ⟨F,m,q,e⟩;rw[m,q,F,aHD e]at D;refine dY (a.getD n (0,[],[],())).2.1.length lu (λk=>∀i,i<k->(!bQ (Sp.replay b (a.take n)) ((a.getD n (0,[],[],())).2.1.getD i (0,())).1)=true) (λi B=>lu) (λt l k u j d=>?_) λt l j=>?_
  .dsimp only;refine bT lu ⟨⟨lu,lu⟩,trivial,af (λh=>AY H ?_) λh=>⟨rfl,d (bV (f:=λi=>!bQ (Sp.replay b (a.take n)) ((a.getD n (0,[],[],())).2.1.getD i (0,())).1) j (by show(!bQ (Sp.replay b (a.take n)) ((a.getD n (0,[],[],())).2.1.getD k (0,())).1)=true;rw[show bQ (Sp.replay b (a.take n)) ((a.getD n (0,[],[],())).2.1.getD k (0,())).1=false from h];rfl))⟩⟩;rw[D,aeb (f:=λx:Int×Unit=>!bQ (Sp.replay b (a.take n)) x.1) u (by rw[show bQ (Sp.replay b (a.take n)) ((a.getD n (0,[],[],())).2.1.getD k (0,())).1=true from h];rfl)];rfl
  rw[aea (f:=λx:Int×Unit=>!bQ (Sp.replay b (a.take n)) x.1) j]at D;dsimp only;refine bP lu (dY (a.getD n (0,[],[],())).2.2.1.length lu (λk=>∀i,i<k->bQ (Sp.replay b (a.take n)) ((a.getD n (0,[],[],())).2.2.1.getD i (0,())).1=true) (λi B=>lu) (λt l k u j d=>?_) λt l j=>?_)
  .dsimp only;refine bT lu ⟨⟨lu,lu⟩,trivial,af (λh=>AY H ?_) λh=>⟨rfl,d (bV (f:=λi=>bQ (Sp.replay b (a.take n)) ((a.getD n (0,[],[],())).2.2.1.getD i (0,())).1) j (bI h))⟩⟩;rw[D,aeb (f:=λx:Int×Unit=>bQ (Sp.replay b (a.take n)) x.1) u (dD h)];rfl
  rw[aea (f:=λx:Int×Unit=>bQ (Sp.replay b (a.take n)) x.1) j]at D;dsimp only;refine bP lu ⟨?_,rfl,next _ ⟨J.symm,bV (f:=λi=>FM b a i) o D⟩⟩;show(Sp.replay b (a.take n)).length+jG [Iw a n]<=4000000;have:jG [Iw a n]=(Iw a n).2.1.length:=by simp[jG]
  omega
 .obtain⟨rfl,o⟩:=o;dsimp only;refine bP lu ⟨trivial,af (λh=>⟨trivial,?_⟩) λh=>?_⟩
  .rw[aoo o,show rX r=true from h];rfl
  .rw[aoo o,show rX r=false from h];rfl
theorem az0{q:List (Int×Unit)}(H:n<q.length)(h:(decide (0<=(q.getD n (0,())).1)&&decide ((q.getD n (0,())).1<=999))=false):uj q=false:=by
 unfold uj;have:(q.all λx=>decide (0<=x.1)&&decide (x.1<=999))=false:=by rw[List.all_eq_false];exact⟨_,getD_mem H,by rw[h];decide⟩
 rw[this,aH8]
theorem ays{q:List (Int×Unit)}(h:∀i,i<q.length->(decide (0<=(q.getD i (0,())).1)&&decide ((q.getD i (0,())).1<=999))=true):uj q=decide (q.length=3):=by
 unfold uj;have:(q.all λx=>decide (0<=x.1)&&decide (x.1<=999))=true:=by
  rw[aHS];intro x Z;obtain⟨i,D,rfl⟩:=aIf Z;have:=h i D
  rwa [aHI,aHK D]at this
 rw[this,aIV]
theorem aau:OK yU.e:=by
 refine aO [gX.e] ⟨jd,⟨⟩⟩ acs λq=>show yU.goal (aav q) (q,())fromλN C=>?_
 dsimp only[yU]at C ⊢;have Q:q.length<=maxLen:=N.1.1;rw[maxLen_eq]at Q;refine dY q.length lu (λn=>∀i,i<n->(decide (0<=(q.getD i (0,())).1)&&decide ((q.getD i (0,())).1<=999))=true) (λi D=>lu) (λI P n H o next=>?_) λI P o=>?_
 .dsimp only;refine bT lu ⟨⟨lu,lu⟩,trivial,af (λh=>?_) λh=>⟨rfl,next (bV (f:=λi=>decide (0<=(q.getD i (0,())).1)&&decide ((q.getD i (0,())).1<=999)) o (bI h))⟩⟩;rw[az0 H (dD h)]
 .dsimp only;refine bP lu ?_;rw[ays o];exact congrArg (·,()) (aHX.2 KW)
theorem BA:OK nD.e:=by
 refine aO [jc.e] ⟨jE,⟨⟩⟩ H0 λn=>show nD.goal (Xv n) (n,())fromλN C=>?_
 dsimp only[nD]at C ⊢;exact⟨trivial,rfl⟩
theorem BB:OK jm.e:=by
 refine aO [nD.e] ⟨BA,⟨⟩⟩ BM λs=>show jm.goal (BD s) (s,(()),())fromλN C=>?_
 dsimp only[jm]at C ⊢;exact ati (K:=λr=>r=(Sp.findAt (λx:Int×Unit=>!(decide (0<=x.1)&&decide (x.1<=999))) s,())) (λx:Int×Unit=>!(decide (0<=x.1)&&decide (x.1<=999))) (0,()) s _ N.1.1 rfl
theorem zk:OK iR.e:=by
 refine aO [jm.e,nD.e] ⟨BB,BA,⟨⟩⟩ H0 λs=>show iR.goal (zl s) (s,(()),())fromλN C=>?_
 dsimp only[iR]at C ⊢;exact⟨trivial,congrArg (·,()) (aiS _ _)⟩
theorem aaw:OK yV.e:=by
 refine aO [nD.e,iR.e] ⟨BA,zk,⟨⟩⟩ H0 λq=>show yV.goal (aax q) (q,())fromλN C=>?_
 dsimp only[yV]at C ⊢;refine af (λh=>⟨trivial,?_⟩) λh=>?_
 .have h:q.length=3:=by have h:=aHE.1 h;omega
  unfold uj;rw[aHF h,aIK,List.all_eq_not_any_not]
 .have h:¬q.length=3:=by have h:=aHt.1 h;omega
  unfold uj;rw[aHD h];rfl
theorem KJ:OK qC.e:=by
 refine zn [Gv.e,Ei.e] ⟨aiT,agh,⟨⟩⟩ H0 (λ⟨x,_⟩ _=>⟨((lG x,()),()),rfl⟩) λk t b d e f g h i j a=>show qC.goal (Xw k t b d e f g h i j a) ((k,t,b,d,e,f,g,h,i,j,a,()),())fromλN C=>?_
 dsimp only[qC]at C ⊢;exact⟨alm C.1,λr W=>⟨Wl C.2,by rw[W];rfl⟩⟩
theorem Xx:OK vH.e:=by
 refine zn [Gw.e] ⟨aiU,⟨⟩⟩ H0 (λ⟨x,_⟩ _=>⟨((lG x,()),()),rfl⟩) λk t b d e f g h i j a=>show vH.goal (Xy k t b d e f g h i j a) ((k,t,b,d,e,f,g,h,i,j,a,()),())fromλN C=>?_
 dsimp only[vH]at C ⊢;exact⟨Ov C,λr W=>W⟩
theorem Uy:OK Aw.e:=by
 refine aO [kW.e,jT.e] ⟨KL,BF,⟨⟩⟩ H0 λa b d e f g h i=>show Aw.goal (aiV a b d e f g h i) ((a,b,d,e,()),(f,g,h,i,()),())fromλN C=>?_
 dsimp only[Aw]at C ⊢;exact⟨C.1,C.2,trivial,rfl⟩
theorem aiW:OK GN.e:=by
 refine aO [rE.e,jU.e] ⟨Ux,Bv,⟨⟩⟩ H0 λa b d e f g h i=>show GN.goal (aiX a b d e f g h i) ((a,b,d,e,()),(f,g,h,i,()),())fromλN C=>?_
 dsimp only[GN]at C ⊢;exact⟨C.1,C.2,trivial,rfl⟩
theorem aec(a b:Sp.Bytes):fJ (Sp.latest a b).2.1:=by
 unfold Sp.latest;cases (aW b).2.2&&(!(aW a).2.2||decide ((aW a).1<(aW b).1))with
 |true=>exact abT b
 |false=>exact abT a
theorem agi:OK Ez.e:=by
 refine aO [Aw.e,qC.e,qB.e] ⟨Uy,KJ,KI,⟨⟩⟩ H0 λk t e f g b d i j l a=>show Ez.goal (agj k t e f g b d i j l a) ((k,t,e,f,g,b,d,i,j,l,a,()),())fromλN C=>?_
 dsimp only[Ez]at C ⊢;obtain⟨m,o⟩:fJ (lG (k,t,e,f,g,b,d,i,j,l,a,()))/\(fV b/\fV d):=C;refine⟨o,af (λh=>⟨m,λr W=>?_⟩) λh=>?_⟩
 .rw[W];refine⟨⟨aec _ _,m⟩,?_⟩;unfold MI;rw[show(Sp.latest (kz (k,t,e,f,g,b,d,i,j,l,a,())) (kC (k,t,e,f,g,b,d,i,j,l,a,()))).2.2.1=true from h];rfl
 .unfold MI;rw[show(Sp.latest (kz (k,t,e,f,g,b,d,i,j,l,a,())) (kC (k,t,e,f,g,b,d,i,j,l,a,()))).2.2.1=false from h];rfl
variable {x:jv}
theorem aed{i:Int}(h:(decide (0<=i)&&decide (i<=((oW x).length:Int)-1))=true):Az x i=(aw5 (oW x) i.toNat,true):=by unfold Az;rw[h];rfl
theorem atj{i:Int}(h:(decide (0<=i)&&decide (i<=((oW x).length:Int)-1))=false):Az x i=(aop,false):=by unfold Az;rw[h];rfl
theorem auR:zC aop:=⟨by show([]:List (Int×Unit)).length+jG []<=4000000;decide,lZ,λe h=>zH⟩
theorem ayt(h:Sp.hugeS x)(i:Int):zC (Az x i).1:=by
 cases D:(decide (0<=i)&&decide (i<=((oW x).length:Int)-1))with
 |false=>rw[atj D];exact auR
 |true=>rw[aed D];simp only[aHy,aHM]at D;have l:aw5 (oW x) i.toNat∈oW x:=getD_mem (show i.toNat<(oW x).length from lu);exact h.2.2 _ l
theorem agk:OK EC.e:=by
 refine zn [Ey.e,jc.e] ⟨agd,jE,⟨⟩⟩ H0 (λ⟨x,i,_⟩ _=>⟨(((Az x i).1,(Az x i).2,()),()),⟨rfl,rfl⟩⟩) λk t d e f j l m o b a i=>show EC.goal (agl k t d e f j l m o b a i) ((k,t,d,e,f,j,l,m,o,b,a,()),i,())fromλN C=>?_
 dsimp only[EC]at C ⊢;obtain⟨_,s,q⟩:Sp.hugeS (k,t,d,e,f,j,l,m,o,b,a,()):=C;have s:b.length<=2000000:=s;refine⟨trivial,?_⟩;dsimp only;rw[fU _ lu];refine af (λh=>?_) λh=>?_
 .rw[atj (x:=(k,t,d,e,f,j,l,m,o,b,a,())) (dD h)];exact⟨rfl,rfl⟩
 .have h:=bI h;have g:=h;simp only[aHy,aHM]at g;refine⟨⟨lu,lu⟩,q _ (getD_mem (show i.toNat<b.length from lu)),λr W=>?_⟩;rw[W];rw[aed (x:=(k,t,d,e,f,j,l,m,o,b,a,())) h];exact⟨rfl,rfl⟩
theorem Ri:OK qP.e:=by
 refine aO [qw.e,IY.e,yQ.e,EC.e] ⟨Gm,aln,aal,agk,⟨⟩⟩ H0 λk t b d e f g j l m a i=>show qP.goal (Rj k t b d e f g j l m a i) ((k,t,b,d,e,f,g,j,l,m,a,()),i,())fromλN C=>?_
 dsimp only[qP]at C ⊢;have C:Sp.hugeS (k,t,b,d,e,f,g,j,l,m,a,()):=C;refine⟨C,?_⟩;rintro⟨⟨w,ok,⟨⟩⟩,⟨⟩⟩ ⟨o,T⟩;have o:w=(Az (k,t,b,d,e,f,g,j,l,m,a,()) i).1:=o;have T:ok=(Az (k,t,b,d,e,f,g,j,l,m,a,()) i).2:=T;subst o T;refine af (λh=>⟨ayt C i,C.1,trivial,?_⟩) λh=>?_
 .unfold Pg;rw[show(Az (k,t,b,d,e,f,g,j,l,m,a,()) i).2=true from h];rfl
 .unfold Pg;rw[show(Az (k,t,b,d,e,f,g,j,l,m,a,()) i).2=false from h];rfl
theorem ayu(H:n<(oW x).length):Pg x (n:Int)=Uz (kN (pK x)) (kT (pK x)) ((oW x).getD n (0,[],[],[],())):=by unfold Pg;rw[aed (by rw[aHy,aHM,aHM];omega)];rfl
theorem PL:OK oZ.e:=by
 refine aO [qP.e] ⟨Ri,⟨⟩⟩ QL λk t d g j l m q r b a=>show oZ.goal (PN k t d g j l m q r b a) ((k,t,d,g,j,l,m,q,r,b,a,()),())fromλN C=>?_
 dsimp only[oZ]at C ⊢;have C:Sp.hugeS (k,t,d,g,j,l,m,q,r,b,a,()):=C;have s:b.length<=2000000:=C.2.1;refine dY b.length lu (λn=>∀i,i<n->Uz (k,t,d,()) g (b.getD i (0,[],[],[],()))=true) (λi D=>lu) (λI P n H o next=>?_) λI P o=>?_
 .dsimp only;have e:=ayu (x:=(k,t,d,g,j,l,m,q,r,b,a,())) H;refine bT lu ⟨C,?_⟩;rw[e];refine af (λh=>?_) λh=>⟨rfl,next (bV (f:=λi=>Uz (k,t,d,()) g (b.getD i (0,[],[],[],()))) o (bI h))⟩;have:Sp.streams (k,t,d,g,j,l,m,q,r,b,a,())=false:=aeb H (dD h);rw[this]
 .dsimp only;refine bP lu ?_;have:Sp.streams (k,t,d,g,j,l,m,q,r,b,a,())=true:=aea o;rw[this]
theorem avD(x:jv):ED x=(ru (pK x)&&((Sp.latest (kz x) (kC x)).2.2.1&&(decide ((Sp.latest (kz x) (kC x)).1=vW x)&&(nG (Sp.latest (kz x) (kC x)).2.1 (lG x)&&
 (pF (jQ x)&&(decide (jQ x≠[])&&(decide ((oW x).length<=4)&&(uj (PO x)&&
   ((decide ((fM (jQ x) ((jQ x).length-1)).1=vW x)&&nG (uw (fM (jQ x) ((jQ x).length-1))) (lG x))&&
     (oW x).all (nT (kN (pK x)) (kT (pK x)) (vW x))))))))))):=rfl
theorem fits_all(s:dV)(d:List aG)(n:Int)(a:List lY):a.all (nT s d n)=((a.all λw=>kX w&&decide (qO w<=n))&&a.all (Uz s d)):=by rw[aHX];simp only[aHS,aHy,nT,Uz,aHM];exact⟨λh=>⟨λx Z=>⟨(h x Z).2.1,(h x Z).1⟩,λx Z=>(h x Z).2.2⟩,λh x Z=>⟨(h.1 x Z).2,(h.1 x Z).1,h.2 x Z⟩⟩
theorem aw6{l:List α}(h:0<l.length):decide (l≠[])=true:=aHF λe=>by rw[e]at h;cases h
theorem rY(h:ru (pK x)=false\/(Sp.latest (kz x) (kC x)).2.2.1=false\/¬(Sp.latest (kz x) (kC x)).1=vW x\/nG (Sp.latest (kz x) (kC x)).2.1 (lG x)=false\/pF (jQ x)=false\/(jQ x).length=0\/¬(oW x).length<=4\/uj (PO x)=false\/
 ¬(fM (jQ x) ((jQ x).length-1)).1=vW x\/nG (uw (fM (jQ x) ((jQ x).length-1))) (lG x)=false\/(oW x).all (nT (kN (pK x)) (kT (pK x)) (vW x))=false):(false,())=(ED x,()):=by
 have:ED x=false:=by
  rw[avD];rcases h with h|h|h|h|h|h|h|h|h|h|h
  .rw[h];simp
  .rw[h];simp
  .rw[aHD h];simp
  .rw[h];simp
  .rw[h];simp
  .rw[show decide (jQ x≠[])=false from aHD (λe=>e (aH0.1 h))];simp
  .rw[aHD h];simp
  .rw[h];simp
  .rw[aHD h];simp
  .rw[h];simp
  .rw[h];simp
 rw[this]
theorem avE(E:ru (pK x)=true)(O:(Sp.latest (kz x) (kC x)).2.2.1=true)(U:(Sp.latest (kz x) (kC x)).1=vW x)(j:nG (Sp.latest (kz x) (kC x)).2.1 (lG x)=true)(M:pF (jQ x)=true)(b:0<(jQ x).length)(d:(oW x).length<=4)(e:uj (PO x)=true)
 (f:(fM (jQ x) ((jQ x).length-1)).1=vW x) (a:nG (uw (fM (jQ x) ((jQ x).length-1))) (lG x)=true):ED x=(oW x).all (nT (kN (pK x)) (kT (pK x)) (vW x)):=by
 rw[avD,E,O,aHF U,j,M,aw6 b,aHF d,e,aHF f,a];rfl
structure aCM(x:jv):Prop where
 h1:ru (pK x)=true
 h2:(Sp.latest (kz x) (kC x)).2.2.1=true
 h3:(Sp.latest (kz x) (kC x)).1=vW x
 h4:nG (Sp.latest (kz x) (kC x)).2.1 (lG x)=true
 h5:pF (jQ x)=true
 h6:0<(jQ x).length
 h7:(oW x).length<=4
 h8:uj (PO x)=true
theorem yC(h:ru (pK x)=true):fJ (lG x):=by obtain⟨a,b,_⟩:=ayv h;exact Mc (by unfold dS;rw[aHy];exact⟨a,b⟩)
theorem ahA{v:List nS}(h:pF v=true)(H:n<v.length):fJ (uw (fM v n)):=by unfold pF at h;rw[aHy]at h;have O:=Qe.1 h.1 n H;unfold oJ at O;simp only[aHy]at O;exact Mc O.2.2.1
theorem YK:OK wL.e:=by
 refine aO [oZ.e,Au.e,yS.e,Aw.e,qC.e,yV.e,sU.e,Ez.e,En.e,qB.e] ⟨PL,acj,aap,Uy,KJ,aaw,UA,agi,agm,KI,⟨⟩⟩ aay λk t m q s j l d e b a=>show wL.goal (YL k t m q s j l d e b a) ((k,t,m,q,s,j,l,d,e,b,a,()),())fromλN C=>?_
 dsimp only[wL]at C ⊢;have C:VI (k,t,m,q,s,j,l,d,e,b,a,()):=C;have O:=ayw C;obtain⟨Z,Q,R,S,M⟩:=C;have S:b.length<=2000000:=S;have hVl:e.length<=2000000:=R.1;have hn0:=alo j l;refine⟨Q,λ_=>aCM (k,t,m,q,s,j,l,d,e,b,a,()),⟨Z,af (λB=>rY (x:=(k,t,m,q,s,j,l,d,e,b,a,())) (.inl (dD B))) λB=>⟨⟨yC (bI B),Q⟩,af (λu=>rY (x:=(k,t,m,q,s,j,l,d,e,b,a,())) ?_) λu=>af (λJ=>rY (x:=(k,t,m,q,s,j,l,d,e,b,a,())) (.inr (.inr (.inl (aI0.1 J))))) λJ=>⟨R,af (λK=>rY (x:=(k,t,m,q,s,j,l,d,e,b,a,())) (.inr (.inr (.inr (.inr (.inl (dD K))))))) λK=>af (λz=>rY (x:=(k,t,m,q,s,j,l,d,e,b,a,())) (.inr (.inr (.inr (.inr (.inr (.inl (by have z:=aHE.1 z;show e.length=0;omega)))))))) λz=>af (λA=>rY (x:=(k,t,m,q,s,j,l,d,e,b,a,())) (.inr (.inr (.inr (.inr (.inr (.inr (.inl (by have A:=fG A;show ¬b.length<=4;omega))))))))) λA=>⟨trivial,af (λL=>rY (x:=(k,t,m,q,s,j,l,d,e,b,a,())) (.inr (.inr (.inr (.inr (.inr (.inr (.inr (.inl (dD L)))))))))) λL=>⟨rfl,?_⟩⟩⟩⟩⟩,?_⟩
 .have u:MI (k,t,m,q,s,j,l,d,e,b,a,())=false:=dD u;unfold MI at u;rcases aJK.1 u with h|h
  .exact .inr (.inl h)
  .exact .inr (.inr (.inr (.inl h)))
 .have u:MI (k,t,m,q,s,j,l,d,e,b,a,())=true:=bI u;unfold MI at u;rw[aHy]at u;exact⟨bI B,u.1,aoq J,u.2,bI K,(by have z:=aHt.1 z;show 0<e.length;omega),(by have A:=fK A;show b.length<=4;omega),bI L⟩
 rintro y F;have X:0<e.length:=F.h6;have U:(Sp.latest j l).1=d:=F.h3;rw[nH X lu,aHB];refine⟨⟨lu,lu⟩,λ_=>(fM e (e.length-1)).1=d/\nG (uw (fM e (e.length-1))) (lG (k,t,m,q,s,j,l,d,e,b,a,()))=true,af (λg=>rY (x:=(k,t,m,q,s,j,l,d,e,b,a,())) (.inr (.inr (.inr (.inr (.inr (.inr (.inr (.inr (.inl (aI0.1 g))))))))))) λg=>⟨yC F.h1,λr W=>?_⟩,?_⟩
 .rw[W];refine⟨⟨ahA F.h5 (by show e.length-1<e.length;omega),yC F.h1⟩,af (λu=>rY (x:=(k,t,m,q,s,j,l,d,e,b,a,())) (.inr (.inr (.inr (.inr (.inr (.inr (.inr (.inr (.inr (.inl (dD u)))))))))))) λu=>⟨rfl,aoq g,bI u⟩⟩
 rintro y2 ⟨T,E⟩;have Y:=avE (x:=(k,t,m,q,s,j,l,d,e,b,a,())) F.h1 F.h2 F.h3 F.h4 F.h5 F.h6 F.h7 F.h8 T E;rw[fits_all]at Y;refine dY b.length lu (λn=>∀i,i<n->(kX (b.getD i (0,[],[],[],()))&&decide (qO (b.getD i (0,[],[],[],()))<=d))=true) (λi D=>lu) (λI P n H o next=>?_) λI P o=>?_
 .have fl:(kX (b.getD n (0,[],[],[],()))&&decide (qO (b.getD n (0,[],[],[],()))<=d))=false->(false,())=(ED (k,t,m,q,s,j,l,d,e,b,a,()),()):=λh=>by rw[Y,show((oW (k,t,m,q,s,j,l,d,e,b,a,())).all λw=>kX w&&decide (qO w<=vW (k,t,m,q,s,j,l,d,e,b,a,())))=false from aeb (f:=λw:lY=>kX w&&decide (qO w<=d)) H h];rfl
  dsimp only;refine bT lu ⟨⟨lu,lu⟩,M _ (getD_mem H),af (λg=>fl ?_) λg=>⟨trivial,af (λu=>fl ?_) λu=>⟨rfl,next (bV (f:=λi=>kX (b.getD i (0,[],[],[],()))&&decide (qO (b.getD i (0,[],[],[],()))<=d)) o ?_)⟩⟩⟩
  .rw[show kX (b.getD n (0,[],[],[],()))=false from dD g];rfl
  .rw[aHD (p:=qO (b.getD n (0,[],[],[],()))<=d) (by have u:qO (b.getD n (0,[],[],[],()))>d:=fG u;omega),aH8]
  .show(kX (b.getD n (0,[],[],[],()))&&decide (qO (b.getD n (0,[],[],[],()))<=d))=true;rw[show kX (b.getD n (0,[],[],[],()))=true from bI g,aHF (p:=qO (b.getD n (0,[],[],[],()))<=d) (by have u:¬qO (b.getD n (0,[],[],[],()))>d:=fK u;omega)];rfl
 .dsimp only;refine bP lu ⟨O,?_⟩;rw[Y,show((oW (k,t,m,q,s,j,l,d,e,b,a,())).all λw=>kX w&&decide (qO w<=vW (k,t,m,q,s,j,l,d,e,b,a,())))=true from aea (f:=λw:lY=>kX w&&decide (qO w<=d)) o];rfl
theorem YM:OK wM.e:=by
 refine aO [tV.e,IZ.e,yR.e,yT.e,yU.e,sV.e,GN.e,vH.e,Eo.e,vG.e] ⟨Hr,alp,aan,aar,aau,UB,aiW,Xx,agn,Xr,⟨⟩⟩ aaz λk t s m B z A l b j a=>show wM.goal (YN k t s m B z A l b j a) ((k,t,s,m,B,z,A,l,b,j,a,()),())fromλN C=>?_
 dsimp only[wM]at C ⊢;have C:VI (k,t,s,m,B,z,A,l,b,j,a,()):=C;obtain⟨hC,hD,hV,hW,hWs⟩:=C;have hW:j.length<=2000000:=hW;have hVl:b.length<=2000000:=hV.1;have hn0:=alo z A;refine⟨hD,λ_=>aCM (k,t,s,m,B,z,A,l,b,j,a,()),⟨hC,af (λM=>rY (x:=(k,t,s,m,B,z,A,l,b,j,a,())) (.inl (dD M))) λM=>af (λE=>rY (x:=(k,t,s,m,B,z,A,l,b,j,a,())) (.inr (.inl (dD E)))) λE=>af (λX=>rY (x:=(k,t,s,m,B,z,A,l,b,j,a,())) (.inr (.inr (.inl (aI0.1 X))))) λX=>⟨yC (bI M),λr W=>?_⟩⟩,?_⟩
 .rw[W];refine⟨⟨aec _ _,yC (bI M)⟩,af (λZ=>rY (x:=(k,t,s,m,B,z,A,l,b,j,a,())) (.inr (.inr (.inr (.inl (dD Z)))))) λZ=>⟨hV,af (λg5=>rY (x:=(k,t,s,m,B,z,A,l,b,j,a,())) (.inr (.inr (.inr (.inr (.inl (dD g5))))))) λg5=>af (λO=>rY (x:=(k,t,s,m,B,z,A,l,b,j,a,())) (.inr (.inr (.inr (.inr (.inr (.inl (by have O:=aHE.1 O;show b.length=0;omega)))))))) λO=>af (λR=>rY (x:=(k,t,s,m,B,z,A,l,b,j,a,())) (.inr (.inr (.inr (.inr (.inr (.inr (.inl (by have R:=fG R;show ¬j.length<=4;omega))))))))) λR=>⟨trivial,af (λg8=>rY (x:=(k,t,s,m,B,z,A,l,b,j,a,())) (.inr (.inr (.inr (.inr (.inr (.inr (.inr (.inl (dD g8)))))))))) λg8=>⟨rfl,bI M,bI E,aoq X,bI Z,bI g5,(by have O:=aHt.1 O;show 0<b.length;omega),(by have R:=fK R;show j.length<=4;omega),bI g8⟩⟩⟩⟩
 rintro y F;have h6:0<b.length:=F.h6;have U:(Sp.latest z A).1=l:=F.h3;rw[nH h6 lu,aHB];refine⟨⟨lu,lu⟩,λ_=>(fM b (b.length-1)).1=l/\nG (uw (fM b (b.length-1))) (lG (k,t,s,m,B,z,A,l,b,j,a,()))=true,af (λg=>rY (x:=(k,t,s,m,B,z,A,l,b,j,a,())) (.inr (.inr (.inr (.inr (.inr (.inr (.inr (.inr (.inl (aI0.1 g))))))))))) λg=>⟨yC F.h1,λr W=>?_⟩,?_⟩
 .rw[W];refine⟨⟨ahA F.h5 (by show b.length-1<b.length;omega),yC F.h1⟩,af (λE=>rY (x:=(k,t,s,m,B,z,A,l,b,j,a,())) (.inr (.inr (.inr (.inr (.inr (.inr (.inr (.inr (.inr (.inl (dD E)))))))))))) λE=>⟨rfl,aoq g,bI E⟩⟩
 rintro y2 ⟨e9,T⟩;have Y:=avE (x:=(k,t,s,m,B,z,A,l,b,j,a,())) F.h1 F.h2 F.h3 F.h4 F.h5 F.h6 F.h7 F.h8 e9 T;refine dY j.length lu (λn=>∀i,i<n->nT (k,t,s,()) m l (j.getD i (0,[],[],[],()))=true) (λi D=>lu) (λI P n H o next=>?_) λI P o=>?_
 .have fl:nT (k,t,s,()) m l (j.getD n (0,[],[],[],()))=false->(false,())=(ED (k,t,s,m,B,z,A,l,b,j,a,()),()):=λh=>by rw[Y,show(oW (k,t,s,m,B,z,A,l,b,j,a,())).all (nT (kN (pK (k,t,s,m,B,z,A,l,b,j,a,()))) (kT (pK (k,t,s,m,B,z,A,l,b,j,a,()))) (vW (k,t,s,m,B,z,A,l,b,j,a,())))=false from aeb H h]
  have q:zC (j.getD n (0,[],[],[],())):=hWs _ (getD_mem (d:=(0,[],[],[],())) H);have Q:(j.getD n (0,[],[],[],())).2.2.2.1.length<=4000000:=q.2.1;have nx:=λh=>next (bV (f:=λi=>nT (k,t,s,()) m l (j.getD i (0,[],[],[],()))) o h);dsimp only;rw[aHB];refine bT lu ⟨⟨lu,lu⟩,?_⟩;generalize j.getD n (0,[],[],[],())=w at fl q Q nx ⊢;have J:qO w<=l->(zC w/\bif !kX w then(false,())=(ED (k,t,s,m,B,z,A,l,b,j,a,()),())else
   zC w/\gK m/\True/\bif !decide (Sp.listing w=Dk (k,t,s,()) m w.1 w.2.1)then(false,())=(ED (k,t,s,m,B,z,A,l,b,j,a,()),())else
    NX (((k,t,s,m,B,z,A,l,b,j,a,()),()),()) I P ((IntKind.i64.wrap (↑n+1),()),()) ((↑n,()),())):=λK=>
   ⟨q,af (λg=>fl (by unfold nT;rw[dD g];simp)) λg=>⟨q,hC,trivial,af (λE=>fl (by unfold nT;rw[dD E];simp)) λE=>⟨rfl,nx (by unfold nT;rw[bI g,bI E,aHF K];rfl)⟩⟩⟩
  obtain⟨u,nm,ls,L,⟨⟩⟩:=w;dsimp only at J fl Q ⊢;rcases aIM L.length with S|S
  .refine bP lu (J ?_);unfold qO;dsimp only;rw[S];show(0:Int)<=l;rw[← U];exact hn0.1
  .refine bT lu ?_;rw[nH S (by have:L.length<=4000000:=Q;omega),aHB];refine⟨⟨lu,lu⟩,?_⟩;have e:qO (u,nm,ls,L,PUnit.unit)=(L.getD (L.length-1) (0,[],[],())).1:=by unfold qO;rw[show decide ((u,nm,ls,L,()).2.2.2.1.length=0)=false from aHD (by show ¬L.length=0;omega)];rfl
   rw[← e];clear e Y;exact af (λg=>fl (by unfold nT;rw[aHD (by have g:=fG g;omega)];rfl)) λg=>J (by have g:=fK g;omega)
 .dsimp only;refine bP lu ?_;rw[Y,show(oW (k,t,s,m,B,z,A,l,b,j,a,())).all (nT (kN (pK (k,t,s,m,B,z,A,l,b,j,a,()))) (kT (pK (k,t,s,m,B,z,A,l,b,j,a,()))) (vW (k,t,s,m,B,z,A,l,b,j,a,())))=true from aea o]
variable {left:Int}
theorem KN{W:Nat}(h:left<W):((-1:Int),())=(aT W left,()):=by unfold aT;rw[if_pos lu]
theorem Ox(h:(n:Int)<=left):aT n left=left-n:=by unfold aT;rw[if_neg lu]
theorem atl{W:Nat}{x:Int}(h:left-W=x-n):(aT n x,())=(aT W left,()):=by unfold aT;rw[h]
theorem aaA{K:Int×Unit->Prop}{R:Prop}(a:left<n->K (-1,()))(b:(n:Int)<=left->R):bif decide (aT n left<0)then K (-1,())else R:=by
 unfold aT;by_cases h:left-n<0
 .rw[if_pos h];exact a lu
 .rw[if_neg h,aHD lu];exact b lu
theorem atm{K:Int×Unit->Prop}{R:Prop}(H:n<=maxLen)(S:0<=left)(E:left<=1048576)(a:left<n->K (-1,()))(b:(n:Int)<=left->R):bif decide (IntKind.i64.wrap (left-(n:Int))<0)then K (-1,())else R:=by
 rw[maxLen_eq]at H;rw[fU _ lu];by_cases h:left-n<0
 .rw[aHF h];exact a lu
 .rw[aHD h];exact b lu
theorem Wn:OK Dt.e:=by
 refine aO [] ⟨⟩ H0 λa b d left=>show Dt.goal (alq a b d left) ((a,b,d,()),left,())fromλN C=>?_
 dsimp only[Dt]at C ⊢;exact sz1 (K:=λr=>r=(_,())) N.1.2.2.1 C.1 C.2 rfl
theorem aor:OK Lc.e:=by
 refine aO [Dt.e] ⟨Wn,⟨⟩⟩ H0 λa b d e left=>show Lc.goal (aos a b d e left) ((a,b,d,e,()),left,())fromλN C=>?_
 dsimp only[Lc]at C ⊢;exact sz2 (K:=λr=>r=(_,())) N.1.1 C.1 C.2 rfl
theorem aot:OK Ld.e:=by
 refine aO [Dt.e] ⟨Wn,⟨⟩⟩ H0 λa b d e f g h left=>show Ld.goal (aou a b d e f g h left) ((a,b,d,e,f,g,h,()),left,())fromλN C=>?_
 dsimp only[Ld]at C ⊢;exact sz2 (K:=λr=>r=(_,())) N.1.2.2.2.1 C.1 C.2 rfl
theorem alr:OK I5.e:=by
 refine aO [Lc.e] ⟨aor,⟨⟩⟩ aov λa left=>show I5.goal (als a left) (a,left,())fromλN C=>?_
 dsimp only[I5]at C ⊢;exact Oy (K:=λr=>r=(_,())) Zt _ a left _ N.1.1 C.1 C.2 rfl
theorem alu:OK I7.e:=by
 refine aO [Ld.e] ⟨aot,⟨⟩⟩ aow λa left=>show I7.goal (alv a left) (a,left,())fromλN C=>?_
 dsimp only[I7]at C ⊢;exact Oy (K:=λr=>r=(_,())) VJ _ a left _ N.1.1 C.1 C.2 rfl
theorem aox:OK Le.e:=by
 refine aO [I5.e] ⟨alr,⟨⟩⟩ H0 λa b d e f left=>show Le.goal (aoy a b d e f left) ((a,b,d,e,f,()),left,())fromλN C=>?_
 dsimp only[Le]at C ⊢;exact⟨C,szr (K:=λr=>r=(_,())) rfl⟩
theorem aq5:OK Ns.e:=by
 refine aO [I7.e] ⟨alu,⟨⟩⟩ H0 λa b left=>show Ns.goal (aq6 a b left) ((a,b,()),left,())fromλN C=>?_
 dsimp only[Ns]at C ⊢;exact sz2 (K:=λr=>r=(_,())) N.1.1 C.1 C.2 rfl
theorem alx:OK I8.e:=by
 refine aO [] ⟨⟩ H0 λa b left=>show I8.goal (aly a b left) ((a,b,()),left,())fromλN C=>?_
 dsimp only[I8]at C ⊢;exact sz1 (K:=λr=>r=(_,())) N.1.1 C.1 C.2 rfl
theorem aiY:OK GR.e:=by
 refine aO [I8.e] ⟨alx,⟨⟩⟩ alz λa left=>show GR.goal (aiZ a left) (a,left,())fromλN C=>?_
 dsimp only[GR]at C ⊢;exact Oy (K:=λr=>r=(_,())) TP _ a left _ N.1.1 C.1 C.2 rfl
theorem alA:OK I9.e:=by
 refine aO [Le.e] ⟨aox,⟨⟩⟩ aoz λa left=>show I9.goal (alB a left) (a,left,())fromλN C=>?_
 dsimp only[I9]at C ⊢;exact Oy (K:=λr=>r=(_,())) P6 _ a left _ N.1.1 C.1 C.2 rfl
theorem YO:OK Fq.e:=by
 refine aO [Ns.e] ⟨aq5,⟨⟩⟩ aq7 λa left=>show Fq.goal (aoA a left) (a,left,())fromλN C=>?_
 dsimp only[Fq]at C ⊢;exact Oy (K:=λr=>r=(_,())) Nu _ a left _ N.1.1 C.1 C.2 rfl
theorem Jy:OK vS.e:=by
 refine aO [] ⟨⟩ H0 λa left=>show vS.goal (aoB a left) (a,left,())fromλN C=>?_
 dsimp only[vS]at C ⊢;exact sz1 (K:=λr=>r=(_,())) N.1.1 C.1 C.2 rfl
theorem ai0:OK GU.e:=by
 refine aO [vS.e] ⟨Jy,⟨⟩⟩ H0 λa b left=>show GU.goal (ai1 a b left) ((a,b,()),left,())fromλN C=>?_
 dsimp only[GU]at C ⊢;exact sz2 (K:=λr=>r=(_,())) N.1.1 C.1 C.2 rfl
theorem agp:OK EF.e:=by
 refine aO [GU.e] ⟨ai0,⟨⟩⟩ ai2 λa left=>show EF.goal (agq a left) (a,left,())fromλN C=>?_
 dsimp only[EF]at C ⊢;exact Oy (K:=λr=>r=(_,())) anO _ a left _ N.1.1 C.1 C.2 rfl
theorem Wp:OK Du.e:=by
 refine aO [I9.e,GR.e] ⟨alA,aiY,⟨⟩⟩ H0 λa b d left=>show Du.goal (alC a b d left) ((a,b,d,()),left,())fromλN C=>?_
 dsimp only[Du]at C ⊢;exact sz3 (K:=λr=>r=(_,())) C.1 C.2 rfl
theorem aee:OK Ci.e:=by
 refine aO [Fq.e,Du.e] ⟨YO,Wp,⟨⟩⟩ H0 λa b d e left=>show Ci.goal (aef a b d e left) ((a,b,d,e,()),left,())fromλN C=>?_
 dsimp only[Ci]at C ⊢;exact sz3 (K:=λr=>r=(_,())) C.1 C.2 rfl
theorem agr:OK EH.e:=by
 refine aO [Ci.e] ⟨aee,⟨⟩⟩ H0 λa b d e f g left=>show EH.goal (ags a b d e f g left) ((a,b,d,e,f,g,()),left,())fromλN C=>?_
 dsimp only[EH]at C ⊢;exact⟨C,szr (K:=λr=>r=(_,())) rfl⟩
theorem aeg:OK Cj.e:=by
 refine aO [EH.e] ⟨agr,⟨⟩⟩ agt λa left=>show Cj.goal (aeh a left) (a,left,())fromλN C=>?_
 dsimp only[Cj]at C ⊢;exact Oy (K:=λr=>r=(_,())) WZ _ a left _ N.1.1 C.1 C.2 rfl
theorem alD:OK Ja.e:=by
 refine aO [vS.e] ⟨Jy,⟨⟩⟩ H0 λa b d left=>show Ja.goal (alE a b d left) ((a,b,d,()),left,())fromλN C=>?_
 dsimp only[Ja]at C ⊢;exact sz3 (K:=λr=>r=(_,())) C.1 C.2 rfl
theorem ai3:OK GV.e:=by
 refine aO [Ja.e] ⟨alD,⟨⟩⟩ alF λa left=>show GV.goal (ai4 a left) (a,left,())fromλN C=>?_
 dsimp only[GV]at C ⊢;exact Oy (K:=λr=>r=(_,())) wEv _ a left _ N.1.1 C.1 C.2 rfl
theorem alG:OK Jb.e:=by
 refine aO [GV.e,vS.e] ⟨ai3,Jy,⟨⟩⟩ H0 λe a b d left=>show Jb.goal (alH e a b d left) ((e,a,b,d,()),left,())fromλN C=>?_
 dsimp only[Jb]at C ⊢;obtain⟨S,E⟩:0<=left/\left<=1048576:=C;have g:a.length<=maxLen:=N.1.2.1;have f:TS (e,a,b,d,())=a.length+(b.length+Ia d):=rfl;refine atm (K:=λr=>r=(_,())) g S E (λh=>KN (by rw[f];omega)) λh=>?_;dsimp only;rw[maxLen_eq]at g;rw[fU (left-a.length) lu];refine⟨⟨lu,lu⟩,aaA (K:=λr=>r=(_,())) (λh=>KN (by rw[f];omega)) λO=>?_⟩;rw[Ox O];exact⟨⟨lu,lu⟩,szr (K:=λr=>r=(_,())) (atl (by rw[f];omega))⟩
theorem ai5:OK GX.e:=by
 refine aO [Jb.e] ⟨alG,⟨⟩⟩ alI λa left=>show GX.goal (ai6 a left) (a,left,())fromλN C=>?_
 dsimp only[GX]at C ⊢;exact Oy (K:=λr=>r=(_,())) TS _ a left _ N.1.1 C.1 C.2 rfl
theorem aoC:OK Lh.e:=by
 refine aO [] ⟨⟩ H0 λa b left=>show Lh.goal (aoD a b left) ((a,b,()),left,())fromλN C=>?_
 dsimp only[Lh]at C ⊢;obtain⟨S,E⟩:0<=left/\left<=1048576:=C;have d:a.length<=maxLen:=N.1.1;have e:b.length<=maxLen:=N.1.2.1;refine atm (K:=λr=>r=(_,())) d S E (λh=>KN lu) λh=>?_;rw[maxLen_eq]at d;rw[fU (left-a.length) lu];refine atm (K:=λr=>r=(_,())) e lu lu (λh=>KN lu) λO=>?_;rw[maxLen_eq]at e;rw[fU _ lu];show _=(aT (a.length+b.length) left,());rw[Ox lu];exact congrArg (·,()) lu
theorem agu:OK EG.e:=by
 refine aO [EF.e,Fq.e,Du.e] ⟨agp,YO,Wp,⟨⟩⟩ H0 λa b d e f left=>show EG.goal (agv a b d e f left) ((a,b,d,e,f,()),left,())fromλN C=>?_
 dsimp only[EG]at C ⊢;obtain⟨S,E⟩:0<=left/\left<=1048576:=C;have g:ac6 (a,b,d,e,f,())=Dv (a,b,d,())+(wO e+P7 f):=rfl;refine⟨⟨S,E⟩,?_⟩;dsimp only;refine(aaA (K:=λr=>r=(_,())) (λh=>KN (by rw[g];omega)) λh=>?_);rw[Ox h];refine⟨⟨lu,lu⟩,aaA (K:=λr=>r=(_,())) (λh=>KN (by rw[g];omega)) λO=>?_⟩;rw[Ox O];exact⟨⟨lu,lu⟩,szr (K:=λr=>r=(_,())) (atl (by rw[g];omega))⟩
theorem ai7:OK GY.e:=by
 refine aO [vS.e,GX.e,Cj.e,Lh.e,EG.e] ⟨Jy,ai5,aeg,aoC,agu,⟨⟩⟩ H0 λd e f g i k l q m o a left=>show GY.goal (ai8 d e f g i k l q m o a left) ((d,e,f,g,i,k,l,q,m,o,a,()),left,())fromλN C=>?_
 dsimp only[GY]at C ⊢;obtain⟨S,E⟩:0<=left/\left<=1048576:=C;have b:W9 (d,e,f,g,i,k,l,q,m,o,a,())=ac6 (d,e,f,g,i,())+((k.length+l.length)+(AA m+(Jc o+a.length))):=rfl;refine⟨⟨S,E⟩,?_⟩;dsimp only;refine(aaA (K:=λr=>r=(_,())) (λh=>KN atG) λh=>?_);rw[Ox h];refine⟨⟨lu,lu⟩,aaA (K:=λr=>r=(_,())) (λh=>KN atG) λO=>?_⟩;rw[Ox O];refine⟨⟨lu,lu⟩,aaA (K:=λr=>r=(_,())) (λh=>KN atG) λU=>?_⟩;rw[Ox U];refine⟨⟨lu,lu⟩,aaA (K:=λr=>r=(_,())) (λh=>KN atG) λj=>?_⟩;rw[Ox j];exact⟨⟨lu,lu⟩,szr (K:=λr=>r=(_,())) (atl atG)⟩
theorem Wq:OK Dw.e:=by
 refine aO [] ⟨⟩ H0 λa b d=>show Dw.goal (alJ a b d) ((a,b,d,()),())fromλN C=>?_
 dsimp only[Dw]at C ⊢;exact rfl
theorem aoE:OK Lj.e:=by
 refine aO [Dw.e] ⟨Wq,⟨⟩⟩ H0 λa b d e=>show Lj.goal (aoF a b d e) ((a,b,d,e,()),())fromλN C=>?_
 dsimp only[Lj]at C ⊢;exact⟨trivial,rfl⟩
theorem aoG:OK Ll.e:=by
 refine aO [Dw.e] ⟨Wq,⟨⟩⟩ H0 λa b d e f g h=>show Ll.goal (aoH a b d e f g h) ((a,b,d,e,f,g,h,()),())fromλN C=>?_
 dsimp only[Ll]at C ⊢;exact⟨trivial,rfl⟩
theorem alK:OK Jd.e:=by
 refine aO [Lj.e] ⟨aoE,⟨⟩⟩ aoI λa=>show Jd.goal (alL a) (a,())fromλN C=>?_
 dsimp only[Jd]at C ⊢;exact toS_vc (K:=λr=>r=(_,())) (λ_=>True) _ a _ (by have h:jR Zt a<=big:=C;rw[jO,dJ]at h;omega) (λ_ _=>trivial) rfl
theorem alM:OK Je.e:=by
 refine aO [Ll.e] ⟨aoG,⟨⟩⟩ aoJ λa=>show Je.goal (alN a) (a,())fromλN C=>?_
 dsimp only[Je]at C ⊢;exact toS_vc (K:=λr=>r=(_,())) (λ_=>True) _ a _ (by have h:jR VJ a<=big:=C;rw[jO,dJ]at h;omega) (λ_ _=>trivial) rfl
theorem aoK:OK Lm.e:=by
 refine aO [Jd.e] ⟨alK,⟨⟩⟩ H0 λa b d e f=>show Lm.goal (aoL a b d e f) ((a,b,d,e,f,()),())fromλN C=>?_
 dsimp only[Lm]at C ⊢;exact⟨C,rfl⟩
theorem aq8:OK Nw.e:=by
 refine aO [Je.e] ⟨alM,⟨⟩⟩ H0 λa b=>show Nw.goal (aq9 a b) ((a,b,()),())fromλN C=>?_
 dsimp only[Nw]at C ⊢;exact⟨C,rfl⟩
theorem alO:OK Jf.e:=by
 refine aO [] ⟨⟩ H0 λa b=>show Jf.goal (alP a b) ((a,b,()),())fromλN C=>?_
 dsimp only[Jf]at C ⊢;exact rfl
theorem ai9:OK GZ.e:=by
 refine aO [Jf.e] ⟨alO,⟨⟩⟩ alQ λa=>show GZ.goal (aja a) (a,())fromλN C=>?_
 dsimp only[GZ]at C ⊢;exact toS_vc (K:=λr=>r=(_,())) (λ_=>True) _ a _ (by have h:jR TP a<=big:=C;rw[jO,dJ]at h;omega) (λ_ _=>trivial) rfl
theorem alR:OK Jg.e:=by
 refine aO [Lm.e] ⟨aoK,⟨⟩⟩ aoM λa=>show Jg.goal (alS a) (a,())fromλN C=>?_
 dsimp only[Jg]at C ⊢;have h:jR P6 a<=big:=C;exact toS_vc (K:=λr=>r=(_,())) (λx=>Nr x.2.2.2.2.1<=big) _ a _ ahG (λx Z=>aHw (aHv _) (aHw (qL P6 a x Z) h)) rfl
theorem YP:OK Fv.e:=by
 refine aO [Nw.e] ⟨aq8,⟨⟩⟩ ara λa=>show Fv.goal (aoN a) (a,())fromλN C=>?_
 dsimp only[Fv]at C ⊢;have h:jR Nu a<=big:=C;exact toS_vc (K:=λr=>r=(_,())) (λx=>Kw x.2.1<=big) _ a _ ahG (λx Z=>aHw (aI3 _ _) (aHw (qL Nu a x Z) h)) rfl
theorem Jz:OK vT.e:=by
 refine aO [] ⟨⟩ arb λa=>show vT.goal (aoO a) (a,())fromλN C=>?_
 dsimp only[vT]at C ⊢;have b:a.length<=4294967296:=C;refine⟨⟨lu,lu,FT⟩,λy=>∃n:Nat,y.1.1=n/\n<=a.length/\y.2.1=a.take n++List.replicate (a.length-n) (0,()),λy=>((a.length:Int)-y.1.1).toNat,⟨0,rfl,lu,vk⟩,?_⟩;rintro⟨⟨_,⟨⟩⟩,l,⟨⟩⟩ ⟨n,rfl,hn,rfl⟩;refine af (λh=>?_) λh=>?_<;>simp only[aHM,aHW]at h ⊢
 .have hlt:n<a.length:=lu;rw[fU _ lu];have e:(a.take n++List.replicate (a.length-n) ((0:Int),())).set n ((a.getD n (0,())).1,())=a.take (n+1)++List.replicate (a.length-(n+1)) (0,()):=by
   rw[show a.length-n=a.length-(n+1)+1 from lu,List.replicate_succ,aJk _ _ aeY,aHP,aIQ hn,aJl,aJZ,
    aIi hlt,aHO,aHI,aHK hlt]
   rfl
  refine⟨⟨lu,lu⟩,⟨lu,by simp only[aHu,aHP,aJm];omega⟩,by simp only[aHu,aHP,aJm];omega,rfl,⟨n+1,vk,lu,?_⟩,by show((a.length:Int)-((n:Int)+1)).toNat<((a.length:Int)-(n:Int)).toNat;omega⟩;rw[aHB,e]
 .have hge:n=a.length:=lu;subst hge;simp
theorem ajb:OK G5.e:=by
 refine aO [vT.e] ⟨Jz,⟨⟩⟩ H0 λa b=>show G5.goal (ajc a b) ((a,b,()),())fromλN C=>?_
 dsimp only[G5]at C ⊢;exact⟨C,rfl⟩
theorem agw:OK EI.e:=by
 refine aO [G5.e] ⟨ajb,⟨⟩⟩ ajd λa=>show EI.goal (agx a) (a,())fromλN C=>?_
 dsimp only[EI]at C ⊢;have h:jR anO a<=big:=C;exact toS_vc (K:=λr=>r=(_,())) (λx=>x.2.1.length<=big) _ a _ ahG (λx Z=>aHw (aI3 _ _) (aHw (qL anO a x Z) h)) rfl
theorem Ws:OK Dx.e:=by
 refine aO [Jg.e,GZ.e] ⟨alR,ai9,⟨⟩⟩ H0 λa b d=>show Dx.goal (alT a b d) ((a,b,d,()),())fromλN C=>?_
 dsimp only[Dx]at C ⊢;have h:FU a+TQ b<=big:=C;exact⟨aHw (aJt _ _) h,aHw (aI3 _ _) h,rfl⟩
theorem aei:OK Cm.e:=by
 refine aO [Fv.e,Dx.e] ⟨YP,Ws,⟨⟩⟩ H0 λa b d e=>show Cm.goal (aej a b d e) ((a,b,d,e,()),())fromλN C=>?_
 dsimp only[Cm]at C ⊢;have h:Dv (a,b,d,())+wO e<=big:=C;exact⟨aHw (aJt _ _) h,aHw (aI3 _ _) h,rfl⟩
theorem agy:OK EK.e:=by
 refine aO [Cm.e] ⟨aei,⟨⟩⟩ H0 λa b d e f g=>show EK.goal (agz a b d e f g) ((a,b,d,e,f,g,()),())fromλN C=>?_
 dsimp only[EK]at C ⊢;exact⟨C,rfl⟩
theorem aek:OK CB.e:=by
 refine aO [EK.e] ⟨agy,⟨⟩⟩ agA λa=>show CB.goal (ael a) (a,())fromλN C=>?_
 dsimp only[CB]at C ⊢;have h:jR WZ a<=big:=C;exact toS_vc (K:=λr=>r=(_,())) (λx=>VK (x.2.1,x.2.2.1,x.2.2.2.1,x.2.2.2.2.1,())<=big) _ a _ ahG (λx Z=>aHw (aHv _) (aHw (qL WZ a x Z) h)) rfl
theorem alU:OK Jh.e:=by
 refine aO [vT.e] ⟨Jz,⟨⟩⟩ H0 λd a b=>show Jh.goal (alV d a b) ((d,a,b,()),())fromλN C=>?_
 dsimp only[Jh]at C ⊢;have h:a.length+b.length<=big:=C;exact⟨aHw (aJt _ _) h,aHw (aI3 _ _) h,rfl⟩
theorem aje:OK G6.e:=by
 refine aO [Jh.e] ⟨alU,⟨⟩⟩ alW λa=>show G6.goal (ajf a) (a,())fromλN C=>?_
 dsimp only[G6]at C ⊢;have h:jR wEv a<=big:=C;exact toS_vc (K:=λr=>r=(_,())) (λx=>x.2.1.length+x.2.2.1.length<=big) _ a _ ahG (λx Z=>aHw (aHv _) (aHw (qL wEv a x Z) h)) rfl
theorem alX:OK Ji.e:=by
 refine aO [G6.e,vT.e] ⟨aje,Jz,⟨⟩⟩ H0 λd e a b=>show Ji.goal (alY d e a b) ((d,e,a,b,()),())fromλN C=>?_
 dsimp only[Ji]at C ⊢;have h:a.length+Ia b<=big:=C;exact⟨aHw (aJt _ _) h,aHw (aI3 _ _) h,rfl⟩
theorem ajg:OK G7.e:=by
 refine aO [Ji.e] ⟨alX,⟨⟩⟩ alZ λa=>show G7.goal (ajh a) (a,())fromλN C=>?_
 dsimp only[G7]at C ⊢;have h:jR TS a<=big:=C;exact toS_vc (K:=λr=>r=(_,())) (λx=>x.2.2.1.length+Ia x.2.2.2.1<=big) _ a _ ahG (λx Z=>aHw (aI3 _ _) (aHw (qL TS a x Z) h)) rfl
theorem aoP:OK Lp.e:=by
 refine aO [] ⟨⟩ H0 λa b=>show Lp.goal (aoQ a b) ((a,b,()),())fromλN C=>?_
 dsimp only[Lp]at C ⊢;exact rfl
theorem agB:OK EJ.e:=by
 refine aO [EI.e,Fv.e,Dx.e] ⟨agw,YP,Ws,⟨⟩⟩ H0 λa b d e f=>show EJ.goal (agC a b d e f) ((a,b,d,e,f,()),())fromλN C=>?_
 dsimp only[EJ]at C ⊢;have h:Dv (a,b,d,())+(wO e+P7 f)<=big:=C;rw[dJ]at h;exact⟨FT,FT,FT,rfl⟩
theorem aji:OK G8.e:=by
 refine aO [vT.e,G7.e,CB.e,Lp.e,EJ.e] ⟨Jz,ajg,aek,aoP,agB,⟨⟩⟩ H0 λb d e f g i j m k l a=>show G8.goal (ajj b d e f g i j m k l a) ((b,d,e,f,g,i,j,m,k,l,a,()),())fromλN C=>?_
 dsimp only[G8]at C ⊢;have h:ac6 (b,d,e,f,g,())+((i.length+j.length)+(AA k+(Jc l+a.length)))<=big:=C;rw[dJ]at h;exact⟨FT,trivial,FT,FT,FT,rfl⟩
theorem Wu:OK Dy.e:=by
 refine aO [] ⟨⟩ H0 λa b d e f g=>show Dy.goal (Wv a b d e f g) ((a,b,d,()),(e,f,g,()),())fromλN C=>?_
 dsimp only[Dy]at C ⊢;have C:(a,b,d,())=(e,f,g,()):=C;cases C;unfold Wv;simp
theorem aoR:OK Lr.e:=by
 refine aO [Dy.e] ⟨Wu,⟨⟩⟩ H0 λa b d e f g h i=>show Lr.goal (YQ a b d e f g h i) ((a,b,d,e,()),(f,g,h,i,()),())fromλN C=>?_
 dsimp only[Lr]at C ⊢;have C:(a,b,d,e,())=(f,g,h,i,()):=C;cases C;unfold YQ;simp
theorem aoS:OK Ls.e:=by
 refine aO [Dy.e] ⟨Wu,⟨⟩⟩ H0 λa b d e f g h i j k l m o q=>show Ls.goal (YR a b d e f g h i j k l m o q) ((a,b,d,e,f,g,h,()),(i,j,k,l,m,o,q,()),())fromλN C=>?_
 dsimp only[Ls]at C ⊢;have C:(a,b,d,e,f,g,h,())=(i,j,k,l,m,o,q,()):=C;cases C;unfold YR;simp
theorem al0:OK Jj.e:=by
 refine aO [Lr.e] ⟨aoR,⟨⟩⟩ aoT λa b=>show Jj.goal (al1 a b) (a,b,())fromλN C=>?_
 dsimp only[Jj]at C ⊢;obtain rfl:a=b:=C;exact af (λh=>absurd h vk) λ_=>dY a.length N.1.1 (λ_=>True) trivial (λI P n H _ next=>by dsimp only;exact bT lu ⟨⟨lu,lu⟩,⟨lu,lu⟩,rfl,rfl,next trivial⟩) λI P _=>by dsimp only;exact bP lu rfl
theorem al2:OK Jk.e:=by
 refine aO [Ls.e] ⟨aoS,⟨⟩⟩ aoU λa b=>show Jk.goal (al3 a b) (a,b,())fromλN C=>?_
 dsimp only[Jk]at C ⊢;obtain rfl:a=b:=C;exact af (λh=>absurd h vk) λ_=>dY a.length N.1.1 (λ_=>True) trivial (λI P n H _ next=>by dsimp only;exact bT lu ⟨⟨lu,lu⟩,⟨lu,lu⟩,rfl,rfl,next trivial⟩) λI P _=>by dsimp only;exact bP lu rfl
theorem aoV:OK Lu.e:=by
 refine aO [Jj.e] ⟨al0,⟨⟩⟩ H0 λa b d e f g h i j k=>show Lu.goal (YS a b d e f g h i j k) ((a,b,d,e,f,()),(g,h,i,j,k,()),())fromλN C=>?_
 dsimp only[Lu]at C ⊢;have C:(a,b,d,e,f,())=(g,h,i,j,k,()):=C;cases C;unfold YS;simp
theorem ard:OK Ny.e:=by
 refine aO [Jk.e] ⟨al2,⟨⟩⟩ H0 λa b d e=>show Ny.goal (abU a b d e) ((a,b,()),(d,e,()),())fromλN C=>?_
 dsimp only[Ny]at C ⊢;have C:(a,b,())=(d,e,()):=C;cases C;unfold abU;simp
theorem al4:OK Jl.e:=by
 refine aO [] ⟨⟩ H0 λa b d e=>show Jl.goal (Wx a b d e) ((a,b,()),(d,e,()),())fromλN C=>?_
 dsimp only[Jl]at C ⊢;have C:(a,b,())=(d,e,()):=C;cases C;unfold Wx;simp
theorem ajk:OK G9.e:=by
 refine aO [Jl.e] ⟨al4,⟨⟩⟩ al5 λa b=>show G9.goal (ajl a b) (a,b,())fromλN C=>?_
 dsimp only[G9]at C ⊢;obtain rfl:a=b:=C;exact af (λh=>absurd h vk) λ_=>dY a.length N.1.1 (λ_=>True) trivial (λI P n H _ next=>by dsimp only;exact bT lu ⟨⟨lu,lu⟩,⟨lu,lu⟩,rfl,rfl,next trivial⟩) λI P _=>by dsimp only;exact bP lu rfl
theorem al6:OK Jm.e:=by
 refine aO [Lu.e] ⟨aoV,⟨⟩⟩ aoW λa b=>show Jm.goal (al7 a b) (a,b,())fromλN C=>?_
 dsimp only[Jm]at C ⊢;obtain rfl:a=b:=C;exact af (λh=>absurd h vk) λ_=>dY a.length N.1.1 (λ_=>True) trivial (λI P n H _ next=>by dsimp only;exact bT lu ⟨⟨lu,lu⟩,⟨lu,lu⟩,rfl,rfl,next trivial⟩) λI P _=>by dsimp only;exact bP lu rfl
theorem YT:OK Fz.e:=by
 refine aO [Ny.e] ⟨ard,⟨⟩⟩ arf λa b=>show Fz.goal (aoX a b) (a,b,())fromλN C=>?_
 dsimp only[Fz]at C ⊢;obtain rfl:a=b:=C;exact af (λh=>absurd h vk) λ_=>dY a.length N.1.1 (λ_=>True) trivial (λI P n H _ next=>by dsimp only;exact bT lu ⟨⟨lu,lu⟩,⟨lu,lu⟩,rfl,rfl,next trivial⟩) λI P _=>by dsimp only;exact bP lu rfl
theorem JA:OK vU.e:=by
 refine aO [] ⟨⟩ arh λa b=>show vU.goal (aoY a b) (a,b,())fromλN C=>?_
 dsimp only[vU]at C ⊢;obtain rfl:a=b:=C;exact af (λh=>absurd h vk) λ_=>dY a.length N.1.1 (λ_=>True) trivial (λI P n H _ next=>by dsimp only;exact bT lu ⟨⟨lu,lu⟩,⟨lu,lu⟩,af (λh=>absurd h vk) λ_=>⟨rfl,next trivial⟩⟩) λI P _=>by dsimp only;exact bP lu rfl
theorem ajm:OK He.e:=by
 refine aO [vU.e] ⟨JA,⟨⟩⟩ H0 λa b d e=>show He.goal (UC a b d e) ((a,b,()),(d,e,()),())fromλN C=>?_
 dsimp only[He]at C ⊢;have C:(a,b,())=(d,e,()):=C;cases C;unfold UC;simp
theorem agD:OK EL.e:=by
 refine aO [He.e] ⟨ajm,⟨⟩⟩ ajn λa b=>show EL.goal (agE a b) (a,b,())fromλN C=>?_
 dsimp only[EL]at C ⊢;obtain rfl:a=b:=C;exact af (λh=>absurd h vk) λ_=>dY a.length N.1.1 (λ_=>True) trivial (λI P n H _ next=>by dsimp only;exact bT lu ⟨⟨lu,lu⟩,⟨lu,lu⟩,rfl,rfl,next trivial⟩) λI P _=>by dsimp only;exact bP lu rfl
theorem Wy:OK Dz.e:=by
 refine aO [Jm.e,G9.e] ⟨al6,ajk,⟨⟩⟩ H0 λa b d e f g=>show Dz.goal (WA a b d e f g) ((a,b,d,()),(e,f,g,()),())fromλN C=>?_
 dsimp only[Dz]at C ⊢;have C:(a,b,d,())=(e,f,g,()):=C;cases C;unfold WA;simp
theorem aem:OK CG.e:=by
 refine aO [Fz.e,Dz.e] ⟨YT,Wy,⟨⟩⟩ H0 λa b d e f g h i=>show CG.goal (QM a b d e f g h i) ((a,b,d,e,()),(f,g,h,i,()),())fromλN C=>?_
 dsimp only[CG]at C ⊢;have C:(a,b,d,e,())=(f,g,h,i,()):=C;cases C;unfold QM;simp
theorem agF:OK EN.e:=by
 refine aO [CG.e] ⟨aem,⟨⟩⟩ H0 λa b d e f g h i j k l m=>show EN.goal (RD a b d e f g h i j k l m) ((a,b,d,e,f,g,()),(h,i,j,k,l,m,()),())fromλN C=>?_
 dsimp only[EN]at C ⊢;have C:(a,b,d,e,f,g,())=(h,i,j,k,l,m,()):=C;cases C;unfold RD;simp
theorem aen:OK CJ.e:=by
 refine aO [EN.e] ⟨agF,⟨⟩⟩ agG λa b=>show CJ.goal (aeo a b) (a,b,())fromλN C=>?_
 dsimp only[CJ]at C ⊢;obtain rfl:a=b:=C;exact af (λh=>absurd h vk) λ_=>dY a.length N.1.1 (λ_=>True) trivial (λI P n H _ next=>by dsimp only;exact bT lu ⟨⟨lu,lu⟩,⟨lu,lu⟩,rfl,rfl,next trivial⟩) λI P _=>by dsimp only;exact bP lu rfl
theorem al8:OK Jo.e:=by
 refine aO [vU.e] ⟨JA,⟨⟩⟩ H0 λa b d e f g=>show Jo.goal (WB a b d e f g) ((a,b,d,()),(e,f,g,()),())fromλN C=>?_
 dsimp only[Jo]at C ⊢;have C:(a,b,d,())=(e,f,g,()):=C;cases C;unfold WB;simp
theorem ajo:OK Hf.e:=by
 refine aO [Jo.e] ⟨al8,⟨⟩⟩ al9 λa b=>show Hf.goal (ajp a b) (a,b,())fromλN C=>?_
 dsimp only[Hf]at C ⊢;obtain rfl:a=b:=C;exact af (λh=>absurd h vk) λ_=>dY a.length N.1.1 (λ_=>True) trivial (λI P n H _ next=>by dsimp only;exact bT lu ⟨⟨lu,lu⟩,⟨lu,lu⟩,rfl,rfl,next trivial⟩) λI P _=>by dsimp only;exact bP lu rfl
theorem ama:OK Jp.e:=by
 refine aO [Hf.e,vU.e] ⟨ajo,JA,⟨⟩⟩ H0 λa b d e f g h i=>show Jp.goal (WC a b d e f g h i) ((a,b,d,e,()),(f,g,h,i,()),())fromλN C=>?_
 dsimp only[Jp]at C ⊢;have C:(a,b,d,e,())=(f,g,h,i,()):=C;cases C;unfold WC;simp
theorem ajq:OK Hg.e:=by
 refine aO [Jp.e] ⟨ama,⟨⟩⟩ amb λa b=>show Hg.goal (ajr a b) (a,b,())fromλN C=>?_
 dsimp only[Hg]at C ⊢;obtain rfl:a=b:=C;exact af (λh=>absurd h vk) λ_=>dY a.length N.1.1 (λ_=>True) trivial (λI P n H _ next=>by dsimp only;exact bT lu ⟨⟨lu,lu⟩,⟨lu,lu⟩,rfl,rfl,next trivial⟩) λI P _=>by dsimp only;exact bP lu rfl
theorem aoZ:OK LC.e:=by
 refine aO [] ⟨⟩ H0 λa b d e=>show LC.goal (YU a b d e) ((a,b,()),(d,e,()),())fromλN C=>?_
 dsimp only[LC]at C ⊢;have C:(a,b,())=(d,e,()):=C;cases C;unfold YU;simp
theorem agH:OK EM.e:=by
 refine aO [EL.e,Fz.e,Dz.e] ⟨agD,YT,Wy,⟨⟩⟩ H0 λa b d e f g h i j k=>show EM.goal (RG a b d e f g h i j k) ((a,b,d,e,f,()),(g,h,i,j,k,()),())fromλN C=>?_
 dsimp only[EM]at C ⊢;have C:(a,b,d,e,f,())=(g,h,i,j,k,()):=C;cases C;unfold RG;simp
theorem ajs:OK Hl.e:=by
 refine aO [vU.e,Hg.e,CJ.e,LC.e,EM.e] ⟨JA,ajq,aen,aoZ,agH,⟨⟩⟩ H0 λd e f g h i j k l m a o q r s t u w y z A b=>show Hl.goal (UD d e f g h i j k l m a o q r s t u w y z A b) ((d,e,f,g,h,i,j,k,l,m,a,()),(o,q,r,s,t,u,w,y,z,A,b,()),())fromλN C=>?_
 dsimp only[Hl]at C ⊢;have C:(d,e,f,g,h,i,j,k,l,m,a,())=(o,q,r,s,t,u,w,y,z,A,b,()):=C;cases C;unfold UD;simp
theorem aqj:∀a:List oM,jG a<=Ia a
 |[]=>aHV _
 |e::l=>by
  have E:=aqj l;have U:jG (e::l)=e.2.1.length+jG l:=by unfold jG;rw[aHT,aIu]
  have j:Ia (e::l)=1+(e.2.1.length+e.2.2.1.length)+Ia l:=rfl;omega
theorem aBH(h:W9 x<=1048576):Sp.hugeS x:=by
 obtain⟨a,l,n,d,r,b,f,m,v,w,q,⟨⟩⟩:=x;have h:(Dv (a,l,n,())+(wO d+P7 r))+((b.length+f.length)+(AA v+(Jc w+q.length)))<=1048576:=h;have i:jR Nu d<=1048576:=by have:wO d=jR Nu d:=rfl;omega
 have k:jR TS w<=1048576:=by have:Jc w=jR TS w:=rfl;omega
 refine⟨⟨?_,λx Z=>?_⟩,?_,λx Z=>?_⟩
 .show d.length<=2000000;rw[jO]at i;omega
 .have h1:=qL Nu d x Z;have O:Nu x=x.1.length+Kw x.2.1:=rfl;have U:Kw x.2.1=x.2.1.length+JZ VJ x.2.1:=jO _ _;omega
 .show w.length<=2000000;rw[jO]at k;omega
 .have h1:=qL TS w x Z;have O:TS x=x.2.1.length+(x.2.2.1.length+Ia x.2.2.2.1):=rfl;have U:Ia x.2.2.2.1=x.2.2.2.1.length+JZ wEv x.2.2.2.1:=jO _ _;have j:=aqj x.2.2.2.1;refine⟨by unfold Q8;omega,lu,λe g=>?_⟩;have M:wEv e<=Ia x.2.2.2.1:=qL wEv _ e g;have o:wEv e=e.2.1.length+e.2.2.1.length:=rfl;exact⟨lu,lu⟩
theorem aCP{v:List nS}(h:AA v<=1048576):Zr v:=by
 have S:jR WZ v<=1048576:=h;have Q:=jO WZ v;refine⟨lu,λx Z=>?_⟩;have E:=qL WZ v x Z;obtain⟨m,a,l,n,d,p,⟨⟩⟩:=x;have E:(jR TP a+jR P6 l)+jR Nu d<=jR WZ v:=E;have t:=jO TP a;have J:=jO P6 l;have u:=jO Nu d;refine⟨⟨show a.length<=2000000 from lu,show l.length<=2000000 from lu,λf j=>?_⟩,show d.length<=2000000 from lu,λe g=>?_⟩
 .have U:=qL P6 l f j;obtain⟨i,o,s,k,b,⟨⟩⟩:=f;have U:jR Zt b<=jR P6 l:=U;have M:=jO Zt b;show b.length<=2000000;omega
 .have U:=qL Nu d e g;obtain⟨r,q,⟨⟩⟩:=e;have U:r.length+jR VJ q<=jR Nu d:=U;have M:=jO VJ q;show q.length<=2000000;omega
theorem aBI(h:W9 x<=1048576):VI x:=by obtain⟨E,O⟩:=aBH h;obtain⟨a,l,n,d,r,b,e,m,v,w,q,⟨⟩⟩:=x;have h:(Dv (a,l,n,())+(wO d+P7 r))+((b.length+e.length)+(AA v+(Jc w+q.length)))<=1048576:=h;exact⟨E,⟨show b.length<=1048576 from lu,show e.length<=1048576 from lu⟩,aCP (show AA v<=1048576 from lu),O⟩
theorem PS:OK uV.e:=by
 refine aO [Hl.e,wL.e,wM.e,G8.e,GY.e] ⟨ajs,YK,YM,aji,ai7,⟨⟩⟩ H0 λb d e f i j k l m o a=>show uV.goal (PU b d e f i j k l m o a) ((b,d,e,f,i,j,k,l,m,o,a,()),())fromλN C=>?_
 dsimp only[uV]at C ⊢;refine⟨⟨lZ,lZ⟩,?_⟩;dsimp only;generalize r:W9 (b,d,e,f,i,j,k,l,m,o,a,())=W;by_cases h:W<=1048576
 .have hb:W<=big:=FT;have q:=aBI (by rw[r];exact h);rw[Ox lu,aHD lu];refine⟨hb,q,hb,q,af (λg=>?_) λ_=>⟨hb,rfl,rfl⟩⟩;simp at g
 .unfold aT;rw[if_pos lu];rfl
end Go.Proofs.Tryz
