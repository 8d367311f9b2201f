import Derived.Test.YtkgkfdphbkfjnaaGreatP21
namespace Go.Proofs.Tryz
open Go Go.Fw Go.IntWalk Sp
theorem Y6:OK Am.e:=by
 refine XA.ok mixed (au [pF.e,xY.e,kQ.e,zf.e,yY.e,mJ.e] ⟨zH,U9,qR,Wu,OX,uZ,trivial⟩) aaQ (λ⟨c,f,_⟩ _=>by obtain⟨c',df,h⟩:=abI c f;exact⟨((((c'.1,c'.2.1,c'.2.2.1,c'.2.2.2.1,c'.2.2.2.2.1,()),df,(cO c&&(aT (aX c) f).2),()),())),h⟩) (by kernel_rfl) (show∀l0 l1 l2 l3 l4 f0 f1 f2 f3 f4,Am.goal (Y7 l0 l1 l2 l3 l4 f0 f1 f2 f3 f4) ((l0,l1,l2,l3,l4,()),(f0,f1,f2,f3,f4,()),())from ?_);intro a l nx d r f0 f1 f2 f3 f4 hin hp;dsimp only[Am]at hp ⊢;obtain⟨hc,hf,hhc,hhf⟩:=hp;refine⟨hc,?_⟩;rintro⟨⟨c',⟨⟩⟩,⟨⟩⟩ ec;have ec:c'=(a,l,nx,d,r,()):=ec;subst ec;refine⟨hc.1,⟨hc.1,hf⟩,?_⟩;rintro⟨⟨⟨sa,sl,sn,⟨⟩⟩,ok,⟨⟩⟩,⟨⟩⟩ ⟨e1,e2,e3,e4⟩;have es:((sa,sl,sn,()):bU)=(aT (a,l,nx,()) (f0,f1,f2,f3,f4,())).1:=Dj e1 e2 e3;have e4:ok=(aT (a,l,nx,()) (f0,f1,f2,f3,f4,())).2:=e4;have bad:(cO (a,l,nx,d,r,())&&(aT (a,l,nx,()) (f0,f1,f2,f3,f4,())).2)=false->Sp.updated (a,l,nx,d,r,()) (f0,f1,f2,f3,f4,()) (a,l,nx,d,r,()) [] false:=λhz=>⟨hz.symm,λh=>(by cases h),λ_=>⟨rfl,rfl⟩⟩;dsimp only;refine⟨hc,af (λh2=>bad ?_) λh2=>af (λh=>bad ?_) λh=>?_⟩
 .rw[dQ h2];rfl
 .have h:ok=false:=dQ h;rw[← e4,h,au5]
 have h:ok=true:=bP h;have h2:=bP h2;obtain⟨hst,hok,hev⟩:=kU h2;have hst:aj d=true:=hst;have hlen:=(jw hst).2;have hfind:bV (bf (a,l,nx,()) f0).1/\TV (bf (a,l,nx,()) f0).1:=by
  rcases qj l f0 with⟨h,_⟩|⟨n,hn,h,_,_⟩
  .have e:bf (a,l,nx,()) f0=(Yz,false):=by show(bif decide (Sp.place l f0<0)then _ else _)=_;rw[h];rfl
   rw[e];exact⟨auX _,auX _⟩
  .have e:bf (a,l,nx,()) f0=(Sp.fileAt l n,true):=by show(bif decide (Sp.place l f0<0)then _ else(Sp.fileAt l (Sp.place l f0).toNat,true))=_;rw[h,auD (by omega)];rfl
   rw[e];have hm:Sp.fileAt l n∈l:=getD_mem hn;exact⟨hc.1.2.2 _ hm,hhc _ hm⟩
 have hh:(bf (a,l,nx,()) f0).1.2.2.2.2.1.length<=500:=hfind.2;have hh2:f4.length<=500:=hhf;have hrep:(aT (a,l,nx,()) (f0,f1,f2,f3,f4,())).2=true:=e4▸h;have hz:(aj d&&aB (aT (a,l,nx,()) (f0,f1,f2,f3,f4,())).1)=true:=by rw[hst,U6 hrep];rfl
 have hz2:(cO (a,l,nx,d,r,())&&(aT (a,l,nx,()) (f0,f1,f2,f3,f4,())).2)=true:=by rw[h2,hrep];rfl
 refine⟨⟨hc.2.1,hlen,hfind.1,hf,by omega⟩,λr10 apm=>⟨⟨hc,?_,hc.2.1,?_⟩,λr11 akt=>?_⟩⟩
 .rw[es];exact Tt hc.1 hf
 .rw[es];exact hz
 .rw[es]at akt;obtain⟨g1,g2,g3⟩:=akt;obtain⟨k1,k2,k3,k4⟩:=g2 rfl;exact⟨hz2.symm,λ_=>⟨k1,k2,KT k3 (λi hi=>al4 apm _) λ_ _ _=>rfl,k4⟩,λhno=>by cases hno⟩
theorem aqB{a b:eF}(h1:aX a=aX b)(h2:bG a=bG b)(h3:oQ a=oQ b):a=b:=by obtain⟨x1,x2,x3,x4,x5,_⟩:=a;obtain⟨y1,y2,y3,y4,y5,_⟩:=b;have t1:x1=y1:=congrArg (λs:bU=>s.1) h1;have t2:x2=y2:=congrArg (λs:bU=>s.2.1) h1;have t3:x3=y3:=congrArg (λs:bU=>s.2.2.1) h1;have t4:x4=y4:=h2;have t5:x5=y5:=h3;rw[t1,t2,t3,t4,t5]
theorem aps{a b:eF}(ha:cO a=true)(hb:cO b=true)(h1:aX a=aX b)(h2:bG a=bG b):a=b:=by obtain⟨hst,_,e1⟩:=kU ha;obtain⟨_,_,e2⟩:=kU hb;have hf:a.2.1=b.2.1:=congrArg (λs:bU=>s.2.1) h1;rw[← hf,← h2]at e2;exact aqB h1 h2 (OZ (jw hst).1 e1 e2)
end Go.Proofs.Tryz
