import Derived.Test.YtkgkfdphbkfjnaaGreatP24
namespace Go.Proofs.Tryz
open Go Go.Fw Go.IntWalk Sp
theorem Za:OK Aq.e:=by
 refine XA.ok mixed (au [oV.e,lq.e,qo.e,lU.e] ⟨Ee,wF,Di,vS,trivial⟩) aaR (λ⟨s,f,_⟩ _=>⟨((((aI s f).1.1,(aI s f).1.2.1,(aI s f).1.2.2.1,()),(aI s f).2.1,(aI s f).2.2,()),()),⟨rfl,rfl,rfl,rfl,rfl⟩⟩) (by kernel_rfl) (show∀s0 s1 s2 f0 f1 f2 f3 f4,Aq.goal (Zb s0 s1 s2 f0 f1 f2 f3 f4) ((s0,s1,s2,()),(f0,f1,f2,f3,f4,()),())from ?_);intro s0 s1 s2 f0 f1 f2 f3 f4 hin hp;dsimp only[Aq]at hp ⊢;refine⟨hp.1,?_⟩;rintro⟨⟨⟨a,l,nx,⟨⟩⟩,⟨⟩⟩,⟨⟩⟩ e;obtain⟨rfl,rfl,rfl⟩:a=s0/\l=s1/\nx=s2:=by simpa using e
 have hs:l.length<=1000:=hp.1.2.1;have no:¬(aB (a,l,nx,())=true/\l.length<12/\dD a (nx,f1,f2,f3,f4,())=true)->aI (a,l,nx,()) (f0,f1,f2,f3,f4,())=((a,l,nx,()),0,false):=λh=>by
  rcases kS (a,l,nx,()) (f0,f1,f2,f3,f4,())with⟨e,_⟩|⟨h1,h2,h3,_⟩
  .exact e
  .exact(h ⟨h1,h2,h3⟩).elim
 refine⟨hp.2,trivial,af (λh1=>?_) λh1=>af (λh2=>?_) λh2=>⟨trivial,af (λh3=>?_) λh3=>?_⟩⟩
 .have:=no λh=>by have h1:=dQ h1;have:=h.1;rw[show aB (a,l,nx,())=false from h1]at this;cases this
  dsimp only;rw[this];exact⟨rfl,rfl,rfl,rfl,rfl⟩
 .have:=no λh=>by have h2:(l.length:Int)>=12:=fG h2;omega
  dsimp only;rw[this];exact⟨rfl,rfl,rfl,rfl,rfl⟩
 .have:=no λh=>by have h3:=dQ h3;have:=h.2.2;rw[show dD a (nx,f1,f2,f3,f4,())=false from h3]at this;cases this
  dsimp only;rw[this];exact⟨rfl,rfl,rfl,rfl,rfl⟩
 .have g1:aB (a,l,nx,())=true:=bP h1;have g2:l.length<12:=by have h2:¬(l.length:Int)>=12:=fZ h2;omega
  have g3:dD a (nx,f1,f2,f3,f4,())=true:=bP h3;rcases kS (a,l,nx,()) (f0,f1,f2,f3,f4,())with⟨_,e⟩|⟨_,_,_,e⟩
  .exact(e ⟨g1,g2,g3⟩).elim
  .have hnx:=(kH.1 g1).2.2.2;have w:IntKind.i64.wrap (nx+1)=nx+1:=eP _ (by have h5:nx<=61:=hnx.2;have h6:1<=nx:=hnx.1;omega);refine⟨by rw[bY];simp only[auv,auz];omega,?_⟩;dsimp only;rw[e,w];exact⟨rfl,rfl,rfl,rfl,rfl⟩
theorem MF:OK qf.e:=by
 refine XA.ok mixed (au [] trivial) NK (λ⟨s,i,j,_⟩ _=>⟨((s.take i.toNat++s.drop j.toNat,()),()),rfl⟩) (by kernel_rfl) (show∀s i j,qf.goal (MG s i j) (s,i,j,())from ?_);intro s i j hin hp;dsimp only[qf]at hp ⊢;obtain⟨h0,h1,h2⟩:0<=i/\i<=j/\j<=(s.length:Int):=hp;obtain⟨a,rfl⟩:∃a:Nat,i=a:=⟨i.toNat,by omega⟩;obtain⟨b,rfl⟩:∃b:Nat,j=b:=⟨j.toNat,by omega⟩;refine⟨⟨h0,h1,h2,au7 _⟩,af (λh=>?_) λh=>?_⟩
 .have h:(a:Int)=b:=by simpa using h
  have:a=b:=by omega
  subst this;show s=s.take a++s.drop a;rw[avJ]
 .have h:¬(a:Int)=b:=by simpa using h
  have hb:b<=s.length:=by omega
  have hab:a<b:=by omega
  simp only[auA,Nat.sub_zero,auY];have hn:(List.take (s.length-b) (List.drop b s)).length=s.length-b:=by rw[aut,au2];omega
  have hd:List.take (s.length-b) (List.drop b s)=List.drop b s:=avt (by rw[au2];omega);have l1:(bZ s a (List.take (s.length-b) (List.drop b s))).length=s.length:=Ku (by rw[hn];omega);have l2:(bZ (bZ s a (List.take (s.length-b) (List.drop b s))) (a+(s.length-b)) (List.replicate (s.length-(a+(s.length-b))) ((0:Int),(0:Int),false,(0:Int),([]:List dL),()))).length=s.length:=by rw[Ku (by rw[l1,awk];omega),l1]
  rw[l1,l2];refine⟨by omega,⟨by omega,by omega⟩,⟨by omega,by omega⟩,⟨by omega,by omega⟩,⟨by omega,by omega,by omega⟩,by omega,⟨by omega,by omega⟩,?_⟩;show List.take (a+(s.length-b)) (bZ _ _ _)=s.take a++s.drop b;rw[Qw (auI _) (by rw[l1];omega),akk (by rw[hn]) (by omega),hd]
theorem Zc:OK Ar.e:=by
 refine XA.ok mixed (au [qf.e,lq.e,yB.e,lU.e] ⟨MF,wF,Kz,vS,trivial⟩) aaS (λ⟨s,id,_⟩ _=>⟨((((aV s id).1.1,(aV s id).1.2.1,(aV s id).1.2.2.1,()),(aV s id).2,()),()),⟨rfl,rfl,rfl,rfl⟩⟩) (by kernel_rfl) (show∀s0 s1 s2 id,Ar.goal (Zd s0 s1 s2 id) ((s0,s1,s2,()),id,())from ?_);intro s0 s1 s2 id hin hp;dsimp only[Ar]at hp ⊢;refine⟨hp,?_⟩;rintro⟨⟨⟨a,l,nx,⟨⟩⟩,⟨⟩⟩,⟨⟩⟩ e;obtain⟨rfl,rfl,rfl⟩:a=s0/\l=s1/\nx=s2:=by simpa using e
 have hs:l.length<=1000:=hp.2.1;have no:¬(aB (a,l,nx,())=true/\0<=Sp.place l id)->aV (a,l,nx,()) id=((a,l,nx,()),false):=λh=>by
  rcases oN (a,l,nx,()) id with⟨e,_⟩|⟨n,hn,h1,h2,_⟩
  .exact e
  .exact(h ⟨h2,by have h1:Sp.place l id=n:=h1;omega⟩).elim
 refine⟨trivial,trivial,af (λh1=>?_) λh1=>af (λh2=>?_) λh2=>?_⟩
 .have:=no λh=>by have h1:=dQ h1;have:=h.1;rw[show aB (a,l,nx,())=false from h1]at this;cases this
  dsimp only;rw[this];exact⟨rfl,rfl,rfl,rfl⟩
 .have:=no λh=>by have h2:Sp.place l id<0:=fG h2;omega
  dsimp only;rw[this];exact⟨rfl,rfl,rfl,rfl⟩
 .have g1:aB (a,l,nx,())=true:=bP h1;have g2:0<=Sp.place l id:=by have h2:¬Sp.place l id<0:=fZ h2;omega
  rcases oN (a,l,nx,()) id with⟨_,e⟩|⟨n,hn,hpl,_,e⟩
  .exact(e ⟨g1,g2⟩).elim
  .have hn:n<l.length:=hn;have hpl:Sp.place l id=n:=hpl;have w:IntKind.i64.wrap ((n:Int)+1)=((n+1:Nat):Int):=eP _ (by omega);dsimp only;rw[hpl,e,w,auA,auA];refine⟨⟨by omega,by omega,by omega⟩,?_⟩;rintro⟨⟨x,⟨⟩⟩,⟨⟩⟩ e2;have e2:x=l.take n++l.drop (n+1):=e2;subst e2;exact⟨rfl,(aw8 ..).symm,rfl,rfl⟩
theorem adg:OK Et.e:=by
 refine PA.ok mixed (au [zi.e] ⟨O9,trivial⟩) H0 (by kernel_rfl) (show∀a0 a1 a2 b0 b1 b2,Et.goal (adh a0 a1 a2 b0 b1 b2) ((a0,a1,a2,()),(b0,b1,b2,()),())from ?_);intro a0 a1 a2 b0 b1 b2 hin hp;dsimp only[Et]at hp ⊢;refine af (λh0=>⟨trivial,af (λh1=>⟨trivial,?_⟩) λh1=>?_⟩) λh0=>?_
 all_goals refine congrArg (·,()) (auS.2 ?_)
 .simp[auE.1 h0,fG h1]
 .simp[fZ h1]
 .simp[show a0≠b0 by simpa using h0]
theorem aaT:OK CQ.e:=by refine PA.ok mixed (au [Et.e] ⟨adg,trivial⟩) adi (by kernel_rfl) (show∀a b,CQ.goal (aaU a b) (a,b,())from ?_);intro a b hin hp;dsimp only[CQ]at hp ⊢;exact apk (K:=λr=>r=(decide (a=b),())) (λx y=>!decide (x=y)) (λx y=>by simp) _ a b _ hin.1.1 rfl
theorem afA{c c':eF}{x:aF}{df:List lJ}{ok:Bool}{r:Sp.LS}(hcur:cO c=true)(hset:(cZ (bG c) x).2=true)(hst:aj (cZ (bG c) x).1=true)
 (hr:Sp.reached (cZ (bG c) x).1 [(x.1,())] r) (h:Sp.turned c (aX c) (cZ (bG c) x).1 (dI r) c' df ok):
 Sp.became c (aX c) (cZ (bG c) x).1 (cO c&&((cZ (bG c) x).2&&aj (cZ (bG c) x).1)) c' df ok:=by
 obtain⟨k1,k2,k3⟩:=kU hcur;obtain⟨g1,g2,g3⟩:=aqC hset;rw[hcur,hset,hst];refine Vb h (by rw[hst,k2];rfl) λR E hR hE=>?_;have hn:=hr.2;rw[show(λs=>dI [(x.1,())] s=true)=λt=>t=x.1 from funext λs=>propext (by rw[gK];simp)]at hn;rw[g3]at hR hE hn;exact apv g1 g2 hn k3 hR hE
theorem afB{c c':eF}{s:bU}{df:List lJ}{ok:Bool}(hcur:cO c=true)(hs:aB s=true)(h:Sp.turned c s (bG c) (dI (fP (bG c))) c' df ok):Sp.became c s (bG c) true c' df ok:=by obtain⟨k1,k2,k3⟩:=kU hcur;exact Vb h (by rw[k1,hs];rfl) λR E hR hE=>OZ (jw k1).1 (apw hR) hE
theorem stays{c:eF}{s:bU}{d:List aF}{b:Bool}(hb:b=false){z:eF}(e:z=c):Sp.became c s d b z [] false:=⟨hb.symm,λh=>(by cases h),λ_=>⟨e,rfl⟩⟩
theorem aot{c:eF}{x:aF}(h:(cO c&&((cZ (bG c) x).2&&aj (cZ (bG c) x).1))=true):(aj (cZ (bG c) x).1&&aB (aX c))=true:=by simp only[auq]at h ⊢;exact⟨h.2.2,(kU h.1).2.1⟩
theorem aaV:OK CO.e:=by
 refine XA.ok mixed (au [lV.e,jq.e,iW.e,xM.e,jJ.e,Hu.e] ⟨vV,sK,lH,UJ,ng,aho,trivial⟩) H0 (λ⟨c,x,_⟩ _=>by obtain⟨c',df,h⟩:=zI c (aX c) (cZ (bG c) x).1 _ (aot (c:=c) (x:=x));exact⟨((((c'.1,c'.2.1,c'.2.2.1,c'.2.2.2.1,c'.2.2.2.2.1,()),df,_,()),())),h⟩) (by kernel_rfl) (show∀c0 c1 c2 c3 c4 x0 x1,CO.goal (aaW c0 c1 c2 c3 c4 x0 x1) ((c0,c1,c2,c3,c4,()),(x0,x1,()),())from ?_);intro a l nx d r x0 x1 hin hp;dsimp only[CO]at hp ⊢;obtain⟨⟨hc,hh,h10⟩,hx⟩:iU (a,l,nx,d,r,())/\x1.length<=1000:=hp;have h10:d.length<=10:=h10;have hsm:aC d:=hc.2.1;have sm:=Y9 (x:=(x0,x1,())) hsm (by omega) hx;refine⟨⟨hsm,by omega,hx⟩,?_⟩;rintro⟨⟨o,ok,⟨⟩⟩,⟨⟩⟩ ⟨e1,e2⟩;obtain rfl:o=(cZ d (x0,x1,())).1:=e1;obtain rfl:ok=(cZ d (x0,x1,())).2:=e2;refine af (λh=>⟨hc,λr1 hr1=>stays ?_ hr1⟩) λh=>⟨hc,af (λh2=>⟨hc,λr3 hr3=>stays ?_ hr3⟩) λh2=>⟨sm,af (λh4=>⟨hc,λr5 QD=>stays ?_ QD⟩) λh4=>⟨⟨sm,(jw (bP h4)).2,by simp⟩,λr6 IE=>⟨⟨hc,hc.1,sm⟩,λr7 Y5=>?_⟩⟩⟩⟩
 .have h:(cZ d (x0,x1,())).2=false:=dQ h;show(_&&((cZ d (x0,x1,())).2&&_))=false;rw[h,awt,au5]
 .rw[dQ h2];rfl
 .show(_&&(_&&aj (cZ d (x0,x1,())).1))=false;rw[dQ h4,au5,au5]
 .exact afA (c:=(a,l,nx,d,r,())) (x:=(x0,x1,())) (bP h2) (bP h) (bP h4) IE Y5
theorem aaX:OK CP.e:=by
 refine XA.ok mixed (au [pF.e,jr.e,rO.e,kQ.e,Hw.e,mJ.e] ⟨zH,sN,Ju,qR,ahq,uZ,trivial⟩) adk (λ⟨c,x,_⟩ _=>by obtain⟨c',df,h⟩:=zI c (aX c) (cZ (bG c) x).1 _ (aot (c:=c) (x:=x));exact⟨((((c'.1,c'.2.1,c'.2.2.1,c'.2.2.2.1,c'.2.2.2.2.1,()),df,_,()),())),h⟩) (by kernel_rfl) (show∀l0 l1 l2 l3 l4 x0 x1,CP.goal (aaY l0 l1 l2 l3 l4 x0 x1) ((l0,l1,l2,l3,l4,()),(x0,x1,()),())from ?_);intro a l nx d r x0 x1 hin hp;dsimp only[CP]at hp ⊢;obtain⟨⟨hc,hh,h10⟩,hx⟩:iU (a,l,nx,d,r,())/\x1.length<=1000:=hp;have h10:d.length<=10:=h10;have hsm:aC d:=hc.2.1;have sm:=Y9 (x:=(x0,x1,())) hsm (by omega) hx;refine⟨hc,?_⟩;rintro⟨⟨c0,⟨⟩⟩,⟨⟩⟩ ec;obtain rfl:c0=(a,l,nx,d,r,()):=ec;refine⟨⟨hsm,by show d.length<=900;omega,hx⟩,?_⟩;rintro⟨⟨o,ok,⟨⟩⟩,⟨⟩⟩ ⟨e1,e2⟩;obtain rfl:o=(cZ d (x0,x1,())).1:=e1;obtain rfl:ok=(cZ d (x0,x1,())).2:=e2;refine⟨λ_=>cO (a,l,nx,d,r,())=true/\(cZ d (x0,x1,())).2=true/\aj (cZ d (x0,x1,())).1=true,⟨hc,af (λh2=>stays ?_ rfl) λh2=>af (λh=>stays ?_ rfl) λh=>⟨sm,af (λh4=>stays ?_ rfl) λh4=>⟨rfl,bP h2,bP h,bP h4⟩⟩⟩,λ_ hJ=>?_⟩
 .rw[dQ h2];rfl
 .have h:(cZ d (x0,x1,())).2=false:=dQ h;show(_&&((cZ d (x0,x1,())).2&&_))=false;rw[h,awt,au5]
 .show(_&&(_&&aj (cZ d (x0,x1,())).1))=false;rw[dQ h4,au5,au5]
 .obtain⟨j1,j2,j3⟩:=hJ;refine⟨⟨sm,(jw j3).2,by simp⟩,λr6 IE=>⟨⟨hc,hc.1,sm,?_⟩,λr7 Y5=>afA (c:=(a,l,nx,d,r,())) (x:=(x0,x1,())) j1 j2 j3 IE Y5⟩⟩;have:=(kU j1).2.1;have this:aB (a,l,nx,())=true:=this;rw[j3,this];rfl
theorem aky{c:eF}{f:aK}(h:(cO c&&(aI (aX c) f).2.2)=true):(aj (bG c)&&aB (aI (aX c) f).1)=true:=by simp only[auq]at h ⊢;exact⟨(kU h.1).1,FW f (kU h.1).2.1⟩
theorem akz{c:eF}{id:Int}(h:(cO c&&(aV (aX c) id).2)=true):(aj (bG c)&&aB (aV (aX c) id).1)=true:=by simp only[auq]at h ⊢;exact⟨(kU h.1).1,FX id (kU h.1).2.1⟩
theorem afC{c c':eF}{f:aK}{df:List lJ}{ok:Bool}{id:Int}(hcur:cO c=true)(hk:(aI (aX c) f).2.2=true)(hid:id=(aI (aX c) f).2.1)(h:Sp.turned c (aI (aX c) f).1 (bG c) (dI (fP (bG c))) c' df ok):
 Sp.became c (aI (aX c) f).1 (bG c) (cO c&&(aI (aX c) f).2.2) c' df ok/\id=(bif ok then(aI (aX c) f).2.1 else 0):=by
 have hb:=afB hcur (FW f (kU hcur).2.1) h;rw[hcur,hk];refine⟨hb,?_⟩;rw[hb.1];exact hid
theorem afD{c c':eF}{n:Int}{df:List lJ}{ok:Bool}(hcur:cO c=true)(hk:(aV (aX c) n).2=true)(h:Sp.turned c (aV (aX c) n).1 (bG c) (dI (fP (bG c))) c' df ok):
 Sp.became c (aV (aX c) n).1 (bG c) (cO c&&(aV (aX c) n).2) c' df ok:=by
 rw[hcur,hk];exact afB hcur (FX n (kU hcur).2.1) h
theorem afE:OK FI.e:=by
 refine XA.ok mixed (au [lV.e,qA.e,iW.e,jJ.e,Aq.e] ⟨vV,Dp,lH,ng,Za,trivial⟩) H0 (λ⟨c,f,_⟩ _=>by obtain⟨c',df,h⟩:=zI c (aI (aX c) f).1 (bG c) _ (aky (c:=c) (f:=f));exact⟨((((c'.1,c'.2.1,c'.2.2.1,c'.2.2.2.1,c'.2.2.2.2.1,()),(bif (cO c&&(aI (aX c) f).2.2)then(aI (aX c) f).2.1 else 0),df,(cO c&&(aI (aX c) f).2.2),()),())),⟨h,rfl⟩⟩) (by kernel_rfl) (show∀c0 c1 c2 c3 c4 f0 f1 f2 f3 f4,FI.goal (afF c0 c1 c2 c3 c4 f0 f1 f2 f3 f4) ((c0,c1,c2,c3,c4,()),(f0,f1,f2,f3,f4,()),())from ?_);intro a l nx d r f0 f1 f2 f3 f4 hin hp;dsimp only[FI]at hp ⊢;obtain⟨⟨hc,hh,h10⟩,hf⟩:=hp;have hl:d.length<=1000:=hc.2.1.1;refine⟨⟨hc.1,hf⟩,?_⟩;rintro⟨⟨⟨sa,sl,sn,⟨⟩⟩,id,ok,⟨⟩⟩,⟨⟩⟩ ⟨e1,e2,e3,e4,e5⟩;have es:((sa,sl,sn,()):bU)=(aI (a,l,nx,()) (f0,f1,f2,f3,f4,())).1:=Dj e1 e2 e3;have e5:ok=(aI (a,l,nx,()) (f0,f1,f2,f3,f4,())).2.2:=e5;refine af (λh=>⟨hc,λr1 hr1=>⟨stays ?_ hr1,rfl⟩⟩) λh=>⟨hc,af (λh2=>⟨hc,λr3 hr3=>⟨stays ?_ hr3,rfl⟩⟩) λh2=>⟨hl,⟨hc,?_,hc.2.1⟩,λr4 hr4=>?_⟩⟩
 .show(_&&(aI (a,l,nx,()) (f0,f1,f2,f3,f4,())).2.2)=false;rw[← e5,show ok=false from dQ h,au5]
 .rw[dQ h2];rfl
 .rw[es];exact L8 hc.1 hf
 .rw[es]at hr4;exact afC (c:=(a,l,nx,d,r,())) (bP h2) (e5.symm.trans (bP h)) e4 hr4
theorem afG:OK FK.e:=by
 refine XA.ok mixed (au [pF.e,uM.e,kQ.e,qN.e,mJ.e] ⟨zH,Ih,qR,EY,uZ,trivial⟩) ahs (λ⟨c,f,_⟩ _=>by obtain⟨c',df,h⟩:=zI c (aI (aX c) f).1 (bG c) _ (aky (c:=c) (f:=f));exact⟨((((c'.1,c'.2.1,c'.2.2.1,c'.2.2.2.1,c'.2.2.2.2.1,()),(bif (cO c&&(aI (aX c) f).2.2)then(aI (aX c) f).2.1 else 0),df,(cO c&&(aI (aX c) f).2.2),()),())),⟨h,rfl⟩⟩) (by kernel_rfl) (show∀l0 l1 l2 l3 l4 f0 f1 f2 f3 f4,FK.goal (afH l0 l1 l2 l3 l4 f0 f1 f2 f3 f4) ((l0,l1,l2,l3,l4,()),(f0,f1,f2,f3,f4,()),())from ?_);intro a l nx d r f0 f1 f2 f3 f4 hin hp;dsimp only[FK]at hp ⊢;obtain⟨⟨hc,hh,h10⟩,hf⟩:=hp;have hl:d.length<=1000:=hc.2.1.1;refine⟨hc,?_⟩;rintro⟨⟨c0,⟨⟩⟩,⟨⟩⟩ ec;obtain rfl:c0=(a,l,nx,d,r,()):=ec;refine⟨⟨hc.1,hf⟩,?_⟩;rintro⟨⟨⟨sa,sl,sn,⟨⟩⟩,id,ok,⟨⟩⟩,⟨⟩⟩ ⟨e1,e2,e3,e4,e5⟩;have es:((sa,sl,sn,()):bU)=(aI (a,l,nx,()) (f0,f1,f2,f3,f4,())).1:=Dj e1 e2 e3;have e5:ok=(aI (a,l,nx,()) (f0,f1,f2,f3,f4,())).2.2:=e5;refine⟨hc,af (λh2=>⟨stays ?_ rfl,rfl⟩) λh2=>af (λh=>⟨stays ?_ rfl,rfl⟩) λh=>⟨hl,⟨hc,?_,hc.2.1,?_⟩,λr4 hr4=>?_⟩⟩
 .rw[dQ h2];rfl
 .show(_&&(aI (a,l,nx,()) (f0,f1,f2,f3,f4,())).2.2)=false;rw[← e5,show ok=false from dQ h,au5]
 .rw[es];exact L8 hc.1 hf
 .rw[es];exact aky (c:=(a,l,nx,d,r,())) (f:=(f0,f1,f2,f3,f4,())) (by rw[bP h2,av8];exact e5.symm.trans (bP h))
 .rw[es]at hr4;exact afC (c:=(a,l,nx,d,r,())) (bP h2) (e5.symm.trans (bP h)) e4 hr4
theorem Ze:OK Au.e:=by
 refine XA.ok mixed (au [lV.e,qA.e,iW.e,jJ.e,Ar.e] ⟨vV,Dp,lH,ng,Zc,trivial⟩) H0 (λ⟨c,n,_⟩ _=>by obtain⟨c',df,h⟩:=zI c (aV (aX c) n).1 (bG c) _ (akz (c:=c) (id:=n));exact⟨((((c'.1,c'.2.1,c'.2.2.1,c'.2.2.2.1,c'.2.2.2.2.1,()),df,_,()),())),h⟩) (by kernel_rfl) (show∀c0 c1 c2 c3 c4 id,Au.goal (Zf c0 c1 c2 c3 c4 id) ((c0,c1,c2,c3,c4,()),id,())from ?_);intro a l nx d r n hin hp;dsimp only[Au]at hp ⊢;obtain⟨hc,hh,h10⟩:=hp;have hl:d.length<=1000:=hc.2.1.1;refine⟨hc.1,?_⟩;rintro⟨⟨⟨sa,sl,sn,⟨⟩⟩,ok,⟨⟩⟩,⟨⟩⟩ ⟨e1,e2,e3,e5⟩;have es:((sa,sl,sn,()):bU)=(aV (a,l,nx,()) n).1:=Dj e1 e2 e3;have e5:ok=(aV (a,l,nx,()) n).2:=e5;refine af (λh=>⟨hc,λr1 hr1=>stays ?_ hr1⟩) λh=>⟨hc,af (λh2=>⟨hc,λr3 hr3=>stays ?_ hr3⟩) λh2=>⟨hl,⟨hc,?_,hc.2.1⟩,λr4 hr4=>?_⟩⟩
 .show(_&&(aV (a,l,nx,()) n).2)=false;rw[← e5,show ok=false from dQ h,au5]
 .rw[dQ h2];rfl
 .rw[es];exact L9 n hc.1
 .rw[es]at hr4;exact afD (c:=(a,l,nx,d,r,())) (bP h2) (e5.symm.trans (bP h)) hr4
theorem Zg:OK Aw.e:=by
 refine XA.ok mixed (au [pF.e,uM.e,kQ.e,vJ.e,mJ.e] ⟨zH,Ih,qR,Lp,uZ,trivial⟩) aaZ (λ⟨c,n,_⟩ _=>by obtain⟨c',df,h⟩:=zI c (aV (aX c) n).1 (bG c) _ (akz (c:=c) (id:=n));exact⟨((((c'.1,c'.2.1,c'.2.2.1,c'.2.2.2.1,c'.2.2.2.2.1,()),df,_,()),())),h⟩) (by kernel_rfl) (show∀l0 l1 l2 l3 l4 id,Aw.goal (Zh l0 l1 l2 l3 l4 id) ((l0,l1,l2,l3,l4,()),id,())from ?_);intro a l nx d r n hin hp;dsimp only[Aw]at hp ⊢;obtain⟨hc,hh,h10⟩:=hp;have hl:d.length<=1000:=hc.2.1.1;refine⟨hc,?_⟩;rintro⟨⟨c0,⟨⟩⟩,⟨⟩⟩ ec;obtain rfl:c0=(a,l,nx,d,r,()):=ec;refine⟨hc.1,?_⟩;rintro⟨⟨⟨sa,sl,sn,⟨⟩⟩,ok,⟨⟩⟩,⟨⟩⟩ ⟨e1,e2,e3,e5⟩;have es:((sa,sl,sn,()):bU)=(aV (a,l,nx,()) n).1:=Dj e1 e2 e3;have e5:ok=(aV (a,l,nx,()) n).2:=e5;refine⟨hc,af (λh2=>stays ?_ rfl) λh2=>af (λh=>stays ?_ rfl) λh=>⟨hl,⟨hc,?_,hc.2.1,?_⟩,λr4 hr4=>?_⟩⟩
 .rw[dQ h2];rfl
 .show(_&&(aV (a,l,nx,()) n).2)=false;rw[← e5,show ok=false from dQ h,au5]
 .rw[es];exact L9 n hc.1
 .rw[es];exact akz (c:=(a,l,nx,d,r,())) (id:=n) (by rw[bP h2,av8];exact e5.symm.trans (bP h))
 .rw[es]at hr4;exact afD (c:=(a,l,nx,d,r,())) (bP h2) (e5.symm.trans (bP h)) hr4
end Go.Proofs.Tryz
