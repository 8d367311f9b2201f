import Derived.Test.YtkgkfdphbkfjnaaGreatP29
import Derived.Test.YtkgkfdphbkfjnaaGreatV12
import Derived.Test.YtkgkfdphbkfjnaaGreatSp
namespace Go.Proofs.Tryz
open Go Go.Fw Go.IntWalk Sp
theorem ajb{d:List aF}{n:Sp.Bytes}(h:(Sp.removeDir d n).2=true):bI d=true/\Sp.removeDir d n=(lS d n,true):=by
 unfold Sp.removeDir at h ⊢;cases hb:bI d&&decide (0<=aJ d n)with
 |false=>rw[hb]at h;cases h
 |true=>have:=hb;rw[auq]at this;exact⟨this.1,rfl⟩
theorem Vh{d:List aF}{n:Sp.Bytes}(h:aC d):aC (Sp.removeDir d n).1:=by
 unfold Sp.removeDir;cases bI d&&decide (0<=aJ d n)with
 |false=>exact h
 |true=>exact⟨auM (auV _ _) h.1,λx hx=>h.2 x (KE.1 hx).1⟩
theorem abJ{c c':eF}{n:Sp.Bytes}{df:List lJ}{ok:Bool}{r:Sp.LS}(hcur:cO c=true)(hrm:(Sp.removeDir (bG c) n).2=true)(hr:Sp.reached (bG c) [(n,())] r)
 (h:Sp.turned c (aX c) (Sp.removeDir (bG c) n).1 (dI r) c' df ok):Sp.became c (aX c) (Sp.removeDir (bG c) n).1 true c' df ok:=by
 obtain⟨k1,k2,k3⟩:=kU hcur;obtain⟨g1,g3⟩:=ajb hrm;have hn:=hr.2;rw[show(λs=>dI [(n,())] s=true)=λt=>t=n from funext λs=>propext (by rw[gK];simp)]at hn;rw[g3]at h ⊢;exact Vb h (by rw[EK k1 n,k2];rfl) λR E hR hE=>aou g1 hn k3 hR hE
theorem akA(c:eF)(u:Int)(x:gq):
 (x.1=1/\F5 c x=(aI (aX c) (xC x)).1/\E5 c x=bG c/\Du c u x=(decide ((xC x).2.1=u)&&(aI (aX c) (xC x)).2.2))\/
 (x.1=2/\F5 c x=(aT (aX c) (xC x)).1/\E5 c x=bG c/\Du c u x=((Pm c u (xC x).1&&decide ((xC x).2.1=u))&&(aT (aX c) (xC x)).2))\/
 (x.1=3/\F5 c x=(aV (aX c) (aht x)).1/\E5 c x=bG c/\Du c u x=(Pm c u (aht x)&&(aV (aX c) (aht x)).2))\/
 (x.1=4/\F5 c x=aX c/\E5 c x=(cZ (bG c) (JC x)).1/\Du c u x=((cZ (bG c) (JC x)).2&&aj (cZ (bG c) (JC x)).1))\/
 (x.1=5/\F5 c x=aX c/\E5 c x=(Sp.removeDir (bG c) (JC x).1).1/\Du c u x=(Sp.removeDir (bG c) (JC x).1).2)\/
 (x.1≠1/\x.1≠2/\x.1≠3/\x.1≠4/\x.1≠5/\Du c u x=false):=by
 unfold F5 E5 Du;by_cases h1:x.1=1
 .left;rw[h1];exact⟨rfl,rfl,rfl,rfl⟩
 by_cases h2:x.1=2
 .right;left;rw[h2];exact⟨rfl,rfl,rfl,rfl⟩
 by_cases h3:x.1=3
 .right;right;left;rw[h3];exact⟨rfl,rfl,rfl,rfl⟩
 by_cases h4:x.1=4
 .right;right;right;left;rw[h4];exact⟨rfl,rfl,rfl,rfl⟩
 by_cases h5:x.1=5
 .right;right;right;right;left;rw[h5];exact⟨rfl,rfl,rfl,rfl⟩
 .right;right;right;right;right;rw[auu.2 h1,auu.2 h2,auu.2 h3,auu.2 h4,auu.2 h5];exact⟨h1,h2,h3,h4,h5,rfl⟩
theorem asb{c:eF}{u:Int}{x:gq}(h:Pn c u x=true):(aj (E5 c x)&&aB (F5 c x))=true:=by
 unfold Pn at h;rw[auq,auq]at h;obtain⟨⟨_,hcur⟩,hm⟩:=h;obtain⟨k1,k2,_⟩:=kU hcur;rcases akA c u x with⟨_,e1,e2,e3⟩|⟨_,e1,e2,e3⟩|⟨_,e1,e2,e3⟩|⟨_,e1,e2,e3⟩|⟨_,e1,e2,e3⟩|⟨_,_,_,_,_,e⟩
 .rw[e1,e2,k1,FW _ k2];rfl
 .rw[e1,e2,k1,Jz _ k2];rfl
 .rw[e1,e2,k1,FX _ k2];rfl
 .rw[e3,auq]at hm;rw[e1,e2,hm.2,k2];rfl
 .rw[e3]at hm;rw[e1,e2,(ajb hm).2,EK k1,k2];rfl
 .rw[e]at hm;cases hm
theorem abK(c:eF)(u:Int)(x:gq):∃c' df,Sp.applied c u x c' df (Pn c u x):=zI c _ _ _ asb
theorem refused{c z:eF}{u:Int}{x:gq}(hb:Pn c u x=false)(e:z=c):Sp.applied c u x z [] false:=stays hb e
theorem E8{c:eF}{u:Int}{x:gq}(h:Du c u x=false):Pn c u x=false:=by unfold Pn;rw[h,au5]
theorem made{c z:eF}{u:Int}{x:gq}{s:bU}{d:List aF}{b ok:Bool}{df:List lJ}(hu:JD u=true)(hc:cO c=true)(h1:F5 c x=s)(h2:E5 c x=d)(h3:Du c u x=b)(h:Sp.became c s d b z df ok):Sp.applied c u x z df ok:=by unfold Sp.applied Pn;rw[h1,h2,h3,hu,hc];exact h
theorem aqE{c:eF}(h:cO c=true)(hd:aC (bG c)):iU c:=by obtain⟨k1,k2,_⟩:=kU h;exact⟨aoq h hd,akw k2,auM (jw k1).2 (by decide)⟩
theorem apx{c:eF}{x:gq}(hc:iU c)(hx:pG x):aC (E5 c x):=by
 have h10:=hc.2.2;rcases akA c 0 x with⟨_,_,e,_⟩|⟨_,_,e,_⟩|⟨_,_,e,_⟩|⟨_,_,e,_⟩|⟨_,_,e,_⟩|⟨n1,n2,n3,n4,n5,_⟩
 .rw[e];exact hc.1.2.1
 .rw[e];exact hc.1.2.1
 .rw[e];exact hc.1.2.1
 .rw[e];exact Y9 hc.1.2.1 (by omega) hx.2
 .rw[e];exact Vh hc.1.2.1
 .unfold E5;rw[auu.2 n4,auu.2 n5];exact hc.1.2.1
theorem akB{c c':eF}{u:Int}{x:gq}{df:List lJ}(hc:iU c)(hx:pG x)(h:Sp.applied c u x c' df true):cO c'=true/\iU c':=by obtain⟨k1,k2,k3,_⟩:=h.2.1 rfl;exact⟨k3,aqE k3 (by rw[k2];exact apx hc hx)⟩
theorem akC{u:Int}:∀{l:List gq}{c c1 c2:eF}{x:gq}{df:List lJ},qM u c l c1->Sp.applied c1 u x c2 df true->qM u c (l++[x]) c2
 |[],c,c1,c2,x,df,h,h2=>by
  obtain rfl:c1=c:=h;exact⟨c2,df,h2,rfl⟩
 |y::r,c,c1,c2,x,df,⟨c0,d0,g1,g2⟩,h2=>⟨c0,d0,g1,akC g2 h2⟩
theorem NZ{u:Int}:∀{l:List gq}{c a b:eF},qM u c l a->qM u c l b->a=b
 |[],c,a,b,h1,h2=>h1.trans h2.symm
 |x::r,c,a,b,⟨c1,d1,g1,g2⟩,⟨c2,d2,k1,k2⟩=>by obtain⟨rfl,_⟩:=Vd g1 k1;exact NZ g2 k2
theorem aif{u:Int}:∀{l:List gq}{c c1 z:eF}{x:gq}{r:List gq}{df:List lJ},qM u c l c1->Sp.applied c1 u x z df false->∀c2,¬qM u c (l++x::r) c2
 |[],c,c1,z,x,r,df,h,h2,c2,⟨a,d,g,_⟩=>by
  obtain rfl:c1=c:=h;have:=(Vd g h2).2.2;cases this
 |y::l,c,c1,z,x,r,df,⟨c0,d0,g1,g2⟩,h2,c2,⟨a,d,k1,k2⟩=>by obtain⟨rfl,_⟩:=Vd g1 k1;exact aif g2 h2 c2 k2
theorem aov{c c1 c2:eF}{u:Int}{l:List gq}{q:List (Int×Unit)}{df1 df2:List lJ}{ok1 ok2:Bool}(h1:sS c u l q c1 df1 ok1)(h2:sS c u l q c2 df2 ok2):c1=c2/\df1=df2/\ok1=ok2:=by
 obtain⟨a1,a2,a3⟩:=h1;obtain⟨b1,b2,b3⟩:=h2;have e:ok1=ok2:=auS.2 (a1.trans b1.symm);subst e;cases hk:ok1 with
 |true=>
  obtain⟨x1,x2⟩:=a2 hk;obtain⟨y1,y2⟩:=b2 hk;have:=NZ x1 y1;subst this;exact⟨rfl,x2.trans y2.symm,rfl⟩
 |false=>exact⟨(a3 hk).1.trans (b3 hk).1.symm,(a3 hk).2.trans (b3 hk).2.symm,rfl⟩
theorem aii(c:eF)(u:Int)(l:List gq)(q:List (Int×Unit)):∃c' df ok,sS c u l q c' df ok:=by
 by_cases h:cO c=true/\l.length<=6/\∃c2,qM u c l c2/\wP c2.2.1 q=true
 .obtain⟨c2,h3,h4⟩:=h.2.2;exact⟨c2,xW (oQ c) (oQ c2),true,⟨λ_=>h,λ_=>rfl⟩,λ_=>⟨h3,rfl⟩,λh=>(by cases h)⟩
 .exact⟨c,[],false,⟨λh'=>(by cases h'),λh'=>(h h').elim⟩,λh'=>(by cases h'),λ_=>⟨rfl,rfl⟩⟩
theorem Fa{c z:eF}{u:Int}{l:List gq}{q:List (Int×Unit)}(h:¬(cO c=true/\l.length<=6/\∃c2,qM u c l c2/\wP c2.2.1 q=true))(e:z=c):sS c u l q z [] false:=
 ⟨⟨λh'=>(by cases h'),λh'=>(h h').elim⟩,λh'=>(by cases h'),λ_=>⟨e,rfl⟩⟩
theorem aij{c z:eF}{u:Int}{l:List gq}{q:List (Int×Unit)}{df:List lJ}(h1:cO c=true)(h2:l.length<=6)(h3:qM u c l z)(h4:wP z.2.1 q=true)(hd:df=xW (oQ c) (oQ z)):sS c u l q z df true:=
 ⟨⟨λ_=>⟨h1,h2,z,h3,h4⟩,λ_=>rfl⟩,λ_=>⟨h3,hd⟩,λh'=>(by cases h')⟩
theorem seen{c z:eF}{u:Int}{x:gq}{df:List lJ}{ok:Bool}(h:Sp.applied c u x z df ok):(ok=false->Pn c u x=false)/\(ok=true->Sp.applied c u x z df true):=
 ⟨λe=>h.1.symm.trans e,λe=>by rw[e]at h;exact h⟩
theorem Zk{c z:eF}{u:Int}{x:gq}{df:List lJ}{ok:Bool}(h:Du c u x=false):(false=false->Pn c u x=false)/\(false=true->Sp.applied c u x z df ok):=
 ⟨λ_=>E8 h,λe=>by cases e⟩
theorem NP:OK qC.e:=by
 refine XA.ok mixed (au [] trivial) Po (λ⟨s,i,j,_⟩ _=>⟨((s.take i.toNat++s.drop j.toNat,()),()),rfl⟩) (by kernel_rfl) (show∀s i j,qC.goal (NQ s i j) (s,i,j,())from ?_);intro s i j hin hp;dsimp only[qC]at hp ⊢;obtain⟨h0,h1,h2⟩:0<=i/\i<=j/\j<=(s.length:Int):=hp;obtain⟨a,rfl⟩:∃a:Nat,i=a:=⟨i.toNat,by omega⟩;obtain⟨b,rfl⟩:∃b:Nat,j=b:=⟨j.toNat,by omega⟩;refine⟨⟨h0,h1,h2,au7 _⟩,af (λh=>?_) λh=>?_⟩
 .have h:(a:Int)=b:=by simpa using h
  have:a=b:=by omega
  subst this;show s=s.take a++s.drop a;rw[avJ]
 .have h:¬(a:Int)=b:=by simpa using h
  have hb:b<=s.length:=by omega
  have hab:a<b:=by omega
  simp only[auA,Nat.sub_zero,auY];have hn:(List.take (s.length-b) (List.drop b s)).length=s.length-b:=by rw[aut,au2];omega
  have hd:List.take (s.length-b) (List.drop b s)=List.drop b s:=avt (by rw[au2];omega);have l1:(bZ s a (List.take (s.length-b) (List.drop b s))).length=s.length:=Ku (by rw[hn];omega);have l2:(bZ (bZ s a (List.take (s.length-b) (List.drop b s))) (a+(s.length-b)) (List.replicate (s.length-(a+(s.length-b))) (([],[],()):aF))).length=s.length:=by rw[Ku (by rw[l1,awk];omega),l1]
  rw[l1,l2];refine⟨by omega,⟨by omega,by omega⟩,⟨by omega,by omega⟩,⟨by omega,by omega⟩,⟨by omega,by omega,by omega⟩,by omega,⟨by omega,by omega⟩,?_⟩;show List.take (a+(s.length-b)) (bZ _ _ _)=s.take a++s.drop b;rw[Qw (auI _) (by rw[l1];omega),akk (by rw[hn]) (by omega),hd]
theorem ang{d:List aF}{n:Sp.Bytes}(h:(bI d&&decide (0<=aJ d n))=false):Sp.removeDir d n=(d,false):=by unfold Sp.removeDir;rw[h];rfl
theorem akD{d:List aF}{n:Sp.Bytes}(h:bI d=true)(h2:0<=aJ d n):Sp.removeDir d n=(lS d n,true):=by unfold Sp.removeDir;rw[h,auB h2];rfl
theorem aow{d:List aF}{n:Sp.Bytes}(h:aJ d n<0):Sp.removeDir d n=(d,false):=ang (by rw[auD (by omega),au5])
theorem aa0:OK CS.e:=by
 refine XA.ok mixed (au [qC.e,o9.e,A7.e,qB.e] ⟨NP,Eg,MC,IK,trivial⟩) adq (λ⟨d,n,_⟩ _=>⟨(((Sp.removeDir d n).1,(Sp.removeDir d n).2,()),()),⟨rfl,rfl⟩⟩) (by kernel_rfl) (show∀d name,CS.goal (aa1 d name) (d,name,())from ?_);intro d n hin hp;dsimp only[CS]at hp ⊢;have hl:d.length<=1000:=hp.1;refine⟨hp,?_⟩;rintro⟨⟨o,⟨⟩⟩,⟨⟩⟩ e;obtain rfl:o=d:=e;refine⟨trivial,hp,af (λh=>?_) λh=>af (λh2=>?_) λh2=>?_⟩
 .exact BJ (ang (by rw[dQ h];rfl)).symm
 .exact BJ (aow (fG h2)).symm
 .have h0:=fZ h2;rcases pX o n with⟨e,_⟩|⟨k,hk,e,en,_⟩
  .omega
  .have w:IntKind.i64.wrap ((k:Int)+1)=((k+1:Nat):Int):=eP _ (by omega);rw[e,w,auA,auA];refine⟨⟨by omega,by omega,by dsimp only;omega⟩,λr1 hr1=>BJ ?_⟩;rw[akD (bP h) (by omega),← en];exact congrArg (·,true) (hr1.trans (Sp.drop_at (bP h) hk))
theorem aa2:OK CU.e:=by
 refine XA.ok mixed (au [sD.e,yO.e,oZ.e] ⟨EI,Pq,Ef,trivial⟩) adr (λ⟨d,n,_⟩ _=>⟨(((Sp.removeDir d n).1,(Sp.removeDir d n).2,()),()),⟨rfl,rfl⟩⟩) (by kernel_rfl) (show∀d name,CU.goal (aa3 d name) (d,name,())from ?_);intro d n hin hp;dsimp only[CU]at hp ⊢;have hl:d.length<=1000:=hp.1;refine⟨λ_=>bI d=true/\0<=aJ d n,⟨hp,af (λh=>⟨hp,BJ (ang (by rw[dQ h];rfl)).symm⟩) λh=>⟨trivial,af (λh2=>⟨hp,BJ (aow (fG h2)).symm⟩) λh2=>⟨rfl,bP h,by have:=fZ h2;omega⟩⟩⟩,λ_ hK=>?_⟩;refine dM (λi(x:List aF)=>(((),i,()),x,())) (λy=>y.1.2.1) (λ_ _=>rfl) d.length (by omega) (λk l=>l=(d.take k).filter (kD n)) rfl (λI μ k l hn hJ next=>?_) λI μ l hJ=>?_
 .subst hJ;have hl:=auV (kD n) (d.take k);rw[aut]at hl;have st:=Sp.take_succ' d k ([],[],()) hn;dsimp only;refine dn (by omega) ⟨⟨by omega,by omega⟩,af (λh=>⟨⟨by omega,by omega⟩,by rw[bY];simp only[auv,auz];omega,rfl,next _ ?_⟩) λh=>⟨rfl,next _ ?_⟩⟩
  .rw[auA,st,avw,avf (p:=kD n) (a:=d.getD k ([],[],())) h];rfl
  .rw[st,avw,avg (p:=kD n) (by rw[show kD n (d.getD k ([],[],()))=false from h];simp),axE,avr]
 .subst hJ;dsimp only;rw[auO];refine dw (by omega) ⟨?_,BJ ?_⟩
  .have:=Vh (n:=n) hp;rw[akD hK.1 hK.2]at this;exact this
  .rw[akD hK.1 hK.2];rfl
theorem aox{c:eF}{n:Sp.Bytes}(hcur:cO c=true)(hrm:(Sp.removeDir (bG c) n).2=true):(aj (Sp.removeDir (bG c) n).1&&aB (aX c))=true:=by rw[(ajb hrm).2,EK (kU hcur).1 n,(kU hcur).2.1];rfl
theorem aa4:OK CV.e:=by
 refine XA.ok mixed (au [pF.e,jr.e,CU.e] ⟨zH,sN,aa2,trivial⟩) H0 (λ⟨c,n,_⟩ hp=>by obtain⟨c',df,h⟩:=zI c (aX c) (Sp.removeDir (bG c) n).1 (Sp.removeDir (bG c) n).2 (aox hp.2);exact⟨((((c'.1,c'.2.1,c'.2.2.1,c'.2.2.2.1,c'.2.2.2.2.1,()),df,_,()),())),h⟩) (by kernel_rfl) (show∀l0 l1 l2 l3 l4 name,CV.goal (aa5 l0 l1 l2 l3 l4 name) ((l0,l1,l2,l3,l4,()),name,())from ?_);intro a l nx d r n hin hp;dsimp only[CV]at hp ⊢;obtain⟨hc,hcur⟩:iU (a,l,nx,d,r,())/\cO (a,l,nx,d,r,())=true:=hp;obtain⟨k1,k2,k3⟩:=kU hcur;refine⟨hc.1.2.1,?_⟩;rintro⟨⟨o,ok,⟨⟩⟩,⟨⟩⟩ ⟨e1,e2⟩;obtain rfl:o=(Sp.removeDir d n).1:=e1;obtain rfl:ok=(Sp.removeDir d n).2:=e2;refine af (λh=>stays (dQ h) rfl) λh=>⟨⟨hc.1.2.1,(jw k1).2,by simp⟩,λr1 hr1=>⟨⟨hc.1,hc.1.1,Vh hc.1.2.1,?_⟩,λr2 hr2=>?_⟩⟩
 .have e:Sp.removeDir d n=_:=(ajb (bP h)).2;rw[e,show aj (lS d n)=true from EK k1 n,show aB (a,l,nx,())=true from k2];rfl
 .have:=abJ (c:=(a,l,nx,d,r,())) hcur (bP h) hr1 hr2;rw[show(Sp.removeDir (bG (a,l,nx,d,r,())) n).2=true from bP h];exact this
theorem JX:OK tX.e:=by
 refine XA.ok mixed (au [lV.e,jq.e,CS.e,CO.e,Au.e,Ak.e,Ew.e,yX.e,FI.e,iW.e,jJ.e,yx.e] ⟨vV,sK,aa0,aaV,Ze,YT,ado,OW,afE,lH,ng,Kr,trivial⟩) Zl (λ⟨c,u,x,_⟩ _=>by obtain⟨c',df,h⟩:=abK c u x;exact⟨((((c'.1,c'.2.1,c'.2.2.1,c'.2.2.2.1,c'.2.2.2.2.1,()),df,_,()),())),h⟩) (by kernel_rfl) (show∀c0 c1 c2 c3 c4 user x0 x1 x2 x3 x4 x5 x6 x7 x8,tX.goal (WR c0 c1 c2 c3 c4 user x0 x1 x2 x3 x4 x5 x6 x7 x8) ((c0,c1,c2,c3,c4,()),user,(x0,x1,x2,x3,x4,x5,x6,x7,x8,()),())from ?_);intro a l nx d r u x0 x1 x2 x3 x4 x5 x6 x7 x8 hin hp;dsimp only[tX]at hp ⊢;obtain⟨hc,h5,h8⟩:iU (a,l,nx,d,r,())/\x5.length<=400/\x8.length<=1000:=hp;refine⟨λ_=>JD u=true/\cO (a,l,nx,d,r,())=true,⟨trivial,af (λh=>⟨hc.1,λr2 hr2=>refused ?_ hr2⟩) λh=>⟨hc.1,af (λh2=>⟨hc.1,λr4 hr4=>refused ?_ hr4⟩) λh2=>⟨rfl,bP h,bP h2⟩⟩⟩,λ_ hJ=>?_⟩
 .show((JD u&&_)&&_)=false;rw[show JD u=false from dQ h];rfl
 .show((_&&cO (a,l,nx,d,r,()))&&_)=false;rw[dQ h2,au5];rfl
 obtain⟨hu,hcur⟩:=hJ;have s5:x5.length<=1000:=by omega
 have t5:x5.length<=500:=by omega
 refine af (λk1=>?_) λk1=>af (λk2=>?_) λk2=>af (λk3=>?_) λk3=>af (λk4=>?_) λk4=>af (λk5=>?_) λk5=>⟨hc.1,λr34 hr=>refused (E8 ?_) hr⟩
 .obtain rfl:x0=1:=by simpa using k1
  refine af (λe=>⟨⟨hc,s5⟩,λr6 IE=>made hu hcur rfl rfl ?_ IE.1⟩) λe=>⟨hc.1,λr7 Y5=>refused (E8 ?_) Y5⟩
  .show(decide (x2=u)&&_)=_;rw[auB (by simpa using e),hcur];rfl
  .show(decide (x2=u)&&_)=_;rw[auD (by simpa using e)];rfl
 .obtain rfl:x0=2:=by simpa using k2
  refine⟨hc.1.1,af (λe1=>⟨trivial,af (λe2=>af (λe3=>⟨⟨hc.1,s5,akE hc.2.1,t5⟩,λBK h15=>made hu hcur rfl rfl ?_ (afv h15)⟩) λe3=>⟨hc.1,λr hr=>refused (E8 ?_) hr⟩) λe2=>⟨hc.1,λr hr=>refused (E8 ?_) hr⟩⟩) λe1=>⟨hc.1,λr hr=>refused (E8 ?_) hr⟩⟩
  all_goals show((((bf (a,l,nx,()) x1).2&&lW (bf (a,l,nx,()) x1).1 u)&&decide (x2=u))&&_)=_
  .rw[e1,show lW (bf (a,l,nx,()) x1).1 u=true from e2,auB (by simpa using e3),hcur];rfl
  .rw[auD (by simpa using e3),au5];rfl
  .rw[show lW (bf (a,l,nx,()) x1).1 u=false from e2,au5];rfl
  .rw[e1];rfl
 .obtain rfl:x0=3:=by simpa using k3
  refine⟨hc.1.1,af (λe1=>⟨trivial,af (λe2=>⟨hc,λBK h15=>made hu hcur rfl rfl ?_ h15⟩) λe2=>⟨hc.1,λr hr=>refused (E8 ?_) hr⟩⟩) λe1=>⟨hc.1,λr hr=>refused (E8 ?_) hr⟩⟩
  all_goals show(((bf (a,l,nx,()) x6).2&&lW (bf (a,l,nx,()) x6).1 u)&&_)=_
  .rw[e1,show lW (bf (a,l,nx,()) x6).1 u=true from e2,hcur];rfl
  .rw[show lW (bf (a,l,nx,()) x6).1 u=false from e2,au5];rfl
  .rw[e1];rfl
 .obtain rfl:x0=4:=by simpa using k4
  refine⟨⟨hc,h8⟩,λr29 h29=>made hu hcur rfl rfl ?_ h29⟩;rw[hcur];rfl
 .obtain rfl:x0=5:=by simpa using k5
  refine⟨hc.1.2.1,?_⟩;rintro⟨⟨o,ok,⟨⟩⟩,⟨⟩⟩ ⟨e1,e2⟩;obtain rfl:o=(Sp.removeDir d x7).1:=e1;obtain rfl:ok=(Sp.removeDir d x7).2:=e2;exact af (λe=>⟨⟨hc.1.2.1,(jw (kU hcur).1).2,by simp⟩,λr31 h31=>⟨⟨hc.1,hc.1.1,Vh hc.1.2.1⟩,λr32 h32=>made (c:=(a,l,nx,d,r,())) hu hcur rfl rfl e (abJ hcur e h31 h32)⟩⟩) λe=>⟨hc.1,λr hr=>refused (E8 e) hr⟩
 .unfold Du;show(bif x0==1 then _ else bif x0==2 then _ else bif x0==3 then _ else bif x0==4 then _ else bif x0==5 then _ else _)=_;rw[k1,k2,k3,k4,k5];rfl
theorem WS:OK zo.e:=by
 refine XA.ok mixed (au [CV.e,CP.e,Aw.e,Eu.e,Am.e,yY.e,FK.e,iT.e,kQ.e,mJ.e] ⟨aa4,aaX,Zg,adl,Y6,OX,afG,jA,qR,uZ,trivial⟩) Zm (λ⟨c,u,x,_⟩ _=>by obtain⟨c',df,h⟩:=abK c u x;exact⟨((((c'.1,c'.2.1,c'.2.2.1,c'.2.2.2.1,c'.2.2.2.2.1,()),df,_,()),())),h⟩) (by kernel_rfl) (show∀l0 l1 l2 l3 l4 u o0 o1 o2 o3 o4 o5 o6 o7 o8,zo.goal (WT l0 l1 l2 l3 l4 u o0 o1 o2 o3 o4 o5 o6 o7 o8) ((l0,l1,l2,l3,l4,()),u,(o0,o1,o2,o3,o4,o5,o6,o7,o8,()),())from ?_);intro a l nx d r u x0 x1 x2 x3 x4 x5 x6 x7 x8 hin hp;dsimp only[zo]at hp ⊢;obtain⟨hc,h5,h8⟩:iU (a,l,nx,d,r,())/\x5.length<=400/\x8.length<=1000:=hp;have s5:x5.length<=1000:=by omega
 have t5:x5.length<=500:=by omega
 refine⟨hc.1,?_⟩;rintro⟨⟨c0,⟨⟩⟩,⟨⟩⟩ ec;obtain rfl:c0=(a,l,nx,d,r,()):=ec;refine⟨λy=>y.1.1=(JD u&&cO (a,l,nx,d,r,())),⟨hc.1,af (λh=>⟨trivial,rfl,?_⟩) λh=>⟨rfl,?_⟩⟩,?_⟩
 .show JD u=_;rw[h,awl]
 .show false=_;rw[h,au5]
 rintro⟨⟨ok0,⟨⟩⟩,⟨⟩⟩ hok0;have hok0:ok0=(JD u&&cO (a,l,nx,d,r,())):=hok0;refine⟨λy=>(y.1.2.1=false->Pn (a,l,nx,d,r,()) u (x0,x1,x2,x3,x4,x5,x6,x7,x8,())=false)/\(y.1.2.1=true->Sp.applied (a,l,nx,d,r,()) u (x0,x1,x2,x3,x4,x5,x6,x7,x8,()) y.2.1 y.1.1 true),af (λh=>⟨rfl,?_,?_⟩) λh=>?_,?_⟩
 .intro _;show((JD u&&cO (a,l,nx,d,r,()))&&_)=false;rw[← hok0,show ok0=false from dQ h];rfl
 .intro e;rw[show ok0=false from dQ h]at e;cases e
 .have h:=bP h;rw[hok0,auq]at h;obtain⟨hu,hcur⟩:=h;refine⟨λy=>y.1.1=((x0==1)&&(x2==u)),af (λk1=>⟨rfl,?_⟩) λk1=>⟨rfl,?_⟩,?_⟩
  .show(x2==u)=_;rw[k1];rfl
  .show false=_;rw[k1];rfl
  rintro⟨⟨b1,⟨⟩⟩,⟨⟩⟩ hb1;have hb1:b1=((x0==1)&&(x2==u)):=hb1;subst hb1;refine af (λg1=>⟨⟨hc,s5⟩,λr8 h8'=>⟨rfl,?_⟩⟩) λg1=>?_
  .rw[auq]at g1;obtain rfl:x0=1:=by simpa using g1.1
   refine seen (made hu hcur rfl rfl ?_ h8'.1);show(decide (x2=u)&&_)=_;rw[auB (by simpa using g1.2),hcur];rfl
  refine⟨λy=>y.1.1=((x0==2)&&(x2==u)),af (λk1=>⟨rfl,?_⟩) λk1=>⟨rfl,?_⟩,?_⟩
  .show(x2==u)=_;rw[k1];rfl
  .show false=_;rw[k1];rfl
  rintro⟨⟨b2,⟨⟩⟩,⟨⟩⟩ hb2;have hb2:b2=((x0==2)&&(x2==u)):=hb2;subst hb2;refine af (λg2=>⟨hc.1.1,⟨hc.1,s5,akE hc.2.1,t5⟩,λEL h17=>?_⟩) λg2=>af (λg3=>⟨hc.1.1,hc,λr25 h25=>?_⟩) λg3=>af (λg4=>⟨⟨hc,h8⟩,λr27 h27=>⟨rfl,?_⟩⟩) λg4=>af (λg5=>⟨⟨hc,hcur⟩,λr28 h28=>⟨rfl,?_⟩⟩) λg5=>⟨rfl,Zk ?_⟩
  .rw[auq]at g2;obtain rfl:x0=2:=by simpa using g2.1
   have em:Du (a,l,nx,d,r,()) u (2,x1,x2,x3,x4,x5,x6,x7,x8,())=((((bf (a,l,nx,()) x1).2&&lW (bf (a,l,nx,()) x1).1 u)&&decide (x2=u))&&(aT (a,l,nx,()) (x1,x2,x3,x4,x5,())).2):=rfl;have h17:=afv h17;refine af (λe1=>af (λe2=>⟨trivial,rfl,?_⟩) λe2=>⟨rfl,Zk ?_⟩) λe1=>⟨rfl,Zk ?_⟩
   .cases e3:lW (bf (a,l,nx,()) x1).1 u with
    |true=>
     rw[e1]at h17;refine⟨(λe=>by cases e),λ_=>made hu hcur rfl rfl ?_ h17⟩;rw[em,e2,e3,auB (by simpa using g2.2),hcur];rfl
    |false=>exact⟨λ_=>E8 (by rw[em,e3,au5];rfl),λe=>by cases e⟩
   .rw[em,e2];rfl
   .have:=h17.1;rw[hcur,e1]at this;rw[em,show(aT (a,l,nx,()) (x1,x2,x3,x4,x5,())).2=false from this.symm,au5]
  .obtain rfl:x0=3:=by simpa using g3
   have em:Du (a,l,nx,d,r,()) u (3,x1,x2,x3,x4,x5,x6,x7,x8,())=(((bf (a,l,nx,()) x6).2&&lW (bf (a,l,nx,()) x6).1 u)&&(aV (a,l,nx,()) x6).2):=rfl;refine af (λe1=>af (λe2=>⟨trivial,rfl,?_⟩) λe2=>⟨rfl,Zk ?_⟩) λe1=>⟨rfl,Zk ?_⟩
   .cases e3:lW (bf (a,l,nx,()) x6).1 u with
    |true=>
     rw[e1]at h25;refine⟨(λe=>by cases e),λ_=>made hu hcur rfl rfl ?_ h25⟩;rw[em,e2,e3,hcur];rfl
    |false=>exact⟨λ_=>E8 (by rw[em,e3,au5];rfl),λe=>by cases e⟩
   .rw[em,e2];rfl
   .have:=h25.1;rw[hcur,e1]at this;rw[em,show(aV (a,l,nx,()) x6).2=false from this.symm,au5]
  .obtain rfl:x0=4:=by simpa using g4
   refine seen (made hu hcur rfl rfl ?_ h27);rw[hcur];rfl
  .obtain rfl:x0=5:=by simpa using g5
   exact seen (made (c:=(a,l,nx,d,r,())) hu hcur rfl rfl rfl h28)
  .have g1:((x0==1)&&(x2==u))=false:=g1;have g2:((x0==2)&&(x2==u))=false:=g2;unfold Du;show(bif x0==1 then decide (x2=u)&&_ else bif x0==2 then(_&&decide (x2=u))&&_ else bif x0==3 then _ else bif x0==4 then _ else bif x0==5 then _ else _)=_;rw[show decide (x2=u)=(x2==u)from rfl,g3,g4,g5];cases e1:x0==1 with
   |true=>rw[e1,av8]at g1;rw[g1];rfl
   |false=>cases e2:x0==2 with
    |true=>rw[e2,av8]at g2;rw[g2,au5];rfl
    |false=>rfl
 .rintro⟨⟨df,ok,⟨⟩⟩,z,⟨⟩⟩ ⟨j1,j2⟩;exact af (λh=>⟨hc.1,λr hr=>refused (j1 (dQ h)) hr⟩) λh=>j2 (bP h)
theorem aiW:OK I5.e:=by refine XA.ok mixed (au [FH.e,tu.e,iI.e,rZ.e,dS.e,kV.e,I4.e,xZ.e,iG.e] ⟨afw,JS,jE,EG,eG,uX,aiQ,Vf,jF,trivial⟩) akF (λ_ _=>⟨(((0,0,0,false,0,[],0,[],[],()),()),(([],0,0,()),())),⟨au7 0,auX _,auX _⟩⟩) (by kernel_rfl) (show∀c0 c1 c2 l0 l1 l2 l3 l4 u,I5.goal (aiX c0 c1 c2 l0 l1 l2 l3 l4 u) ((c0,c1,c2,()),(l0,l1,l2,l3,l4,()),u,())from ?_);intro b i h a l nx d r u hin hp;dsimp only[I5]at hp ⊢;obtain⟨h0,hc⟩:0<=i/\iU (a,l,nx,d,r,()):=hp;refine⟨⟨h0,by simp⟩,λr0 hr0=>⟨hc.1.1.2.1,hr0.1,λr1 hr1=>?_⟩⟩;have q1:0<=r1.2.1.2.1:=hr1;refine⟨λy=>0<=y.2.1.2.1,af (λhl=>⟨q1,λr3 hr3=>af (λ_=>⟨hr3,λr4 hr4=>⟨⟨hr4.2.1,hr4.2.2.1 (by have:=fG hl;omega)⟩,rfl,hr4.1⟩⟩) λ_=>⟨rfl,hr3⟩⟩) λ_=>⟨rfl,q1⟩,λy5 hy=>?_⟩;have hy:0<=y5.2.1.2.1:=hy;refine⟨λy=>0<=y.2.1.2.1/\y.2.2.2.1.length<=400/\y.2.2.1.2.2.2.2.2.2.2.2.1.length<=1000,af (λ_=>⟨hy,λr7 h7=>⟨rfl,h7.1,auM h7.2.2.2.2.2.2.2 (by decide),auX _⟩⟩) λ_=>af (λ_=>⟨hy,λr8 h8=>⟨rfl,h8.1,auM h8.2.2.2.2.2.2.2 (by decide),auX _⟩⟩) λ_=>af (λ_=>⟨rfl,hy,auX _,auX _⟩) λ_=>af (λ_=>⟨⟨hy,by simp⟩,λr9 h9=>⟨h9.1,λr10 h10=>⟨rfl,h10.1,auX _,auM h10.2.2 (by decide)⟩⟩⟩) λ_=>⟨hy,λr11 h11=>⟨rfl,h11.1,auX _,auX _⟩⟩,λgV hJ=>?_⟩;obtain⟨j1,j2,j3⟩:=hJ;refine⟨j1,λr13 h13=>af (λ_=>⟨h13,λyt h14=>⟨h14.1,λBK h15=>af (λ_=>⟨h15,λr16 h16=>⟨h16.1,j2,j3⟩⟩) λ_=>⟨h15,j2,j3⟩⟩⟩) λ_=>⟨h13,λEL h17=>af (λ_=>⟨h17,λVW h18=>⟨h18.1,j2,j3⟩⟩) λ_=>⟨h17,j2,j3⟩⟩⟩
theorem afK:OK FN.e:=by refine XA.ok mixed (au [FM.e,Ht.e,kV.e,uP.e] ⟨afI,ahl,uX,Ro,trivial⟩) ahu (λ_ _=>by obtain⟨c,h⟩:=any_some;exact⟨(((c.1,c.2.1,c.2.2.1,c.2.2.2.1,c.2.2.2.2.1,()),0,()),(([],0,0,()),())),⟨au7 0,h⟩⟩) (by kernel_rfl) (show∀c0 c1 c2,FN.goal (afL c0 c1 c2) ((c0,c1,c2,()),())from ?_);intro b i h hin hp;dsimp only[FN]at hp ⊢;refine⟨hp,λr0 hr0=>⟨hr0.1,λr1 hr1=>?_⟩⟩;have q1:0<=r1.2.1.2.1:=hr1;refine af (λ_=>⟨q1,λr2 hr2=>⟨hr2.1,λr3 hr3=>⟨hr3,hr2.2⟩⟩⟩) λ_=>⟨q1,λr4 hr4=>⟨hr4,(akx hr0.2.1).1⟩⟩
end Go.Proofs.Tryz
