import Derived.Test.YtkgkfdphbkfjnaaGreatP22
import Derived.Test.YtkgkfdphbkfjnaaGreatV9
import Derived.Test.YtkgkfdphbkfjnaaGreatSp
namespace Go.Proofs.Tryz
open Go Go.Fw Go.IntWalk Sp
theorem akw{c:eF}(hok:aB (aX c)=true):apt c:=λf hf=>by
 obtain⟨i,hi,rfl⟩:=au6 hf;have at_:Sp.fileAt c.2.1 i=c.2.1[i]:=by unfold Sp.fileAt;rw[aur,auw hi];rfl
 have:=(afq (al6 hok hi)).2;rw[at_]at this;exact auM this (by decide)
theorem afu{a:List ig}{l:List aK}{nx:Int}(h:aB (a,l,nx,())=true):∀f∈l,f.2.2.2.2.1.length<=400:=akw (c:=(a,l,nx,[],[],())) h
theorem Vb{c c':eF}{s:bU}{d:List aF}{nm:Sp.Bytes->Bool}{df:List lJ}{ok:Bool}(h:Sp.turned c s d nm c' df ok)(hz:(aj d&&aB s)=true)
 (he:∀R E,fQ s.2.1 d (oQ c) nm R->fQ s.2.1 d [] (λ_=>true) E->R=E):Sp.became c s d true c' df ok:=by
 obtain⟨u1,u2,_⟩:=h;have hok:=u1.trans hz;obtain⟨k1,k2,k3,k4⟩:=u2 hok;rw[auq]at hz;obtain⟨aH,hl⟩:=OM hz.1;obtain⟨E,hE⟩:=ND [] (λ_=>true) (jw hz.1).1 hl (sJ hz.2);have e:=he _ _ k3 hE;refine⟨hok,λ_=>⟨k1,k2,?_,k4⟩,λhno=>by rw[hok]at hno;cases hno⟩;obtain⟨a,l,nx,d',r,_⟩:=c';have k1':((a,l,nx,()):bU)=s:=k1;have k2:d'=d:=k2;have e:r=E:=e;subst k1' k2 e;rw[Tj (out:=r) (by rw[hz.1,hz.2];rfl) hE,auB rfl]
theorem Vd{c c1 c2:eF}{s:bU}{d:List aF}{b ok1 ok2:Bool}{df1 df2:List lJ}(h1:Sp.became c s d b c1 df1 ok1)(h2:Sp.became c s d b c2 df2 ok2):c1=c2/\df1=df2/\ok1=ok2:=by
 obtain⟨a1,a2,a3⟩:=h1;obtain⟨b1,b2,b3⟩:=h2;cases hb:b with
 |true=>
  obtain⟨x1,x2,x3,x4⟩:=a2 (a1.trans hb);obtain⟨y1,y2,y3,y4⟩:=b2 (b1.trans hb);have e:=aps x3 y3 (x1.trans y1.symm) (x2.trans y2.symm);exact⟨e,by rw[x4,y4,e],a1.trans b1.symm⟩
 |false=>obtain⟨x1,x2⟩:=a3 (a1.trans hb);obtain⟨y1,y2⟩:=b3 (b1.trans hb);exact⟨x1.trans y1.symm,x2.trans y2.symm,a1.trans b1.symm⟩
theorem zI(c:eF)(s:bU)(d:List aF)(b:Bool)(hb:b=true->(aj d&&aB s)=true):∃c' df,Sp.became c s d b c' df b:=by
 cases h:b with
 |false=>exact⟨c,[],rfl,λh=>(by cases h),λ_=>⟨rfl,rfl⟩⟩
 |true=>have hz:=hb h;have hz':=hz;rw[auq]at hz';obtain⟨aH,hl⟩:=OM hz'.1;obtain⟨E,hE⟩:=ND [] (λ_=>true) (jw hz'.1).1 hl (sJ hz'.2);obtain⟨a,l,nx,_⟩:=s;exact⟨(a,l,nx,d,E,()),xW (oQ c) E,rfl,λ_=>⟨rfl,rfl,by rw[Tj (out:=E) hz hE,auB rfl],rfl⟩,λh=>(by cases h)⟩
theorem afv{c c':eF}{f:aK}{df:List lJ}{ok:Bool}(h:Sp.updated c f c' df ok):Sp.became c (aT (aX c) f).1 (bG c) (cO c&&(aT (aX c) f).2) c' df ok:=by
 have u:=h;obtain⟨u1,u2,u3⟩:=h;refine⟨u1,λhok=>?_,u3⟩;have hz:=u1.symm.trans hok;rw[auq]at hz;obtain⟨k1,k2,_,k4⟩:=u2 hok;rcases jU (aX c) f with⟨e,_⟩|⟨n,hn,h1,h2,h3,e⟩
 .rw[e]at hz;cases hz.2
 .have hid:(Sp.fileAt c.2.1 n).1=f.1:=by
   rcases qj c.2.1 f.1 with⟨g,_⟩|⟨k,hk,g1,g2,_⟩
   .have h1:Sp.place c.2.1 f.1=n:=h1;omega
   .have h1:Sp.place c.2.1 f.1=n:=h1;have:k=n:=by omega
    subst this;exact g2
  exact⟨k1,k2,(apn hz.1 hn hid h3 u).2.2.2.2,k4⟩
theorem ahh:OK Hg.e:=by
 refine XA.ok mixed (au [qN.e,rZ.e,He.e,Hf.e,iG.e,dS.e,uH.e] ⟨EY,EG,agM,agW,jF,eG,Ig,trivial⟩) aiP (λ_ _=>⟨((([],[],0,()),()),(([],0,0,()),())),⟨by decide,⟨by decide,by decide,λf hf=>by cases hf⟩,λf hf=>by cases hf⟩⟩) (by kernel_rfl) (show∀c0 c1 c2,Hg.goal (ahi c0 c1 c2) ((c0,c1,c2,()),())from ?_);intro b i h hin hp;dsimp only[Hg]at hp ⊢;have hp:0<=i:=hp;refine⟨hp,?_⟩;rintro⟨⟨⟨a,l,nx,⟨⟩⟩,⟨⟩⟩,⟨b0,i0,g0,⟨⟩⟩,⟨⟩⟩ ⟨p0,d1,d2,d3,d4,_⟩;have D:sW 2 (a,l,nx,()):=⟨d1,d2,d3,d4⟩;obtain⟨z0,z1,z2⟩:a.length<=1000/\l.length<=1000/\∀f∈l,bV f:=d4;have z3:l.length<=12:=(kH.1 D.ok).2.2.1;have hh:=afu D.ok;refine⟨p0,?_⟩;rintro⟨⟨x1,⟨⟩⟩,⟨b1,i1,g1,⟨⟩⟩,⟨⟩⟩ ⟨p1,_⟩;refine af (λ_=>⟨⟨p1,by simp⟩,?_⟩) λ_=>af (λ_=>⟨p1,?_⟩) λ_=>af (λ_=>⟨p1,?_⟩) λ_=>af (λ_=>?_) λ_=>⟨p1,D.small,hh⟩
 .rintro⟨⟨x3,⟨⟩⟩,⟨b3,i3,g3,⟨⟩⟩,⟨⟩⟩ ⟨p3,_⟩;exact⟨p3,⟨z0,z1,z2⟩,hh⟩
 .rintro⟨⟨⟨d,o,s,lk,al,⟨⟩⟩,⟨⟩⟩,⟨b2,i2,g2,⟨⟩⟩,⟨⟩⟩ ⟨p2,ha⟩;have hf:bV (d,o,s,lk,al,()):=(show al.length<=1000 from auM ha (by decide));refine⟨(show l.length+1<=big by rw[bY];omega),p2,⟨z0,?_,λf hf'=>?_⟩,λf hf'=>?_⟩
  .show(l++[_]).length<=1000;rw[auy,auv,auz];omega
  .rcases auL.1 hf' with h'|h'
   .exact z2 f h'
   .have:f=(d,o,s,lk,al,()):=by simpa using h'
    rw[this];exact hf
  .rcases auL.1 hf' with h'|h'
   .exact hh f h'
   .have:f=(d,o,s,lk,al,()):=by simpa using h'
    rw[this];exact auM ha (by decide)
 .rintro⟨⟨x3,⟨⟩⟩,⟨b3,i3,g3,⟨⟩⟩,⟨⟩⟩ ⟨p3,hx⟩;exact⟨p3,⟨auM (show x3.length<=6 from hx) (by decide),z1,z2⟩,hh⟩
 .refine⟨λy=>0<=y.2.1.2.1/\sW 2 y.2.2.1,λy=>12-y.2.2.1.2.1.length,⟨p1,D⟩,?_⟩;rintro⟨⟨⟩,⟨b2,i2,g2,⟨⟩⟩,⟨a,l,nx,⟨⟩⟩,⟨⟩⟩ ⟨p2,D⟩;have D:sW 2 (a,l,nx,()):=D;refine af (λhc=>⟨p2,?_⟩) λ_=>⟨p2,D.small,afu D.ok⟩;have hc:(l.length:Int)<12:=fG hc;rintro⟨⟨⟨d,o,s,lk,al,⟨⟩⟩,⟨⟩⟩,⟨b3,i3,g3,⟨⟩⟩,⟨⟩⟩ ⟨p3,_,ho1,ho2,hl1,hl2,hok,ha⟩;have hf:bV (d,o,s,lk,al,()):=(show al.length<=1000 from auM ha (by decide));refine⟨⟨D.small,hf⟩,?_⟩;rintro⟨⟨⟨a3,l3,nx3,⟨⟩⟩,id3,ok3,⟨⟩⟩,⟨⟩⟩ ⟨e1,e2,e3,_⟩;have e:((a3,l3,nx3,()):bU)=(aI (a,l,nx,()) (d,o,s,lk,al,())).1:=Dj e1 e2 e3;have hg:=D.grows (f:=(d,o,s,lk,al,())) (show l.length<12 by omega) ⟨ho1,ho2⟩ ⟨hl1,hl2⟩ hok;have e2:l3=(aI (a,l,nx,()) (d,o,s,lk,al,())).1.2.1:=e2;refine⟨rfl,⟨p3,?_⟩,?_⟩
  .show sW 2 (a3,l3,nx3,());rw[e];exact D.create hf
  .show 12-l3.length<12-l.length;have hg:(aI (a,l,nx,()) (d,o,s,lk,al,())).1.2.1.length=l.length+1:=hg;rw[e2,hg];omega
theorem afw:OK FH.e:=by refine XA.ok mixed (au [iI.e] ⟨jE,trivial⟩) H0 (λ_ _=>⟨(([],()),(([],0,0,()),())),⟨by decide,by decide⟩⟩) (by kernel_rfl) (show∀c0 c1 c2,FH.goal (afx c0 c1 c2) ((c0,c1,c2,()),())from ?_);intro b i h hin hp;dsimp only[FH]at hp ⊢;exact⟨⟨hp,by simp⟩,λr0 hr0=>⟨hr0.1,(show∀y∈_,List.length y.1<=10 from by decide) _ hr0.2⟩⟩
theorem aiQ:OK I4.e:=by refine XA.ok mixed (au [iG.e] ⟨jF,trivial⟩) H0 (λ_ _=>⟨((0,()),(([],0,0,()),())),au7 0⟩) (by kernel_rfl) (show∀c0 c1 c2,I4.goal (aiR c0 c1 c2) ((c0,c1,c2,()),())from ?_);intro b i h hin hp;dsimp only[I4]at hp ⊢;exact⟨⟨hp,by simp⟩,λr0 hr0=>hr0.1⟩
theorem ahj:OK Hr.e:=by refine XA.ok mixed (au [kV.e] ⟨uX,trivial⟩) aiS (λ_ _=>⟨(([],()),(([],0,0,()),())),⟨by decide,by decide⟩⟩) (by kernel_rfl) (show∀c0 c1 c2,Hr.goal (ahk c0 c1 c2) ((c0,c1,c2,()),())from ?_);intro b i h hin hp;dsimp only[Hr]at hp ⊢;refine⟨λy=>∃n:Nat,y.1.2.1=n/\1<=n/\n<=8/\0<=y.2.1.2.1/\y.2.2.1.length+1<=n,λy=>(8-y.1.2.1).toNat,⟨1,rfl,auI 1,by decide,hp,auI 1⟩,?_⟩;rintro⟨⟨_,_,⟨⟩⟩,⟨b,i,h,⟨⟩⟩,l,⟨⟩⟩ ⟨n,rfl,h1,h8,hi,hl⟩;dsimp only at hi hl ⊢;have w:IntKind.i64.wrap ((n:Int)+1)=((n+1:Nat):Int):=eP _ (by omega);rw[w];refine af (λhc=>⟨hi,?_⟩) λhc=>⟨hi,by show l.length<=7;omega⟩;have hc:=fG hc;rintro⟨⟨x,⟨⟩⟩,⟨b1,i1,g1,⟨⟩⟩,⟨⟩⟩ q1;have q1:0<=i1:=q1;dsimp only;refine af (λ_=>⟨by rw[bY];simp only[auv,auz];omega,rfl,⟨n+1,rfl,by omega,by omega,q1,by simp;omega⟩,by dsimp only;omega⟩) λ_=>⟨rfl,⟨n+1,rfl,by omega,by omega,q1,by dsimp only;omega⟩,by dsimp only;omega⟩
theorem any_some:∃c,iU c:=⟨([],[],0,[],[],()),⟨⟨by decide,by decide,λf hf=>by cases hf⟩,Dk,NG⟩,λf hf=>(by cases hf),by decide⟩
theorem akx{c:eF}(h:Qa c):iU c/\(oQ c).length=(bG c).length:=by obtain⟨h1,h2,h3,h4⟩:=h;obtain⟨k1,k2,k3⟩:=kU h4;exact⟨⟨h1,akw k2,auM (jw k1).2 (by decide)⟩,k3.order.1⟩
theorem ahl:OK Ht.e:=by
 refine XA.ok mixed (au [Hg.e,Ho.e,Hr.e,dS.e,FD.e] ⟨ahh,ahe,ahj,eG,afk,trivial⟩) aiT (λ_ _=>by obtain⟨c,h⟩:=any_some;exact⟨(((c.1,c.2.1,c.2.2.1,c.2.2.2.1,c.2.2.2.2.1,()),()),(([],0,0,()),())),⟨au7 0,h⟩⟩) (by kernel_rfl) (show∀c0 c1 c2,Ht.goal (ahm c0 c1 c2) ((c0,c1,c2,()),())from ?_);intro b i h hin hp;dsimp only[Ht]at hp ⊢;refine⟨hp,?_⟩;rintro⟨⟨⟨a,l,nx,d,r,⟨⟩⟩,⟨⟩⟩,⟨b0,i0,g0,⟨⟩⟩,⟨⟩⟩ ⟨p0,hl,hd⟩;have hl:Qa (a,l,nx,d,r,()):=hl;have hd:0<d.length:=hd;obtain⟨⟨⟨s1,s2,s3⟩,s4,s5⟩,er⟩:=akx hl;have s3:bF r:=s3;have er:r.length=d.length:=er;refine⟨p0,λr1 hr1=>af (λ_=>⟨hr1.1,λr2 hr2=>⟨⟨au7 _,by show(0:Int)<(r.length:Int);omega⟩,(show 0<r.length by omega),hr2.1,?_⟩⟩) λ_=>af (λ_=>⟨hr1.1,λr3 hr3=>?_⟩) λ_=>af (λ_=>⟨hr1.1,λr4 hr4=>?_⟩) λ_=>⟨hr1.1,⟨s1,s2,s3⟩,s4,s5⟩⟩
 .refine⟨⟨s1,s2,by show(r.set 0 _).length<=1000;rw[auR];exact s3.1,λx hx=>?_⟩,s4,s5⟩;rcases aws hx with hx|rfl
  .exact s3.2 x hx
  .exact auM hr2.2 (by decide)
 .exact⟨hr3.1,⟨s1,hr3.2.2,s3⟩,s4,hr3.2.1⟩
 .exact⟨hr4.1,⟨hr4.2.1,s2,s3⟩,hr4.2.2,s5⟩
end Go.Proofs.Tryz
