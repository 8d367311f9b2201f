import Derived.Test.YtdmilcleobbphaaGreatP120
import Derived.Test.YtdmilcleobbphaaGreatFwC
namespace Go.Proofs.Tryz
open Go Go.Fw Go.IntWalk Sp
theorem ZY:OK yO.e:=by
 refine eP [wS.e,lC.e,rO.e,qV.e,dO.e,zH.e,zF.e] ⟨L9,qm,EM,Ah,dX,Qk,I5,⟨⟩⟩ abM (λ_ _=>⟨(((Sp.usual,[(1,0,false,0,[],())],2,()),()),(([],0,0,()),())),⟨jI,rfl,Ql.1,jI,Ql.2,jI⟩⟩) λb i h=>show yO.goal (Z4 b i h) ((b,i,h,()),())fromλB J=>?_
 dsimp only[yO]at J ⊢;have J:0<=i:=J;refine⟨trivial,?_⟩;rintro⟨⟨u,⟨⟩⟩,⟨⟩⟩ r;have r:u=Sp.usual:=r;subst r;refine⟨(show Sp.usual.length<=1000 from jI),?_⟩;rintro⟨⟨⟨a,l,nx,⟨⟩⟩,⟨⟩⟩,⟨⟩⟩ ⟨k,m,q⟩;have k:a=Sp.usual:=k;have m:l=[]:=m;have q:nx=1:=q;subst k m q;refine⟨λy=>0<=y.2.1.2.1/\(0<=y.1.1/\y.1.1<=7)/\tZ 1 (y.2.2.1.1,y.2.2.1.2.1,y.2.2.1.2.2.1,())/\(0<y.1.1->0<y.2.2.1.2.1.length),λy=>(8-y.1.1).toNat,⟨J,⟨(show(0:Int)<=0 from jI),(show(0:Int)<=7 from jI)⟩,⟨rfl,azQ,(show(1:Int)<=((0:Nat):Int)+1 from jI),am7⟩,λh=>absurd h (Int.lt_irrefl 0)⟩,?_⟩;rintro⟨⟨n,⟨⟩⟩,⟨b0,i0,g0,⟨⟩⟩,⟨a,l,nx,⟨⟩⟩,⟨⟩⟩ ⟨t,⟨x,z⟩,D,j⟩;have t:0<=i0:=t;have x:0<=n:=x;have z:n<=7:=z;have D:tZ 1 (a,l,nx,()):=D;have j:0<n->0<l.length:=j;refine⟨t,?_⟩;rintro⟨⟨x1,⟨⟩⟩,⟨b1,i1,g1,⟨⟩⟩,⟨⟩⟩ ⟨p1,A,C,_⟩;have C:x1<7:=C jI;have A:0<=x1:=A;have w:IntKind.i64.wrap (1+x1)=1+x1:=eH _ fC;dsimp only;rw[w];refine af (λN=>⟨p1,?_⟩) λN=>af (λO=>⟨p1,?_⟩) λO=>?_
 .have N:=rU N;have E:IntKind.i64.wrap (n+1)=n+1:=eH _ fC;rw[E];rintro⟨⟨⟨d,o,s,lk,al,⟨⟩⟩,⟨⟩⟩,⟨b2,i2,g2,⟨⟩⟩,⟨⟩⟩ ⟨p2,_,o1,o2,k3,k4,hat,ha⟩;have X:fZ (d,o,s,lk,al,()):=(show al.length<=1000 from aQn ha jI);refine⟨⟨D.small,X⟩,?_⟩;rintro⟨⟨⟨a3,l3,nx3,⟨⟩⟩,id3,ok3,⟨⟩⟩,⟨⟩⟩ ⟨k,m,q,_⟩;have e:((a3,l3,nx3,()):bT)=(bH (a,l,nx,()) (d,o,s,lk,al,())).1:=Mc k m q;refine⟨rfl,⟨p2,⟨(show 0<=n+1 from fC),(show n+1<=7 from fC)⟩,?_,λ_=>?_⟩,?_⟩
  .show tZ 1 (a3,l3,nx3,());rw[e];exact D.create X
  .have:=D.one (f:=(d,o,s,lk,al,())) ⟨o1,o2⟩ ⟨k3,k4⟩ hat
   grind
  grind
 .rintro⟨⟨x3,⟨⟩⟩,⟨b3,i3,g3,⟨⟩⟩,⟨⟩⟩ p3;have O:(l.length:Int)>2:=rU O;refine af (λ_=>⟨⟨jI,(show(1:Int)<l.length from fC)⟩,D.small,?_⟩) λ_=>?_
  .rintro⟨⟨⟨a3,l3,nx3,⟨⟩⟩,ok3,⟨⟩⟩,⟨⟩⟩ ⟨k,m,q,_⟩;have e:=Mc k m q;have g:=D.delete (List.getD l (Int.toNat 1) (0,0,false,0,[],())).1;have g:tZ 2 (a3,l3,nx3,()):=by
    grind
   refine⟨p3,g.sch,g.ok,g.nx,g.small,?_⟩
   grind [dM]
  .have g:=D.more (show(1:Int)<=2 from jI);exact⟨p3,g.sch,g.ok,g.nx,g.small,j jv⟩
 .have g:=D.more (show(1:Int)<=2 from jI);exact⟨p1,g.sch,g.ok,g.nx,g.small,j jv⟩
theorem ahg:OK EF.e:=by
 refine eP [Cb.e,nP.e,sN.e,GK.e] ⟨TA,qp,BG,aaR,⟨⟩⟩ ajf (λ⟨w,n,s,d,_⟩ _=>⟨((Sp.told w n (dI s d w.1 w.2.1),()),()),rfl⟩) λb f k a n g i j d=>show EF.goal (ahh b f k a n g i j d) ((b,f,k,a,()),n,(g,i,j,()),d,())fromλB J=>?_
 dsimp only[EF]at J ⊢;obtain⟨o,Y,e⟩:jP (b,f,k,a,())/\aV (g,i,j,())/\aK d:=J;have m:=ane o;have q:=anf (u:=b) (n:=f) Y e;have r:a.length<=4000000:=o.2.1;refine⟨o,?_⟩;rintro⟨⟨y,⟨⟩⟩,⟨⟩⟩ hr0;subst hr0;dsimp only;refine⟨o,⟨Y,e⟩,⟨fC,fC⟩,λt l=>?_⟩;have W:a.length+1<=big:=o6;refine af (λh=>⟨W,?_⟩) λh=>af (λO=>⟨W,?_⟩) λO=>?_
 · grind [MF]
 · grind [MF]
 grind [Yr]
theorem adf:OK IQ.e:=by
 refine eP [nP.e] ⟨qp,⟨⟩⟩ ae9 (λ⟨s,d,u,t,_⟩ _=>⟨(((u,t,dI s d u t,[],()),()),()),rfl⟩) λa h b d u t=>show IQ.goal (adg a h b d u t) ((a,h,b,()),d,u,t,())fromλB J=>?_
 exact⟨J,rfl⟩
theorem aGm{s:List UInt8}(h:s∈([[],[49],[120,10],[49,10,110,101,120,116,32,49,10,53,46]]:List (List UInt8))):dJ s:=by have a:∀s∈([[],[49],[120,10],[49,10,110,101,120,116,32,49,10,53,46]]:List (List UInt8)),(decide ((Sp.pieces 10 s).length<=100)&&(Sp.pieces 10 s).all λx=>decide (x.1.length<=1000))=true:=jI;have:=a s h;rw[aQm,aQF,aQA]at this;exact⟨this.1,λx Z=>aQ6 (this.2 x Z)⟩
theorem arN:OK Nq.e:=by
 refine eP [jo.e,uF.e,lC.e,KI.e,dO.e] ⟨jR,F8,qm,Zb,dX,⟨⟩⟩ avg (λ_ _=>⟨((([],[],()),()),([],0,0,()),()),aQN _,ak5,ak5⟩) λb d e=>show Nq.goal (arO b d e) ((b,d,e,()),())fromλB J=>?_
 dsimp only[Nq]at J ⊢;refine⟨J,λq l=>?_⟩;obtain⟨a,f,h,_⟩:=l;refine⟨λy=>0<=y.2.1.2.1/\-1000<=y.1.1/\y.1.1<=4/\dJ y.2.2.1.1/\dJ y.2.2.1.2.1,λy=>y.1.1.toNat,⟨a,jv,jv,ak5,ak5⟩,?_⟩;rintro s ⟨i,k,m,n,o⟩;refine af (λg=>?_) λg=>?_
 .refine⟨i,λr K=>⟨K.1,λj x=>?_⟩⟩;have x:0<=j.2.1.2.1:=by simp_all [Int.le_def]
  grind [wrap_in,aaU]
 grind [auX,List.length_pos_iff,wrap_in,aw7,aGm]
theorem ajg:GN (0,[],[],[],()):=⟨ang,λe h=>o5⟩
theorem aKs{u:Int}{d:Sp.Bytes}{l:List (Int×Unit)}{a:List jy}{k:Nat}(h:VB k (u,d,l,a,()))(j:k<=1000){v:Int}{b:List (Int×Unit)}(e:b.length<=7):GN (v,d,b,a,()):=
 ⟨ajh (k:=k) ⟨aQn e fC,h.1.2⟩ j,h.2.1⟩
theorem aGn{u:Int}{e:Sp.Bytes}{l:List (Int×Unit)}{d:List jy}{k:Nat}(h:VB k (u,e,l,d,()))(j:k<=900){v:Int}{a b:List (Int×Unit)}(r:a.length<=7)(U:b.length<=7)(R:v<=1000000):GN (u,e,l,d++[(v,a,b,())],()):=
 ⟨ajh (k:=k+1) ⟨h.1.1,adh h.1.2.1,U7 h.1.2.2 ⟨aQn r jI,aQn U jI⟩⟩ fC,U7 h.2.1 R⟩
theorem arP:OK Ns.e:=by
 refine eP [PE.e,dO.e,Np.e] ⟨avh,dX,aaX,⟨⟩⟩ avi (λ_ _=>⟨(([],()),(([],0,0,()),())),⟨jI,jI,λa h=>o5⟩⟩) λb i h d=>show Ns.goal (arQ b i h d) ((b,i,h,()),d,())fromλB J=>?_
 dsimp only[Ns]at J ⊢;refine bQ (S:=(List (Int×Unit)×Int×Int×Unit)×List Oq) (λn s=>(((),n,()),s.1,s.2,())) (λy=>y.1.2.1) (λ_ _=>rfl) 3 jI (λn s=>0<=s.1.2.1/\s.2.length=n/\∀a∈s.2,zZ a) (s0:=((b,i,h,()),[])) ⟨J.1,rfl,λa o=>by cases o⟩ (λI P n s H E next=>?_) λI P s E=>?_
 .obtain⟨c,l⟩:=s;obtain⟨e,q,f⟩:0<=c.2.1/\l.length=n/\∀a∈l,zZ a:=E;dsimp only;refine dH fC ⟨e,?_⟩;rintro⟨⟨x,⟨⟩⟩,c2,⟨⟩⟩ ⟨p1,p2⟩;refine⟨p1,?_⟩;rintro⟨⟨z,⟨⟩⟩,c3,⟨⟩⟩ ⟨q1,q2⟩;have X:zZ (1,(n:Int),[x,z],[],0,()):=⟨jv,λy F=>by
   grind [arR]⟩
  refine⟨yJ,yJ,rfl,next (c3,l++[(1,(n:Int),[x,z],[],0,())]) ⟨q1,?_,U7 f X⟩⟩
  grind
 .obtain⟨c,l⟩:=s;obtain⟨e,q,f⟩:0<=c.2.1/\l.length=3/\∀a∈l,zZ a:=E;dsimp only;rw[eH (d+1) fC];refine gU fC ⟨e,?_⟩;rintro⟨⟨r,⟨⟩⟩,c4,⟨⟩⟩ ⟨p1,p2,k,_⟩;have k:r<d+1:=k fC;refine⟨λy=>0<=y.1.2.1/\0<=y.2.1.2.1/\(y.2.2.1.length:Int)+y.1.2.1<=3+r/\∀a∈y.2.2.1,zZ a,λy=>y.1.2.1.toNat,⟨p2,p1,jv,f⟩,?_⟩;rintro⟨⟨⟨⟩,m,⟨⟩⟩,c5,l5,⟨⟩⟩ ⟨g,k2,j,k4⟩;have g:0<=m:=g;have j:(l5.length:Int)+m<=3+r:=j;refine af (λN=>⟨k2,?_⟩) λN=>⟨k2,fC,k4⟩;rintro⟨⟨x,⟨⟩⟩,c6,⟨⟩⟩ ⟨q1,q2,q3,q4⟩;rw[eH (m-1) fC];refine⟨yJ,rfl,⟨jv,q1,?_,U7 k4 ⟨aQn q2 jI,q4⟩⟩,jv⟩
  grind
theorem adi:OK Jw.e:=by
 refine eP [F5.e,Ns.e] ⟨ajd,arP,⟨⟩⟩ ax6 (λ_ _=>by obtain⟨x,Z⟩:=aji;exact⟨((x,()),(([],0,0,()),())),⟨aQN _,Z⟩⟩) λb i h=>show Jw.goal (avj b i h) ((b,i,h,()),())fromλB J=>?_
 dsimp only[Jw]at J ⊢;refine⟨⟨J,jI,jI⟩,?_⟩
 grind [aIh]
theorem aGo{k:Nat}{w:iQ}(h:VB k w):VB (k+1) w:=⟨adk h.1 (aRW _),h.2⟩
theorem Zl:OK EG.e:=by
 refine eP [Nh.e,Jq.e,EF.e,IQ.e,dO.e,BU.e,yO.e] ⟨aaY,adl,ahg,adf,dX,Tt,ZY,⟨⟩⟩ arS (λ_ _=>⟨(((0,[],[],[],()),()),(([],0,0,()),())),⟨jI,ajg⟩⟩) λb i h=>show EG.goal (ao1 b i h) ((b,i,h,()),())fromλB J=>?_
 dsimp only[EG]at J ⊢;refine⟨J,?_⟩;rintro⟨⟨⟨s0,s1,s2,⟨⟩⟩,⟨⟩⟩,c0,⟨⟩⟩ ⟨p1,_,_,_,ps,_⟩;refine⟨p1,?_⟩;rintro⟨⟨d,⟨⟩⟩,c1,⟨⟩⟩ ⟨q1,_,qd,_,C⟩;have C:0<d.length:=C;refine⟨q1,?_⟩;rintro⟨⟨u,⟨⟩⟩,c2,⟨⟩⟩ ⟨u1,_⟩;refine⟨u1,?_⟩;rintro⟨⟨j,⟨⟩⟩,c3,⟨⟩⟩ ⟨v1,v2,l,_⟩;have l:j<(d.length:Int):=l fC;refine⟨⟨v2,l⟩,⟨ps,qd⟩,?_⟩;rintro⟨⟨w,⟨⟩⟩,⟨⟩⟩ o;have o:w=(u,(d.getD j.toNat ([],[],())).1,dI (s0,s1,s2,()) d u (d.getD j.toNat ([],[],())).1,[],()):=o;subst o;dsimp only;refine⟨λy=>(1<=y.1.1/\y.1.1<=5)/\0<=y.2.1.2.1/\VB y.1.1.toNat (y.2.2.1.1,y.2.2.1.2.1,y.2.2.1.2.2.1,y.2.2.2.1,()),λy=>(6-y.1.1).toNat,⟨⟨jv,jv⟩,v1,aGo (aIi _ _ _ _)⟩,?_⟩;rintro⟨⟨k,⟨⟩⟩,c4,⟨u4,n4,l4,⟨⟩,⟨⟩⟩,es,⟨⟩⟩ ⟨⟨s,z⟩,k3,f⟩;have s:1<=k:=s;have z:k<=5:=z;have f:VB k.toNat (u4,n4,l4,es,()):=f;refine⟨k3,?_⟩;rintro⟨⟨t,⟨⟩⟩,c5,⟨⟩⟩ ⟨t1,D,E,_⟩;have D:0<=t:=D;have E:t<4:=E jI;dsimp only;rw[eH (2+t) fC,eH (k+1) fC];refine af (λN=>⟨t1,?_⟩) λN=>⟨t1,?_⟩
 .have N:=rU N;rintro⟨⟨⟨z0,z1,z2,⟨⟩⟩,⟨⟩⟩,c6,⟨⟩⟩ ⟨o1,_,_,_,os,_⟩;refine⟨⟨ajh f.1 fC,os,qd⟩,?_⟩;rintro⟨⟨w2,⟨⟩⟩,⟨⟩⟩ g;have g:w2=Sp.told (u4,n4,l4,es,()) k (dI (z0,z1,z2,()) d u4 n4):=g;have F:=aGp f (z0,z1,z2,()) d (n:=k) fC
  grind
 .rintro⟨⟨m,⟨⟩⟩,c7,⟨⟩⟩ ⟨m1,_⟩;have q:=aEg f fC;refine af (λ_=>⟨m1,?_⟩) λ_=>af (λ_=>⟨m1,?_⟩) λ_=>af (λ_=>⟨m1,?_⟩) λ_=>⟨m1,q⟩
  · grind [aKs]
  .exactλr hr=>⟨hr,q⟩
  .rintro⟨⟨x,⟨⟩⟩,c8,⟨⟩⟩ ⟨n1,_,A,_⟩;have A:x<8:=A jI;refine⟨n1,?_⟩;rintro⟨⟨a,⟨⟩⟩,c9,⟨⟩⟩ ⟨a1,a2⟩;refine⟨a1,?_⟩;rintro⟨⟨e,⟨⟩⟩,c10,⟨⟩⟩ ⟨e1,e2⟩;have W:es.length<=k.toNat:=f.1.2.1
   grind [bV,aGn]
theorem U8:OK D9.e:=by
 refine eP [WZ.e,EG.e,MX.e,KT.e,Nq.e,dO.e,Jw.e] ⟨avk,Zl,arx,ao2,arN,dX,adi,⟨⟩⟩ ax7 (λ_ _=>by obtain⟨x,Z⟩:=aji;exact⟨((x,()),(([],0,0,()),())),⟨aQN _,Z.1⟩⟩) λb i h=>show D9.goal (avl b i h) ((b,i,h,()),())fromλB J=>?_
 dsimp only[D9]at J ⊢;refine⟨J,?_⟩;rintro⟨⟨⟨a,l,nx,d,r,da,db,v,vs,ws,q,⟨⟩⟩,⟨⟩⟩,c,⟨⟩⟩ ⟨p1,g⟩;have g:Vp (a,l,nx,d,r,da,db,v,vs,ws,q,()):=g;obtain⟨C,O,K,e,f⟩:=g.1;have j:ws.length<=4:=(Ht g.2).few;refine⟨p1,?_⟩;rintro⟨⟨n,⟨⟩⟩,c1,⟨⟩⟩ ⟨q1,_⟩;refine af (λ_=>⟨q1,C,O,K,e,f⟩) λ_=>af (λ_=>⟨q1,?_⟩) λ_=>af (λ_=>⟨q1,?_⟩) λ_=>af (λ_=>⟨q1,?_⟩) λ_=>af (λ_=>⟨q1,?_⟩) λ_=>af (λ_=>⟨q1,?_⟩) λ_=>⟨q1,C,O,K,e,f⟩
 .rintro⟨⟨⟨u,w,⟨⟩⟩,⟨⟩⟩,c2,⟨⟩⟩ ⟨k1,k2,k3⟩;exact⟨k1,C,⟨k2,k3⟩,K,e,f⟩
 .rintro⟨⟨u,⟨⟩⟩,c2,⟨⟩⟩ ⟨k1,k2⟩;exact⟨k1,C,O,K,e,aQn k2 jI⟩
 .rintro⟨⟨u,⟨⟩⟩,c2,⟨⟩⟩ ⟨k1,k2,k3⟩;exact⟨k1,C,O,⟨k3,aQn k2 jI⟩,e,f⟩
 .rintro⟨⟨u,⟨⟩⟩,c2,⟨⟩⟩ ⟨k1,k2⟩;refine⟨yJ,k1,C,O,K,⟨?_,U7 e.2 k2.1⟩,f⟩;exact aQn (adh j) jI
 .rintro⟨⟨u,⟨⟩⟩,c2,⟨⟩⟩ ⟨k1,k2⟩;exact⟨k1,k2,O,K,e,f⟩
theorem ajj:OK Oi.e:=by
 refine eP [Jw.e,wZ.e] ⟨adi,Hf,⟨⟩⟩ H0 (λ_ _=>by obtain⟨x,Z⟩:=aji;exact⟨((x,()),()),Z⟩) λa=>show Oi.goal (ajk a) (a,())fromλB J=>?_
 refine⟨J,λb l=>⟨afg,λd C=>C.2⟩⟩
theorem Z5:OK Fp.e:=by
 refine eP [FQ.e,EG.e,wZ.e] ⟨aiU,Zl,Hf,⟨⟩⟩ H0 (λ_ _=>⟨(((0,[],[],[],()),0,()),()),ajg⟩) λa=>show Fp.goal (Z7 a) (a,())fromλB J=>?_
 refine⟨J,λb l=>⟨afg,λd C=>⟨C.1,λe O=>C.2⟩⟩⟩
theorem Z8:OK Fq.e:=by
 refine eP [Fp.e] ⟨Z5,⟨⟩⟩ H0 (λ_ _=>⟨(((0,[],[],[],()),0,()),()),ajg⟩) λa=>show Fq.goal (Z9 a) (a,())fromλB J=>?_
 exact⟨J,λr h=>h⟩
theorem Qu:OK vS.e:=by
 refine eP [D9.e,wZ.e] ⟨U8,Hf,⟨⟩⟩ H0 (λ_ _=>⟨((Sp.zeroS,()),()),Zm⟩) λa=>show vS.goal (Qv a) (a,())fromλB J=>?_
 exact⟨J,λb l=>⟨afg,λd C=>C.2⟩⟩
theorem adn:OK IU.e:=by
 refine eP [jl.e,D9.e,wZ.e] ⟨kF,U8,Hf,⟨⟩⟩ H0 (λ_ _=>⟨((Sp.zeroS,0,()),()),Zm⟩) λa=>show IU.goal (ado a) (a,())fromλB J=>?_
 exact⟨J,λb l=>⟨afg,λd C=>⟨⟨C.1,jI⟩,λe O=>C.2⟩⟩⟩
theorem TF:OK xG.e:=by
 refine eP [IU.e] ⟨adn,⟨⟩⟩ H0 (λ_ _=>⟨((Sp.zeroS,0,()),()),Zm⟩) λa=>show xG.goal (TG a) (a,())fromλB J=>?_
 exact⟨J,λr h=>h⟩
theorem U9:OK zl.e:=by
 refine eP [UE.e,Nh.e,jl.e,D9.e,wZ.e] ⟨arT,aaY,kF,U8,Hf,⟨⟩⟩ Wq (λ_ _=>⟨((Sp.zeroS,0,0,[],()),()),Zm⟩) λa=>show zl.goal (Va a) (a,())fromλB J=>?_
 exact⟨J,λb l=>⟨afg,λd C=>⟨⟨C.1,ni⟩,λe O=>⟨O.1,λf K=>⟨K,λg x=>C.2⟩⟩⟩⟩⟩
theorem alY:OK Qe.e:=by
 refine dW [nP.e,Oi.e,ED.e,EC.e,rZ.e,rY.e,Ru.e,LQ.e,LM.e,qj.e,qi.e,vS.e,D6.e,D5.e,zl.e,Fq.e,xG.e,aeb.e] ⟨qp,ajj,ahe,ahc,U5,U2,ao3,aha,ag8,JD,JC,Qu,Zj,Zh,U9,Z8,TF,aBV,⟨⟩⟩ ao4 λd=>show Qe.goal (alZ d) (d,())fromλB J=>?_
 dsimp only[Qe]at J ⊢;refine⟨trivial,af (λ_=>rfl) λh=>?_⟩;have W:d.length<=1048576:=jv;refine⟨W,?_⟩;rintro⟨⟨x,i,⟨⟩⟩,⟨⟩⟩ Z;have Z:Sp.anyS x:=Z;refine⟨W,?_⟩;rintro⟨⟨w,v,⟨⟩⟩,⟨⟩⟩ o;have o:GN w:=o;refine⟨W,?_⟩;rintro⟨⟨a,n,u,nm,⟨⟩⟩,⟨⟩⟩ r;have r:Sp.anyS a:=r;refine⟨r,?_⟩;rintro⟨⟨ids,ok,⟨⟩⟩,⟨⟩⟩ C;refine⟨r,?_⟩;rintro⟨⟨want,has,⟨⟩⟩,⟨⟩⟩ O;have C:(ids,ok)=pX a n u nm:=C;have O:(want,has)=pX a n u nm:=O;obtain rfl:ids=want:=congrArg Prod.fst (C.trans O.symm);obtain rfl:ok=has:=congrArg Prod.snd (C.trans O.symm);clear C O;refine⟨W,?_⟩;rintro⟨⟨b,⟨⟩⟩,⟨⟩⟩ U;have U:Sp.anyS b:=U;dsimp only;have e:∀{t:Bool},(!(t==t))=true->False:=λ{t} g=>by cases t<;>cases g
 have j:∀{f:Type}[DecidableEq f]{t:f},(!(decide (t=t)))=true->False:=λ{f _ t} g=>jv;have k:∀{t:Int},(t !=t)=true->False:=λ{t} g=>by simp at g
 refine⟨λ_=>True,⟨Z,Z,af (λg=>(e g).elim) λ_=>⟨o.1,o.1,trivial,af (λg=>(j g).elim) λ_=>af (λg=>(e g).elim) λ_=>⟨trivial,af (λg=>(j g).elim) λ_=>⟨U,U,af (λg=>(e g).elim) λ_=>⟨o.1,o.1,af (λg=>(k g).elim) λ_=>⟨rfl,trivial⟩⟩⟩⟩⟩⟩,λy _=>⟨W,?_⟩⟩;rintro⟨⟨s,⟨⟩⟩,⟨⟩⟩ Y;have Y:Vp s:=Y;refine⟨Y.1,?_⟩;rintro⟨⟨now,there,⟨⟩⟩,⟨⟩⟩ K;have K:(now,there)=pX s (rF s) 0 [100,97]:=K;rw[aKt Y.2]at K;obtain rfl:now=dI (aQ (jQ s)) (bF (jQ s)) 0 [100,97]:=congrArg Prod.fst K;obtain rfl:there=true:=congrArg Prod.snd K;refine⟨⟨Y.1.1.1.1,Y.1.1.1.2.1⟩,trivial,af (λ_=>⟨Y.1,af (λ_=>⟨o.1,?_⟩) λg=>?_⟩) λg=>?_⟩
 · grind [aEh]
 .have g:Sp.streams s=false:=g;rw[aB0 Y.2]at g;cases g
 .exact absurd rfl (aSm g)
end Go.Proofs.Tryz
