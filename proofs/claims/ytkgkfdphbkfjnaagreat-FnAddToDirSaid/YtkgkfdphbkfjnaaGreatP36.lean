import Derived.Test.YtkgkfdphbkfjnaaGreatP18
namespace Go.Proofs.Tryz
open Go Go.Fw Go.IntWalk Sp
theorem XL{q:List bI}{f:aF}{X:BX}{m:Bool}(h:aZ q=false):uT q f X m=(false,[],()):=by unfold uT;rw[h];rfl
theorem XM{q:List bI}{f:aF}{X:BX}{m:Bool}(h:aZ q=true):aZ q=true/\0<=IntKind.i64.wrap ((q.length:Int)-1)/\IntKind.i64.wrap ((q.length:Int)-1)<(q.length:Int)/\uT q f X m=dJ q f X (IntKind.i64.wrap ((q.length:Int)-1)).toNat m:=by have hl:=Sp.wZ h;have e:IntKind.i64.wrap ((q.length:Int)-1)=((q.length-1:Nat):Int):=(fQ _ (by omega)).trans (by omega);rw[e,awO];refine⟨h,by omega,by omega,?_⟩;unfold uT;rw[h];rfl
theorem Zl:OK Ag.e:=by refine PA.ok mixed (ax [(Jf,.eff (oH CV) J8),kD.e] ⟨⟨VF,SE⟩,qL,trivial⟩) H0 (by kernel_rfl) (show∀q f0 f1 f2 f3 f4 qY,Ag.goal (Zm q f0 f1 f2 f3 f4 qY) (q,(f0,f1,f2,f3,f4,()),qY,())from ?_);intro q f0 f1 f2 f3 f4 r hin hp;dsimp only[Ag]at hp ⊢;obtain⟨hl,hr⟩:q.length<=1000/\aU r:=hp;refine⟨by omega,af (λh=>congrArg (·,()) (XL (f:=(f0,f1,f2,f3,f4,())) (X:=aO r) (m:=true) (dX h)).symm) λh=>?_⟩;obtain⟨h1,h2,h3,h4⟩:=XM (f:=(f0,f1,f2,f3,f4,())) (X:=aO r) (m:=true) (dw h);exact⟨⟨h1,h2,h3,hr⟩,λr0 e=>congrArg (·,()) (e.trans h4.symm)⟩
theorem VI:OK wG.e:=by refine PA.ok mixed (ax [(Jf,.eff (oH CV) J8),kD.e] ⟨⟨VF,SE⟩,qL,trivial⟩) H0 (by kernel_rfl) (show∀q f0 f1 f2 f3 f4 qY,wG.goal (VJ q f0 f1 f2 f3 f4 qY) (q,(f0,f1,f2,f3,f4,()),qY,())from ?_);intro q f0 f1 f2 f3 f4 r hin hp;dsimp only[wG]at hp ⊢;obtain⟨hl,hr⟩:q.length<=1000/\aU r:=hp;refine⟨by omega,af (λh=>congrArg (·,()) (XL (f:=(f0,f1,f2,f3,f4,())) (X:=aO r) (m:=false) (dX h)).symm) λh=>?_⟩;obtain⟨h1,h2,h3,h4⟩:=XM (f:=(f0,f1,f2,f3,f4,())) (X:=aO r) (m:=false) (dw h);exact⟨⟨h1,h2,h3,hr⟩,λr0 e=>congrArg (·,()) (e.trans h4.symm)⟩
theorem Zn:OK Ah.e:=by refine PA.ok mixed (ax [(G8,.eff (oH Af) Jo),kC.e] ⟨⟨Tn,Qs⟩,qM,trivial⟩) H0 (by kernel_rfl) (show∀q f0 f1 f2 f3 f4 a,Ah.goal (Zo q f0 f1 f2 f3 f4 a) (q,(f0,f1,f2,f3,f4,()),a,())from ?_);intro q f0 f1 f2 f3 f4 r hin hp;dsimp only[Ah]at hp ⊢;obtain⟨hl,hr⟩:q.length<=1000/\aU r:=hp;refine⟨by omega,af (λh=>congrArg (·,()) (XL (f:=(f0,f1,f2,f3,f4,())) (X:=aO r) (m:=true) (dX h)).symm) λh=>?_⟩;obtain⟨h1,h2,h3,h4⟩:=XM (f:=(f0,f1,f2,f3,f4,())) (X:=aO r) (m:=true) (dw h);exact⟨⟨h1,h2,h3,hr⟩,λr0 e=>congrArg (·,()) (e.trans h4.symm)⟩
theorem VK:OK wH.e:=by refine PA.ok mixed (ax [(G8,.eff (oH Af) Jo),kC.e] ⟨⟨Tn,Qs⟩,qM,trivial⟩) H0 (by kernel_rfl) (show∀q f0 f1 f2 f3 f4 a,wH.goal (VL q f0 f1 f2 f3 f4 a) (q,(f0,f1,f2,f3,f4,()),a,())from ?_);intro q f0 f1 f2 f3 f4 r hin hp;dsimp only[wH]at hp ⊢;obtain⟨hl,hr⟩:q.length<=1000/\aU r:=hp;refine⟨by omega,af (λh=>congrArg (·,()) (XL (f:=(f0,f1,f2,f3,f4,())) (X:=aO r) (m:=false) (dX h)).symm) λh=>?_⟩;obtain⟨h1,h2,h3,h4⟩:=XM (f:=(f0,f1,f2,f3,f4,())) (X:=aO r) (m:=false) (dw h);exact⟨⟨h1,h2,h3,hr⟩,λr0 e=>congrArg (·,()) (e.trans h4.symm)⟩
theorem adO{a l:List aQ}{n:Nat}(hn:n<l.length):oK a (l.take (n+1))=dU (oK a (l.take n)) (l.getD n ([],0,0,[],())).1 (l.getD n ([],0,0,[],())).2.1 (l.getD n ([],0,0,[],())).2.2.1 (l.getD n ([],0,0,[],())).2.2.2.1:=by rw[Sp.take_succ' l n ([],0,0,[],()) hn];unfold oK;rw[List.foldl_append];rfl
theorem XO{a l:List aQ}:(oK a l).length<=a.length+l.length:=by
 induction l generalizing a with
 |nil=>exact awY _
 |cons x r ih=>have h:=adK a x.1 x.2.1 x.2.2.1 x.2.2.2.1;have h2:=ih (a:=dU a x.1 x.2.1 x.2.2.1 x.2.2.2.1);show(oK (dU a x.1 x.2.1 x.2.2.1 x.2.2.2.1) r).length<=_;rw[awL];omega
theorem ada:OK D9.e:=by
 refine XA.ok mixed (ax [GK.e,nM.e] ⟨aht,yc,trivial⟩) afo (λ⟨f,e,_⟩ _=>⟨((Sp.edited f e.2.1,()),()),rfl⟩) (by kernel_rfl) (show∀f0 f1 f2 f3 f4 e0 e1,D9.goal (adb f0 f1 f2 f3 f4 e0 e1) ((f0,f1,f2,f3,f4,()),(e0,e1,()),())from ?_);intro f0 f1 f2 f3 f4 e0 e1 hin hp;dsimp only[D9]at hp ⊢;obtain⟨h1,h2⟩:f4.length<=400/\e1.length<=400:=hp;refine⟨show f4.length<=1000 by omega,?_⟩;refine bZ (λi(f:aF)=>((i,()),f,())) (λy=>y.1.1) (λ_ _=>rfl) e1.length (by omega) (λn f=>f=Sp.edited (f0,f1,f2,f3,f4,()) (e1.take n)) rfl (λI μ n f hn hJ next=>?_) λI μ f hJ=>?_
 .subst hJ;have hl:=XO (a:=f4) (l:=e1.take n);rw[awK]at hl;dsimp only;rw[awO];refine bU (by omega) ⟨⟨by omega,by omega⟩,show(oK f4 (e1.take n)).length<=900 by omega,?_⟩;rintro⟨⟨⟨a,b,c,d,l,⟨⟩⟩,⟨⟩⟩,⟨⟩⟩ ⟨g1,g2,g3,g4,g5⟩;refine⟨rfl,next _ ?_⟩;obtain rfl:a=f0:=g1;obtain rfl:b=f1:=g2;obtain rfl:c=f2:=g3;obtain rfl:d=f3:=g4;unfold Sp.edited;rw[adO hn];exact congrArg (λz=>(a,b,c,d,z,())) g5
 .subst hJ;dsimp only;rw[aw0];exact bV (by omega) rfl
theorem ade:OK Ea.e:=by
 refine XA.ok mixed (ax [uP.e,mW.e] ⟨Us,ve,trivial⟩) afp (λ⟨f,e,_⟩ _=>⟨((Sp.edited f e.2.1,()),()),rfl⟩) (by kernel_rfl) (show∀f0 f1 f2 f3 f4 w0 w1,Ea.goal (adf f0 f1 f2 f3 f4 w0 w1) ((f0,f1,f2,f3,f4,()),(w0,w1,()),())from ?_);intro f0 f1 f2 f3 f4 e0 e1 hin hp;dsimp only[Ea]at hp ⊢;obtain⟨h1,h2⟩:f4.length<=400/\e1.length<=400:=hp;refine⟨show f4.length<=1000 by omega,?_⟩;refine bZ (λi(f:aF)=>((i,()),f,())) (λy=>y.1.1) (λ_ _=>rfl) e1.length (by omega) (λn f=>f=Sp.edited (f0,f1,f2,f3,f4,()) (e1.take n)) rfl (λI μ n f hn hJ next=>?_) λI μ f hJ=>?_
 .subst hJ;have hl:=XO (a:=f4) (l:=e1.take n);rw[awK]at hl;dsimp only;rw[awO];refine bU (by omega) ⟨⟨by omega,by omega⟩,⟨by omega,by omega⟩,show(oK f4 (e1.take n)).length<=1000 by omega,?_⟩;rintro⟨⟨⟨a,b,c,d,l,⟨⟩⟩,⟨⟩⟩,⟨⟩⟩ ⟨g1,g2,g3,g4,g5⟩;refine⟨rfl,next _ ?_⟩;obtain rfl:a=f0:=g1;obtain rfl:b=f1:=g2;obtain rfl:c=f2:=g3;obtain rfl:d=f3:=g4;unfold Sp.edited;rw[adO hn];exact congrArg (λz=>(a,b,c,d,z,())) g5
 .subst hJ;dsimp only;rw[aw0];exact bV (by omega) rfl
end Go.Proofs.Tryz
namespace Go.Proofs.Tryz
open Go Go.Fw Go.IntWalk Sp
theorem PY{c:dR}{u id:Int}{name:Sp.Bytes}{b:Bool}(h:(dZ c&&(lK c u id&&(jq (dm c) name).2))=false):zf c u name id b=false:=by unfold zf;rw[h];rfl
theorem aqE{c:dR}{u id:Int}{name:Sp.Bytes}{b:Bool}(h:vZ c u name id b (rG c u name id b)=false):zf c u name id b=false:=by unfold zf;rw[h,axo]
theorem atD{c:dR}{u id:Int}{name:Sp.Bytes}{b:Bool}{w:wU}(h:w.1=false):vZ c u name id b w=false:=by unfold vZ;rw[h];rfl
theorem atE{c:dR}{u id:Int}{name:Sp.Bytes}{b:Bool}{w:wU}(h:(lg c id w.2.1).2=false):vZ c u name id b w=false:=by unfold vZ;rw[h,ayc,axo]
theorem atF{c:dR}{u id:Int}{name:Sp.Bytes}{b:Bool}{w:wU}(h:(Sp.listed (lg c id w.2.1).1 (dm c) u name id==b)=false):vZ c u name id b w=false:=by unfold vZ;rw[h,ayc,axo,axo]
theorem arF{c:dR}{u id:Int}{name:Sp.Bytes}{b:Bool}{w:wU}{i:Nat}(hi:i<w.2.1.length)(h:Sp.needed c u name id b w.2.1 i=false):vZ c u name id b w=false:=by unfold vZ;rw[zy hi h,axo,axo,axo]
theorem aqF{c:dR}{u id:Int}{name:Sp.Bytes}{b:Bool}{w:wU}(h1:w.1=true)(h2:(lg c id w.2.1).2=true)(h3:(Sp.listed (lg c id w.2.1).1 (dm c) u name id==b)=true)(h4:∀i,i<w.2.1.length->Sp.needed c u name id b w.2.1 i=true):
 vZ c u name id b w=true:=by unfold vZ;rw[h1,h2,h3,mr h4];rfl
theorem aqG{c:dR}{u id:Int}{name:Sp.Bytes}{b:Bool}(h1:dZ c=true)(h2:lK c u id=true)(h3:(jq (dm c) name).2=true)(h4:vZ c u name id b (rG c u name id b)=true):zf c u name id b=true:=by unfold zf;rw[h1,h2,h3,h4];rfl
theorem jG{c z:dR}{u id:Int}{name:Sp.Bytes}{b:Bool}(h:zf c u name id b=false)(e:z=c):Sp.written c u name id b z [] false:=⟨h.symm,λh=>(by cases h),λ_=>⟨e,rfl⟩⟩
theorem Nr{c x:dR}{id:Int}{l:List aQ}{ok:Bool}(h:Sp.changed c (Sp.edited (au (aY c) id).1 l) true x ok)(hc:dZ c=true):ok=(lg c id l).2/\(ok=true->aY x=(lg c id l).1/\dm x=dm c/\dZ x=true):=by obtain⟨h1,h2,_⟩:=h;rw[hc]at h1;exact⟨h1,h2⟩
theorem EZ(c:dR)(u id:Int)(name:Sp.Bytes)(b:Bool):∃c' set,Sp.written c u name id b c' set (zf c u name id b):=by
 cases h:zf c u name id b with
 |false=>exact⟨c,[],jG h rfl⟩
 |true=>obtain⟨p1,p2,p3,p4,p5,p6,p7⟩:=Pz h;obtain⟨x,hx⟩:=anp c (Sp.edited (au (aY c) id).1 (rG c u name id b).2.1) true;obtain⟨k1,k2⟩:=Nr hx p1;obtain⟨g1,g2,g3⟩:=k2 (k1.trans p5);exact⟨x,_,h.symm,λ_=>⟨g1,g2,g3,rfl⟩,λh=>(by cases h)⟩
theorem Yz{d:List aV}(h:aI d)(name:Sp.Bytes):(jq d name).1.2.1.length<=1000:=by
 have e:jq d name=bif decide (aP d name<0)then(([],[],()),false)else(dP d (aP d name).toNat,true):=rfl
 rw[e];rcases sS d name with⟨g,_⟩|⟨n,hn,g,_,_⟩
 .rw[g];exact axg _
 .rw[g,awT (by omega),awO];exact h.2 _ (getD_mem hn)
theorem amD{c:dR}{u id:Int}{name:Sp.Bytes}{b:Bool}:(rG c u name id b).2.1.length<=256:=by
 unfold rG uT;cases h:aZ (jq (dm c) name).1.2.1 with
 |false=>exact axg _
 |true=>have h1:=(Sp.wZ h).2;refine awR (ahM _ _ _ _ _) ?_;exact awR (aym (n:=2) (by decide) (show(jq (dm c) name).1.2.1.length-1<=8 by omega)) (by decide)
theorem JV{c:dR}{id:Int}(h:dZ c=true)(hf:(au (aY c) id).2=true):(au (aY c) id).1.2.2.2.2.1.length<=5:=by obtain⟨k1,_⟩:=akl h;obtain⟨g1,_,g3,_⟩:=Gi.1 k1;have h1:=amu (Gj (g1 _ (IJ hf).1).1);unfold fO at g3;rw[awG,axa]at g3;omega
theorem IK{c:dR}{id:Int}{l:List aQ}(hc:lU c)(h:dZ c=true)(hf:(au (aY c) id).2=true)(hl:l.length<=400):
 iq c/\bY (Sp.edited (au (aY c) id).1 l)/\RS c/\OM (Sp.edited (au (aY c) id).1 l):=by
 have h1:=JV h hf;have h2:=XO (a:=(au (aY c) id).1.2.2.2.2.1) (l:=l);exact⟨hc.1,show(oK (au (aY c) id).1.2.2.2.2.1 l).length<=1000 by omega,arG hc.2.1,show(oK (au (aY c) id).1.2.2.2.2.1 l).length<=500 by omega⟩
theorem MX{x:dR}{u:Int}(h:dZ x=true)(hd:aI (dm x))(hu:NZ u=true):bn (aY x)/\aI (dm x)/\jI (aY x) (dm x) u:=by obtain⟨k1,k2,_⟩:=akl h;exact⟨(akh h hd).1,hd,k1,k2,hu⟩
theorem aob{c:dR}{u id:Int}{name:Sp.Bytes}{b:Bool}{r:List dH}(hr:r=vP (Sp.visible (aY c) u).2.1 (dm c)):uT (jq (dm c) name).1.2.1 (au (Sp.visible (aY c) u) id).1 (aO r) b=rG c u name id b:=by rw[hr];rfl
theorem Lr:OK rU.e:=by
 refine XA.ok mixed (ax [qg.e,jc.e,FI.e,BJ.e,D9.e,Ag.e,wG.e,oD.e,rO.e,pI.e,FH.e,sJ.e,GR.e,zV.e] ⟨Oq,qO,afk,abg,ada,Zl,VI,Ht,Lm,Fp,afi,H8,ahA,QF,trivial⟩) Zp (λ⟨c,u,name,id,b,_⟩ _=>by obtain⟨c',st,h⟩:=EZ c u id name b;exact⟨((((c'.1,c'.2.1,c'.2.2.1,c'.2.2.2.1,c'.2.2.2.2.1,()),st,zf c u name id b,()),())),h⟩) (by kernel_rfl) (show∀c0 c1 c2 c3 c4 user name id listed,rU.goal (Ls c0 c1 c2 c3 c4 user name id listed) ((c0,c1,c2,c3,c4,()),user,name,id,listed,())from ?_);intro c0 c1 c2 c3 c4 u name id b hin hp;dsimp only[rU]at hp ⊢;have hp:lU (c0,c1,c2,c3,c4,()):=hp
 suffices key:∀C:dR,lU C->Ls C.1 C.2.1 C.2.2.1 C.2.2.2.1 C.2.2.2.2.1 u name id b λz=>Sp.written C u name id b (z.1.1.1,z.1.1.2.1,z.1.1.2.2.1,z.1.1.2.2.2.1,z.1.1.2.2.2.2.1,()) z.1.2.1 z.1.2.2.1 from key (c0,c1,c2,c3,c4,()) hp
 clear hin hp;intro C hp;refine⟨hp.1.1,hp.1.2.1,λ_=>dZ C=true/\lK C u id=true/\(jq (dm C) name).2=true,⟨hp.1,af (λh=>⟨hp.1,λr e=>jG (PY (by rw[show dZ C=false from dX h];rfl)) e⟩) λh1=>af (λh=>⟨hp.1,λr e=>jG (PY ?_) e⟩) λh2=>⟨trivial,af (λh=>⟨hp.1,λr e=>jG (PY ?_) e⟩) λh3=>af (λh=>⟨hp.1,λr e=>jG (PY ?_) e⟩) λh4=>⟨rfl,dw h1,?_,dw h4⟩⟩⟩,?_⟩
 .show(_&&(((au (aY C) id).2&&_)&&_))=false;rw[show(au (aY C) id).2=false from dX h,ayc,ayc,axo]
 .show(_&&((_&&nG (au (aY C) id).1 u)&&_))=false;rw[show nG (au (aY C) id).1 u=false from dX h,axo,ayc,axo]
 .rw[show(jq (dm C) name).2=false from dX h,axo,axo]
 .show((au (aY C) id).2&&nG (au (aY C) id).1 u)=true;rw[show(au (aY C) id).2=true from dw h2,show nG (au (aY C) id).1 u=true from dw h3];rfl
 .rintro _ ⟨p1,p2,p3⟩;have hu:=Ou p2;have hf:=(Lu p2).1;have fC:=MX p1 hp.1.2.1 hu;refine⟨hp.1.1,ER u hp.1.1,⟨hp.1.1,hp.1.2.1⟩,?_⟩;rintro⟨⟨r,okr,⟨⟩⟩,⟨⟩⟩ hr;have hr:r=_:=(hr fC.2.2).1;have sr:aU r:=by rw[hr];exact Px hp.1.1 hp.1.2.1 fC.2.2
  have sq:=Yz hp.1.2.1 name;have e:=λb=>aob (c:=C) (u:=u) (id:=id) (name:=name) (b:=b) hr;refine⟨⟨sq,sr⟩,λy=>y.2.1=rG C u name id b,af (λh=>⟨⟨sq,sr⟩,rfl,?_⟩) λh=>⟨rfl,?_⟩,?_⟩
  .subst h;exact e true
  .subst h;exact e false
  .rintro⟨⟨⟩,w,⟨⟩⟩ hw;have hw:w=rG C u name id b:=hw;have wl:w.2.1.length<=256:=by rw[hw];exact amD
   have no:vZ C u name id b w=false->zf C u name id b=false:=λh=>aqE (by rw[← hw];exact h);refine⟨⟨awR (JV p1 hf) (by decide),awR wl (by decide)⟩,?_⟩;rintro⟨⟨g,⟨⟩⟩,⟨⟩⟩ hg;have hg:g=Sp.edited (au (aY C) id).1 w.2.1:=hg;subst hg;refine⟨IK hp p1 hf (awR wl (by decide)),?_⟩;rintro⟨⟨x,df,okx,⟨⟩⟩,⟨⟩⟩ hx;obtain⟨k1,k2⟩:=Nr (Nq (b:=true) rfl hx) p1;have fX:okx=true->bn (aY x)/\aI (dm x)/\jI (aY x) (dm x) u:=λh=>by obtain⟨_,g2,g3⟩:=k2 h;exact MX g3 (by rw[g2];exact hp.1.2.1) hu
   refine⟨λ_=>w.1=true/\okx=true/\(Sp.listed (lg C id w.2.1).1 (dm C) u name id==b)=true,af (λh=>⟨hp.1,λr e=>jG (no (atD (dX h))) e⟩) λh1=>af (λh=>⟨hp.1,λr e=>jG (no (atE (k1.symm.trans (dX h)))) e⟩) λh2=>⟨fX (dw h2),?_⟩,?_⟩
   .obtain⟨g1,g2,g3⟩:=k2 (dw h2);have el:Sp.listed (x.1,x.2.1,x.2.2.1,()) x.2.2.2.1 u name id=Sp.listed (lg C id w.2.1).1 (dm C) u name id:=by rw[← g1,← g2];rfl
    dsimp only;rw[el];exact af (λh=>⟨hp.1,λr e=>jG (no (atF (dX h))) e⟩) λh=>⟨rfl,dw h1,dw h2,dw h⟩
   .rintro _ ⟨w1,w2,w3⟩;refine bZ (s0:=()) (λi(_:Unit)=>((i,()),())) (λy=>y.1.1) (λ_ _=>rfl) w.2.1.length (by omega) (λn _=>∀i,i<n->Sp.needed C u name id b w.2.1 i=true) (λi hi=>(by omega)) (λI μ n _ hn hJ next=>?_) λI μ _ hJ=>?_
    .dsimp only;have ew:IntKind.i64.wrap ((n:Int)+1)=((n+1:Nat):Int):=fQ _ (by omega);rw[ew]at next ⊢;rw[awO,awO];refine bU (by omega) ⟨by omega,?_⟩;rintro⟨⟨l,⟨⟩⟩,⟨⟩⟩ hl;have hl:l=w.2.1:=hl;subst hl;refine⟨⟨by omega,by omega,by dsimp only;omega⟩,?_⟩;rintro⟨⟨l,⟨⟩⟩,⟨⟩⟩ hl;have hl:l=jP w.2.1 n:=hl;have ll:l.length<=256:=by rw[hl];exact awR (PD w.2.1 n).length_le wl
     refine⟨⟨awR (JV p1 hf) (by decide),awR ll (by decide)⟩,?_⟩;rintro⟨⟨g,⟨⟩⟩,⟨⟩⟩ hg;have hg:g=Sp.edited (au (aY C) id).1 l:=hg;subst hg;refine⟨IK hp p1 hf (awR ll (by decide)),?_⟩;rintro⟨⟨z,dz,okz,⟨⟩⟩,⟨⟩⟩ hz;obtain⟨m1,m2⟩:=Nr (Nq (b:=true) rfl hz) p1;rw[hl]at m1 m2;have needs:Sp.needed C u name id b w.2.1 n=((lg C id (jP w.2.1 n)).2&&!(Sp.listed (lg C id (jP w.2.1 n)).1 (dm C) u name id==b)):=rfl;refine af (λh=>⟨hp.1,λr e=>jG (no (arF hn ?_)) e⟩) λh=>?_
     .rw[needs,← m1,dX h];rfl
     .obtain⟨g1,g2,g3⟩:=m2 (dw h);refine⟨MX g3 (by rw[g2];exact hp.1.2.1) hu,?_⟩;have el:Sp.listed (z.1,z.2.1,z.2.2.1,()) z.2.2.2.1 u name id=Sp.listed (lg C id (jP w.2.1 n)).1 (dm C) u name id:=by rw[← g1,← g2];rfl
      dsimp only;rw[el];refine af (λh4=>⟨hp.1,λr e=>jG (no (arF hn ?_)) e⟩) λh4=>⟨rfl,next () λi hi=>?_⟩
      .rw[needs,h4,Bool.not_true,axo]
      .rcases awZ i n with h5|h5
       .exact hJ i h5
       .rw[show i=n by omega,needs,← m1,dw h,h4];rfl
    .obtain⟨g1,g2,g3⟩:=k2 w2;have hm:zf C u name id b=true:=aqG p1 p2 p3 (by rw[← hw];exact aqF w1 (k1.symm.trans w2) w3 hJ);dsimp only;refine bV (by omega) ?_;refine(⟨hm.symm,λ_=>⟨?_,g2,g3,?_⟩,λh=>(by cases h)⟩:Sp.written C u name id b x w.2.1 true)
     .rw[g1,hw]
     .rw[hw]
end Go.Proofs.Tryz
namespace Go.Proofs.Tryz
open Go Go.Fw Go.IntWalk Sp
theorem Q8:OK Ai.e:=by
 refine XA.ok mixed (ax [tV.e,Ae.e,BK.e,Ea.e,Ah.e,wH.e,qC.e,rM.e,oG.e,GU.e,GN.e,CS.e] ⟨L9,Q7,abq,ade,Zn,VK,Em,Ll,Hu,ahC,ahy,Tf,trivial⟩) ahN (λ⟨c,u,name,id,b,_⟩ _=>by obtain⟨c',st,h⟩:=EZ c u id name b;exact⟨((((c'.1,c'.2.1,c'.2.2.1,c'.2.2.2.1,c'.2.2.2.2.1,()),st,zf c u name id b,()),())),h⟩) (by kernel_rfl) (show∀l0 l1 l2 l3 l4 u name id in',Ai.goal (Q9 l0 l1 l2 l3 l4 u name id in') ((l0,l1,l2,l3,l4,()),u,name,id,in',())from ?_);intro c0 c1 c2 c3 c4 u name id b hin hp;dsimp only[Ai]at hp ⊢;have hp:lU (c0,c1,c2,c3,c4,()):=hp
 suffices key:∀C:dR,lU C->Q9 C.1 C.2.1 C.2.2.1 C.2.2.2.1 C.2.2.2.2.1 u name id b λz=>Sp.written C u name id b (z.1.1.1,z.1.1.2.1,z.1.1.2.2.1,z.1.1.2.2.2.1,z.1.1.2.2.2.2.1,()) z.1.2.1 z.1.2.2.1 from key (c0,c1,c2,c3,c4,()) hp
 clear hin hp;intro C hp;refine⟨hp.1,?_⟩;rintro⟨⟨C2,⟨⟩⟩,⟨⟩⟩ e0;have e0:C2=C:=e0;subst e0;refine⟨hp.1,hp.1.2.1,⟨hp.1.1,hp.1.2.1⟩,?_⟩;rintro⟨⟨r,okr,⟨⟩⟩,⟨⟩⟩ hr;refine⟨λ_=>dZ C2=true/\lK C2 u id=true/\(jq (dm C2) name).2=true,af (λh=>jG (PY ?_) rfl) λh1=>af (λh=>jG (PY ?_) rfl) λh2=>⟨rfl,?_⟩,?_⟩
 .have h:(lK C2 u id&&dZ C2)=false:=dX h;rw[← Bool.and_assoc,Bool.and_comm (dZ C2),h];rfl
 .rw[show(jq (dm C2) name).2=false from dX h,axo,axo]
 .have h:(lK C2 u id&&dZ C2)=true:=dw h1;rw[awG]at h;exact⟨h.2,h.1,dw h2⟩
 .rintro _ ⟨p1,p2,p3⟩;have hu:=Ou p2;have hf:=(Lu p2).1;have fC:=MX p1 hp.1.2.1 hu;have hr:r=_:=(hr fC.2.2).1;have sr:aU r:=by rw[hr];exact Px hp.1.1 hp.1.2.1 fC.2.2
  have sq:=Yz hp.1.2.1 name;have e:=λb=>aob (c:=C2) (u:=u) (id:=id) (name:=name) (b:=b) hr;refine⟨hp.1.1,ER u hp.1.1,⟨sq,sr⟩,λy=>y.2.1=rG C2 u name id b,af (λh=>⟨⟨sq,sr⟩,rfl,?_⟩) λh=>⟨rfl,?_⟩,?_⟩
  .subst h;exact e true
  .subst h;exact e false
  .rintro⟨⟨⟩,w,⟨⟩⟩ hw;have hw:w=rG C2 u name id b:=hw;have wl:w.2.1.length<=256:=by rw[hw];exact amD
   have wa:lW w.2.1:=by rw[hw];exact afq
   have no:vZ C2 u name id b w=false->zf C2 u name id b=false:=λh=>aqE (by rw[← hw];exact h);refine af (λh=>jG (no (atD (dX h))) rfl) λh1=>⟨⟨awR (JV p1 hf) (by decide),awR wl (by decide)⟩,?_⟩;rintro⟨⟨g,⟨⟩⟩,⟨⟩⟩ hg;have hg:g=Sp.edited (au (aY C2) id).1 w.2.1:=hg;subst hg;refine⟨IK hp p1 hf (awR wl (by decide)),?_⟩;rintro⟨⟨x,df,okx,⟨⟩⟩,⟨⟩⟩ hx;obtain⟨k1,k2⟩:=Nr (Nq (b:=true) rfl hx) p1;have fX:okx=true->bn (aY x)/\aI (dm x)/\jI (aY x) (dm x) u:=λh=>by obtain⟨_,g2,g3⟩:=k2 h;exact MX g3 (by rw[g2];exact hp.1.2.1) hu
   refine⟨λ_=>okx=true/\(Sp.listed (lg C2 id w.2.1).1 (dm C2) u name id==b)=true,af (λh=>jG (no (atE (k1.symm.trans (dX h)))) rfl) λh2=>⟨fX (dw h2),?_⟩,?_⟩
   .obtain⟨g1,g2,g3⟩:=k2 (dw h2);have el:Sp.listed (x.1,x.2.1,x.2.2.1,()) x.2.2.2.1 u name id=Sp.listed (lg C2 id w.2.1).1 (dm C2) u name id:=by rw[← g1,← g2];rfl
    dsimp only;rw[el];exact af (λh=>jG (no (atF (dX h))) rfl) λh=>⟨rfl,dw h2,dw h⟩
   .rintro _ ⟨w2,w3⟩;have w1:w.1=true:=dw h1;refine bZ (s0:=()) (λi(_:Unit)=>((i,()),())) (λy=>y.1.1) (λ_ _=>rfl) w.2.1.length (by omega) (λn _=>∀i,i<n->Sp.needed C2 u name id b w.2.1 i=true) (λi hi=>(by omega)) (λI μ n _ hn hJ next=>?_) λI μ _ hJ=>?_
    .dsimp only;have ew:IntKind.i64.wrap ((n:Int)+1)=((n+1:Nat):Int):=fQ _ (by omega);rw[ew]at next ⊢;rw[awO,awO,axU,aw0];have hl:w.2.1.take n++w.2.1.drop (n+1)=jP w.2.1 n:=rfl;have ll:(jP w.2.1 n).length<=256:=awR (PD w.2.1 n).length_le wl;have l1:(w.2.1.take n).length<=256:=by rw[awK];omega
     have l2:(w.2.1.drop (n+1)).length<=256:=by rw[axk];omega
     rw[hl];refine bU (by omega) ⟨⟨by omega,by omega⟩,by rw[bM];omega,⟨by omega,by omega⟩,by rw[bM];omega,⟨awR (JV p1 hf) (by decide),awR ll (by decide)⟩,?_⟩;rintro⟨⟨g,⟨⟩⟩,⟨⟩⟩ hg;have hg:g=Sp.edited (au (aY C2) id).1 (jP w.2.1 n):=hg;subst hg;refine⟨⟨hp.1.1,(IK hp p1 hf (awR ll (by decide))).2.1⟩,?_⟩;rintro⟨⟨⟨s1,s2,s3,⟨⟩⟩,okz,⟨⟩⟩,⟨⟩⟩ ⟨z1,z2,z3,z4⟩;have es:(s1,s2,s3,())=(lg C2 id (jP w.2.1 n)).1:=by refine ayA z1 (ayA z2 (ayA z3 rfl))
     have eo:okz=(lg C2 id (jP w.2.1 n)).2:=z4;have yes:(lg C2 id (jP w.2.1 n)).2=true:=arH n hf wa (k1.symm.trans w2);have needs:Sp.needed C2 u name id b w.2.1 n=((lg C2 id (jP w.2.1 n)).2&&!(Sp.listed (lg C2 id (jP w.2.1 n)).1 (dm C2) u name id==b)):=rfl;refine af (λh=>?_) λh=>?_
     .obtain⟨_,q2,_⟩:=amE hf yes;have q3:bn (lg C2 id (jP w.2.1 n)).1:=MS hp.1.1 (IK hp p1 hf (awR ll (by decide))).2.1;dsimp only;rw[es];refine⟨⟨q3,hp.1.2.1,q2,fC.2.2.2.1,hu⟩,af (λh4=>jG (no (arF hn ?_)) rfl) λh4=>⟨rfl,next () λi hi=>?_⟩⟩
      .rw[needs,show(Sp.listed (lg C2 id (jP w.2.1 n)).1 (dm C2) u name id==b)=true from h4,Bool.not_true,axo]
      .rcases awZ i n with h5|h5
       .exact hJ i h5
       .rw[show i=n by omega,needs,yes,show(Sp.listed (lg C2 id (jP w.2.1 n)).1 (dm C2) u name id==b)=false from h4];rfl
     .have h:okz=false:=h;rw[eo,yes]at h;cases h
    .obtain⟨g1,g2,g3⟩:=k2 w2;have hm:zf C2 u name id b=true:=aqG p1 p2 p3 (by rw[← hw];exact aqF w1 (k1.symm.trans w2) w3 hJ);dsimp only;refine bV (by omega) ⟨by rw[bM];omega,?_⟩;refine(⟨hm.symm,λ_=>⟨?_,g2,g3,?_⟩,λh=>(by cases h)⟩:Sp.written C2 u name id b x w.2.1 true)
     .rw[g1,hw]
     .rw[hw]
theorem afr:OK FK.e:=by refine XA.ok mixed (ax [rU.e] ⟨Lr,trivial⟩) H0 (λ⟨c,u,name,id,_⟩ _=>by obtain⟨c',st,h⟩:=EZ c u id name true;exact⟨((((c'.1,c'.2.1,c'.2.2.1,c'.2.2.2.1,c'.2.2.2.2.1,()),st,zf c u name id true,()),())),h⟩) (by kernel_rfl) (show∀c0 c1 c2 c3 c4 user name id,FK.goal (afs c0 c1 c2 c3 c4 user name id) ((c0,c1,c2,c3,c4,()),user,name,id,())from ?_);intro c0 c1 c2 c3 c4 u name id hin hp;dsimp only[FK]at hp ⊢;exact⟨hp,λr h=>h⟩
theorem VN:OK wI.e:=by refine XA.ok mixed (ax [rU.e] ⟨Lr,trivial⟩) H0 (λ⟨c,u,name,id,_⟩ _=>by obtain⟨c',st,h⟩:=EZ c u id name false;exact⟨((((c'.1,c'.2.1,c'.2.2.1,c'.2.2.2.1,c'.2.2.2.2.1,()),st,zf c u name id false,()),())),h⟩) (by kernel_rfl) (show∀c0 c1 c2 c3 c4 user name id,wI.goal (VO c0 c1 c2 c3 c4 user name id) ((c0,c1,c2,c3,c4,()),user,name,id,())from ?_);intro c0 c1 c2 c3 c4 u name id hin hp;dsimp only[wI]at hp ⊢;exact⟨hp,λr h=>h⟩
theorem aft:OK FM.e:=by refine XA.ok mixed (ax [Ai.e] ⟨Q8,trivial⟩) H0 (λ⟨c,u,name,id,_⟩ _=>by obtain⟨c',st,h⟩:=EZ c u id name true;exact⟨((((c'.1,c'.2.1,c'.2.2.1,c'.2.2.2.1,c'.2.2.2.2.1,()),st,zf c u name id true,()),())),h⟩) (by kernel_rfl) (show∀l0 l1 l2 l3 l4 u name id,FM.goal (afu l0 l1 l2 l3 l4 u name id) ((l0,l1,l2,l3,l4,()),u,name,id,())from ?_);intro c0 c1 c2 c3 c4 u name id hin hp;dsimp only[FM]at hp ⊢;exact⟨hp,λr h=>h⟩
theorem VP:OK wJ.e:=by refine XA.ok mixed (ax [Ai.e] ⟨Q8,trivial⟩) H0 (λ⟨c,u,name,id,_⟩ _=>by obtain⟨c',st,h⟩:=EZ c u id name false;exact⟨((((c'.1,c'.2.1,c'.2.2.1,c'.2.2.2.1,c'.2.2.2.2.1,()),st,zf c u name id false,()),())),h⟩) (by kernel_rfl) (show∀l0 l1 l2 l3 l4 u name id,wJ.goal (VQ l0 l1 l2 l3 l4 u name id) ((l0,l1,l2,l3,l4,()),u,name,id,())from ?_);intro c0 c1 c2 c3 c4 u name id hin hp;dsimp only[wJ]at hp ⊢;exact⟨hp,λr h=>h⟩
theorem XP:OK yM.e:=by refine XA.ok mixed (ax [CU.e,Eu.e] ⟨Tj,Vd,trivial⟩) H0 (λ_ _=>by obtain⟨c,h⟩:=any_some;exact⟨((((c.1,c.2.1,c.2.2.1,c.2.2.2.1,c.2.2.2.2.1,()),0,[],0,()),())),h⟩) (by kernel_rfl) (show∀code,yM.goal (XQ code) (code,())from ?_);intro code hin hp;dsimp only[yM]at hp ⊢;exact⟨hp,λr0 hr0=>⟨by rw[hr0];exact axm _,λr1 hr1=>hr1.2⟩⟩
theorem PE:OK qF.e:=by refine XA.ok mixed (ax [CU.e,Eu.e] ⟨Tj,Vd,trivial⟩) H0 (λ_ _=>by obtain⟨c,h⟩:=any_some;exact⟨((((c.1,c.2.1,c.2.2.1,c.2.2.2.1,c.2.2.2.2.1,()),0,[],0,()),())),h⟩) (by kernel_rfl) (show∀code,qF.goal (PG code) (code,())from ?_);intro code hin hp;dsimp only[qF]at hp ⊢;exact⟨hp,λr0 hr0=>⟨by rw[hr0];exact axm _,λr1 hr1=>hr1.2⟩⟩
end Go.Proofs.Tryz
namespace Go.Proofs.Tryz
open Go Go.Fw Go.IntWalk Sp
theorem akm:∀(L:List Sp.Bytes),∃r:Sp.LS,r.length<=L.length/\(∀s,(s,())∈r↔s∈L)/\Xt r
 |[]=>⟨[],awY _,λs=>by simp,List.Pairwise.nil⟩
 |x::L=>by obtain⟨r,h1,h2,h3⟩:=akm L;refine⟨yU r x,awR (MO _ _) (by rw[awL];omega),λs=>?_,QY h3⟩;rw[qN,h2,aw9,Prod.mk.injEq];simp
theorem ahO{l:Sp.LS}(h:Xt l):l.Nodup:=by unfold Xt at h;unfold List.Nodup;exact h.imp λ{a b} hab e=>Dv hab (congrArg Prod.fst e)
theorem Ov:OK qh.e:=by
 refine XA.ok mixed (ax [oM.e,sH.e,pJ.e] ⟨xE,KX,IE,trivial⟩) PI (λ⟨f,g,_⟩ hp=>by obtain⟨r,h1,h2,h3⟩:=akm (gX f g);exact⟨((r,()),()),⟨awR h1 (awR (QK f g) hp.2.2),h2⟩,ahO h3⟩) (by kernel_rfl) (show∀a0 a1 a2 a3 a4 b0 b1 b2 b3 b4,qh.goal (Ox a0 a1 a2 a3 a4 b0 b1 b2 b3 b4) ((a0,a1,a2,a3,a4,()),(b0,b1,b2,b3,b4,()),())from ?_);intro a0 a1 a2 a3 a b0 b1 b2 b3 b hin hp;dsimp only[qh]at hp ⊢;obtain⟨ha,hb,hab⟩:a.length<=1000/\b.length<=1000/\a.length+b.length<=1000:=hp;refine⟨ha,?_⟩;rintro⟨⟨r0,⟨⟩⟩,⟨⟩⟩ e0;have e0:r0=dO a:=e0;refine⟨hb,?_⟩;rintro⟨⟨r1,⟨⟩⟩,⟨⟩⟩ e1;have e1:r1=dO b:=e1;subst e0 e1;have hL:(dO a++dO b).length=a.length+b.length:=by rw[awN];unfold dO;rw[awV,awV]
 refine⟨by rw[bM];rw[awN]at hL;dsimp only;omega,?_⟩;dsimp only;generalize hLL:dO a++dO b=L at hL;refine bZ (λi(x:Sp.LS)=>((x,i,()),())) (λy=>y.1.2.1) (λ_ _=>rfl) L.length (by omega) (λn l=>l.length<=n/\Xt l/\∀s,(s,())∈l↔(s,())∈(L.take n).filter (nK a b)) ⟨awY _,List.Pairwise.nil,λs=>by simp⟩ (λI μ n l hn hJ next=>?_) λI μ l hJ=>?_
 .obtain⟨hl,hA,hJ⟩:=hJ;have step:=jF (nK a b) ([],()) L hn;dsimp only;rw[eq3,awO];refine bU (by omega) ⟨⟨by omega,by omega⟩,by omega,trivial,⟨by omega,by omega⟩,by omega,trivial,af (λh=>⟨⟨by omega,by omega⟩,by omega,by omega,rfl,next _ ⟨awR (MO _ _) (by omega),QY hA,λs=>?_⟩⟩) λh=>⟨rfl,next _ ⟨by omega,hA,λs=>?_⟩⟩⟩
  .have h:nK a b (L.getD n ([],()))=true:=h;rw[qN,step,h,aw2,hJ];show _↔_\/(s,())∈[L.getD n ([],())];rw[axy];exact Or.comm
  .have h:nK a b (L.getD n ([],()))=false:=h;rw[step,h,hJ];simp
 .obtain⟨hl,hA,hJ⟩:=hJ;rw[aw0]at hJ;dsimp only;refine bV (by omega) ⟨by rw[bM];omega,⟨by show l.length<=1000;omega,λs=>(hJ s).trans ?_⟩,ahO hA⟩;rw[← hLL];exact Uk _ _ _ _ a _ _ _ _ b s
theorem adP{c x y:dR}{u id:Int}{name:Sp.Bytes}{b ok1 ok2:Bool}{s1 s2:List aQ}(h1:Sp.written c u name id b x s1 ok1)(h2:Sp.written c u name id b y s2 ok2):x=y/\s1=s2/\ok1=ok2:=by
 obtain⟨a1,a2,a3⟩:=h1;obtain⟨b1,b2,b3⟩:=h2;have e:=a1.trans b1.symm;cases h:ok1 with
 |true=>
  obtain⟨x1,x2,x3,x4⟩:=a2 h;obtain⟨y1,y2,y3,y4⟩:=b2 (e.symm.trans h);exact⟨arD x3 y3 (x1.trans y1.symm) (x2.trans y2.symm),x4.trans y4.symm,h.symm.trans e⟩
 |false=>obtain⟨x1,x2⟩:=a3 h;obtain⟨y1,y2⟩:=b3 (e.symm.trans h);exact⟨x1.trans y1.symm,x2.trans y2.symm,h.symm.trans e⟩
theorem abB{c x:dR}{u id:Int}{name:Sp.Bytes}{b:Bool}{st:List aQ}(hc:lU c)(h:Sp.written c u name id b x st true):lU x/\bn (aY x)/\aI (dm x)/\jI (aY x) (dm x) u:=by
 obtain⟨hm,hx,_⟩:=h;obtain⟨_,p2,_⟩:=Pz hm.symm;obtain⟨_,xd,xc,_⟩:=hx rfl;have hd:aI (dm x):=by rw[xd];exact hc.1.2.1
 exact⟨asU xc hd,MX xc hd (Ou p2)⟩
theorem anq{c x:dR}{u id:Int}{name:Sp.Bytes}{b:Bool}{st:List aQ}(h:Sp.written c u name id b x st true):lK c u id=true:=(Pz h.1.symm).2.1
theorem abC:OK HY.e:=by
 refine PA.ok mixed (ax [Ad.e,sJ.e,qh.e,Jb.e,sK.e,Ae.e,xK.e,Ac.e,wJ.e,wI.e,qF.e,FM.e,FK.e,yM.e,OL.e] ⟨QZ,H8,Ov,ajm,H9,Q7,OC,Y9,VP,VN,PE,aft,afr,XP,ank,trivial⟩) adg (by kernel_rfl) (show∀code,HY.goal (abD code) (code,())from ?_);intro code hin hp;dsimp only[HY]at hp ⊢;refine⟨trivial,af (λ_=>rfl) λhb=>?_⟩;have hc:code.length<=1048576:=by have:=gZ hb;omega
 refine⟨hc,?_⟩;rintro⟨⟨c,u,name,id,⟨⟩⟩,⟨⟩⟩ hany;have hany:lU c:=hany;refine⟨hany,?_⟩;rintro⟨⟨x,st,ok,⟨⟩⟩,⟨⟩⟩ hx;have hx:Sp.written c u name id true x st ok:=hx;refine⟨hany,?_⟩;rintro⟨⟨x2,st2,ok2,⟨⟩⟩,⟨⟩⟩ hx2;obtain⟨rfl,rfl,rfl⟩:=adP hx hx2;refine⟨hc,?_⟩;rintro⟨⟨a,v,dir,k,⟨⟩⟩,⟨⟩⟩ ahP;have ahP:lU a:=ahP;refine⟨ahP,?_⟩;rintro⟨⟨y,cut,gone,⟨⟩⟩,⟨⟩⟩ hy;have hy:Sp.written a v dir k false y cut gone:=hy;refine⟨ahP,?_⟩;rintro⟨⟨y2,awt,awh,⟨⟩⟩,⟨⟩⟩ hy2;obtain⟨rfl,rfl,rfl⟩:=adP hy hy2;refine⟨λ_=>True,?_,λ_ _=>⟨λ_=>True,?_,λ_ _=>?_⟩⟩
 .dsimp only;rw[show(ok==ok)=true from ayB ok,awS (rfl:x=x),awS (rfl:st=st),show(gone==gone)=true from ayB gone,awS (rfl:y=y),awS (rfl:cut=cut)];exact⟨trivial,trivial,trivial,trivial,rfl,trivial⟩
 .cases gone with
  |false=>exact⟨rfl,trivial⟩
  |true=>obtain⟨k0,k1⟩:=abB ahP hy;obtain⟨n1,n2,_⟩:=adQ hy;refine⟨k1,?_⟩;have n2:Sp.listed (y.1,y.2.1,y.2.2.1,()) y.2.2.2.1 v dir k=false:=n2;have n1:dZ (y.1,y.2.1,y.2.2.1,y.2.2.2.1,y.2.2.2.2.1,())=true:=n1;dsimp only;rw[n2];refine⟨k0.1,?_⟩;rw[show dZ y=true from n1];exact⟨rfl,trivial⟩
 .cases ok with
  |false=>
   obtain⟨e1,e2⟩:=hx.2.2 rfl;subst e1 e2;refine⟨trivial,?_⟩;dsimp only;rw[awS rfl];rfl
  |true=>
   obtain⟨k0,k1⟩:=abB hany hx;obtain⟨n1,n2,n3,n4,n5⟩:=adQ hx;have hw:=anq hx;have hf:=(Lu hw).1;have l1:=arE hany.2.1 id;have l2:=JV (id:=id) n1 (by rw[n3]);refine⟨hany.1.1,k1.1,⟨show(au (aY c) id).1.2.2.2.2.1.length<=1000 by omega,show(au (aY x) id).1.2.2.2.2.1.length<=1000 by omega,show(au (aY c) id).1.2.2.2.2.1.length+(au (aY x) id).1.2.2.2.2.1.length<=1000 by omega⟩,?_⟩;rintro⟨⟨r,⟨⟩⟩,⟨⟩⟩ ⟨hr,hn⟩;have hr:dA r (gX (au (aY c) id).1 (au (aY x) id).1):=hr;rw[n3]at hr;have cnt:r.length=st.length:=anr n4 n5 hn hr.2;have q1:((r.length:Int)==(st.length:Int))=true:=by rw[cnt];exact ayB _
   have q2:nG (au (aY c) id).1 u=true:=by unfold lK at hw;rw[awG]at hw;exact hw.2
   have q3:((au (aY x) id).1.2.2.2.1==(au (aY c) id).1.2.2.2.1)=true:=by rw[n3];exact ayB _
   have q4:((au (aY x) id).1.2.2.1==(au (aY c) id).1.2.2.1)=true:=by rw[n3];exact ayB _
   refine⟨k0.1,amy (show dZ x=true from n1) ⟨k1,amy (show Sp.listed (aY x) (dm x) u name id=true from n2) (amy q1 ⟨trivial,amy q2 (amy q3 ?_)⟩)⟩⟩;exact congrArg (·,()) q4
end Go.Proofs.Tryz
