import Derived.Test.YtkgkfdphbkfjnaaGreatP18
namespace Go.Proofs.Tryz
open Go Go.Fw Go.IntWalk Sp
theorem X3{q:List bI}{f:aF}{X:BX}{m:Bool}(h:aZ q=false):tu q f X m=(false,[],()):=by unfold tu;rw[h];rfl
theorem X4{q:List bI}{f:aF}{X:BX}{m:Bool}(h:aZ q=true):aZ q=true/\0<=IntKind.i64.wrap ((q.length:Int)-1)/\IntKind.i64.wrap ((q.length:Int)-1)<(q.length:Int)/\tu q f X m=dH q f X (IntKind.i64.wrap ((q.length:Int)-1)).toNat m:=by have hl:=Sp.xu h;have e:IntKind.i64.wrap ((q.length:Int)-1)=((q.length-1:Nat):Int):=(fQ _ (by omega)).trans (by omega);rw[e,awX];refine⟨h,by omega,by omega,?_⟩;unfold tu;rw[h];rfl
theorem Zw:OK Ai.e:=by refine PA.ok mixed (ax [(Jj,.eff (oH CZ) Kt),kD.e] ⟨⟨VW,Td⟩,qM,trivial⟩) H0 (by kernel_rfl) (show∀q f0 f1 f2 f3 f4 qZ,Ai.goal (Zx q f0 f1 f2 f3 f4 qZ) (q,(f0,f1,f2,f3,f4,()),qZ,())from ?_);intro q f0 f1 f2 f3 f4 r hin hp;dsimp only[Ai]at hp ⊢;obtain⟨hl,hr⟩:q.length<=1000/\aU r:=hp;refine⟨by omega,af (λh=>congrArg (·,()) (X3 (f:=(f0,f1,f2,f3,f4,())) (X:=aO r) (m:=true) (dY h)).symm) λh=>?_⟩;obtain⟨h1,h2,h3,h4⟩:=X4 (f:=(f0,f1,f2,f3,f4,())) (X:=aO r) (m:=true) (dw h);exact⟨⟨h1,h2,h3,hr⟩,λr0 e=>congrArg (·,()) (e.trans h4.symm)⟩
theorem VZ:OK wJ.e:=by refine PA.ok mixed (ax [(Jj,.eff (oH CZ) Kt),kD.e] ⟨⟨VW,Td⟩,qM,trivial⟩) H0 (by kernel_rfl) (show∀q f0 f1 f2 f3 f4 qZ,wJ.goal (V3 q f0 f1 f2 f3 f4 qZ) (q,(f0,f1,f2,f3,f4,()),qZ,())from ?_);intro q f0 f1 f2 f3 f4 r hin hp;dsimp only[wJ]at hp ⊢;obtain⟨hl,hr⟩:q.length<=1000/\aU r:=hp;refine⟨by omega,af (λh=>congrArg (·,()) (X3 (f:=(f0,f1,f2,f3,f4,())) (X:=aO r) (m:=false) (dY h)).symm) λh=>?_⟩;obtain⟨h1,h2,h3,h4⟩:=X4 (f:=(f0,f1,f2,f3,f4,())) (X:=aO r) (m:=false) (dw h);exact⟨⟨h1,h2,h3,hr⟩,λr0 e=>congrArg (·,()) (e.trans h4.symm)⟩
theorem Zy:OK Aj.e:=by refine PA.ok mixed (ax [(Hg,.eff (oH Ah) Jt),kC.e] ⟨⟨TN,QE⟩,qN,trivial⟩) H0 (by kernel_rfl) (show∀q f0 f1 f2 f3 f4 a,Aj.goal (Zz q f0 f1 f2 f3 f4 a) (q,(f0,f1,f2,f3,f4,()),a,())from ?_);intro q f0 f1 f2 f3 f4 r hin hp;dsimp only[Aj]at hp ⊢;obtain⟨hl,hr⟩:q.length<=1000/\aU r:=hp;refine⟨by omega,af (λh=>congrArg (·,()) (X3 (f:=(f0,f1,f2,f3,f4,())) (X:=aO r) (m:=true) (dY h)).symm) λh=>?_⟩;obtain⟨h1,h2,h3,h4⟩:=X4 (f:=(f0,f1,f2,f3,f4,())) (X:=aO r) (m:=true) (dw h);exact⟨⟨h1,h2,h3,hr⟩,λr0 e=>congrArg (·,()) (e.trans h4.symm)⟩
theorem V4:OK wK.e:=by refine PA.ok mixed (ax [(Hg,.eff (oH Ah) Jt),kC.e] ⟨⟨TN,QE⟩,qN,trivial⟩) H0 (by kernel_rfl) (show∀q f0 f1 f2 f3 f4 a,wK.goal (V5 q f0 f1 f2 f3 f4 a) (q,(f0,f1,f2,f3,f4,()),a,())from ?_);intro q f0 f1 f2 f3 f4 r hin hp;dsimp only[wK]at hp ⊢;obtain⟨hl,hr⟩:q.length<=1000/\aU r:=hp;refine⟨by omega,af (λh=>congrArg (·,()) (X3 (f:=(f0,f1,f2,f3,f4,())) (X:=aO r) (m:=false) (dY h)).symm) λh=>?_⟩;obtain⟨h1,h2,h3,h4⟩:=X4 (f:=(f0,f1,f2,f3,f4,())) (X:=aO r) (m:=false) (dw h);exact⟨⟨h1,h2,h3,hr⟩,λr0 e=>congrArg (·,()) (e.trans h4.symm)⟩
theorem adX{a l:List aS}{n:Nat}(hn:n<l.length):oK a (l.take (n+1))=dU (oK a (l.take n)) (l.getD n ([],0,0,[],())).1 (l.getD n ([],0,0,[],())).2.1 (l.getD n ([],0,0,[],())).2.2.1 (l.getD n ([],0,0,[],())).2.2.2.1:=by rw[Sp.take_succ' l n ([],0,0,[],()) hn];unfold oK;rw[List.foldl_append];rfl
theorem X5{a l:List aS}:(oK a l).length<=a.length+l.length:=by
 induction l generalizing a with
 |nil=>exact aw7 _
 |cons x r ih=>have h:=adS a x.1 x.2.1 x.2.2.1 x.2.2.2.1;have h2:=ih (a:=dU a x.1 x.2.1 x.2.2.1 x.2.2.2.1);show(oK (dU a x.1 x.2.1 x.2.2.1 x.2.2.2.1) r).length<=_;rw[awU];omega
theorem ado:OK Ee.e:=by
 refine XA.ok mixed (ax [GU.e,nM.e] ⟨ahz,yu,trivial⟩) afw (λ⟨f,e,_⟩ _=>⟨((Sp.edited f e.2.1,()),()),rfl⟩) (by kernel_rfl) (show∀f0 f1 f2 f3 f4 e0 e1,Ee.goal (adp f0 f1 f2 f3 f4 e0 e1) ((f0,f1,f2,f3,f4,()),(e0,e1,()),())from ?_);intro f0 f1 f2 f3 f4 e0 e1 hin hp;dsimp only[Ee]at hp ⊢;obtain⟨h1,h2⟩:f4.length<=400/\e1.length<=400:=hp;refine⟨show f4.length<=1000 by omega,?_⟩;refine bZ (λi(f:aF)=>((i,()),f,())) (λy=>y.1.1) (λ_ _=>rfl) e1.length (by omega) (λn f=>f=Sp.edited (f0,f1,f2,f3,f4,()) (e1.take n)) rfl (λI μ n f hn hJ next=>?_) λI μ f hJ=>?_
 .subst hJ;have hl:=X5 (a:=f4) (l:=e1.take n);rw[awT]at hl;dsimp only;rw[awX];refine bU (by omega) ⟨⟨by omega,by omega⟩,show(oK f4 (e1.take n)).length<=900 by omega,?_⟩;rintro⟨⟨⟨a,b,c,d,l,⟨⟩⟩,⟨⟩⟩,⟨⟩⟩ ⟨g1,g2,g3,g4,g5⟩;refine⟨rfl,next _ ?_⟩;obtain rfl:a=f0:=g1;obtain rfl:b=f1:=g2;obtain rfl:c=f2:=g3;obtain rfl:d=f3:=g4;unfold Sp.edited;rw[adX hn];exact congrArg (λz=>(a,b,c,d,z,())) g5
 .subst hJ;dsimp only;rw[aw9];exact bV (by omega) rfl
theorem adq:OK Ef.e:=by
 refine XA.ok mixed (ax [uX.e,mW.e] ⟨UG,vG,trivial⟩) afx (λ⟨f,e,_⟩ _=>⟨((Sp.edited f e.2.1,()),()),rfl⟩) (by kernel_rfl) (show∀f0 f1 f2 f3 f4 w0 w1,Ef.goal (adr f0 f1 f2 f3 f4 w0 w1) ((f0,f1,f2,f3,f4,()),(w0,w1,()),())from ?_);intro f0 f1 f2 f3 f4 e0 e1 hin hp;dsimp only[Ef]at hp ⊢;obtain⟨h1,h2⟩:f4.length<=400/\e1.length<=400:=hp;refine⟨show f4.length<=1000 by omega,?_⟩;refine bZ (λi(f:aF)=>((i,()),f,())) (λy=>y.1.1) (λ_ _=>rfl) e1.length (by omega) (λn f=>f=Sp.edited (f0,f1,f2,f3,f4,()) (e1.take n)) rfl (λI μ n f hn hJ next=>?_) λI μ f hJ=>?_
 .subst hJ;have hl:=X5 (a:=f4) (l:=e1.take n);rw[awT]at hl;dsimp only;rw[awX];refine bU (by omega) ⟨⟨by omega,by omega⟩,⟨by omega,by omega⟩,show(oK f4 (e1.take n)).length<=1000 by omega,?_⟩;rintro⟨⟨⟨a,b,c,d,l,⟨⟩⟩,⟨⟩⟩,⟨⟩⟩ ⟨g1,g2,g3,g4,g5⟩;refine⟨rfl,next _ ?_⟩;obtain rfl:a=f0:=g1;obtain rfl:b=f1:=g2;obtain rfl:c=f2:=g3;obtain rfl:d=f3:=g4;unfold Sp.edited;rw[adX hn];exact congrArg (λz=>(a,b,c,d,z,())) g5
 .subst hJ;dsimp only;rw[aw9];exact bV (by omega) rfl
end Go.Proofs.Tryz
namespace Go.Proofs.Tryz
open Go Go.Fw Go.IntWalk Sp
theorem Qd{c:dR}{u id:Int}{name:Sp.Bytes}{b:Bool}(h:(dX c&&(kK c u id&&(iI (cZ c) name).2))=false):wY c u name id b=false:=by unfold wY;rw[h];rfl
theorem aqL{c:dR}{u id:Int}{name:Sp.Bytes}{b:Bool}(h:uK c u name id b (ql c u name id b)=false):wY c u name id b=false:=by unfold wY;rw[h,axx]
theorem atN{c:dR}{u id:Int}{name:Sp.Bytes}{b:Bool}{w:wX}(h:w.1=false):uK c u name id b w=false:=by unfold uK;rw[h];rfl
theorem atO{c:dR}{u id:Int}{name:Sp.Bytes}{b:Bool}{w:wX}(h:(kS c id w.2.1).2=false):uK c u name id b w=false:=by unfold uK;rw[h,ayl,axx]
theorem atP{c:dR}{u id:Int}{name:Sp.Bytes}{b:Bool}{w:wX}(h:(Sp.listed (kS c id w.2.1).1 (cZ c) u name id==b)=false):uK c u name id b w=false:=by unfold uK;rw[h,ayl,axx,axx]
theorem arN{c:dR}{u id:Int}{name:Sp.Bytes}{b:Bool}{w:wX}{i:Nat}(hi:i<w.2.1.length)(h:Sp.needed c u name id b w.2.1 i=false):uK c u name id b w=false:=by unfold uK;rw[zC hi h,axx,axx,axx]
theorem aqM{c:dR}{u id:Int}{name:Sp.Bytes}{b:Bool}{w:wX}(h1:w.1=true)(h2:(kS c id w.2.1).2=true)(h3:(Sp.listed (kS c id w.2.1).1 (cZ c) u name id==b)=true)(h4:∀i,i<w.2.1.length->Sp.needed c u name id b w.2.1 i=true):
 uK c u name id b w=true:=by unfold uK;rw[h1,h2,h3,mr h4];rfl
theorem aqN{c:dR}{u id:Int}{name:Sp.Bytes}{b:Bool}(h1:dX c=true)(h2:kK c u id=true)(h3:(iI (cZ c) name).2=true)(h4:uK c u name id b (ql c u name id b)=true):wY c u name id b=true:=by unfold wY;rw[h1,h2,h3,h4];rfl
theorem jG{c z:dR}{u id:Int}{name:Sp.Bytes}{b:Bool}(h:wY c u name id b=false)(e:z=c):Sp.written c u name id b z [] false:=⟨h.symm,λh=>(by cases h),λ_=>⟨e,rfl⟩⟩
theorem NG{c x:dR}{id:Int}{l:List aS}{ok:Bool}(h:Sp.changed c (Sp.edited (aj (aW c) id).1 l) true x ok)(hc:dX c=true):ok=(kS c id l).2/\(ok=true->aW x=(kS c id l).1/\cZ x=cZ c/\dX x=true):=by obtain⟨h1,h2,_⟩:=h;rw[hc]at h1;exact⟨h1,h2⟩
theorem Fb(c:dR)(u id:Int)(name:Sp.Bytes)(b:Bool):∃c' set,Sp.written c u name id b c' set (wY c u name id b):=by
 cases h:wY c u name id b with
 |false=>exact⟨c,[],jG h rfl⟩
 |true=>obtain⟨p1,p2,p3,p4,p5,p6,p7⟩:=LH h;obtain⟨x,hx⟩:=anw c (Sp.edited (aj (aW c) id).1 (ql c u name id b).2.1) true;obtain⟨k1,k2⟩:=NG hx p1;obtain⟨g1,g2,g3⟩:=k2 (k1.trans p5);exact⟨x,_,h.symm,λ_=>⟨g1,g2,g3,rfl⟩,λh=>(by cases h)⟩
theorem YK{d:List aV}(h:aI d)(name:Sp.Bytes):(iI d name).1.2.1.length<=1000:=by
 have e:iI d name=bif decide (aP d name<0)then(([],[],()),false)else(dN d (aP d name).toNat,true):=rfl
 rw[e];rcases sU d name with⟨g,_⟩|⟨n,hn,g,_,_⟩
 .rw[g];exact axp _
 .rw[g,aw1 (by omega),awX];exact h.2 _ (getD_mem hn)
theorem amL{c:dR}{u id:Int}{name:Sp.Bytes}{b:Bool}:(ql c u name id b).2.1.length<=256:=by
 unfold ql tu;cases h:aZ (iI (cZ c) name).1.2.1 with
 |false=>exact axp _
 |true=>have h1:=(Sp.xu h).2;refine aw2 (ahS _ _ _ _ _) ?_;exact aw2 (ayv (n:=2) (by decide) (show(iI (cZ c) name).1.2.1.length-1<=8 by omega)) (by decide)
theorem J3{c:dR}{id:Int}(h:dX c=true)(hf:(aj (aW c) id).2=true):(aj (aW c) id).1.2.2.2.2.1.length<=5:=by obtain⟨k1,_⟩:=Oi h;obtain⟨g1,_,g3,_⟩:=DF.1 k1;have h1:=amC (Gm (g1 _ (Fe hf).1).1);unfold fO at g3;rw[awP,axj]at g3;omega
theorem IV{c:dR}{id:Int}{l:List aS}(hc:kJ c)(h:dX c=true)(hf:(aj (aW c) id).2=true)(hl:l.length<=400):
 iq c/\bY (Sp.edited (aj (aW c) id).1 l)/\SA c/\OY (Sp.edited (aj (aW c) id).1 l):=by
 have h1:=J3 h hf;have h2:=X5 (a:=(aj (aW c) id).1.2.2.2.2.1) (l:=l);exact⟨hc.1,show(oK (aj (aW c) id).1.2.2.2.2.1 l).length<=1000 by omega,arO hc.2.1,show(oK (aj (aW c) id).1.2.2.2.2.1 l).length<=500 by omega⟩
theorem Np{x:dR}{u:Int}(h:dX x=true)(hd:aI (cZ x))(hu:Oh u=true):bn (aW x)/\aI (cZ x)/\jI (aW x) (cZ x) u:=by obtain⟨k1,k2,_⟩:=Oi h;exact⟨(ako h hd).1,hd,k1,k2,hu⟩
theorem aoh{c:dR}{u id:Int}{name:Sp.Bytes}{b:Bool}{r:List dI}(hr:r=uh (Sp.visible (aW c) u).2.1 (cZ c)):tu (iI (cZ c) name).1.2.1 (aj (Sp.visible (aW c) u) id).1 (aO r) b=ql c u name id b:=by rw[hr];rfl
theorem LJ:OK rU.e:=by
 refine XA.ok mixed (ax [qg.e,jd.e,FP.e,BO.e,Ee.e,Ai.e,wJ.e,oD.e,rO.e,pI.e,FO.e,sK.e,GY.e,zY.e] ⟨OC,qP,afs,abr,ado,Zw,VZ,HY,LD,FC,afq,Ie,ahG,QT,trivial⟩) ZA (λ⟨c,u,name,id,b,_⟩ _=>by obtain⟨c',st,h⟩:=Fb c u id name b;exact⟨((((c'.1,c'.2.1,c'.2.2.1,c'.2.2.2.1,c'.2.2.2.2.1,()),st,wY c u name id b,()),())),h⟩) (by kernel_rfl) (show∀c0 c1 c2 c3 c4 user name id listed,rU.goal (LK c0 c1 c2 c3 c4 user name id listed) ((c0,c1,c2,c3,c4,()),user,name,id,listed,())from ?_);intro c0 c1 c2 c3 c4 u name id b hin hp;dsimp only[rU]at hp ⊢;have hp:kJ (c0,c1,c2,c3,c4,()):=hp
 suffices key:∀C:dR,kJ C->LK C.1 C.2.1 C.2.2.1 C.2.2.2.1 C.2.2.2.2.1 u name id b λz=>Sp.written C u name id b (z.1.1.1,z.1.1.2.1,z.1.1.2.2.1,z.1.1.2.2.2.1,z.1.1.2.2.2.2.1,()) z.1.2.1 z.1.2.2.1 from key (c0,c1,c2,c3,c4,()) hp
 clear hin hp;intro C hp;refine⟨hp.1.1,hp.1.2.1,λ_=>dX C=true/\kK C u id=true/\(iI (cZ C) name).2=true,⟨hp.1,af (λh=>⟨hp.1,λr e=>jG (Qd (by rw[show dX C=false from dY h];rfl)) e⟩) λh1=>af (λh=>⟨hp.1,λr e=>jG (Qd ?_) e⟩) λh2=>⟨trivial,af (λh=>⟨hp.1,λr e=>jG (Qd ?_) e⟩) λh3=>af (λh=>⟨hp.1,λr e=>jG (Qd ?_) e⟩) λh4=>⟨rfl,dw h1,?_,dw h4⟩⟩⟩,?_⟩
 .show(_&&(((aj (aW C) id).2&&_)&&_))=false;rw[show(aj (aW C) id).2=false from dY h,ayl,ayl,axx]
 .show(_&&((_&&nG (aj (aW C) id).1 u)&&_))=false;rw[show nG (aj (aW C) id).1 u=false from dY h,axx,ayl,axx]
 .rw[show(iI (cZ C) name).2=false from dY h,axx,axx]
 .show((aj (aW C) id).2&&nG (aj (aW C) id).1 u)=true;rw[show(aj (aW C) id).2=true from dw h2,show nG (aj (aW C) id).1 u=true from dw h3];rfl
 .rintro _ ⟨p1,p2,p3⟩;have hu:=OE p2;have hf:=(Gn p2).1;have fC:=Np p1 hp.1.2.1 hu;refine⟨hp.1.1,EW u hp.1.1,⟨hp.1.1,hp.1.2.1⟩,?_⟩;rintro⟨⟨r,okr,⟨⟩⟩,⟨⟩⟩ hr;have hr:r=_:=(hr fC.2.2).1;have sr:aU r:=by rw[hr];exact PN hp.1.1 hp.1.2.1 fC.2.2
  have sq:=YK hp.1.2.1 name;have e:=λb=>aoh (c:=C) (u:=u) (id:=id) (name:=name) (b:=b) hr;refine⟨⟨sq,sr⟩,λy=>y.2.1=ql C u name id b,af (λh=>⟨⟨sq,sr⟩,rfl,?_⟩) λh=>⟨rfl,?_⟩,?_⟩
  .subst h;exact e true
  .subst h;exact e false
  .rintro⟨⟨⟩,w,⟨⟩⟩ hw;have hw:w=ql C u name id b:=hw;have wl:w.2.1.length<=256:=by rw[hw];exact amL
   have no:uK C u name id b w=false->wY C u name id b=false:=λh=>aqL (by rw[← hw];exact h);refine⟨⟨aw2 (J3 p1 hf) (by decide),aw2 wl (by decide)⟩,?_⟩;rintro⟨⟨g,⟨⟩⟩,⟨⟩⟩ hg;have hg:g=Sp.edited (aj (aW C) id).1 w.2.1:=hg;subst hg;refine⟨IV hp p1 hf (aw2 wl (by decide)),?_⟩;rintro⟨⟨x,df,okx,⟨⟩⟩,⟨⟩⟩ hx;obtain⟨k1,k2⟩:=NG (ND (b:=true) rfl hx) p1;have fX:okx=true->bn (aW x)/\aI (cZ x)/\jI (aW x) (cZ x) u:=λh=>by obtain⟨_,g2,g3⟩:=k2 h;exact Np g3 (by rw[g2];exact hp.1.2.1) hu
   refine⟨λ_=>w.1=true/\okx=true/\(Sp.listed (kS C id w.2.1).1 (cZ C) u name id==b)=true,af (λh=>⟨hp.1,λr e=>jG (no (atN (dY h))) e⟩) λh1=>af (λh=>⟨hp.1,λr e=>jG (no (atO (k1.symm.trans (dY h)))) e⟩) λh2=>⟨fX (dw h2),?_⟩,?_⟩
   .obtain⟨g1,g2,g3⟩:=k2 (dw h2);have el:Sp.listed (x.1,x.2.1,x.2.2.1,()) x.2.2.2.1 u name id=Sp.listed (kS C id w.2.1).1 (cZ C) u name id:=by rw[← g1,← g2];rfl
    dsimp only;rw[el];exact af (λh=>⟨hp.1,λr e=>jG (no (atP (dY h))) e⟩) λh=>⟨rfl,dw h1,dw h2,dw h⟩
   .rintro _ ⟨w1,w2,w3⟩;refine bZ (s0:=()) (λi(_:Unit)=>((i,()),())) (λy=>y.1.1) (λ_ _=>rfl) w.2.1.length (by omega) (λn _=>∀i,i<n->Sp.needed C u name id b w.2.1 i=true) (λi hi=>(by omega)) (λI μ n _ hn hJ next=>?_) λI μ _ hJ=>?_
    .dsimp only;have ew:IntKind.i64.wrap ((n:Int)+1)=((n+1:Nat):Int):=fQ _ (by omega);rw[ew]at next ⊢;rw[awX,awX];refine bU (by omega) ⟨by omega,?_⟩;rintro⟨⟨l,⟨⟩⟩,⟨⟩⟩ hl;have hl:l=w.2.1:=hl;subst hl;refine⟨⟨by omega,by omega,by dsimp only;omega⟩,?_⟩;rintro⟨⟨l,⟨⟩⟩,⟨⟩⟩ hl;have hl:l=jQ w.2.1 n:=hl;have ll:l.length<=256:=by rw[hl];exact aw2 (PS w.2.1 n).length_le wl
     refine⟨⟨aw2 (J3 p1 hf) (by decide),aw2 ll (by decide)⟩,?_⟩;rintro⟨⟨g,⟨⟩⟩,⟨⟩⟩ hg;have hg:g=Sp.edited (aj (aW C) id).1 l:=hg;subst hg;refine⟨IV hp p1 hf (aw2 ll (by decide)),?_⟩;rintro⟨⟨z,dz,okz,⟨⟩⟩,⟨⟩⟩ hz;obtain⟨m1,m2⟩:=NG (ND (b:=true) rfl hz) p1;rw[hl]at m1 m2;have needs:Sp.needed C u name id b w.2.1 n=((kS C id (jQ w.2.1 n)).2&&!(Sp.listed (kS C id (jQ w.2.1 n)).1 (cZ C) u name id==b)):=rfl;refine af (λh=>⟨hp.1,λr e=>jG (no (arN hn ?_)) e⟩) λh=>?_
     .rw[needs,← m1,dY h];rfl
     .obtain⟨g1,g2,g3⟩:=m2 (dw h);refine⟨Np g3 (by rw[g2];exact hp.1.2.1) hu,?_⟩;have el:Sp.listed (z.1,z.2.1,z.2.2.1,()) z.2.2.2.1 u name id=Sp.listed (kS C id (jQ w.2.1 n)).1 (cZ C) u name id:=by rw[← g1,← g2];rfl
      dsimp only;rw[el];refine af (λh4=>⟨hp.1,λr e=>jG (no (arN hn ?_)) e⟩) λh4=>⟨rfl,next () λi hi=>?_⟩
      .rw[needs,h4,Bool.not_true,axx]
      .rcases aw8 i n with h5|h5
       .exact hJ i h5
       .rw[show i=n by omega,needs,← m1,dw h,h4];rfl
    .obtain⟨g1,g2,g3⟩:=k2 w2;have hm:wY C u name id b=true:=aqN p1 p2 p3 (by rw[← hw];exact aqM w1 (k1.symm.trans w2) w3 hJ);dsimp only;refine bV (by omega) ?_;refine(⟨hm.symm,λ_=>⟨?_,g2,g3,?_⟩,λh=>(by cases h)⟩:Sp.written C u name id b x w.2.1 true)
     .rw[g1,hw]
     .rw[hw]
end Go.Proofs.Tryz
namespace Go.Proofs.Tryz
open Go Go.Fw Go.IntWalk Sp
theorem Ro:OK Ak.e:=by
 refine XA.ok mixed (ax [tZ.e,Ag.e,BP.e,Ef.e,Aj.e,wK.e,qE.e,rM.e,oG.e,GZ.e,GX.e,CX.e] ⟨MH,Rn,abB,adq,Zy,V4,Et,LC,H6,ahI,ahE,TG,trivial⟩) ahT (λ⟨c,u,name,id,b,_⟩ _=>by obtain⟨c',st,h⟩:=Fb c u id name b;exact⟨((((c'.1,c'.2.1,c'.2.2.1,c'.2.2.2.1,c'.2.2.2.2.1,()),st,wY c u name id b,()),())),h⟩) (by kernel_rfl) (show∀l0 l1 l2 l3 l4 u name id in',Ak.goal (Rq l0 l1 l2 l3 l4 u name id in') ((l0,l1,l2,l3,l4,()),u,name,id,in',())from ?_);intro c0 c1 c2 c3 c4 u name id b hin hp;dsimp only[Ak]at hp ⊢;have hp:kJ (c0,c1,c2,c3,c4,()):=hp
 suffices key:∀C:dR,kJ C->Rq C.1 C.2.1 C.2.2.1 C.2.2.2.1 C.2.2.2.2.1 u name id b λz=>Sp.written C u name id b (z.1.1.1,z.1.1.2.1,z.1.1.2.2.1,z.1.1.2.2.2.1,z.1.1.2.2.2.2.1,()) z.1.2.1 z.1.2.2.1 from key (c0,c1,c2,c3,c4,()) hp
 clear hin hp;intro C hp;refine⟨hp.1,?_⟩;rintro⟨⟨C2,⟨⟩⟩,⟨⟩⟩ e0;have e0:C2=C:=e0;subst e0;refine⟨hp.1,hp.1.2.1,⟨hp.1.1,hp.1.2.1⟩,?_⟩;rintro⟨⟨r,okr,⟨⟩⟩,⟨⟩⟩ hr;refine⟨λ_=>dX C2=true/\kK C2 u id=true/\(iI (cZ C2) name).2=true,af (λh=>jG (Qd ?_) rfl) λh1=>af (λh=>jG (Qd ?_) rfl) λh2=>⟨rfl,?_⟩,?_⟩
 .have h:(kK C2 u id&&dX C2)=false:=dY h;rw[← Bool.and_assoc,Bool.and_comm (dX C2),h];rfl
 .rw[show(iI (cZ C2) name).2=false from dY h,axx,axx]
 .have h:(kK C2 u id&&dX C2)=true:=dw h1;rw[awP]at h;exact⟨h.2,h.1,dw h2⟩
 .rintro _ ⟨p1,p2,p3⟩;have hu:=OE p2;have hf:=(Gn p2).1;have fC:=Np p1 hp.1.2.1 hu;have hr:r=_:=(hr fC.2.2).1;have sr:aU r:=by rw[hr];exact PN hp.1.1 hp.1.2.1 fC.2.2
  have sq:=YK hp.1.2.1 name;have e:=λb=>aoh (c:=C2) (u:=u) (id:=id) (name:=name) (b:=b) hr;refine⟨hp.1.1,EW u hp.1.1,⟨sq,sr⟩,λy=>y.2.1=ql C2 u name id b,af (λh=>⟨⟨sq,sr⟩,rfl,?_⟩) λh=>⟨rfl,?_⟩,?_⟩
  .subst h;exact e true
  .subst h;exact e false
  .rintro⟨⟨⟩,w,⟨⟩⟩ hw;have hw:w=ql C2 u name id b:=hw;have wl:w.2.1.length<=256:=by rw[hw];exact amL
   have wa:lW w.2.1:=by rw[hw];exact afy
   have no:uK C2 u name id b w=false->wY C2 u name id b=false:=λh=>aqL (by rw[← hw];exact h);refine af (λh=>jG (no (atN (dY h))) rfl) λh1=>⟨⟨aw2 (J3 p1 hf) (by decide),aw2 wl (by decide)⟩,?_⟩;rintro⟨⟨g,⟨⟩⟩,⟨⟩⟩ hg;have hg:g=Sp.edited (aj (aW C2) id).1 w.2.1:=hg;subst hg;refine⟨IV hp p1 hf (aw2 wl (by decide)),?_⟩;rintro⟨⟨x,df,okx,⟨⟩⟩,⟨⟩⟩ hx;obtain⟨k1,k2⟩:=NG (ND (b:=true) rfl hx) p1;have fX:okx=true->bn (aW x)/\aI (cZ x)/\jI (aW x) (cZ x) u:=λh=>by obtain⟨_,g2,g3⟩:=k2 h;exact Np g3 (by rw[g2];exact hp.1.2.1) hu
   refine⟨λ_=>okx=true/\(Sp.listed (kS C2 id w.2.1).1 (cZ C2) u name id==b)=true,af (λh=>jG (no (atO (k1.symm.trans (dY h)))) rfl) λh2=>⟨fX (dw h2),?_⟩,?_⟩
   .obtain⟨g1,g2,g3⟩:=k2 (dw h2);have el:Sp.listed (x.1,x.2.1,x.2.2.1,()) x.2.2.2.1 u name id=Sp.listed (kS C2 id w.2.1).1 (cZ C2) u name id:=by rw[← g1,← g2];rfl
    dsimp only;rw[el];exact af (λh=>jG (no (atP (dY h))) rfl) λh=>⟨rfl,dw h2,dw h⟩
   .rintro _ ⟨w2,w3⟩;have w1:w.1=true:=dw h1;refine bZ (s0:=()) (λi(_:Unit)=>((i,()),())) (λy=>y.1.1) (λ_ _=>rfl) w.2.1.length (by omega) (λn _=>∀i,i<n->Sp.needed C2 u name id b w.2.1 i=true) (λi hi=>(by omega)) (λI μ n _ hn hJ next=>?_) λI μ _ hJ=>?_
    .dsimp only;have ew:IntKind.i64.wrap ((n:Int)+1)=((n+1:Nat):Int):=fQ _ (by omega);rw[ew]at next ⊢;rw[awX,awX,ax3,aw9];have hl:w.2.1.take n++w.2.1.drop (n+1)=jQ w.2.1 n:=rfl;have ll:(jQ w.2.1 n).length<=256:=aw2 (PS w.2.1 n).length_le wl;have l1:(w.2.1.take n).length<=256:=by rw[awT];omega
     have l2:(w.2.1.drop (n+1)).length<=256:=by rw[axt];omega
     rw[hl];refine bU (by omega) ⟨⟨by omega,by omega⟩,by rw[bM];omega,⟨by omega,by omega⟩,by rw[bM];omega,⟨aw2 (J3 p1 hf) (by decide),aw2 ll (by decide)⟩,?_⟩;rintro⟨⟨g,⟨⟩⟩,⟨⟩⟩ hg;have hg:g=Sp.edited (aj (aW C2) id).1 (jQ w.2.1 n):=hg;subst hg;refine⟨⟨hp.1.1,(IV hp p1 hf (aw2 ll (by decide))).2.1⟩,?_⟩;rintro⟨⟨⟨s1,s2,s3,⟨⟩⟩,okz,⟨⟩⟩,⟨⟩⟩ ⟨z1,z2,z3,z4⟩;have es:(s1,s2,s3,())=(kS C2 id (jQ w.2.1 n)).1:=by refine ayK z1 (ayK z2 (ayK z3 rfl))
     have eo:okz=(kS C2 id (jQ w.2.1 n)).2:=z4;have yes:(kS C2 id (jQ w.2.1 n)).2=true:=arP n hf wa (k1.symm.trans w2);have needs:Sp.needed C2 u name id b w.2.1 n=((kS C2 id (jQ w.2.1 n)).2&&!(Sp.listed (kS C2 id (jQ w.2.1 n)).1 (cZ C2) u name id==b)):=rfl;refine af (λh=>?_) λh=>?_
     .obtain⟨_,q2,_⟩:=ahU hf yes;have q3:bn (kS C2 id (jQ w.2.1 n)).1:=Nj hp.1.1 (IV hp p1 hf (aw2 ll (by decide))).2.1;dsimp only;rw[es];refine⟨⟨q3,hp.1.2.1,q2,fC.2.2.2.1,hu⟩,af (λh4=>jG (no (arN hn ?_)) rfl) λh4=>⟨rfl,next () λi hi=>?_⟩⟩
      .rw[needs,show(Sp.listed (kS C2 id (jQ w.2.1 n)).1 (cZ C2) u name id==b)=true from h4,Bool.not_true,axx]
      .rcases aw8 i n with h5|h5
       .exact hJ i h5
       .rw[show i=n by omega,needs,yes,show(Sp.listed (kS C2 id (jQ w.2.1 n)).1 (cZ C2) u name id==b)=false from h4];rfl
     .have h:okz=false:=h;rw[eo,yes]at h;cases h
    .obtain⟨g1,g2,g3⟩:=k2 w2;have hm:wY C2 u name id b=true:=aqN p1 p2 p3 (by rw[← hw];exact aqM w1 (k1.symm.trans w2) w3 hJ);dsimp only;refine bV (by omega) ⟨by rw[bM];omega,?_⟩;refine(⟨hm.symm,λ_=>⟨?_,g2,g3,?_⟩,λh=>(by cases h)⟩:Sp.written C2 u name id b x w.2.1 true)
     .rw[g1,hw]
     .rw[hw]
theorem Rt:OK Am.e:=by refine XA.ok mixed (ax [rU.e] ⟨LJ,trivial⟩) H0 (λ⟨c,u,name,id,_⟩ _=>by obtain⟨c',st,h⟩:=Fb c u id name true;exact⟨((((c'.1,c'.2.1,c'.2.2.1,c'.2.2.2.1,c'.2.2.2.2.1,()),st,wY c u name id true,()),())),h⟩) (by kernel_rfl) (show∀c0 c1 c2 c3 c4 user name id,Am.goal (afz c0 c1 c2 c3 c4 user name id) ((c0,c1,c2,c3,c4,()),user,name,id,())from ?_);intro c0 c1 c2 c3 c4 u name id hin hp;dsimp only[Am]at hp ⊢;exact⟨hp,λr h=>h⟩
theorem V6:OK wL.e:=by refine XA.ok mixed (ax [rU.e] ⟨LJ,trivial⟩) H0 (λ⟨c,u,name,id,_⟩ _=>by obtain⟨c',st,h⟩:=Fb c u id name false;exact⟨((((c'.1,c'.2.1,c'.2.2.1,c'.2.2.2.1,c'.2.2.2.2.1,()),st,wY c u name id false,()),())),h⟩) (by kernel_rfl) (show∀c0 c1 c2 c3 c4 user name id,wL.goal (V7 c0 c1 c2 c3 c4 user name id) ((c0,c1,c2,c3,c4,()),user,name,id,())from ?_);intro c0 c1 c2 c3 c4 u name id hin hp;dsimp only[wL]at hp ⊢;exact⟨hp,λr h=>h⟩
theorem Ru:OK Ap.e:=by refine XA.ok mixed (ax [Ak.e] ⟨Ro,trivial⟩) H0 (λ⟨c,u,name,id,_⟩ _=>by obtain⟨c',st,h⟩:=Fb c u id name true;exact⟨((((c'.1,c'.2.1,c'.2.2.1,c'.2.2.2.1,c'.2.2.2.2.1,()),st,wY c u name id true,()),())),h⟩) (by kernel_rfl) (show∀l0 l1 l2 l3 l4 u name id,Ap.goal (afA l0 l1 l2 l3 l4 u name id) ((l0,l1,l2,l3,l4,()),u,name,id,())from ?_);intro c0 c1 c2 c3 c4 u name id hin hp;dsimp only[Ap]at hp ⊢;exact⟨hp,λr h=>h⟩
theorem V8:OK wM.e:=by refine XA.ok mixed (ax [Ak.e] ⟨Ro,trivial⟩) H0 (λ⟨c,u,name,id,_⟩ _=>by obtain⟨c',st,h⟩:=Fb c u id name false;exact⟨((((c'.1,c'.2.1,c'.2.2.1,c'.2.2.2.1,c'.2.2.2.2.1,()),st,wY c u name id false,()),())),h⟩) (by kernel_rfl) (show∀l0 l1 l2 l3 l4 u name id,wM.goal (V9 l0 l1 l2 l3 l4 u name id) ((l0,l1,l2,l3,l4,()),u,name,id,())from ?_);intro c0 c1 c2 c3 c4 u name id hin hp;dsimp only[wM]at hp ⊢;exact⟨hp,λr h=>h⟩
theorem LM:OK rV.e:=by refine XA.ok mixed (ax [CY.e,EC.e] ⟨TL,Vu,trivial⟩) H0 (λ_ _=>by obtain⟨c,h⟩:=any_some;exact⟨((((c.1,c.2.1,c.2.2.1,c.2.2.2.1,c.2.2.2.2.1,()),0,[],0,()),())),h⟩) (by kernel_rfl) (show∀code,rV.goal (X6 code) (code,())from ?_);intro code hin hp;dsimp only[rV]at hp ⊢;exact⟨hp,λr0 hr0=>⟨by rw[hr0];exact axv _,λr1 hr1=>hr1.2⟩⟩
theorem PU:OK qG.e:=by refine XA.ok mixed (ax [CY.e,EC.e] ⟨TL,Vu,trivial⟩) H0 (λ_ _=>by obtain⟨c,h⟩:=any_some;exact⟨((((c.1,c.2.1,c.2.2.1,c.2.2.2.1,c.2.2.2.2.1,()),0,[],0,()),())),h⟩) (by kernel_rfl) (show∀code,qG.goal (PV code) (code,())from ?_);intro code hin hp;dsimp only[qG]at hp ⊢;exact⟨hp,λr0 hr0=>⟨by rw[hr0];exact axv _,λr1 hr1=>hr1.2⟩⟩
end Go.Proofs.Tryz
namespace Go.Proofs.Tryz
open Go Go.Fw Go.IntWalk Sp
theorem akt:∀(L:List Sp.Bytes),∃r:Sp.LS,r.length<=L.length/\(∀s,(s,())∈r↔s∈L)/\XK r
 |[]=>⟨[],aw7 _,λs=>by simp,List.Pairwise.nil⟩
 |x::L=>by obtain⟨r,h1,h2,h3⟩:=akt L;refine⟨yZ r x,aw2 (Na _ _) (by rw[awU];omega),λs=>?_,Rj h3⟩;rw[qO,h2,axi,Prod.mk.injEq];simp
theorem ahV{l:Sp.LS}(h:XK l):l.Nodup:=by unfold XK at h;unfold List.Nodup;exact h.imp λ{a b} hab e=>Dz hab (congrArg Prod.fst e)
theorem OG:OK qh.e:=by
 refine XA.ok mixed (ax [oM.e,sJ.e,pJ.e] ⟨xJ,Ld,IL,trivial⟩) PW (λ⟨f,g,_⟩ hp=>by obtain⟨r,h1,h2,h3⟩:=akt (gX f g);exact⟨((r,()),()),⟨aw2 h1 (aw2 (QW f g) hp.2.2),h2⟩,ahV h3⟩) (by kernel_rfl) (show∀a0 a1 a2 a3 a4 b0 b1 b2 b3 b4,qh.goal (OH a0 a1 a2 a3 a4 b0 b1 b2 b3 b4) ((a0,a1,a2,a3,a4,()),(b0,b1,b2,b3,b4,()),())from ?_);intro a0 a1 a2 a3 a b0 b1 b2 b3 b hin hp;dsimp only[qh]at hp ⊢;obtain⟨ha,hb,hab⟩:a.length<=1000/\b.length<=1000/\a.length+b.length<=1000:=hp;refine⟨ha,?_⟩;rintro⟨⟨r0,⟨⟩⟩,⟨⟩⟩ e0;have e0:r0=dP a:=e0;refine⟨hb,?_⟩;rintro⟨⟨r1,⟨⟩⟩,⟨⟩⟩ e1;have e1:r1=dP b:=e1;subst e0 e1;have hL:(dP a++dP b).length=a.length+b.length:=by rw[awW];unfold dP;rw[aw4,aw4]
 refine⟨by rw[bM];rw[awW]at hL;dsimp only;omega,?_⟩;dsimp only;generalize hLL:dP a++dP b=L at hL;refine bZ (λi(x:Sp.LS)=>((x,i,()),())) (λy=>y.1.2.1) (λ_ _=>rfl) L.length (by omega) (λn l=>l.length<=n/\XK l/\∀s,(s,())∈l↔(s,())∈(L.take n).filter (nK a b)) ⟨aw7 _,List.Pairwise.nil,λs=>by simp⟩ (λI μ n l hn hJ next=>?_) λI μ l hJ=>?_
 .obtain⟨hl,hA,hJ⟩:=hJ;have step:=jF (nK a b) ([],()) L hn;dsimp only;rw[eq3,awX];refine bU (by omega) ⟨⟨by omega,by omega⟩,by omega,trivial,⟨by omega,by omega⟩,by omega,trivial,af (λh=>⟨⟨by omega,by omega⟩,by omega,by omega,rfl,next _ ⟨aw2 (Na _ _) (by omega),Rj hA,λs=>?_⟩⟩) λh=>⟨rfl,next _ ⟨by omega,hA,λs=>?_⟩⟩⟩
  .have h:nK a b (L.getD n ([],()))=true:=h;rw[qO,step,h,axb,hJ];show _↔_\/(s,())∈[L.getD n ([],())];rw[axH];exact Or.comm
  .have h:nK a b (L.getD n ([],()))=false:=h;rw[step,h,hJ];simp
 .obtain⟨hl,hA,hJ⟩:=hJ;rw[aw9]at hJ;dsimp only;refine bV (by omega) ⟨by rw[bM];omega,⟨by show l.length<=1000;omega,λs=>(hJ s).trans ?_⟩,ahV hA⟩;rw[← hLL];exact UA _ _ _ _ a _ _ _ _ b s
theorem UK{c x y:dR}{u id:Int}{name:Sp.Bytes}{b ok1 ok2:Bool}{s1 s2:List aS}(h1:Sp.written c u name id b x s1 ok1)(h2:Sp.written c u name id b y s2 ok2):x=y/\s1=s2/\ok1=ok2:=by
 obtain⟨a1,a2,a3⟩:=h1;obtain⟨b1,b2,b3⟩:=h2;have e:=a1.trans b1.symm;cases h:ok1 with
 |true=>
  obtain⟨x1,x2,x3,x4⟩:=a2 h;obtain⟨y1,y2,y3,y4⟩:=b2 (e.symm.trans h);exact⟨arL x3 y3 (x1.trans y1.symm) (x2.trans y2.symm),x4.trans y4.symm,h.symm.trans e⟩
 |false=>obtain⟨x1,x2⟩:=a3 h;obtain⟨y1,y2⟩:=b3 (e.symm.trans h);exact⟨x1.trans y1.symm,x2.trans y2.symm,h.symm.trans e⟩
theorem Rw{c x:dR}{u id:Int}{name:Sp.Bytes}{b:Bool}{st:List aS}(hc:kJ c)(h:Sp.written c u name id b x st true):kJ x/\bn (aW x)/\aI (cZ x)/\jI (aW x) (cZ x) u:=by
 obtain⟨hm,hx,_⟩:=h;obtain⟨_,p2,_⟩:=LH hm.symm;obtain⟨_,xd,xc,_⟩:=hx rfl;have hd:aI (cZ x):=by rw[xd];exact hc.1.2.1
 exact⟨as3 xc hd,Np xc hd (OE p2)⟩
theorem anx{c x:dR}{u id:Int}{name:Sp.Bytes}{b:Bool}{st:List aS}(h:Sp.written c u name id b x st true):kK c u id=true:=(LH h.1.symm).2.1
theorem aqP:OK Ia.e:=by
 refine PA.ok mixed (ax [Af.e,sK.e,qh.e,Jf.e,sN.e,Ag.e,xR.e,uf.e,wM.e,wL.e,qG.e,Ap.e,Am.e,rV.e,J8.e] ⟨Rk,Ie,OG,aju,Ig,Rn,OO,MI,V8,V6,PU,Ru,Rt,LM,adT,trivial⟩) ads (by kernel_rfl) (show∀code,Ia.goal (abM code) (code,())from ?_);intro code hin hp;dsimp only[Ia]at hp ⊢;refine⟨trivial,af (λ_=>rfl) λhb=>?_⟩;have hc:code.length<=1048576:=by have:=gY hb;omega
 refine⟨hc,?_⟩;rintro⟨⟨c,u,name,id,⟨⟩⟩,⟨⟩⟩ hany;have hany:kJ c:=hany;refine⟨hany,?_⟩;rintro⟨⟨x,st,ok,⟨⟩⟩,⟨⟩⟩ hx;have hx:Sp.written c u name id true x st ok:=hx;refine⟨hany,?_⟩;rintro⟨⟨x2,st2,ok2,⟨⟩⟩,⟨⟩⟩ hx2;obtain⟨rfl,rfl,rfl⟩:=UK hx hx2;refine⟨hc,?_⟩;rintro⟨⟨a,v,dir,k,⟨⟩⟩,⟨⟩⟩ ahW;have ahW:kJ a:=ahW;refine⟨ahW,?_⟩;rintro⟨⟨y,cut,gone,⟨⟩⟩,⟨⟩⟩ hy;have hy:Sp.written a v dir k false y cut gone:=hy;refine⟨ahW,?_⟩;rintro⟨⟨y2,awE,awr,⟨⟩⟩,⟨⟩⟩ hy2;obtain⟨rfl,rfl,rfl⟩:=UK hy hy2;refine⟨λ_=>True,?_,λ_ _=>⟨λ_=>True,?_,λ_ _=>?_⟩⟩
 .dsimp only;rw[show(ok==ok)=true from ayA ok,aw0 (rfl:x=x),aw0 (rfl:st=st),show(gone==gone)=true from ayA gone,aw0 (rfl:y=y),aw0 (rfl:cut=cut)];exact⟨trivial,trivial,trivial,trivial,rfl,trivial⟩
 .cases gone with
  |false=>exact⟨rfl,trivial⟩
  |true=>obtain⟨k0,k1⟩:=Rw ahW hy;obtain⟨n1,n2,_⟩:=adY hy;refine⟨k1,?_⟩;have n2:Sp.listed (y.1,y.2.1,y.2.2.1,()) y.2.2.2.1 v dir k=false:=n2;have n1:dX (y.1,y.2.1,y.2.2.1,y.2.2.2.1,y.2.2.2.2.1,())=true:=n1;dsimp only;rw[n2];refine⟨k0.1,?_⟩;rw[show dX y=true from n1];exact⟨rfl,trivial⟩
 .cases ok with
  |false=>
   obtain⟨e1,e2⟩:=hx.2.2 rfl;subst e1 e2;refine⟨trivial,?_⟩;dsimp only;rw[aw0 rfl];rfl
  |true=>
   obtain⟨k0,k1⟩:=Rw hany hx;obtain⟨n1,n2,n3,n4,n5⟩:=adY hx;have hw:=anx hx;have hf:=(Gn hw).1;have l1:=arM hany.2.1 id;have l2:=J3 (id:=id) n1 (by rw[n3]);refine⟨hany.1.1,k1.1,⟨show(aj (aW c) id).1.2.2.2.2.1.length<=1000 by omega,show(aj (aW x) id).1.2.2.2.2.1.length<=1000 by omega,show(aj (aW c) id).1.2.2.2.2.1.length+(aj (aW x) id).1.2.2.2.2.1.length<=1000 by omega⟩,?_⟩;rintro⟨⟨r,⟨⟩⟩,⟨⟩⟩ ⟨hr,hn⟩;have hr:dA r (gX (aj (aW c) id).1 (aj (aW x) id).1):=hr;rw[n3]at hr;have cnt:r.length=st.length:=anz n4 n5 hn hr.2;have q1:((r.length:Int)==(st.length:Int))=true:=by rw[cnt];exact ayA _
   have q2:nG (aj (aW c) id).1 u=true:=by unfold kK at hw;rw[awP]at hw;exact hw.2
   have q3:((aj (aW x) id).1.2.2.2.1==(aj (aW c) id).1.2.2.2.1)=true:=by rw[n3];exact ayA _
   have q4:((aj (aW x) id).1.2.2.1==(aj (aW c) id).1.2.2.1)=true:=by rw[n3];exact ayA _
   refine⟨k0.1,amG (show dX x=true from n1) ⟨k1,amG (show Sp.listed (aW x) (cZ x) u name id=true from n2) (amG q1 ⟨trivial,amG q2 (amG q3 ?_)⟩)⟩⟩;exact congrArg (·,()) q4
theorem RZ:OK Bf.e:=by
 refine PA.ok mixed (ax [uf.e,Ap.e,Am.e,rV.e,J8.e] ⟨MI,Ru,Rt,LM,adT,trivial⟩) H0 (by kernel_rfl) (show∀code,Bf.goal (Si code) (code,())from ?_);intro code hin hp;dsimp only[Bf]at hp ⊢;refine⟨trivial,af (λ_=>rfl) λhb=>?_⟩;have hc:code.length<=1048576:=by have:=gY hb;omega
 refine⟨hc,?_⟩;rintro⟨⟨c,u,name,id,⟨⟩⟩,⟨⟩⟩ hany;have hany:kJ c:=hany;refine⟨hany,?_⟩;rintro⟨⟨x,st,ok,⟨⟩⟩,⟨⟩⟩ hx;have hx:Sp.written c u name id true x st ok:=hx;refine⟨hany,?_⟩;rintro⟨⟨x2,st2,ok2,⟨⟩⟩,⟨⟩⟩ hx2;obtain⟨rfl,rfl,rfl⟩:=UK hx hx2;dsimp only;rw[show(ok==ok)=true from ayA ok,aw0 (rfl:x=x)];refine⟨trivial,?_⟩;cases ok with
 |false=>
  obtain⟨e1,e2⟩:=hx.2.2 rfl;subst e1;exact⟨trivial,by rw[aw0 rfl]⟩
 |true=>obtain⟨k0,k1⟩:=Rw hany hx;refine⟨k0,?_⟩;rintro⟨⟨y,s2,ok2,⟨⟩⟩,⟨⟩⟩ hy;obtain⟨e1,e2,e3⟩:=ak6 hx hy;have e1:ok2=true:=e1;have e2:s2=[]:=e2;have e3:y=x:=e3;subst e1 e2 e3;exact⟨trivial,by rw[aw0 rfl]⟩
end Go.Proofs.Tryz
