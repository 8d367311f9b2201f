import Derived.Test.YtkgkfdphbkfjnaaGreatP16
namespace Go.Proofs.Tryz
open Go Go.Fw Go.IntWalk Sp
theorem OV:OK yV.e:=by refine PA.ok mixed (au [] trivial) H0 (by kernel_rfl) (show∀f0 f1 f2 f3 f4 p10,yV.goal (ac0 f0 f1 f2 f3 f4 p10) ((f0,f1,f2,f3,f4,()),(p10,()),())from ?_);intro f0 f1 f2 f3 f4 id hin hp;dsimp only[yV]at hp ⊢;exact rfl
theorem zU:OK iH.e:=by
 refine PA.ok mixed (au [yV.e] ⟨OV,trivial⟩) zX (by kernel_rfl) (show∀s mQ,iH.goal (zV s mQ) (s,((mQ,()),()),())from ?_);intro s1 id hin hp;dsimp only[iH]at hp ⊢;have hlen:s1.length<=maxLen:=hin.1.1;rw[maxLen_eq]at hlen;refine iL s1.length hlen (λn=>∀i,i<n->(Sp.fileAt s1 i).1≠id) (λi hi=>by omega) (λI μ n hn hJ next=>?_) λI μ hJ=>?_
 .dsimp only;refine dn (by omega) ⟨⟨by omega,by omega⟩,trivial,af (λh=>?_) λh=>⟨rfl,next λi hi=>?_⟩⟩
  .have h:(Sp.fileAt s1 n).1=id:=fG h;exact congrArg (·,()) (Sp.Kt hn hJ h).symm
  .rcases auJ i n with h'|h'
   .exact hJ i h'
   .have:i=n:=by omega
    subst this;have h:¬(Sp.fileAt s1 i).1=id:=fZ h;exact h
 .dsimp only;exact dw (by omega) (congrArg (·,()) (UB hJ).symm)
theorem Kz:OK yB.e:=by refine PA.ok mixed (au [iH.e,yV.e] ⟨zU,OV,trivial⟩) H0 (by kernel_rfl) (show∀s0 s1 s2 id,yB.goal (ag6 s0 s1 s2 id) ((s0,s1,s2,()),id,())from ?_);intro s0 s1 s2 id hin hp;dsimp only[yB]at hp ⊢;exact⟨trivial,rfl⟩
theorem OW:OK yX.e:=by
 refine PA.ok mixed (au [qo.e,yB.e] ⟨Di,Kz,trivial⟩) H0 (by kernel_rfl) (show∀s0 s1 s2 id,yX.goal (ac1 s0 s1 s2 id) ((s0,s1,s2,()),id,())from ?_);intro s0 s1 s2 id hin hp;dsimp only[yX]at hp ⊢;obtain⟨h0,h1,h2⟩:s0.length<=1000/\s1.length<=1000/\∀f∈s1,bV f:=hp;refine⟨trivial,?_⟩;rcases qj s1 id with⟨h,_⟩|⟨n,hn,h,_,_⟩
 .have e:bf (s0,s1,s2,()) id=(Yz,false):=by show(bif decide (Sp.place s1 id<0)then _ else _)=_;rw[h];rfl
  refine dw (by omega) ?_;show _=((bf (s0,s1,s2,()) id).1,(bf (s0,s1,s2,()) id).2,());rw[e];rfl
 .have e:bf (s0,s1,s2,()) id=(Sp.fileAt s1 n,true):=by show(bif decide (Sp.place s1 id<0)then _ else(Sp.fileAt s1 (Sp.place s1 id).toNat,true))=_;rw[h,auD (by omega)];rfl
  refine dn (by omega) ⟨⟨by omega,by omega⟩,?_,?_⟩
  .rw[h,auA];exact h2 _ (getD_mem (d:=((0:Int),(0:Int),false,(0:Int),[],())) hn)
  .show _=((bf (s0,s1,s2,()) id).1,(bf (s0,s1,s2,()) id).2,());rw[e,h];rfl
theorem OX:OK yY.e:=by
 refine PA.ok mixed (au [rY.e,uG.e] ⟨EF,Ie,trivial⟩) H0 (by kernel_rfl) (show∀s0 s1 s2 id,yY.goal (ac2 s0 s1 s2 id) ((s0,s1,s2,()),id,())from ?_);intro s0 s1 s2 id hin hp;dsimp only[yY]at hp ⊢;obtain⟨h0,h1,h2⟩:s0.length<=1000/\s1.length<=1000/\∀f∈s1,bV f:=hp;refine⟨trivial,?_⟩;rcases qj s1 id with⟨h,_⟩|⟨n,hn,h,_,_⟩
 .have e:bf (s0,s1,s2,()) id=(Yz,false):=by show(bif decide (Sp.place s1 id<0)then _ else _)=_;rw[h];rfl
  refine dn (by omega) ?_;show _=((bf (s0,s1,s2,()) id).1,(bf (s0,s1,s2,()) id).2,());rw[e];rfl
 .have e:bf (s0,s1,s2,()) id=(Sp.fileAt s1 n,true):=by show(bif decide (Sp.place s1 id<0)then _ else(Sp.fileAt s1 (Sp.place s1 id).toNat,true))=_;rw[h,auD (by omega)];rfl
  refine dw (by omega) ⟨⟨by omega,by omega⟩,?_,?_⟩
  .rw[h,auA];exact h2 _ (getD_mem (d:=((0:Int),(0:Int),false,(0:Int),[],())) hn)
  .show _=((bf (s0,s1,s2,()) id).1,(bf (s0,s1,s2,()) id).2,());rw[e,h];rfl
theorem Wq:OK yZ.e:=by
 refine XA.ok mixed (au [qo.e,oV.e,lq.e,yB.e,lU.e] ⟨Di,Ee,wF,Kz,vS,trivial⟩) YA (λ⟨s,f,_⟩ _=>⟨((((aT s f).1.1,(aT s f).1.2.1,(aT s f).1.2.2.1,()),(aT s f).2,()),()),⟨rfl,rfl,rfl,rfl⟩⟩) (by kernel_rfl) (show∀s0 s1 s2 f0 f1 f2 f3 f4,yZ.goal (Ws s0 s1 s2 f0 f1 f2 f3 f4) ((s0,s1,s2,()),(f0,f1,f2,f3,f4,()),())from ?_);intro s0 s1 s2 f0 f1 f2 f3 f4 hin hp;dsimp only[yZ]at hp ⊢;refine⟨hp.1,?_⟩;rintro⟨⟨⟨a,l,nx,⟨⟩⟩,⟨⟩⟩,⟨⟩⟩ e;obtain⟨rfl,rfl,rfl⟩:a=s0/\l=s1/\nx=s2:=by simpa using e
 have hs:l.length<=1000:=hp.1.2.1;have no:¬(aB (a,l,nx,())=true/\0<=Sp.place l f0/\dD a (f0,f1,f2,f3,f4,())=true)->aT (a,l,nx,()) (f0,f1,f2,f3,f4,())=((a,l,nx,()),false):=λh=>by
  rcases jU (a,l,nx,()) (f0,f1,f2,f3,f4,())with⟨e,_⟩|⟨n,hn,h1,h2,h3,_⟩
  .exact e
  .exact(h ⟨h2,by have h1:Sp.place l f0=n:=h1;omega,h3⟩).elim
 refine⟨trivial,trivial,af (λh1=>?_) λh1=>af (λh2=>?_) λh2=>⟨trivial,af (λh3=>?_) λh3=>?_⟩⟩
 .have:=no λh=>by have h1:=dQ h1;have:=h.1;rw[show aB (a,l,nx,())=false from h1]at this;cases this
  dsimp only;rw[this];exact⟨rfl,rfl,rfl,rfl⟩
 .have:=no λh=>by have h2:Sp.place l f0<0:=fG h2;omega
  dsimp only;rw[this];exact⟨rfl,rfl,rfl,rfl⟩
 .have:=no λh=>by have h3:=dQ h3;have:=h.2.2;rw[show dD a (f0,f1,f2,f3,f4,())=false from h3]at this;cases this
  dsimp only;rw[this];exact⟨rfl,rfl,rfl,rfl⟩
 .have g1:aB (a,l,nx,())=true:=bP h1;have g2:0<=Sp.place l f0:=by have h2:¬Sp.place l f0<0:=fZ h2;omega
  have g3:dD a (f0,f1,f2,f3,f4,())=true:=bP h3;rcases jU (a,l,nx,()) (f0,f1,f2,f3,f4,())with⟨_,e⟩|⟨n,hn,hpl,_,_,e⟩
  .exact(e ⟨g1,g2,g3⟩).elim
  .have hn:n<l.length:=hn;have hpl:Sp.place l f0=n:=hpl;dsimp only;rw[hpl,e];exact⟨hp.2,⟨by omega,by omega⟩,hn,rfl,rfl,rfl,rfl⟩
theorem Wu:OK zf.e:=by
 refine XA.ok mixed (au [rY.e,oU.e,jS.e,uG.e,oW.e] ⟨EF,Ed,qK,Ie,zA,trivial⟩) YB (λ⟨s,f,_⟩ _=>⟨((((aT s f).1.1,(aT s f).1.2.1,(aT s f).1.2.2.1,()),(aT s f).2,()),()),⟨rfl,rfl,rfl,rfl⟩⟩) (by kernel_rfl) (show∀s0 s1 s2 f0 f1 f2 f3 f4,zf.goal (Wv s0 s1 s2 f0 f1 f2 f3 f4) ((s0,s1,s2,()),(f0,f1,f2,f3,f4,()),())from ?_);intro s0 s1 s2 f0 f1 f2 f3 f4 hin hp;dsimp only[zf]at hp ⊢;refine⟨hp.1,?_⟩;rintro⟨⟨⟨a,l,nx,⟨⟩⟩,⟨⟩⟩,⟨⟩⟩ e;obtain⟨rfl,rfl,rfl⟩:a=s0/\l=s1/\nx=s2:=by simpa using e
 have hs:l.length<=1000:=hp.1.2.1;have no:¬(aB (a,l,nx,())=true/\0<=Sp.place l f0/\dD a (f0,f1,f2,f3,f4,())=true)->aT (a,l,nx,()) (f0,f1,f2,f3,f4,())=((a,l,nx,()),false):=λh=>by
  rcases jU (a,l,nx,()) (f0,f1,f2,f3,f4,())with⟨e,_⟩|⟨n,hn,h1,h2,h3,_⟩
  .exact e
  .exact(h ⟨h2,by have h1:Sp.place l f0=n:=h1;omega,h3⟩).elim
 refine⟨trivial,trivial,af (λh1=>?_) λh1=>af (λh2=>?_) λh2=>⟨trivial,af (λh3=>?_) λh3=>?_⟩⟩
 .have:=no λh=>by have h1:=dQ h1;have:=h.1;rw[show aB (a,l,nx,())=false from h1]at this;cases this
  dsimp only;rw[this];exact⟨rfl,rfl,rfl,rfl⟩
 .have:=no λh=>by have h2:Sp.place l f0<0:=fG h2;omega
  dsimp only;rw[this];exact⟨rfl,rfl,rfl,rfl⟩
 .have:=no λh=>by have h3:=dQ h3;have:=h.2.2;rw[show dD a (f0,f1,f2,f3,f4,())=false from h3]at this;cases this
  dsimp only;rw[this];exact⟨rfl,rfl,rfl,rfl⟩
 .have g1:aB (a,l,nx,())=true:=bP h1;have g2:0<=Sp.place l f0:=by have h2:¬Sp.place l f0<0:=fZ h2;omega
  have g3:dD a (f0,f1,f2,f3,f4,())=true:=bP h3;rcases jU (a,l,nx,()) (f0,f1,f2,f3,f4,())with⟨_,e⟩|⟨n,hn,hpl,_,_,e⟩
  .exact(e ⟨g1,g2,g3⟩).elim
  .have hn:n<l.length:=hn;have hpl:Sp.place l f0=n:=hpl;dsimp only;rw[hpl,e];exact⟨hp.2,⟨by omega,by omega⟩,hn,rfl,rfl,rfl,rfl⟩
theorem UX{d:List aF}{i:Nat}(hi:i<d.length):dI (fP d) (Sp.nameOf d i)=true:=by rw[gK];unfold fP;rw[avL];exact⟨bH d i,getD_mem hi,rfl⟩
theorem NG:bF []:=⟨by decide,λx hx=>by cases hx⟩
theorem aok{fs:List aK}{d:List aF}{out:List dR}(h:fQ fs d [] (dI (fP d)) out):fQ fs d [] (λ_=>true) out:=
 KT h (λi hi=>UX hi) λi hi hn=>absurd ((UX hi).symm.trans hn) (by decide)
theorem ac3:OK Es.e:=by refine XA.ok mixed (au [wY.e,qA.e] ⟨MN,Dp,trivial⟩) H0 (λ⟨(a,fs,nx,_),d,_⟩ _=>by obtain⟨out,h⟩:=zT (fs:=fs) (a:=a) (nx:=nx) (d:=d) [] (λ_=>true);exact⟨(((out,(aj d&&aB (a,fs,nx,())),()),())),⟨rfl,h⟩⟩) (by kernel_rfl) (show∀s0 s1 s2 d,Es.goal (ac4 s0 s1 s2 d) ((s0,s1,s2,()),d,())from ?_);intro a fs nx d hin hp;dsimp only[Es]at hp ⊢;refine⟨hp.2.1,⟨hp.1,hp.2,NG⟩,λr hr=>⟨hr.1,λh=>aok (hr.2 h)⟩⟩
theorem YC:OK Ae.e:=by refine XA.ok mixed (au [wY.e] ⟨MN,trivial⟩) H0 (λ⟨(a,fs,nx,_),d,r,names,_⟩ _=>by obtain⟨out,h⟩:=zT (fs:=fs) (a:=a) (nx:=nx) (d:=d) r (dI names);exact⟨(((out,(aj d&&aB (a,fs,nx,())),()),())),⟨rfl,h⟩⟩) (by kernel_rfl) (show∀s0 s1 s2 d BQ names,Ae.goal (YD s0 s1 s2 d BQ names) ((s0,s1,s2,()),d,BQ,names,())from ?_);intro a fs nx d r names hin hp;dsimp only[Ae]at hp ⊢;exact⟨hp,λr hr=>hr⟩
theorem OY:OK yU.e:=by refine XA.ok mixed (au [Hq.e] ⟨ag4,trivial⟩) ae9 (λ⟨(a,fs,nx,_),d,_⟩ _=>by obtain⟨out,h⟩:=zT (fs:=fs) (a:=a) (nx:=nx) (d:=d) [] (λ_=>true);exact⟨(((out,(aj d&&aB (a,fs,nx,())),()),())),⟨rfl,h⟩⟩) (by kernel_rfl) (show∀s0 s1 s2 d,yU.goal (ac5 s0 s1 s2 d) ((s0,s1,s2,()),d,())from ?_);intro a fs nx d hin hp;dsimp only[yU]at hp ⊢;exact⟨hp,λr hr=>hr⟩
theorem am8(a:List ig)(fs:List aK)(nx:Int)(d:List aF):∃t:((List ig×List aK×Int×List aF×List dR×Unit)×Bool×Unit)×Unit,
 t.1.2.1=(aj d&&aB (a,fs,nx,()))/\(t.1.2.1=true->(t.1.1.1,t.1.1.2.1,t.1.1.2.2.1,())=(a,fs,nx,())/\t.1.1.2.2.2.1=d/\fQ fs d [] (λ_=>true) t.1.1.2.2.2.2.1)/\(t.1.2.1=false->(t.1.1.1,t.1.1.2.1,t.1.1.2.2.1,t.1.1.2.2.2.1,t.1.1.2.2.2.2.1,())=([],[],0,[],[],())):=by
 obtain⟨out,h⟩:=zT (fs:=fs) (a:=a) (nx:=nx) (d:=d) [] (λ_=>true);cases hk:(aj d&&aB (a,fs,nx,()))with
 |true=>exact⟨(((a,fs,nx,d,out,()),true,()),()),⟨rfl,λ_=>⟨rfl,rfl,h hk⟩,λh=>(by cases h)⟩⟩
 |false=>exact⟨((([],[],0,[],[],()),false,()),()),⟨rfl,λh=>(by cases h),λ_=>rfl⟩⟩
theorem LC:OK vN.e:=by
 refine XA.ok mixed (au [sD.e,oW.e,yU.e] ⟨EI,zA,OY,trivial⟩) aaA (λ⟨(a,fs,nx,_),d,_⟩ _=>am8 a fs nx d) (by kernel_rfl) (show∀s0 s1 s2 d,vN.goal (YE s0 s1 s2 d) ((s0,s1,s2,()),d,())from ?_);intro a fs nx d hin hp;dsimp only[vN]at hp ⊢;refine⟨hp,λr0 hr0=>af (λh=>?_) λh=>⟨hp.1,λr1 hr1=>⟨hp.2,?_⟩⟩⟩
 .have h:r0.1.2.1=false:=dQ h;have e:(aj d&&aB (a,fs,nx,()))=false:=hr0.1.symm.trans h;exact⟨e.symm,λh=>(by cases h),λ_=>rfl⟩
 .have h:r0.1.2.1=true:=bP h;have e:(aj d&&aB (a,fs,nx,()))=true:=hr0.1.symm.trans h;exact⟨e.symm,λ_=>⟨hr1,rfl,hr0.2 h⟩,λh=>by cases h⟩
theorem Tj{a:List ig}{fs:List aK}{nx:Int}{d:List aF}{r out:List dR}(h:(aj d&&aB (a,fs,nx,()))=true)(ho:fQ fs d [] (λ_=>true) out):cO (a,fs,nx,d,r,())=decide (out=r):=by have e:cO (a,fs,nx,d,r,())=((aj d&&aB (a,fs,nx,()))&&@decide (fQ fs d [] (λ_=>true) r) (Classical.propDecidable _)):=rfl;rw[e,h,av8,auS,auK (p:=out=r)];rw[auq]at h;exact(@av3 _ (Classical.propDecidable _)).trans ⟨λhr=>OZ (kC.1 h.1).1 ho hr,λe=>e▸ho⟩
theorem aol{a:List ig}{fs:List aK}{nx:Int}{d:List aF}{r:List dR}(h:(aj d&&aB (a,fs,nx,()))=false):cO (a,fs,nx,d,r,())=false:=by have e:cO (a,fs,nx,d,r,())=((aj d&&aB (a,fs,nx,()))&&@decide (fQ fs d [] (λ_=>true) r) (Classical.propDecidable _)):=rfl;rw[e,h,awt]
theorem ng:OK jJ.e:=by
 refine PA.ok mixed (au [xP.e,Es.e] ⟨UQ,ac3,trivial⟩) H0 (by kernel_rfl) (show∀c0 c1 c2 c3 c4,jJ.goal (aaB c0 c1 c2 c3 c4) ((c0,c1,c2,c3,c4,()),())from ?_);intro a fs nx d r hin hp;dsimp only[jJ]at hp ⊢;obtain⟨h1,h2,h3⟩:bg (a,fs,nx,())/\aC d/\bF r:=hp;refine⟨⟨h1,h2⟩,λr0 hr0=>af (λh=>⟨trivial,?_⟩) λh=>?_⟩
 .rw[Tj (hr0.1.symm.trans h) (hr0.2 h)]
 .rw[aol (hr0.1.symm.trans h)]
theorem qR:OK kQ.e:=by
 refine PA.ok mixed (au [xQ.e,yU.e] ⟨UU,OY,trivial⟩) H0 (by kernel_rfl) (show∀l0 l1 l2 l3 l4,kQ.goal (aaC l0 l1 l2 l3 l4) ((l0,l1,l2,l3,l4,()),())from ?_);intro a fs nx d r hin hp;dsimp only[kQ]at hp ⊢;obtain⟨h1,h2,h3⟩:bg (a,fs,nx,())/\aC d/\bF r:=hp;refine⟨⟨h1,h2⟩,λr0 hr0=>af (λh=>⟨trivial,?_⟩) λh=>?_⟩
 .rw[Tj (hr0.1.symm.trans h) (hr0.2 h)]
 .rw[aol (hr0.1.symm.trans h)]
theorem aoM:OK H8.e:=by refine PA.ok mixed (au [] trivial) ac6 (by kernel_rfl) (show∀f0 f1 f2 f3 f4,H8.goal (aaD f0 f1 f2 f3 f4) ((f0,f1,f2,f3,f4,()),())from ?_);intro f0 f1 f2 f3 a hin hp;dsimp only[H8]at hp ⊢;exact aks (K:=λr=>r=(gG a,())) (λx:dL=>(x.1,())) ([],0,0,[],()) a _ (by have hp:a.length<=1000:=hp;omega) rfl
theorem Q9:OK uN.e:=by refine XA.ok mixed (au [] trivial) Tm (λ⟨(_,_,_,_,a,_),_⟩ _=>⟨((gG a,()),()),rfl⟩) (by kernel_rfl) (show∀f0 f1 f2 f3 f4,uN.goal (Rf f0 f1 f2 f3 f4) ((f0,f1,f2,f3,f4,()),())from ?_);intro f0 f1 f2 f3 a hin hp;dsimp only[uN]at hp ⊢;exact aks (K:=λr=>r.1=gG a) (λx:dL=>(x.1,())) ([],0,0,[],()) a _ (by have hp:a.length<=1000:=hp;omega) rfl
theorem Rh:OK uO.e:=by refine XA.ok mixed (au [] trivial) Tn (λ⟨(_,_,_,_,a,_),_⟩ _=>⟨((gG a,()),()),rfl⟩) (by kernel_rfl) (show∀f0 f1 f2 f3 f4,uO.goal (Ri f0 f1 f2 f3 f4) ((f0,f1,f2,f3,f4,()),())from ?_);intro f0 f1 f2 f3 a hin hp;dsimp only[uO]at hp ⊢;exact aks (K:=λr=>r.1=gG a) (λx:dL=>(x.1,())) ([],0,0,[],()) a _ (by have hp:a.length<=1000:=hp;omega) rfl
theorem YF{α:Type}(g:α->Sp.Bytes)(l:List α)(s:Sp.Bytes):(s,())∈l.map (λx=>(g x,()))↔s∈l.map g:=by simp
theorem EJ{α β:Type}(p:α->Bool)(g:α->β)(d:α)(l:List α){n:Nat}(h:n<l.length)(s:β):s∈((l.take (n+1)).filter p).map g↔s∈((l.take n).filter p).map g\/(p (l.getD n d)=true/\s=g (l.getD n d)):=by rw[jL p d l h,avd,auL];cases hp:p (l.getD n d)<;>simp
theorem BD{α β:Type}(p:α->Bool)(g:α->β)(l:List α)(n:Nat):(((l.take n).filter p).map g).length<=n:=by have:=auV p (l.take n);rw[aut]at this;rw[auG];omega
def jM(n:bK):Bool:=n.1==2||(n.1==3||n.1==4)
theorem yG(l:List Sp.Bytes)(h:l.length<=1000):dP (l.map λs=>(s,())) l:=⟨by rw[auG];exact h,λs=>by simp⟩
theorem abE(q:List bK):(kW q).length<=q.length:=by unfold kW;rw[auG];exact auV _ _
theorem afa(q:List bK):(nX q).length<=q.length:=by unfold nX;rw[auG];exact auV _ _
abbrev DL:bK:=(0,0,0,[],0,0,[],())
theorem YG:OK Ag.e:=by
 refine XA.ok mixed (au [(mY,.eff (DC jB) lC)] ⟨⟨uh,rQ⟩,trivial⟩) aaE (λ⟨q,_⟩ hp=>⟨((_,()),()),yG (kW q) (auM (abE q) hp)⟩) (by kernel_rfl) (show∀q,Ag.goal (YH q) (q,())from ?_);intro q hin hp;dsimp only[Ag]at hp ⊢;have hp:q.length<=1000:=hp;refine dM (λi(x:Sp.LS)=>(((),i,()),x,())) (λy=>y.1.2.1) (λ_ _=>rfl) q.length (by omega) (λn l=>l=((q.take n).filter jM).map λn=>(n.2.2.2.1,())) rfl (λI μ n l hn hJ next=>?_) λI μ l hJ=>?_
 .subst hJ;have hl:=BD jM (λn=>(n.2.2.2.1,())) q n;have small:(((q.take n).filter jM).map λn=>(n.2.2.2.1,())).length+1<=big:=by rw[bY];omega
  have yes:jM (q.getD n DL)=true->((q.take n).filter jM).map (λn=>(n.2.2.2.1,()))++[((q.getD n DL).2.2.2.1,())]=((q.take (n+1)).filter jM).map λn=>(n.2.2.2.1,()):=λh=>by rw[jL jM DL q hn,h,avd];rfl
  dsimp only;refine dn (by omega) ⟨⟨by omega,by omega⟩,af (λh=>⟨small,rfl,next _ (yes ?_)⟩) λh2=>af (λh=>⟨small,rfl,next _ (yes ?_)⟩) λh3=>af (λh=>⟨small,rfl,next _ (yes ?_)⟩) λh4=>⟨rfl,next _ ?_⟩⟩
  .have h:((q.getD n DL).1==2)=true:=h;unfold jM;rw[h];rfl
  .have h:((q.getD n DL).1==3)=true:=h;unfold jM;rw[h];simp
  .have h:((q.getD n DL).1==4)=true:=h;unfold jM;rw[h];simp
  .have h2:((q.getD n DL).1==2)=false:=h2;have h3:((q.getD n DL).1==3)=false:=h3;have h4:((q.getD n DL).1==4)=false:=h4;have:jM (q.getD n DL)=false:=by unfold jM;rw[h2,h3,h4];rfl
   rw[jL jM DL q hn,this,avd];simp
 .subst hJ;rw[auO];have hl:((q.filter jM).map λn=>(n.2.2.2.1,())).length<=q.length:=by rw[auG];exact auV _ _
  dsimp only;refine dw (by omega) ⟨by omega,λr hr=>⟨by have:=hr.1;omega,λs=>(hr.2 (s,())).trans ?_⟩⟩;exact YF (λn:bK=>n.2.2.2.1) _ s
theorem aaF:OK CB.e:=by
 refine XA.ok mixed (au [(mY,.eff (DC jB) lC),yM.e] ⟨⟨uh,rQ⟩,O0,trivial⟩) ac7 (λ⟨q,_⟩ hp=>⟨((_,()),()),yG (nX q) (auM (afa q) hp)⟩) (by kernel_rfl) (show∀q,CB.goal (aaG q) (q,())from ?_);intro q hin hp;dsimp only[CB]at hp ⊢;have hp:q.length<=1000:=hp;refine dM (λi(x:Sp.LS)=>(((),i,()),x,())) (λy=>y.1.2.1) (λ_ _=>rfl) q.length (by omega) (λn l=>l=((q.take n).filter jH).map λn=>(n.2.2.2.1,())) rfl (λI μ n l hn hJ next=>?_) λI μ l hJ=>?_
 .subst hJ;have hl:=BD jH (λn=>(n.2.2.2.1,())) q n;dsimp only;refine dn (by omega) ⟨⟨by omega,by omega⟩,trivial,af (λh=>⟨by rw[bY];simp only[auv,auz];omega,rfl,next _ ?_⟩) λh=>⟨rfl,next _ ?_⟩⟩
  .have h:jH (q.getD n DL)=true:=h;rw[jL jH DL q hn,h,avd];rfl
  .have h:jH (q.getD n DL)=false:=h;rw[jL jH DL q hn,h,avd];simp
 .subst hJ;rw[auO];have hl:((q.filter jH).map λn=>(n.2.2.2.1,())).length<=q.length:=by rw[auG];exact auV _ _
  dsimp only;refine dw (by omega) ⟨by omega,λr hr=>⟨by have:=hr.1;omega,λs=>(hr.2 (s,())).trans ?_⟩⟩;exact YF (λn:bK=>n.2.2.2.1) _ s
theorem aqv(n:bK):(decide (2<=n.1)&&decide (n.1<=4))=jM n:=by rw[auS];unfold jM;simp only[auq,avq,auK,auE];omega
theorem aq9(n:bK):(decide (8<=n.1)&&decide (n.1<=9))=jH n:=by rw[auS];unfold jH;simp only[auq,avq,auK,auE];omega
theorem YI:OK Ah.e:=by
 refine XA.ok mixed (au [qU.e,iT.e] ⟨BF,jA,trivial⟩) aaH (λ⟨q,_⟩ hp=>⟨((_,()),()),yG (kW q) (auM (abE q) hp)⟩) (by kernel_rfl) (show∀q,Ah.goal (YJ q) (q,())from ?_);intro q hin hp;dsimp only[Ah]at hp ⊢;have hp:q.length<=1000:=hp;refine dM (λi(x:Sp.LS)=>((x,i,()),())) (λy=>y.1.2.1) (λ_ _=>rfl) q.length (by omega) (λn l=>l.length<=n/\∀s,(s,())∈l↔s∈((q.take n).filter jM).map λn=>n.2.2.2.1) ⟨auI _,λs=>by simp⟩ (λI μ n l hn hJ next=>?_) λI μ l hJ=>?_
 .obtain⟨hl,hJ⟩:=hJ;dsimp only;rw[auA,aqv];refine dn (by omega) ⟨⟨by omega,by omega⟩,trivial,af (λh=>⟨⟨by omega,by omega⟩,by omega,rfl,next _ ⟨auM (UY _ _) (by omega),λs=>?_⟩⟩) λh=>⟨rfl,next _ ⟨by omega,λs=>?_⟩⟩⟩
  .have h:jM (q.getD n DL)=true:=h;rw[vC,hJ,EJ jM _ DL q hn,Prod.mk.injEq];exact⟨λg=>g.elim (λg=>.inr ⟨h,g.1⟩) .inl,λg=>g.elim .inr λg=>.inl ⟨g.2,rfl⟩⟩
  .have h:jM (q.getD n DL)=false:=h;rw[hJ,EJ jM _ DL q hn,h];simp
 .obtain⟨hl,hJ⟩:=hJ;rw[auO]at hJ;dsimp only;exact dw (by omega) ⟨by rw[bY];omega,by show l.length<=1000;omega,hJ⟩
theorem aaI:OK CG.e:=by
 refine XA.ok mixed (au [qU.e,iT.e] ⟨BF,jA,trivial⟩) ac8 (λ⟨q,_⟩ hp=>⟨((_,()),()),yG (nX q) (auM (afa q) hp)⟩) (by kernel_rfl) (show∀q,CG.goal (aaJ q) (q,())from ?_);intro q hin hp;dsimp only[CG]at hp ⊢;have hp:q.length<=1000:=hp;refine dM (λi(x:Sp.LS)=>((x,i,()),())) (λy=>y.1.2.1) (λ_ _=>rfl) q.length (by omega) (λn l=>l.length<=n/\∀s,(s,())∈l↔s∈((q.take n).filter jH).map λn=>n.2.2.2.1) ⟨auI _,λs=>by simp⟩ (λI μ n l hn hJ next=>?_) λI μ l hJ=>?_
 .obtain⟨hl,hJ⟩:=hJ;dsimp only;rw[auA,aq9];refine dn (by omega) ⟨⟨by omega,by omega⟩,trivial,af (λh=>⟨⟨by omega,by omega⟩,by omega,rfl,next _ ⟨auM (UY _ _) (by omega),λs=>?_⟩⟩) λh=>⟨rfl,next _ ⟨by omega,λs=>?_⟩⟩⟩
  .have h:jH (q.getD n DL)=true:=h;rw[vC,hJ,EJ jH _ DL q hn,Prod.mk.injEq];exact⟨λg=>g.elim (λg=>.inr ⟨h,g.1⟩) .inl,λg=>g.elim .inr λg=>.inl ⟨g.2,rfl⟩⟩
  .have h:jH (q.getD n DL)=false:=h;rw[hJ,EJ jH _ DL q hn,h];simp
 .obtain⟨hl,hJ⟩:=hJ;rw[auO]at hJ;dsimp only;exact dw (by omega) ⟨by rw[bY];omega,by show l.length<=1000;omega,hJ⟩
def vF(a b:List dL)(x:Sp.Bytes×Unit):Bool:=!decide (dJ a x.1=dJ b x.1)
theorem abG(f0 f1:Int)(f2:Bool)(f3:Int)(a:List dL)(g0 g1:Int)(g2:Bool)(g3:Int)(b:List dL)(s:Sp.Bytes):
 (s,())∈(gG a++gG b).filter (vF a b)↔s∈jk (f0,f1,f2,f3,a,()) (g0,g1,g2,g3,b,()):=by
 unfold jk gG;rw[avv,avv,← avd,YF];exact Iff.rfl
theorem YK(f g:aK):(jk f g).length<=f.2.2.2.2.1.length+g.2.2.2.2.1.length:=by unfold jk;refine auM (auV _ _) ?_;rw[auG,auy];exact auI _
theorem UZ:OK xR.e:=by
 refine XA.ok mixed (au [(mY,.eff (DC jB) lC),sF.e,uN.e] ⟨⟨uh,rQ⟩,Jw,Q9,trivial⟩) Wx (λ⟨f,g,_⟩ hp=>⟨((_,()),()),yG (jk f g) (auM (YK f g) hp.2.2)⟩) (by kernel_rfl) (show∀a0 a1 a2 a3 a4 b0 b1 b2 b3 b4,xR.goal (U0 a0 a1 a2 a3 a4 b0 b1 b2 b3 b4) ((a0,a1,a2,a3,a4,()),(b0,b1,b2,b3,b4,()),())from ?_);intro a0 a1 a2 a3 a b0 b1 b2 b3 b hin hp;dsimp only[xR]at hp ⊢;obtain⟨ha,hb,hab⟩:a.length<=1000/\b.length<=1000/\a.length+b.length<=1000:=hp;refine⟨ha,?_⟩;rintro⟨⟨r0,⟨⟩⟩,⟨⟩⟩ e0;have e0:r0=gG a:=e0;refine⟨hb,?_⟩;rintro⟨⟨r1,⟨⟩⟩,⟨⟩⟩ e1;have e1:r1=gG b:=e1;subst e0 e1;have hL:(gG a++gG b).length=a.length+b.length:=by rw[auy];unfold gG;rw[auG,auG]
 refine⟨by rw[bY];rw[auy]at hL;dsimp only;omega,?_⟩;dsimp only;generalize hLL:gG a++gG b=L at hL;refine dM (λi(x:Sp.LS)=>(((),i,()),x,())) (λy=>y.1.2.1) (λ_ _=>rfl) L.length (by omega) (λn l=>l=(L.take n).filter (vF a b)) rfl (λI μ n l hn hJ next=>?_) λI μ l hJ=>?_
 .subst hJ;have hl:((L.take n).filter (vF a b)).length<=n:=by have:=auV (vF a b) (L.take n);rw[aut]at this;omega
  have step:=jL (vF a b) ([],()) L hn;dsimp only;rw[eq3,auA];refine dn (by omega) ⟨⟨by omega,by omega⟩,by omega,trivial,trivial,af (λh=>⟨by rw[bY];simp only[auv,auz];omega,rfl,next _ ?_⟩) λh=>⟨rfl,next _ ?_⟩⟩
  .have h:vF a b (L.getD n ([],()))=true:=h;rw[step,h];rfl
  .have h:vF a b (L.getD n ([],()))=false:=h;rw[step,h];simp
 .subst hJ;rw[auO];have hl:=auV (vF a b) L;dsimp only;refine dw (by omega) ⟨by omega,λr hr=>⟨by have:=hr.1;omega,λs=>(hr.2 (s,())).trans ?_⟩⟩;rw[← hLL];exact abG _ _ _ _ a _ _ _ _ b s
theorem U1:OK xU.e:=by
 refine XA.ok mixed (au [qU.e,wM.e,uO.e] ⟨BF,QB,Rh,trivial⟩) Wy (λ⟨f,g,_⟩ hp=>⟨((_,()),()),yG (jk f g) (auM (YK f g) hp.2.2)⟩) (by kernel_rfl) (show∀a0 a1 a2 a3 a4 b0 b1 b2 b3 b4,xU.goal (U2 a0 a1 a2 a3 a4 b0 b1 b2 b3 b4) ((a0,a1,a2,a3,a4,()),(b0,b1,b2,b3,b4,()),())from ?_);intro a0 a1 a2 a3 a b0 b1 b2 b3 b hin hp;dsimp only[xU]at hp ⊢;obtain⟨ha,hb,hab⟩:a.length<=1000/\b.length<=1000/\a.length+b.length<=1000:=hp;refine⟨ha,?_⟩;rintro⟨⟨r0,⟨⟩⟩,⟨⟩⟩ e0;have e0:r0=gG a:=e0;refine⟨hb,?_⟩;rintro⟨⟨r1,⟨⟩⟩,⟨⟩⟩ e1;have e1:r1=gG b:=e1;subst e0 e1;have hL:(gG a++gG b).length=a.length+b.length:=by rw[auy];unfold gG;rw[auG,auG]
 refine⟨by rw[bY];rw[auy]at hL;dsimp only;omega,?_⟩;dsimp only;generalize hLL:gG a++gG b=L at hL;refine dM (λi(x:Sp.LS)=>((x,i,()),())) (λy=>y.1.2.1) (λ_ _=>rfl) L.length (by omega) (λn l=>l.length<=n/\∀s,(s,())∈l↔(s,())∈(L.take n).filter (vF a b)) ⟨auI _,λs=>by simp⟩ (λI μ n l hn hJ next=>?_) λI μ l hJ=>?_
 .obtain⟨hl,hJ⟩:=hJ;have step:=jL (vF a b) ([],()) L hn;dsimp only;rw[eq3,auA];refine dn (by omega) ⟨⟨by omega,by omega⟩,by omega,trivial,⟨by omega,by omega⟩,by omega,trivial,af (λh=>⟨⟨by omega,by omega⟩,by omega,by omega,rfl,next _ ⟨auM (UY _ _) (by omega),λs=>?_⟩⟩) λh=>⟨rfl,next _ ⟨by omega,λs=>?_⟩⟩⟩
  .have h:vF a b (L.getD n ([],()))=true:=h;rw[vC,step,h,auL,hJ];show _↔_\/(s,())∈[L.getD n ([],())];rw[avk];exact Or.comm
  .have h:vF a b (L.getD n ([],()))=false:=h;rw[step,h,hJ];simp
 .obtain⟨hl,hJ⟩:=hJ;rw[auO]at hJ;dsimp only;refine dw (by omega) ⟨by rw[bY];omega,by show l.length<=1000;omega,λs=>(hJ s).trans ?_⟩;rw[← hLL];exact abG _ _ _ _ a _ _ _ _ b s
end Go.Proofs.Tryz
