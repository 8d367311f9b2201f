import Derived.Test.YtgbobfdlafkijaaGreatP16
namespace Go.Proofs.Tryz
open Go Go.Fw Go.IntWalk
theorem ab2:aA prog G xU yA:=by
 refine asn (aB (l:=[]) (au ah) (fun x hx=>by cases hx)) ?_
 intro f0 f1 f2 f3 f4 id hin hp
 exact rfl
theorem IA:aA prog G iR jA:=by
 refine IB (aB (l:=[(xU, .pure yA)]) (au ah) (by simp only [List.forall_mem_cons];exact ⟨⟨ab2,ZM⟩,fun x hx=>by cases hx⟩)) ?_
 intro s1 id hin hp
 have hlen:s1.length≤maxLen:=hin.1.1
 rw [maxLen_eq] at hlen
 refine ku s1.length hlen (fun n=>∀ i,i<n→(Sp.fileAt s1 i).1≠id) (fun i hi=>by omega) (fun I μ n hn hJ next=>?_) fun I μ hJ=>?_
 · dsimp only
   refine dW (by omega) ⟨⟨by omega,by omega⟩,trivial,af (fun h=>?_) fun h=>⟨rfl,next fun i hi=>?_⟩⟩
   · have h:(Sp.fileAt s1 n).1=id:=ji h
     exact congrArg (·,()) (Sp.Xr hn hJ h).symm
   · rcases Nat.lt_or_ge i n with h'|h'
     · exact hJ i h'
     · have:i=n:=by omega
       subst this
       have h:¬ (Sp.fileAt s1 i).1=id:=jl h
       exact h
 · dsimp only
   exact dX (by omega) (congrArg (·,()) (Sp.agT hJ).symm)
theorem afC:aA prog G Dc Cb:=by
 refine ax5 (aB (l:=[(iR, .pure jA),(xU, .pure yA)]) (au ah) (by simp only [List.forall_mem_cons];exact ⟨⟨IA,H8⟩,⟨ab2,ZM⟩,fun x hx=>by cases hx⟩)) ?_
 intro s0 s1 s2 id hin hp
 exact ⟨trivial,rfl⟩
theorem aso:aA prog G Hl I8:=by
 refine asq (aB (l:=[(qm, .pure pI),(Dc, .pure Cb)]) (au ah) (by simp only [List.forall_mem_cons];exact ⟨⟨SC,Qq⟩,⟨afC,adp⟩,fun x hx=>by cases hx⟩)) ?_
 intro s0 s1 s2 id hin hp
 obtain ⟨h0,h1,h2⟩:s0.length≤1000∧s1.length≤1000∧∀ f∈s1,Sp.bH f:=hp
 refine ⟨trivial,?_⟩
 rcases Sp.Ae s1 id with ⟨h,_⟩|⟨n,hn,h,_,_⟩
 · have e:Sp.fC (s0,s1,s2,()) id=(Sp.amm,false):=by
    show (bif decide (Sp.place s1 id<0) then _ else _)=_
    rw [h];rfl
   refine dX (by omega) ?_
   show _=((Sp.fC (s0,s1,s2,()) id).1,(Sp.fC (s0,s1,s2,()) id).2,())
   rw [e];rfl
 · have e:Sp.fC (s0,s1,s2,()) id=(Sp.fileAt s1 n,true):=by
    show (bif decide (Sp.place s1 id<0) then _ else (Sp.fileAt s1 (Sp.place s1 id).toNat,true))=_
    rw [h,decide_eq_false (by omega)];rfl
   refine dW (by omega) ⟨⟨by omega,by omega⟩,?_,?_⟩
   · rw [h,Int.toNat_natCast]
     exact h2 _ (getD_mem (d:=((0:Int),(0:Int),false,(0:Int),[],())) hn)
   · show _=((Sp.fC (s0,s1,s2,()) id).1,(Sp.fC (s0,s1,s2,()) id).2,())
     rw [e,h];rfl
theorem asr:aA prog G Ho I9:=by
 refine ast (aB (l:=[(ny, .pure lQ),(ql, .pure pJ)]) (au ah) (by simp only [List.forall_mem_cons];exact ⟨⟨N9,LH⟩,⟨SE,Qr⟩,fun x hx=>by cases hx⟩)) ?_
 intro s0 s1 s2 id hin hp
 obtain ⟨h0,h1,h2⟩:s0.length≤1000∧s1.length≤1000∧∀ f∈s1,Sp.bH f:=hp
 refine ⟨trivial,?_⟩
 rcases Sp.Ae s1 id with ⟨h,_⟩|⟨n,hn,h,_,_⟩
 · have e:Sp.fC (s0,s1,s2,()) id=(Sp.amm,false):=by
    show (bif decide (Sp.place s1 id<0) then _ else _)=_
    rw [h];rfl
   refine dW (by omega) ?_
   show _=((Sp.fC (s0,s1,s2,()) id).1,(Sp.fC (s0,s1,s2,()) id).2,())
   rw [e];rfl
 · have e:Sp.fC (s0,s1,s2,()) id=(Sp.fileAt s1 n,true):=by
    show (bif decide (Sp.place s1 id<0) then _ else (Sp.fileAt s1 (Sp.place s1 id).toNat,true))=_
    rw [h,decide_eq_false (by omega)];rfl
   refine dX (by omega) ⟨⟨by omega,by omega⟩,?_,?_⟩
   · rw [h,Int.toNat_natCast]
     exact h2 _ (getD_mem (d:=((0:Int),(0:Int),false,(0:Int),[],())) hn)
   · show _=((Sp.fC (s0,s1,s2,()) id).1,(Sp.fC (s0,s1,s2,()) id).2,())
     rw [e,h];rfl
theorem ajl:aG prog G AA Ei:=by
 refine ajm (aB (l:=[(qm, .pure pI),(qJ, .pure rG),(qf, .pure qB),(Dc, .pure Cb),(oN, .eff (ax lC) nS)]) (au ah) (by simp only [List.forall_mem_cons];exact ⟨⟨SC,Qq⟩,⟨WH,Vo⟩,⟨VD,TU⟩,⟨afC,adp⟩,⟨Qu,OQ⟩,fun x hx=>by cases hx⟩)) (fun ⟨s,f,_⟩ _=>⟨((((Sp.aW s f).1.1,(Sp.aW s f).1.2.1,(Sp.aW s f).1.2.2.1,()),(Sp.aW s f).2,()),()),⟨rfl,rfl,rfl,rfl⟩⟩) ?_
 intro s0 s1 s2 f0 f1 f2 f3 f4 hin hp
 refine ⟨hp.1,?_⟩
 rintro ⟨⟨⟨a,l,nx,⟨⟩⟩,⟨⟩⟩,⟨⟩⟩ e
 obtain ⟨rfl,rfl,rfl⟩:a=s0∧l=s1∧nx=s2:=by simpa using e
 have hs:l.length≤1000:=hp.1.2.1
 have no:¬ (Sp.aH (a,l,nx,())=true∧0≤Sp.place l f0∧Sp.dD a (f0,f1,f2,f3,f4,())=true)→Sp.aW (a,l,nx,()) (f0,f1,f2,f3,f4,())=((a,l,nx,()),false):=fun h=>by
  rcases Sp.pX (a,l,nx,()) (f0,f1,f2,f3,f4,()) with ⟨e,_⟩|⟨n,hn,h1,h2,h3,_⟩
  · exact e
  · exact (h ⟨h2,by have h1:Sp.place l f0=n:=h1;omega,h3⟩).elim
 refine ⟨trivial,trivial,af (fun h1=>?_) fun h1=>af (fun h2=>?_) fun h2=>⟨trivial,af (fun h3=>?_) fun h3=>?_⟩⟩
 · have:=no fun h=>by have h1:=jG h1;have:=h.1;rw [show Sp.aH (a,l,nx,())=false from h1] at this;cases this
   dsimp only
   rw [this];exact ⟨rfl,rfl,rfl,rfl⟩
 · have:=no fun h=>by have h2:Sp.place l f0<0:=ji h2;omega
   dsimp only
   rw [this];exact ⟨rfl,rfl,rfl,rfl⟩
 · have:=no fun h=>by have h3:=jG h3;have:=h.2.2;rw [show Sp.dD a (f0,f1,f2,f3,f4,())=false from h3] at this;cases this
   dsimp only
   rw [this];exact ⟨rfl,rfl,rfl,rfl⟩
 · have g1:Sp.aH (a,l,nx,())=true:=gQ h1
   have g2:0≤Sp.place l f0:=by have h2:¬ Sp.place l f0<0:=jl h2;omega
   have g3:Sp.dD a (f0,f1,f2,f3,f4,())=true:=gQ h3
   rcases Sp.pX (a,l,nx,()) (f0,f1,f2,f3,f4,()) with ⟨_,e⟩|⟨n,hn,hpl,_,_,e⟩
   · exact (e ⟨g1,g2,g3⟩).elim
   · have hn:n<l.length:=hn
     have hpl:Sp.place l f0=n:=hpl
     dsimp only
     rw [hpl,e]
     exact ⟨hp.2,⟨by omega,by omega⟩,hn,rfl,rfl,rfl,rfl⟩
theorem ajn:aG prog G AB Ej:=by
 refine ajo (aB (l:=[(ny, .pure lQ),(lK, .pure lJ),(iM, .pure iH),(ql, .pure pJ),(kQ, .eff (ax jy) jT)]) (au ah) (by simp only [List.forall_mem_cons];exact ⟨⟨N9,LH⟩,⟨NM,LG⟩,⟨yg,xg⟩,⟨SE,Qr⟩,⟨H9,FC⟩,fun x hx=>by cases hx⟩)) (fun ⟨s,f,_⟩ _=>⟨((((Sp.aW s f).1.1,(Sp.aW s f).1.2.1,(Sp.aW s f).1.2.2.1,()),(Sp.aW s f).2,()),()),⟨rfl,rfl,rfl,rfl⟩⟩) ?_
 intro s0 s1 s2 f0 f1 f2 f3 f4 hin hp
 refine ⟨hp.1,?_⟩
 rintro ⟨⟨⟨a,l,nx,⟨⟩⟩,⟨⟩⟩,⟨⟩⟩ e
 obtain ⟨rfl,rfl,rfl⟩:a=s0∧l=s1∧nx=s2:=by simpa using e
 have hs:l.length≤1000:=hp.1.2.1
 have no:¬ (Sp.aH (a,l,nx,())=true∧0≤Sp.place l f0∧Sp.dD a (f0,f1,f2,f3,f4,())=true)→Sp.aW (a,l,nx,()) (f0,f1,f2,f3,f4,())=((a,l,nx,()),false):=fun h=>by
  rcases Sp.pX (a,l,nx,()) (f0,f1,f2,f3,f4,()) with ⟨e,_⟩|⟨n,hn,h1,h2,h3,_⟩
  · exact e
  · exact (h ⟨h2,by have h1:Sp.place l f0=n:=h1;omega,h3⟩).elim
 refine ⟨trivial,trivial,af (fun h1=>?_) fun h1=>af (fun h2=>?_) fun h2=>⟨trivial,af (fun h3=>?_) fun h3=>?_⟩⟩
 · have:=no fun h=>by have h1:=jG h1;have:=h.1;rw [show Sp.aH (a,l,nx,())=false from h1] at this;cases this
   dsimp only
   rw [this];exact ⟨rfl,rfl,rfl,rfl⟩
 · have:=no fun h=>by have h2:Sp.place l f0<0:=ji h2;omega
   dsimp only
   rw [this];exact ⟨rfl,rfl,rfl,rfl⟩
 · have:=no fun h=>by have h3:=jG h3;have:=h.2.2;rw [show Sp.dD a (f0,f1,f2,f3,f4,())=false from h3] at this;cases this
   dsimp only
   rw [this];exact ⟨rfl,rfl,rfl,rfl⟩
 · have g1:Sp.aH (a,l,nx,())=true:=gQ h1
   have g2:0≤Sp.place l f0:=by have h2:¬ Sp.place l f0<0:=jl h2;omega
   have g3:Sp.dD a (f0,f1,f2,f3,f4,())=true:=gQ h3
   rcases Sp.pX (a,l,nx,()) (f0,f1,f2,f3,f4,()) with ⟨_,e⟩|⟨n,hn,hpl,_,_,e⟩
   · exact (e ⟨g1,g2,g3⟩).elim
   · have hn:n<l.length:=hn
     have hpl:Sp.place l f0=n:=hpl
     dsimp only
     rw [hpl,e]
     exact ⟨hp.2,⟨by omega,by omega⟩,hn,rfl,rfl,rfl,rfl⟩
theorem ag9 {d:List Sp.aY} {i:Nat} (hi:i<d.length):Sp.dY (Sp.jD d) (Sp.nameOf d i)=true:=by
 rw [Sp.jk]
 unfold Sp.jD
 rw [List.mem_map]
 exact ⟨Sp.fO d i,getD_mem hi,rfl⟩
theorem aha:Sp.aZ []:=⟨by decide,fun x hx=>by cases hx⟩
theorem aEV {fs:List Sp.aT} {d:List Sp.aY} {out:List Sp.eY} (h:Sp.iO fs d [] (Sp.dY (Sp.jD d)) out):Sp.iO fs d [] (fun _=>true) out:=
 Sp.ad8 h (fun i hi=>ag9 hi) fun i hi hn=>absurd ((ag9 hi).symm.trans hn) (by decide)
theorem asu:aG prog G Hf I7:=by
 refine asv (aB (l:=[(vI, .eff (ax pR) wB),(xR, .pure yx)]) (au ah) (by simp only [List.forall_mem_cons];exact ⟨⟨ZN,Yx⟩,⟨abZ,ZL⟩,fun x hx=>by cases hx⟩)) (fun ⟨(a,fs,nx,_),d,_⟩ _=>by obtain ⟨out,h⟩:=Iz (fs:=fs) (a:=a) (nx:=nx) (d:=d) [] (fun _=>true);exact ⟨(((out,(Sp.aF d&&Sp.aH (a,fs,nx,())),()),())),⟨rfl,h⟩⟩) ?_
 intro a fs nx d hin hp
 refine ⟨hp.2.1,⟨hp.1,hp.2,aha⟩,fun r hr=>⟨hr.1,fun h=>aEV (hr.2 h)⟩⟩
theorem amn:aG prog G DK FT:=by
 refine amo (aB (l:=[(vI, .eff (ax pR) wB)]) (au ah) (by simp only [List.forall_mem_cons];exact ⟨⟨ZN,Yx⟩,fun x hx=>by cases hx⟩)) (fun ⟨(a,fs,nx,_),d,r,names,_⟩ _=>by obtain ⟨out,h⟩:=Iz (fs:=fs) (a:=a) (nx:=nx) (d:=d) r (Sp.dY names);exact ⟨(((out,(Sp.aF d&&Sp.aH (a,fs,nx,())),()),())),⟨rfl,h⟩⟩) ?_
 intro a fs nx d r names hin hp
 exact ⟨hp,fun r hr=>hr⟩
theorem SG:aG prog G qw pU:=by
 refine asw (aB (l:=[(Me, .eff (ax EN) NV)]) (au ah) (by simp only [List.forall_mem_cons];exact ⟨⟨ax3,auP⟩,fun x hx=>by cases hx⟩)) (fun ⟨(a,fs,nx,_),d,_⟩ _=>by obtain ⟨out,h⟩:=Iz (fs:=fs) (a:=a) (nx:=nx) (d:=d) [] (fun _=>true);exact ⟨(((out,(Sp.aF d&&Sp.aH (a,fs,nx,())),()),())),⟨rfl,h⟩⟩) ?_
 intro a fs nx d hin hp
 exact ⟨hp,fun r hr=>hr⟩
theorem aDQ (a:List Sp.iZ) (fs:List Sp.aT) (nx:Int) (d:List Sp.aY):∃ t:((List Sp.iZ×List Sp.aT×Int×List Sp.aY×List Sp.eY×Unit)×Bool×Unit)×Unit,
 t.1.2.1=(Sp.aF d&&Sp.aH (a,fs,nx,()))∧(t.1.2.1=true→(t.1.1.1,t.1.1.2.1,t.1.1.2.2.1,())=(a,fs,nx,())∧t.1.1.2.2.2.1=d∧Sp.iO fs d [] (fun _=>true) t.1.1.2.2.2.2.1)∧(t.1.2.1=false→(t.1.1.1,t.1.1.2.1,t.1.1.2.2.1,t.1.1.2.2.2.1,t.1.1.2.2.2.2.1,())=([],[],0,[],[],())):=by
 obtain ⟨out,h⟩:=Iz (fs:=fs) (a:=a) (nx:=nx) (d:=d) [] (fun _=>true)
 cases hk:(Sp.aF d&&Sp.aH (a,fs,nx,())) with
 |true=>exact ⟨(((a,fs,nx,d,out,()),true,()),()),⟨rfl,fun _=>⟨rfl,rfl,h hk⟩,fun h=>(by cases h)⟩⟩
 |false=>exact ⟨((([],[],0,[],[],()),false,()),()),⟨rfl,fun h=>(by cases h),fun _=>rfl⟩⟩
theorem amq:aG prog G DR FV:=by
 refine amr (aB (l:=[(zS, .pure zJ),(kQ, .eff (ax jy) jT),(qw, .eff (ax lT) pU)]) (au ah) (by simp only [List.forall_mem_cons];exact ⟨⟨adw,abQ⟩,⟨H9,FC⟩,⟨SG,Qs⟩,fun x hx=>by cases hx⟩)) (fun ⟨(a,fs,nx,_),d,_⟩ _=>aDQ a fs nx d) ?_
 intro a fs nx d hin hp
 refine ⟨hp,fun r0 hr0=>af (fun h=>?_) fun h=>⟨hp.1,fun r1 hr1=>⟨hp.2,?_⟩⟩⟩
 · have h:r0.1.2.1=false:=jG h
   have e:(Sp.aF d&&Sp.aH (a,fs,nx,()))=false:=hr0.1.symm.trans h
   exact ⟨e.symm,fun h=>(by cases h),fun _=>rfl⟩
 · have h:r0.1.2.1=true:=gQ h
   have e:(Sp.aF d&&Sp.aH (a,fs,nx,()))=true:=hr0.1.symm.trans h
   exact ⟨e.symm,fun _=>⟨hr1,rfl,hr0.2 h⟩,fun h=>by cases h⟩
theorem avn {a:List Sp.iZ} {fs:List Sp.aT} {nx:Int} {d:List Sp.aY} {r out:List Sp.eY} (h:(Sp.aF d&&Sp.aH (a,fs,nx,()))=true) (ho:Sp.iO fs d [] (fun _=>true) out):Sp.o5 (a,fs,nx,d,r,())=decide (out=r):=by
 have e:Sp.o5 (a,fs,nx,d,r,())=((Sp.aF d&&Sp.aH (a,fs,nx,()))&&@decide (Sp.iO fs d [] (fun _=>true) r) (Classical.propDecidable _)):=rfl
 rw [e,h,Bool.true_and,Bool.eq_iff_iff,decide_eq_true_eq (p:=out=r)]
 rw [Bool.and_eq_true] at h
 exact (@decide_eq_true_iff _ (Classical.propDecidable _)).trans ⟨fun hr=>Sp.ab3 (Sp.sN.1 h.1).1 ho hr,fun e=>e▸ho⟩
theorem aEW {a:List Sp.iZ} {fs:List Sp.aT} {nx:Int} {d:List Sp.aY} {r:List Sp.eY} (h:(Sp.aF d&&Sp.aH (a,fs,nx,()))=false):Sp.o5 (a,fs,nx,d,r,())=false:=by
 have e:Sp.o5 (a,fs,nx,d,r,())=((Sp.aF d&&Sp.aH (a,fs,nx,()))&&@decide (Sp.iO fs d [] (fun _=>true) r) (Classical.propDecidable _)):=rfl
 rw [e,h,Bool.false_and]
theorem ZO:aA prog G vJ wG:=by
 refine ao4 (aB (l:=[(yZ, .pure BV),(Hf, .eff (ax zL) I7)]) (au ah) (by simp only [List.forall_mem_cons];exact ⟨⟨ag5,afi⟩,⟨asu,aoH⟩,fun x hx=>by cases hx⟩)) ?_
 intro a fs nx d r hin hp
 obtain ⟨h1,h2,h3⟩:Sp.bC (a,fs,nx,())∧Sp.aO d∧Sp.aZ r:=hp
 refine ⟨⟨h1,h2⟩,fun r0 hr0=>af (fun h=>⟨trivial,?_⟩) fun h=>?_⟩
 · rw [avn (hr0.1.symm.trans h) (hr0.2 h)]
 · rw [aEW (hr0.1.symm.trans h)]
theorem ao5:aA prog G Fh GV:=by
 refine ao6 (aB (l:=[(zf, .pure BZ),(qw, .eff (ax lT) pU)]) (au ah) (by simp only [List.forall_mem_cons];exact ⟨⟨ag7,afj⟩,⟨SG,Qs⟩,fun x hx=>by cases hx⟩)) ?_
 intro a fs nx d r hin hp
 obtain ⟨h1,h2,h3⟩:Sp.bC (a,fs,nx,())∧Sp.aO d∧Sp.aZ r:=hp
 refine ⟨⟨h1,h2⟩,fun r0 hr0=>af (fun h=>⟨trivial,?_⟩) fun h=>?_⟩
 · rw [avn (hr0.1.symm.trans h) (hr0.2 h)]
 · rw [aEW (hr0.1.symm.trans h)]
theorem aFd:aA prog G abS Yb:=by
 refine ao7 (aB (l:=[]) (au ah) (fun x hx=>by cases hx)) ?_
 intro f0 f1 f2 f3 a hin hp
 exact aBw (K:=fun r=>r=(Sp.gV a,())) (fun x:Sp.gZ=>(x.1,())) ([],0,0,[],()) a _ (by have hp:a.length≤1000:=hp;omega) rfl
theorem ad9:aG prog G wR yO:=by
 refine aea (aB (l:=[]) (au ah) (fun x hx=>by cases hx)) (fun ⟨(_,_,_,_,a,_),_⟩ _=>⟨((Sp.gV a,()),()),rfl⟩) ?_
 intro f0 f1 f2 f3 a hin hp
 exact aBw (K:=fun r=>r.1=Sp.gV a) (fun x:Sp.gZ=>(x.1,())) ([],0,0,[],()) a _ (by have hp:a.length≤1000:=hp;omega) rfl
theorem aeb:aG prog G wS yP:=by
 refine aec (aB (l:=[]) (au ah) (fun x hx=>by cases hx)) (fun ⟨(_,_,_,_,a,_),_⟩ _=>⟨((Sp.gV a,()),()),rfl⟩) ?_
 intro f0 f1 f2 f3 a hin hp
 exact aBw (K:=fun r=>r.1=Sp.gV a) (fun x:Sp.gZ=>(x.1,())) ([],0,0,[],()) a _ (by have hp:a.length≤1000:=hp;omega) rfl
theorem ams {α:Type} (g:α→Sp.Bytes) (l:List α) (s:Sp.Bytes):(s,())∈l.map (fun x=>(g x,()))↔s∈l.map g:=by simp
theorem Ob {α β:Type} (p:α→Bool) (g:α→β) (d:α) (l:List α) {n:Nat} (h:n<l.length) (s:β):s∈((l.take (n+1)).filter p).map g↔s∈((l.take n).filter p).map g∨(p (l.getD n d)=true∧s=g (l.getD n d)):=by
 rw [lY p d l h,List.map_append,List.mem_append]
 cases hp:p (l.getD n d)<;>simp
theorem J3 {α β:Type} (p:α→Bool) (g:α→β) (l:List α) (n:Nat):(((l.take n).filter p).map g).length≤n:=by
 have:=List.length_filter_le p (l.take n)
 rw [List.length_take] at this
 rw [List.length_map];omega
def lZ (n:Sp.bY):Bool:=n.1==2||(n.1==3||n.1==4)
theorem Gw (l:List Sp.Bytes) (h:l.length≤1000):Sp.cO (l.map fun s=>(s,())) l:=⟨by rw [List.length_map];exact h,fun s=>by simp⟩
theorem aqp (q:List Sp.bY):(Sp.mY q).length≤q.length:=by
 unfold Sp.mY
 rw [List.length_map]
 exact List.length_filter_le _ _
theorem avo (q:List Sp.bY):(Sp.sQ q).length≤q.length:=by
 unfold Sp.sQ
 rw [List.length_map]
 exact List.length_filter_le _ _
abbrev MI:Sp.bY:=(0,0,0,[],0,0,[],())
theorem amu:aG prog G DF FW:=by
 refine amv (aB (l:=[(jJ, .eff (ax iK) jc)]) (au ah) (by simp only [List.forall_mem_cons];exact ⟨⟨AY,zq⟩,fun x hx=>by cases hx⟩)) (fun ⟨q,_⟩ hp=>⟨((_,()),()),Gw (Sp.mY q) (Nat.le_trans (aqp q) hp)⟩) ?_
 intro q hin hp
 have hp:q.length≤1000:=hp
 refine eX (fun i (x:Sp.LS)=>(((),i,()),x,())) (fun y=>y.1.2.1) (fun _ _=>rfl) q.length (by omega) (fun n l=>l=((q.take n).filter lZ).map fun n=>(n.2.2.2.1,())) rfl (fun I μ n l hn hJ next=>?_) fun I μ l hJ=>?_
 · subst hJ
   have hl:=J3 lZ (fun n=>(n.2.2.2.1,())) q n
   have small:(((q.take n).filter lZ).map fun n=>(n.2.2.2.1,())).length+1≤big:=by rw [dS];omega
   have yes:lZ (q.getD n MI)=true→((q.take n).filter lZ).map (fun n=>(n.2.2.2.1,()))++[((q.getD n MI).2.2.2.1,())]=((q.take (n+1)).filter lZ).map fun n=>(n.2.2.2.1,()):=fun h=>by
    rw [lY lZ MI q hn,h,List.map_append];rfl
   dsimp only
   refine dW (by omega) ⟨⟨by omega,by omega⟩,af (fun h=>⟨small,rfl,next _ (yes ?_)⟩) fun h2=>af (fun h=>⟨small,rfl,next _ (yes ?_)⟩) fun h3=>af (fun h=>⟨small,rfl,next _ (yes ?_)⟩) fun h4=>⟨rfl,next _ ?_⟩⟩
   · have h:((q.getD n MI).1==2)=true:=h
     unfold lZ;rw [h];rfl
   · have h:((q.getD n MI).1==3)=true:=h
     unfold lZ;rw [h];simp
   · have h:((q.getD n MI).1==4)=true:=h
     unfold lZ;rw [h];simp
   · have h2:((q.getD n MI).1==2)=false:=h2
     have h3:((q.getD n MI).1==3)=false:=h3
     have h4:((q.getD n MI).1==4)=false:=h4
     have:lZ (q.getD n MI)=false:=by unfold lZ;rw [h2,h3,h4];rfl
     rw [lY lZ MI q hn,this,List.map_append];simp
 · subst hJ
   rw [List.take_length]
   have hl:((q.filter lZ).map fun n=>(n.2.2.2.1,())).length≤q.length:=by rw [List.length_map];exact List.length_filter_le _ _
   dsimp only
   refine dX (by omega) ⟨by omega,fun r hr=>⟨by have:=hr.1;omega,fun s=>(hr.2 (s,())).trans ?_⟩⟩
   exact ams (fun n:Sp.bY=>n.2.2.2.1) _ s
theorem ao8:aG prog G Fa GX:=by
 refine ao9 (aB (l:=[(jJ, .eff (ax iK) jc),(xP, .pure yj)]) (au ah) (by simp only [List.forall_mem_cons];exact ⟨⟨AY,zq⟩,⟨ab4,ZI⟩,fun x hx=>by cases hx⟩)) (fun ⟨q,_⟩ hp=>⟨((_,()),()),Gw (Sp.sQ q) (Nat.le_trans (avo q) hp)⟩) ?_
 intro q hin hp
 have hp:q.length≤1000:=hp
 refine eX (fun i (x:Sp.LS)=>(((),i,()),x,())) (fun y=>y.1.2.1) (fun _ _=>rfl) q.length (by omega) (fun n l=>l=((q.take n).filter Sp.lN).map fun n=>(n.2.2.2.1,())) rfl (fun I μ n l hn hJ next=>?_) fun I μ l hJ=>?_
 · subst hJ
   have hl:=J3 Sp.lN (fun n=>(n.2.2.2.1,())) q n
   dsimp only
   refine dW (by omega) ⟨⟨by omega,by omega⟩,trivial,af (fun h=>⟨by rw [dS];simp only [List.length_cons,List.length_nil];omega,rfl,next _ ?_⟩) fun h=>⟨rfl,next _ ?_⟩⟩
   · have h:Sp.lN (q.getD n MI)=true:=h
     rw [lY Sp.lN MI q hn,h,List.map_append];rfl
   · have h:Sp.lN (q.getD n MI)=false:=h
     rw [lY Sp.lN MI q hn,h,List.map_append];simp
 · subst hJ
   rw [List.take_length]
   have hl:((q.filter Sp.lN).map fun n=>(n.2.2.2.1,())).length≤q.length:=by rw [List.length_map];exact List.length_filter_le _ _
   dsimp only
   refine dX (by omega) ⟨by omega,fun r hr=>⟨by have:=hr.1;omega,fun s=>(hr.2 (s,())).trans ?_⟩⟩
   exact ams (fun n:Sp.bY=>n.2.2.2.1) _ s
theorem aGx (n:Sp.bY):(decide (2≤n.1)&&decide (n.1≤4))=lZ n:=by
 rw [Bool.eq_iff_iff]
 unfold lZ
 simp only [Bool.and_eq_true,Bool.or_eq_true,decide_eq_true_eq,beq_iff_eq]
 omega
theorem aG5 (n:Sp.bY):(decide (8≤n.1)&&decide (n.1≤9))=Sp.lN n:=by
 rw [Bool.eq_iff_iff]
 unfold Sp.lN
 simp only [Bool.and_eq_true,Bool.or_eq_true,decide_eq_true_eq,beq_iff_eq]
 omega
theorem amw:aG prog G DI FX:=by
 refine amx (aB (l:=[(lI, .pure kS),(iq, .pure fU)]) (au ah) (by simp only [List.forall_mem_cons];exact ⟨⟨J4,H7⟩,⟨rC,pF⟩,fun x hx=>by cases hx⟩)) (fun ⟨q,_⟩ hp=>⟨((_,()),()),Gw (Sp.mY q) (Nat.le_trans (aqp q) hp)⟩) ?_
 intro q hin hp
 have hp:q.length≤1000:=hp
 refine eX (fun i (x:Sp.LS)=>((x,i,()),())) (fun y=>y.1.2.1) (fun _ _=>rfl) q.length (by omega) (fun n l=>l.length≤n∧∀ s,(s,())∈l↔s∈((q.take n).filter lZ).map fun n=>n.2.2.2.1) ⟨Nat.le_refl _,fun s=>by simp⟩ (fun I μ n l hn hJ next=>?_) fun I μ l hJ=>?_
 · obtain ⟨hl,hJ⟩:=hJ
   dsimp only
   rw [Int.toNat_natCast,aGx]
   refine dW (by omega) ⟨⟨by omega,by omega⟩,trivial,af (fun h=>⟨⟨by omega,by omega⟩,by omega,rfl,next _ ⟨Nat.le_trans (ahb _ _) (by omega),fun s=>?_⟩⟩) fun h=>⟨rfl,next _ ⟨by omega,fun s=>?_⟩⟩⟩
   · have h:lZ (q.getD n MI)=true:=h
     rw [Dk,hJ,Ob lZ _ MI q hn,Prod.mk.injEq]
     exact ⟨fun g=>g.elim (fun g=> .inr ⟨h,g.1⟩) .inl,fun g=>g.elim .inr fun g=> .inl ⟨g.2,rfl⟩⟩
   · have h:lZ (q.getD n MI)=false:=h
     rw [hJ,Ob lZ _ MI q hn,h];simp
 · obtain ⟨hl,hJ⟩:=hJ
   rw [List.take_length] at hJ
   dsimp only
   exact dX (by omega) ⟨by rw [dS];omega,by show l.length≤1000;omega,hJ⟩
theorem apa:aG prog G Fb GY:=by
 refine apb (aB (l:=[(lI, .pure kS),(iq, .pure fU)]) (au ah) (by simp only [List.forall_mem_cons];exact ⟨⟨J4,H7⟩,⟨rC,pF⟩,fun x hx=>by cases hx⟩)) (fun ⟨q,_⟩ hp=>⟨((_,()),()),Gw (Sp.sQ q) (Nat.le_trans (avo q) hp)⟩) ?_
 intro q hin hp
 have hp:q.length≤1000:=hp
 refine eX (fun i (x:Sp.LS)=>((x,i,()),())) (fun y=>y.1.2.1) (fun _ _=>rfl) q.length (by omega) (fun n l=>l.length≤n∧∀ s,(s,())∈l↔s∈((q.take n).filter Sp.lN).map fun n=>n.2.2.2.1) ⟨Nat.le_refl _,fun s=>by simp⟩ (fun I μ n l hn hJ next=>?_) fun I μ l hJ=>?_
 · obtain ⟨hl,hJ⟩:=hJ
   dsimp only
   rw [Int.toNat_natCast,aG5]
   refine dW (by omega) ⟨⟨by omega,by omega⟩,trivial,af (fun h=>⟨⟨by omega,by omega⟩,by omega,rfl,next _ ⟨Nat.le_trans (ahb _ _) (by omega),fun s=>?_⟩⟩) fun h=>⟨rfl,next _ ⟨by omega,fun s=>?_⟩⟩⟩
   · have h:Sp.lN (q.getD n MI)=true:=h
     rw [Dk,hJ,Ob Sp.lN _ MI q hn,Prod.mk.injEq]
     exact ⟨fun g=>g.elim (fun g=> .inr ⟨h,g.1⟩) .inl,fun g=>g.elim .inr fun g=> .inl ⟨g.2,rfl⟩⟩
   · have h:Sp.lN (q.getD n MI)=false:=h
     rw [hJ,Ob Sp.lN _ MI q hn,h];simp
 · obtain ⟨hl,hJ⟩:=hJ
   rw [List.take_length] at hJ
   dsimp only
   exact dX (by omega) ⟨by rw [dS];omega,by show l.length≤1000;omega,hJ⟩
def Dl (a b:List Sp.gZ) (x:Sp.Bytes×Unit):Bool:=!decide (Sp.dF a x.1=Sp.dF b x.1)
theorem aqr (f0 f1:Int) (f2:Bool) (f3:Int) (a:List Sp.gZ) (g0 g1:Int) (g2:Bool) (g3:Int) (b:List Sp.gZ) (s:Sp.Bytes):
 (s,())∈(Sp.gV a++Sp.gV b).filter (Dl a b)↔s∈Sp.jU (f0,f1,f2,f3,a,()) (g0,g1,g2,g3,b,()):=by
 unfold Sp.jU Sp.gV
 rw [List.mem_filter,List.mem_filter,← List.map_append,ams]
 exact Iff.rfl
theorem amy (f g:Sp.aT):(Sp.jU f g).length≤f.2.2.2.2.1.length+g.2.2.2.2.1.length:=by
 unfold Sp.jU
 refine Nat.le_trans (List.length_filter_le _ _) ?_
 rw [List.length_map,List.length_append];exact Nat.le_refl _
theorem ahc:aG prog G zh Cc:=by
 refine ahd (aB (l:=[(jJ, .eff (ax iK) jc),(sH, .pure qI),(wR, .eff (ax o8) yO)]) (au ah) (by simp only [List.forall_mem_cons];exact ⟨⟨AY,zq⟩,⟨VE,SA⟩,⟨ad9,acB⟩,fun x hx=>by cases hx⟩)) (fun ⟨f,g,_⟩ hp=>⟨((_,()),()),Gw (Sp.jU f g) (Nat.le_trans (amy f g) hp.2.2)⟩) ?_
 intro a0 a1 a2 a3 a b0 b1 b2 b3 b hin hp
 obtain ⟨ha,hb,hab⟩:a.length≤1000∧b.length≤1000∧a.length+b.length≤1000:=hp
 refine ⟨ha,?_⟩
 rintro ⟨⟨r0,⟨⟩⟩,⟨⟩⟩ e0
 have e0:r0=Sp.gV a:=e0
 refine ⟨hb,?_⟩
 rintro ⟨⟨r1,⟨⟩⟩,⟨⟩⟩ e1
 have e1:r1=Sp.gV b:=e1
 subst e0 e1
 have hL:(Sp.gV a++Sp.gV b).length=a.length+b.length:=by rw [List.length_append];unfold Sp.gV;rw [List.length_map,List.length_map]
 refine ⟨by rw [dS];rw [List.length_append] at hL;dsimp only;omega,?_⟩
 dsimp only
 generalize hLL:Sp.gV a++Sp.gV b=L at hL
 refine eX (fun i (x:Sp.LS)=>(((),i,()),x,())) (fun y=>y.1.2.1) (fun _ _=>rfl) L.length (by omega) (fun n l=>l=(L.take n).filter (Dl a b)) rfl (fun I μ n l hn hJ next=>?_) fun I μ l hJ=>?_
 · subst hJ
   have hl:((L.take n).filter (Dl a b)).length≤n:=by
    have:=List.length_filter_le (Dl a b) (L.take n)
    rw [List.length_take] at this;omega
   have step:=lY (Dl a b) ([],()) L hn
   dsimp only
   rw [eq3,Int.toNat_natCast]
   refine dW (by omega) ⟨⟨by omega,by omega⟩,by omega,trivial,trivial,af (fun h=>⟨by rw [dS];simp only [List.length_cons,List.length_nil];omega,rfl,next _ ?_⟩) fun h=>⟨rfl,next _ ?_⟩⟩
   · have h:Dl a b (L.getD n ([],()))=true:=h
     rw [step,h];rfl
   · have h:Dl a b (L.getD n ([],()))=false:=h
     rw [step,h];simp
 · subst hJ
   rw [List.take_length]
   have hl:=List.length_filter_le (Dl a b) L
   dsimp only
   refine dX (by omega) ⟨by omega,fun r hr=>⟨by have:=hr.1;omega,fun s=>(hr.2 (s,())).trans ?_⟩⟩
   rw [← hLL]
   exact aqr _ _ _ _ a _ _ _ _ b s
theorem ahe:aG prog G zi Ce:=by
 refine ahf (aB (l:=[(lI, .pure kS),(zQ, .pure zK),(wS, .eff (ax o9) yP)]) (au ah) (by simp only [List.forall_mem_cons];exact ⟨⟨J4,H7⟩,⟨adv,abR⟩,⟨aeb,acC⟩,fun x hx=>by cases hx⟩)) (fun ⟨f,g,_⟩ hp=>⟨((_,()),()),Gw (Sp.jU f g) (Nat.le_trans (amy f g) hp.2.2)⟩) ?_
 intro a0 a1 a2 a3 a b0 b1 b2 b3 b hin hp
 obtain ⟨ha,hb,hab⟩:a.length≤1000∧b.length≤1000∧a.length+b.length≤1000:=hp
 refine ⟨ha,?_⟩
 rintro ⟨⟨r0,⟨⟩⟩,⟨⟩⟩ e0
 have e0:r0=Sp.gV a:=e0
 refine ⟨hb,?_⟩
 rintro ⟨⟨r1,⟨⟩⟩,⟨⟩⟩ e1
 have e1:r1=Sp.gV b:=e1
 subst e0 e1
 have hL:(Sp.gV a++Sp.gV b).length=a.length+b.length:=by rw [List.length_append];unfold Sp.gV;rw [List.length_map,List.length_map]
 refine ⟨by rw [dS];rw [List.length_append] at hL;dsimp only;omega,?_⟩
 dsimp only
 generalize hLL:Sp.gV a++Sp.gV b=L at hL
 refine eX (fun i (x:Sp.LS)=>((x,i,()),())) (fun y=>y.1.2.1) (fun _ _=>rfl) L.length (by omega) (fun n l=>l.length≤n∧∀ s,(s,())∈l↔(s,())∈(L.take n).filter (Dl a b)) ⟨Nat.le_refl _,fun s=>by simp⟩ (fun I μ n l hn hJ next=>?_) fun I μ l hJ=>?_
 · obtain ⟨hl,hJ⟩:=hJ
   have step:=lY (Dl a b) ([],()) L hn
   dsimp only
   rw [eq3,Int.toNat_natCast]
   refine dW (by omega) ⟨⟨by omega,by omega⟩,by omega,trivial,⟨by omega,by omega⟩,by omega,trivial,af (fun h=>⟨⟨by omega,by omega⟩,by omega,by omega,rfl,next _ ⟨Nat.le_trans (ahb _ _) (by omega),fun s=>?_⟩⟩) fun h=>⟨rfl,next _ ⟨by omega,fun s=>?_⟩⟩⟩
   · have h:Dl a b (L.getD n ([],()))=true:=h
     rw [Dk,step,h,List.mem_append,hJ]
     show _↔_∨(s,())∈[L.getD n ([],())]
     rw [List.mem_singleton]
     exact Or.comm
   · have h:Dl a b (L.getD n ([],()))=false:=h
     rw [step,h,hJ];simp
 · obtain ⟨hl,hJ⟩:=hJ
   rw [List.take_length] at hJ
   dsimp only
   refine dX (by omega) ⟨by rw [dS];omega,by show l.length≤1000;omega,fun s=>(hJ s).trans ?_⟩
   rw [← hLL]
   exact aqr _ _ _ _ a _ _ _ _ b s
end Go.Proofs.Tryz
