import Derived.Test.YtkgkfdphbkfjnaaGreatP16
namespace Go.Proofs.Tryz
open Go Go.Fw Go.IntWalk Sp
theorem Ov:OK yM.e:=by
 refine PA.ok mixed (au [] trivial) H0 (by kernel_rfl) (show ∀ f0 f1 f2 f3 f4 p10,yM.goal (acB f0 f1 f2 f3 f4 p10) ((f0,f1,f2,f3,f4,()),(p10,()),()) from ?_)
 intro f0 f1 f2 f3 f4 id hin hp
 dsimp only [yM] at hp ⊢
 exact rfl
theorem zL:OK iD.e:=by
 refine PA.ok mixed (au [yM.e] ⟨Ov,trivial⟩) zO (by kernel_rfl) (show ∀ s mJ,iD.goal (zM s mJ) (s,((mJ,()),()),()) from ?_)
 intro s1 id hin hp
 dsimp only [iD] at hp ⊢
 have hlen:s1.length≤maxLen:=hin.1.1
 rw [maxLen_eq] at hlen
 refine iM s1.length hlen (fun n=>∀ i,i<n→(Sp.fileAt s1 i).1≠id) (fun i hi=>by omega) (fun I μ n hn hJ next=>?_) fun I μ hJ=>?_
 · dsimp only
   refine dH (by omega) ⟨⟨by omega,by omega⟩,trivial,af (fun h=>?_) fun h=>⟨rfl,next fun i hi=>?_⟩⟩
   · have h:(Sp.fileAt s1 n).1=id:=fJ h
     exact congrArg (·,()) (Sp.JS hn hJ h).symm
   · rcases Nat.lt_or_ge i n with h'|h'
     · exact hJ i h'
     · have:i=n:=by omega
       subst this
       have h:¬ (Sp.fileAt s1 i).1=id:=fZ h
       exact h
 · dsimp only
   exact dI (by omega) (congrArg (·,()) (TY hJ).symm)
theorem JY:OK xZ.e:=by
 refine PA.ok mixed (au [iD.e,yM.e] ⟨zL,Ov,trivial⟩) H0 (by kernel_rfl) (show ∀ s0 s1 s2 id,xZ.goal (agq s0 s1 s2 id) ((s0,s1,s2,()),id,()) from ?_)
 intro s0 s1 s2 id hin hp
 dsimp only [xZ] at hp ⊢
 exact ⟨trivial,rfl⟩
theorem Ox:OK yN.e:=by
 refine PA.ok mixed (au [qg.e,xZ.e] ⟨CZ,JY,trivial⟩) H0 (by kernel_rfl) (show ∀ s0 s1 s2 id,yN.goal (acC s0 s1 s2 id) ((s0,s1,s2,()),id,()) from ?_)
 intro s0 s1 s2 id hin hp
 dsimp only [yN] at hp ⊢
 obtain ⟨h0,h1,h2⟩:s0.length≤1000∧s1.length≤1000∧∀ f∈s1,cu f:=hp
 refine ⟨trivial,?_⟩
 rcases lZ s1 id with ⟨h,_⟩|⟨n,hn,h,_,_⟩
 · have e:aO (s0,s1,s2,()) id=(X6,false):=by
    show (bif decide (Sp.place s1 id<0) then _ else _)=_
    rw [h];rfl
   refine dI (by omega) ?_
   show _=((aO (s0,s1,s2,()) id).1,(aO (s0,s1,s2,()) id).2,())
   rw [e];rfl
 · have e:aO (s0,s1,s2,()) id=(Sp.fileAt s1 n,true):=by
    show (bif decide (Sp.place s1 id<0) then _ else (Sp.fileAt s1 (Sp.place s1 id).toNat,true))=_
    rw [h,decide_eq_false (by omega)];rfl
   refine dH (by omega) ⟨⟨by omega,by omega⟩,?_,?_⟩
   · rw [h,Int.toNat_natCast]
     exact h2 _ (getD_mem (d:=((0:Int),(0:Int),false,(0:Int),[],())) hn)
   · show _=((aO (s0,s1,s2,()) id).1,(aO (s0,s1,s2,()) id).2,())
     rw [e,h];rfl
theorem Hz:OK uw.e:=by
 refine PA.ok mixed (au [rJ.e,ug.e] ⟨Em,Hu,trivial⟩) H0 (by kernel_rfl) (show ∀ s0 s1 s2 id,uw.goal (acD s0 s1 s2 id) ((s0,s1,s2,()),id,()) from ?_)
 intro s0 s1 s2 id hin hp
 dsimp only [uw] at hp ⊢
 obtain ⟨h0,h1,h2⟩:s0.length≤1000∧s1.length≤1000∧∀ f∈s1,cu f:=hp
 refine ⟨trivial,?_⟩
 rcases lZ s1 id with ⟨h,_⟩|⟨n,hn,h,_,_⟩
 · have e:aO (s0,s1,s2,()) id=(X6,false):=by
    show (bif decide (Sp.place s1 id<0) then _ else _)=_
    rw [h];rfl
   refine dH (by omega) ?_
   show _=((aO (s0,s1,s2,()) id).1,(aO (s0,s1,s2,()) id).2,())
   rw [e];rfl
 · have e:aO (s0,s1,s2,()) id=(Sp.fileAt s1 n,true):=by
    show (bif decide (Sp.place s1 id<0) then _ else (Sp.fileAt s1 (Sp.place s1 id).toNat,true))=_
    rw [h,decide_eq_false (by omega)];rfl
   refine dI (by omega) ⟨⟨by omega,by omega⟩,?_,?_⟩
   · rw [h,Int.toNat_natCast]
     exact h2 _ (getD_mem (d:=((0:Int),(0:Int),false,(0:Int),[],())) hn)
   · show _=((aO (s0,s1,s2,()) id).1,(aO (s0,s1,s2,()) id).2,())
     rw [e,h];rfl
theorem VJ:OK yO.e:=by
 refine XA.ok mixed (au [qg.e,oM.e,kW.e,xZ.e,lK.e] ⟨CZ,D7,vY,JY,vF,trivial⟩) X7 (fun ⟨s,f,_⟩ _=>⟨((((aV s f).1.1,(aV s f).1.2.1,(aV s f).1.2.2.1,()),(aV s f).2,()),()),⟨rfl,rfl,rfl,rfl⟩⟩) (by kernel_rfl) (show ∀ s0 s1 s2 f0 f1 f2 f3 f4,yO.goal (VK s0 s1 s2 f0 f1 f2 f3 f4) ((s0,s1,s2,()),(f0,f1,f2,f3,f4,()),()) from ?_)
 intro s0 s1 s2 f0 f1 f2 f3 f4 hin hp
 dsimp only [yO] at hp ⊢
 refine ⟨hp.1,?_⟩
 rintro ⟨⟨⟨a,l,nx,⟨⟩⟩,⟨⟩⟩,⟨⟩⟩ e
 obtain ⟨rfl,rfl,rfl⟩:a=s0∧l=s1∧nx=s2:=by simpa using e
 have hs:l.length≤1000:=hp.1.2.1
 have no:¬ (ax (a,l,nx,())=true∧0≤Sp.place l f0∧dm a (f0,f1,f2,f3,f4,())=true)→aV (a,l,nx,()) (f0,f1,f2,f3,f4,())=((a,l,nx,()),false):=fun h=>by
  rcases jl (a,l,nx,()) (f0,f1,f2,f3,f4,()) with ⟨e,_⟩|⟨n,hn,h1,h2,h3,_⟩
  · exact e
  · exact (h ⟨h2,by have h1:Sp.place l f0=n:=h1;omega,h3⟩).elim
 refine ⟨trivial,trivial,af (fun h1=>?_) fun h1=>af (fun h2=>?_) fun h2=>⟨trivial,af (fun h3=>?_) fun h3=>?_⟩⟩
 · have:=no fun h=>by have h1:=dS h1;have:=h.1;rw [show ax (a,l,nx,())=false from h1] at this;cases this
   dsimp only
   rw [this];exact ⟨rfl,rfl,rfl,rfl⟩
 · have:=no fun h=>by have h2:Sp.place l f0<0:=fJ h2;omega
   dsimp only
   rw [this];exact ⟨rfl,rfl,rfl,rfl⟩
 · have:=no fun h=>by have h3:=dS h3;have:=h.2.2;rw [show dm a (f0,f1,f2,f3,f4,())=false from h3] at this;cases this
   dsimp only
   rw [this];exact ⟨rfl,rfl,rfl,rfl⟩
 · have g1:ax (a,l,nx,())=true:=bU h1
   have g2:0≤Sp.place l f0:=by have h2:¬ Sp.place l f0<0:=fZ h2;omega
   have g3:dm a (f0,f1,f2,f3,f4,())=true:=bU h3
   rcases jl (a,l,nx,()) (f0,f1,f2,f3,f4,()) with ⟨_,e⟩|⟨n,hn,hpl,_,_,e⟩
   · exact (e ⟨g1,g2,g3⟩).elim
   · have hn:n<l.length:=hn
     have hpl:Sp.place l f0=n:=hpl
     dsimp only
     rw [hpl,e]
     exact ⟨hp.2,⟨by omega,by omega⟩,hn,rfl,rfl,rfl,rfl⟩
theorem VL:OK yP.e:=by
 refine XA.ok mixed (au [rJ.e,oL.e,jO.e,ug.e,oN.e] ⟨Em,D6,qC,Hu,zl,trivial⟩) X8 (fun ⟨s,f,_⟩ _=>⟨((((aV s f).1.1,(aV s f).1.2.1,(aV s f).1.2.2.1,()),(aV s f).2,()),()),⟨rfl,rfl,rfl,rfl⟩⟩) (by kernel_rfl) (show ∀ s0 s1 s2 f0 f1 f2 f3 f4,yP.goal (VN s0 s1 s2 f0 f1 f2 f3 f4) ((s0,s1,s2,()),(f0,f1,f2,f3,f4,()),()) from ?_)
 intro s0 s1 s2 f0 f1 f2 f3 f4 hin hp
 dsimp only [yP] at hp ⊢
 refine ⟨hp.1,?_⟩
 rintro ⟨⟨⟨a,l,nx,⟨⟩⟩,⟨⟩⟩,⟨⟩⟩ e
 obtain ⟨rfl,rfl,rfl⟩:a=s0∧l=s1∧nx=s2:=by simpa using e
 have hs:l.length≤1000:=hp.1.2.1
 have no:¬ (ax (a,l,nx,())=true∧0≤Sp.place l f0∧dm a (f0,f1,f2,f3,f4,())=true)→aV (a,l,nx,()) (f0,f1,f2,f3,f4,())=((a,l,nx,()),false):=fun h=>by
  rcases jl (a,l,nx,()) (f0,f1,f2,f3,f4,()) with ⟨e,_⟩|⟨n,hn,h1,h2,h3,_⟩
  · exact e
  · exact (h ⟨h2,by have h1:Sp.place l f0=n:=h1;omega,h3⟩).elim
 refine ⟨trivial,trivial,af (fun h1=>?_) fun h1=>af (fun h2=>?_) fun h2=>⟨trivial,af (fun h3=>?_) fun h3=>?_⟩⟩
 · have:=no fun h=>by have h1:=dS h1;have:=h.1;rw [show ax (a,l,nx,())=false from h1] at this;cases this
   dsimp only
   rw [this];exact ⟨rfl,rfl,rfl,rfl⟩
 · have:=no fun h=>by have h2:Sp.place l f0<0:=fJ h2;omega
   dsimp only
   rw [this];exact ⟨rfl,rfl,rfl,rfl⟩
 · have:=no fun h=>by have h3:=dS h3;have:=h.2.2;rw [show dm a (f0,f1,f2,f3,f4,())=false from h3] at this;cases this
   dsimp only
   rw [this];exact ⟨rfl,rfl,rfl,rfl⟩
 · have g1:ax (a,l,nx,())=true:=bU h1
   have g2:0≤Sp.place l f0:=by have h2:¬ Sp.place l f0<0:=fZ h2;omega
   have g3:dm a (f0,f1,f2,f3,f4,())=true:=bU h3
   rcases jl (a,l,nx,()) (f0,f1,f2,f3,f4,()) with ⟨_,e⟩|⟨n,hn,hpl,_,_,e⟩
   · exact (e ⟨g1,g2,g3⟩).elim
   · have hn:n<l.length:=hn
     have hpl:Sp.place l f0=n:=hpl
     dsimp only
     rw [hpl,e]
     exact ⟨hp.2,⟨by omega,by omega⟩,hn,rfl,rfl,rfl,rfl⟩
theorem Ut {d:List aC} {i:Nat} (hi:i<d.length):dA (fE d) (Sp.nameOf d i)=true:=by
 rw [gB]
 unfold fE
 rw [List.mem_map]
 exact ⟨bG d i,getD_mem hi,rfl⟩
theorem MZ:bH []:=⟨by decide,fun x hx=>by cases hx⟩
theorem anr {fs:List aN} {d:List aC} {out:List dL} (h:fM fs d [] (dA (fE d)) out):fM fs d [] (fun _=>true) out:=
 Kv h (fun i hi=>Ut hi) fun i hi hn=>absurd ((Ut hi).symm.trans hn) (by decide)
theorem acE:OK Ef.e:=by
 refine XA.ok mixed (au [wO.e,qm.e] ⟨LW,Di,trivial⟩) H0 (fun ⟨(a,fs,nx,_),d,_⟩ _=>by obtain ⟨out,h⟩:=zK (fs:=fs) (a:=a) (nx:=nx) (d:=d) [] (fun _=>true);exact ⟨(((out,(ai d&&ax (a,fs,nx,())),()),())),⟨rfl,h⟩⟩) (by kernel_rfl) (show ∀ s0 s1 s2 d,Ef.goal (acF s0 s1 s2 d) ((s0,s1,s2,()),d,()) from ?_)
 intro a fs nx d hin hp
 dsimp only [Ef] at hp ⊢
 refine ⟨hp.2.1,⟨hp.1,hp.2,MZ⟩,fun r hr=>⟨hr.1,fun h=>anr (hr.2 h)⟩⟩
theorem X9:OK zW.e:=by
 refine XA.ok mixed (au [wO.e] ⟨LW,trivial⟩) H0 (fun ⟨(a,fs,nx,_),d,r,names,_⟩ _=>by obtain ⟨out,h⟩:=zK (fs:=fs) (a:=a) (nx:=nx) (d:=d) r (dA names);exact ⟨(((out,(ai d&&ax (a,fs,nx,())),()),())),⟨rfl,h⟩⟩) (by kernel_rfl) (show ∀ s0 s1 s2 d BK names,zW.goal (Ya s0 s1 s2 d BK names) ((s0,s1,s2,()),d,BK,names,()) from ?_)
 intro a fs nx d r names hin hp
 dsimp only [zW] at hp ⊢
 exact ⟨hp,fun r hr=>hr⟩
theorem Oy:OK yL.e:=by
 refine XA.ok mixed (au [GV.e] ⟨agn,trivial⟩) aeA (fun ⟨(a,fs,nx,_),d,_⟩ _=>by obtain ⟨out,h⟩:=zK (fs:=fs) (a:=a) (nx:=nx) (d:=d) [] (fun _=>true);exact ⟨(((out,(ai d&&ax (a,fs,nx,())),()),())),⟨rfl,h⟩⟩) (by kernel_rfl) (show ∀ s0 s1 s2 d,yL.goal (acG s0 s1 s2 d) ((s0,s1,s2,()),d,()) from ?_)
 intro a fs nx d hin hp
 dsimp only [yL] at hp ⊢
 exact ⟨hp,fun r hr=>hr⟩
theorem amf (a:List gW) (fs:List aN) (nx:Int) (d:List aC):∃ t:((List gW×List aN×Int×List aC×List dL×Unit)×Bool×Unit)×Unit,
 t.1.2.1=(ai d&&ax (a,fs,nx,()))∧(t.1.2.1=true→(t.1.1.1,t.1.1.2.1,t.1.1.2.2.1,())=(a,fs,nx,())∧t.1.1.2.2.2.1=d∧fM fs d [] (fun _=>true) t.1.1.2.2.2.2.1)∧(t.1.2.1=false→(t.1.1.1,t.1.1.2.1,t.1.1.2.2.1,t.1.1.2.2.2.1,t.1.1.2.2.2.2.1,())=([],[],0,[],[],())):=by
 obtain ⟨out,h⟩:=zK (fs:=fs) (a:=a) (nx:=nx) (d:=d) [] (fun _=>true)
 cases hk:(ai d&&ax (a,fs,nx,())) with
 |true=>exact ⟨(((a,fs,nx,d,out,()),true,()),()),⟨rfl,fun _=>⟨rfl,rfl,h hk⟩,fun h=>(by cases h)⟩⟩
 |false=>exact ⟨((([],[],0,[],[],()),false,()),()),⟨rfl,fun h=>(by cases h),fun _=>rfl⟩⟩
theorem KQ:OK vw.e:=by
 refine XA.ok mixed (au [rP.e,oN.e,yL.e] ⟨Ep,zl,Oy,trivial⟩) Z7 (fun ⟨(a,fs,nx,_),d,_⟩ _=>amf a fs nx d) (by kernel_rfl) (show ∀ s0 s1 s2 d,vw.goal (Yb s0 s1 s2 d) ((s0,s1,s2,()),d,()) from ?_)
 intro a fs nx d hin hp
 dsimp only [vw] at hp ⊢
 refine ⟨hp,fun r0 hr0=>af (fun h=>?_) fun h=>⟨hp.1,fun r1 hr1=>⟨hp.2,?_⟩⟩⟩
 · have h:r0.1.2.1=false:=dS h
   have e:(ai d&&ax (a,fs,nx,()))=false:=hr0.1.symm.trans h
   exact ⟨e.symm,fun h=>(by cases h),fun _=>rfl⟩
 · have h:r0.1.2.1=true:=bU h
   have e:(ai d&&ax (a,fs,nx,()))=true:=hr0.1.symm.trans h
   exact ⟨e.symm,fun _=>⟨hr1,rfl,hr0.2 h⟩,fun h=>by cases h⟩
theorem Sj {a:List gW} {fs:List aN} {nx:Int} {d:List aC} {r out:List dL} (h:(ai d&&ax (a,fs,nx,()))=true) (ho:fM fs d [] (fun _=>true) out):dF (a,fs,nx,d,r,())=decide (out=r):=by
 have e:dF (a,fs,nx,d,r,())=((ai d&&ax (a,fs,nx,()))&&@decide (fM fs d [] (fun _=>true) r) (Classical.propDecidable _)):=rfl
 rw [e,h,Bool.true_and,Bool.eq_iff_iff,decide_eq_true_eq (p:=out=r)]
 rw [Bool.and_eq_true] at h
 exact (@decide_eq_true_iff _ (Classical.propDecidable _)).trans ⟨fun hr=>Oz (jX.1 h.1).1 ho hr,fun e=>e▸ho⟩
theorem ant {a:List gW} {fs:List aN} {nx:Int} {d:List aC} {r:List dL} (h:(ai d&&ax (a,fs,nx,()))=false):dF (a,fs,nx,d,r,())=false:=by
 have e:dF (a,fs,nx,d,r,())=((ai d&&ax (a,fs,nx,()))&&@decide (fM fs d [] (fun _=>true) r) (Classical.propDecidable _)):=rfl
 rw [e,h,Bool.false_and]
theorem qK:OK kJ.e:=by
 refine PA.ok mixed (au [xB.e,Ef.e] ⟨Un,acE,trivial⟩) H0 (by kernel_rfl) (show ∀ c0 c1 c2 c3 c4,kJ.goal (Z8 c0 c1 c2 c3 c4) ((c0,c1,c2,c3,c4,()),()) from ?_)
 intro a fs nx d r hin hp
 dsimp only [kJ] at hp ⊢
 obtain ⟨h1,h2,h3⟩:bn (a,fs,nx,())∧aA d∧bH r:=hp
 refine ⟨⟨h1,h2⟩,fun r0 hr0=>af (fun h=>⟨trivial,?_⟩) fun h=>?_⟩
 · rw [Sj (hr0.1.symm.trans h) (hr0.2 h)]
 · rw [ant (hr0.1.symm.trans h)]
theorem vG:OK lM.e:=by
 refine PA.ok mixed (au [xC.e,yL.e] ⟨Ur,Oy,trivial⟩) H0 (by kernel_rfl) (show ∀ l0 l1 l2 l3 l4,lM.goal (Z9 l0 l1 l2 l3 l4) ((l0,l1,l2,l3,l4,()),()) from ?_)
 intro a fs nx d r hin hp
 dsimp only [lM] at hp ⊢
 obtain ⟨h1,h2,h3⟩:bn (a,fs,nx,())∧aA d∧bH r:=hp
 refine ⟨⟨h1,h2⟩,fun r0 hr0=>af (fun h=>⟨trivial,?_⟩) fun h=>?_⟩
 · rw [Sj (hr0.1.symm.trans h) (hr0.2 h)]
 · rw [ant (hr0.1.symm.trans h)]
theorem anQ:OK Hf.e:=by
 refine PA.ok mixed (au [] trivial) acH (by kernel_rfl) (show ∀ f0 f1 f2 f3 f4,Hf.goal (aac f0 f1 f2 f3 f4) ((f0,f1,f2,f3,f4,()),()) from ?_)
 intro f0 f1 f2 f3 a hin hp
 dsimp only [Hf] at hp ⊢
 exact ajB (K:=fun r=>r=(fU a,())) (fun x:fD=>(x.1,())) ([],0,0,[],()) a _ (by have hp:a.length≤1000:=hp;omega) rfl
theorem Qx:OK uy.e:=by
 refine XA.ok mixed (au [] trivial) Sl (fun ⟨(_,_,_,_,a,_),_⟩ _=>⟨((fU a,()),()),rfl⟩) (by kernel_rfl) (show ∀ f0 f1 f2 f3 f4,uy.goal (Qy f0 f1 f2 f3 f4) ((f0,f1,f2,f3,f4,()),()) from ?_)
 intro f0 f1 f2 f3 a hin hp
 dsimp only [uy] at hp ⊢
 exact ajB (K:=fun r=>r.1=fU a) (fun x:fD=>(x.1,())) ([],0,0,[],()) a _ (by have hp:a.length≤1000:=hp;omega) rfl
theorem Qz:OK uz.e:=by
 refine XA.ok mixed (au [] trivial) Sm (fun ⟨(_,_,_,_,a,_),_⟩ _=>⟨((fU a,()),()),rfl⟩) (by kernel_rfl) (show ∀ f0 f1 f2 f3 f4,uz.goal (QB f0 f1 f2 f3 f4) ((f0,f1,f2,f3,f4,()),()) from ?_)
 intro f0 f1 f2 f3 a hin hp
 dsimp only [uz] at hp ⊢
 exact ajB (K:=fun r=>r.1=fU a) (fun x:fD=>(x.1,())) ([],0,0,[],()) a _ (by have hp:a.length≤1000:=hp;omega) rfl
theorem Yc {α:Type} (g:α→Sp.Bytes) (l:List α) (s:Sp.Bytes):(s,())∈l.map (fun x=>(g x,()))↔s∈l.map g:=by simp
theorem Es {α β:Type} (p:α→Bool) (g:α→β) (d:α) (l:List α) {n:Nat} (h:n<l.length) (s:β):s∈((l.take (n+1)).filter p).map g↔s∈((l.take n).filter p).map g∨(p (l.getD n d)=true∧s=g (l.getD n d)):=by
 rw [jE p d l h,List.map_append,List.mem_append]
 cases hp:p (l.getD n d)<;>simp
theorem Bo {α β:Type} (p:α→Bool) (g:α→β) (l:List α) (n:Nat):(((l.take n).filter p).map g).length≤n:=by
 have:=List.length_filter_le p (l.take n)
 rw [List.length_take] at this
 rw [List.length_map];omega
def jF (n:bK):Bool:=n.1==2||(n.1==3||n.1==4)
theorem yj (l:List Sp.Bytes) (h:l.length≤1000):dK (l.map fun s=>(s,())) l:=⟨by rw [List.length_map];exact h,fun s=>by simp⟩
theorem aa9 (q:List bK):(kS q).length≤q.length:=by
 unfold kS
 rw [List.length_map]
 exact List.length_filter_le _ _
theorem aeB (q:List bK):(nS q).length≤q.length:=by
 unfold nS
 rw [List.length_map]
 exact List.length_filter_le _ _
abbrev Dy:bK:=(0,0,0,[],0,0,[],())
theorem Yd:OK zY.e:=by
 refine XA.ok mixed (au [(mQ, .eff (Dt jr) kX)] ⟨⟨tC,rE⟩,trivial⟩) aad (fun ⟨q,_⟩ hp=>⟨((_,()),()),yj (kS q) (Nat.le_trans (aa9 q) hp)⟩) (by kernel_rfl) (show ∀ q,zY.goal (Ye q) (q,()) from ?_)
 intro q hin hp
 dsimp only [zY] at hp ⊢
 have hp:q.length≤1000:=hp
 refine dN (fun i (x:Sp.LS)=>(((),i,()),x,())) (fun y=>y.1.2.1) (fun _ _=>rfl) q.length (by omega) (fun n l=>l=((q.take n).filter jF).map fun n=>(n.2.2.2.1,())) rfl (fun I μ n l hn hJ next=>?_) fun I μ l hJ=>?_
 · subst hJ
   have hl:=Bo jF (fun n=>(n.2.2.2.1,())) q n
   have small:(((q.take n).filter jF).map fun n=>(n.2.2.2.1,())).length+1≤big:=by rw [bW];omega
   have yes:jF (q.getD n Dy)=true→((q.take n).filter jF).map (fun n=>(n.2.2.2.1,()))++[((q.getD n Dy).2.2.2.1,())]=((q.take (n+1)).filter jF).map fun n=>(n.2.2.2.1,()):=fun h=>by
    rw [jE jF Dy q hn,h,List.map_append];rfl
   dsimp only
   refine dH (by omega) ⟨⟨by omega,by omega⟩,af (fun h=>⟨small,rfl,next _ (yes ?_)⟩) fun h2=>af (fun h=>⟨small,rfl,next _ (yes ?_)⟩) fun h3=>af (fun h=>⟨small,rfl,next _ (yes ?_)⟩) fun h4=>⟨rfl,next _ ?_⟩⟩
   · have h:((q.getD n Dy).1==2)=true:=h
     unfold jF;rw [h];rfl
   · have h:((q.getD n Dy).1==3)=true:=h
     unfold jF;rw [h];simp
   · have h:((q.getD n Dy).1==4)=true:=h
     unfold jF;rw [h];simp
   · have h2:((q.getD n Dy).1==2)=false:=h2
     have h3:((q.getD n Dy).1==3)=false:=h3
     have h4:((q.getD n Dy).1==4)=false:=h4
     have:jF (q.getD n Dy)=false:=by unfold jF;rw [h2,h3,h4];rfl
     rw [jE jF Dy q hn,this,List.map_append];simp
 · subst hJ
   rw [List.take_length]
   have hl:((q.filter jF).map fun n=>(n.2.2.2.1,())).length≤q.length:=by rw [List.length_map];exact List.length_filter_le _ _
   dsimp only
   refine dI (by omega) ⟨by omega,fun r hr=>⟨by have:=hr.1;omega,fun s=>(hr.2 (s,())).trans ?_⟩⟩
   exact Yc (fun n:bK=>n.2.2.2.1) _ s
theorem aae:OK Ci.e:=by
 refine XA.ok mixed (au [(mQ, .eff (Dt jr) kX),yD.e] ⟨⟨tC,rE⟩,OA,trivial⟩) acI (fun ⟨q,_⟩ hp=>⟨((_,()),()),yj (nS q) (Nat.le_trans (aeB q) hp)⟩) (by kernel_rfl) (show ∀ q,Ci.goal (aaf q) (q,()) from ?_)
 intro q hin hp
 dsimp only [Ci] at hp ⊢
 have hp:q.length≤1000:=hp
 refine dN (fun i (x:Sp.LS)=>(((),i,()),x,())) (fun y=>y.1.2.1) (fun _ _=>rfl) q.length (by omega) (fun n l=>l=((q.take n).filter jA).map fun n=>(n.2.2.2.1,())) rfl (fun I μ n l hn hJ next=>?_) fun I μ l hJ=>?_
 · subst hJ
   have hl:=Bo jA (fun n=>(n.2.2.2.1,())) q n
   dsimp only
   refine dH (by omega) ⟨⟨by omega,by omega⟩,trivial,af (fun h=>⟨by rw [bW];simp only [List.length_cons,List.length_nil];omega,rfl,next _ ?_⟩) fun h=>⟨rfl,next _ ?_⟩⟩
   · have h:jA (q.getD n Dy)=true:=h
     rw [jE jA Dy q hn,h,List.map_append];rfl
   · have h:jA (q.getD n Dy)=false:=h
     rw [jE jA Dy q hn,h,List.map_append];simp
 · subst hJ
   rw [List.take_length]
   have hl:((q.filter jA).map fun n=>(n.2.2.2.1,())).length≤q.length:=by rw [List.length_map];exact List.length_filter_le _ _
   dsimp only
   refine dI (by omega) ⟨by omega,fun r hr=>⟨by have:=hr.1;omega,fun s=>(hr.2 (s,())).trans ?_⟩⟩
   exact Yc (fun n:bK=>n.2.2.2.1) _ s
theorem apw (n:bK):(decide (2≤n.1)&&decide (n.1≤4))=jF n:=by
 rw [Bool.eq_iff_iff]
 unfold jF
 simp only [Bool.and_eq_true,Bool.or_eq_true,decide_eq_true_eq,beq_iff_eq]
 omega
theorem aqa (n:bK):(decide (8≤n.1)&&decide (n.1≤9))=jA n:=by
 rw [Bool.eq_iff_iff]
 unfold jA
 simp only [Bool.and_eq_true,Bool.or_eq_true,decide_eq_true_eq,beq_iff_eq]
 omega
theorem Yf:OK zZ.e:=by
 refine XA.ok mixed (au [qL.e,iL.e] ⟨Bq,jq,trivial⟩) aag (fun ⟨q,_⟩ hp=>⟨((_,()),()),yj (kS q) (Nat.le_trans (aa9 q) hp)⟩) (by kernel_rfl) (show ∀ q,zZ.goal (Yg q) (q,()) from ?_)
 intro q hin hp
 dsimp only [zZ] at hp ⊢
 have hp:q.length≤1000:=hp
 refine dN (fun i (x:Sp.LS)=>((x,i,()),())) (fun y=>y.1.2.1) (fun _ _=>rfl) q.length (by omega) (fun n l=>l.length≤n∧∀ s,(s,())∈l↔s∈((q.take n).filter jF).map fun n=>n.2.2.2.1) ⟨Nat.le_refl _,fun s=>by simp⟩ (fun I μ n l hn hJ next=>?_) fun I μ l hJ=>?_
 · obtain ⟨hl,hJ⟩:=hJ
   dsimp only
   rw [Int.toNat_natCast,apw]
   refine dH (by omega) ⟨⟨by omega,by omega⟩,trivial,af (fun h=>⟨⟨by omega,by omega⟩,by omega,rfl,next _ ⟨Nat.le_trans (Uu _ _) (by omega),fun s=>?_⟩⟩) fun h=>⟨rfl,next _ ⟨by omega,fun s=>?_⟩⟩⟩
   · have h:jF (q.getD n Dy)=true:=h
     rw [uQ,hJ,Es jF _ Dy q hn,Prod.mk.injEq]
     exact ⟨fun g=>g.elim (fun g=> .inr ⟨h,g.1⟩) .inl,fun g=>g.elim .inr fun g=> .inl ⟨g.2,rfl⟩⟩
   · have h:jF (q.getD n Dy)=false:=h
     rw [hJ,Es jF _ Dy q hn,h];simp
 · obtain ⟨hl,hJ⟩:=hJ
   rw [List.take_length] at hJ
   dsimp only
   exact dI (by omega) ⟨by rw [bW];omega,by show l.length≤1000;omega,hJ⟩
theorem aah:OK Cj.e:=by
 refine XA.ok mixed (au [qL.e,iL.e] ⟨Bq,jq,trivial⟩) acJ (fun ⟨q,_⟩ hp=>⟨((_,()),()),yj (nS q) (Nat.le_trans (aeB q) hp)⟩) (by kernel_rfl) (show ∀ q,Cj.goal (aai q) (q,()) from ?_)
 intro q hin hp
 dsimp only [Cj] at hp ⊢
 have hp:q.length≤1000:=hp
 refine dN (fun i (x:Sp.LS)=>((x,i,()),())) (fun y=>y.1.2.1) (fun _ _=>rfl) q.length (by omega) (fun n l=>l.length≤n∧∀ s,(s,())∈l↔s∈((q.take n).filter jA).map fun n=>n.2.2.2.1) ⟨Nat.le_refl _,fun s=>by simp⟩ (fun I μ n l hn hJ next=>?_) fun I μ l hJ=>?_
 · obtain ⟨hl,hJ⟩:=hJ
   dsimp only
   rw [Int.toNat_natCast,aqa]
   refine dH (by omega) ⟨⟨by omega,by omega⟩,trivial,af (fun h=>⟨⟨by omega,by omega⟩,by omega,rfl,next _ ⟨Nat.le_trans (Uu _ _) (by omega),fun s=>?_⟩⟩) fun h=>⟨rfl,next _ ⟨by omega,fun s=>?_⟩⟩⟩
   · have h:jA (q.getD n Dy)=true:=h
     rw [uQ,hJ,Es jA _ Dy q hn,Prod.mk.injEq]
     exact ⟨fun g=>g.elim (fun g=> .inr ⟨h,g.1⟩) .inl,fun g=>g.elim .inr fun g=> .inl ⟨g.2,rfl⟩⟩
   · have h:jA (q.getD n Dy)=false:=h
     rw [hJ,Es jA _ Dy q hn,h];simp
 · obtain ⟨hl,hJ⟩:=hJ
   rw [List.take_length] at hJ
   dsimp only
   exact dI (by omega) ⟨by rw [bW];omega,by show l.length≤1000;omega,hJ⟩
def uS (a b:List fD) (x:Sp.Bytes×Unit):Bool:=!decide (dB a x.1=dB b x.1)
theorem abb (f0 f1:Int) (f2:Bool) (f3:Int) (a:List fD) (g0 g1:Int) (g2:Bool) (g3:Int) (b:List fD) (s:Sp.Bytes):
 (s,())∈(fU a++fU b).filter (uS a b)↔s∈jc (f0,f1,f2,f3,a,()) (g0,g1,g2,g3,b,()):=by
 unfold jc fU
 rw [List.mem_filter,List.mem_filter,← List.map_append,Yc]
 exact Iff.rfl
theorem Yh (f g:aN):(jc f g).length≤f.2.2.2.2.1.length+g.2.2.2.2.1.length:=by
 unfold jc
 refine Nat.le_trans (List.length_filter_le _ _) ?_
 rw [List.length_map,List.length_append];exact Nat.le_refl _
theorem Uw:OK xE.e:=by
 refine XA.ok mixed (au [(mQ, .eff (Dt jr) kX),rQ.e,uy.e] ⟨⟨tC,rE⟩,Jg,Qx,trivial⟩) VO (fun ⟨f,g,_⟩ hp=>⟨((_,()),()),yj (jc f g) (Nat.le_trans (Yh f g) hp.2.2)⟩) (by kernel_rfl) (show ∀ a0 a1 a2 a3 a4 b0 b1 b2 b3 b4,xE.goal (Ux a0 a1 a2 a3 a4 b0 b1 b2 b3 b4) ((a0,a1,a2,a3,a4,()),(b0,b1,b2,b3,b4,()),()) from ?_)
 intro a0 a1 a2 a3 a b0 b1 b2 b3 b hin hp
 dsimp only [xE] at hp ⊢
 obtain ⟨ha,hb,hab⟩:a.length≤1000∧b.length≤1000∧a.length+b.length≤1000:=hp
 refine ⟨ha,?_⟩
 rintro ⟨⟨r0,⟨⟩⟩,⟨⟩⟩ e0
 have e0:r0=fU a:=e0
 refine ⟨hb,?_⟩
 rintro ⟨⟨r1,⟨⟩⟩,⟨⟩⟩ e1
 have e1:r1=fU b:=e1
 subst e0 e1
 have hL:(fU a++fU b).length=a.length+b.length:=by rw [List.length_append];unfold fU;rw [List.length_map,List.length_map]
 refine ⟨by rw [bW];rw [List.length_append] at hL;dsimp only;omega,?_⟩
 dsimp only
 generalize hLL:fU a++fU b=L at hL
 refine dN (fun i (x:Sp.LS)=>(((),i,()),x,())) (fun y=>y.1.2.1) (fun _ _=>rfl) L.length (by omega) (fun n l=>l=(L.take n).filter (uS a b)) rfl (fun I μ n l hn hJ next=>?_) fun I μ l hJ=>?_
 · subst hJ
   have hl:((L.take n).filter (uS a b)).length≤n:=by
    have:=List.length_filter_le (uS a b) (L.take n)
    rw [List.length_take] at this;omega
   have step:=jE (uS a b) ([],()) L hn
   dsimp only
   rw [eq3,Int.toNat_natCast]
   refine dH (by omega) ⟨⟨by omega,by omega⟩,by omega,trivial,trivial,af (fun h=>⟨by rw [bW];simp only [List.length_cons,List.length_nil];omega,rfl,next _ ?_⟩) fun h=>⟨rfl,next _ ?_⟩⟩
   · have h:uS a b (L.getD n ([],()))=true:=h
     rw [step,h];rfl
   · have h:uS a b (L.getD n ([],()))=false:=h
     rw [step,h];simp
 · subst hJ
   rw [List.take_length]
   have hl:=List.length_filter_le (uS a b) L
   dsimp only
   refine dI (by omega) ⟨by omega,fun r hr=>⟨by have:=hr.1;omega,fun s=>(hr.2 (s,())).trans ?_⟩⟩
   rw [← hLL]
   exact abb _ _ _ _ a _ _ _ _ b s
theorem Uy:OK xG.e:=by
 refine XA.ok mixed (au [qL.e,wE.e,uz.e] ⟨Bq,P7,Qz,trivial⟩) VP (fun ⟨f,g,_⟩ hp=>⟨((_,()),()),yj (jc f g) (Nat.le_trans (Yh f g) hp.2.2)⟩) (by kernel_rfl) (show ∀ a0 a1 a2 a3 a4 b0 b1 b2 b3 b4,xG.goal (Uz a0 a1 a2 a3 a4 b0 b1 b2 b3 b4) ((a0,a1,a2,a3,a4,()),(b0,b1,b2,b3,b4,()),()) from ?_)
 intro a0 a1 a2 a3 a b0 b1 b2 b3 b hin hp
 dsimp only [xG] at hp ⊢
 obtain ⟨ha,hb,hab⟩:a.length≤1000∧b.length≤1000∧a.length+b.length≤1000:=hp
 refine ⟨ha,?_⟩
 rintro ⟨⟨r0,⟨⟩⟩,⟨⟩⟩ e0
 have e0:r0=fU a:=e0
 refine ⟨hb,?_⟩
 rintro ⟨⟨r1,⟨⟩⟩,⟨⟩⟩ e1
 have e1:r1=fU b:=e1
 subst e0 e1
 have hL:(fU a++fU b).length=a.length+b.length:=by rw [List.length_append];unfold fU;rw [List.length_map,List.length_map]
 refine ⟨by rw [bW];rw [List.length_append] at hL;dsimp only;omega,?_⟩
 dsimp only
 generalize hLL:fU a++fU b=L at hL
 refine dN (fun i (x:Sp.LS)=>((x,i,()),())) (fun y=>y.1.2.1) (fun _ _=>rfl) L.length (by omega) (fun n l=>l.length≤n∧∀ s,(s,())∈l↔(s,())∈(L.take n).filter (uS a b)) ⟨Nat.le_refl _,fun s=>by simp⟩ (fun I μ n l hn hJ next=>?_) fun I μ l hJ=>?_
 · obtain ⟨hl,hJ⟩:=hJ
   have step:=jE (uS a b) ([],()) L hn
   dsimp only
   rw [eq3,Int.toNat_natCast]
   refine dH (by omega) ⟨⟨by omega,by omega⟩,by omega,trivial,⟨by omega,by omega⟩,by omega,trivial,af (fun h=>⟨⟨by omega,by omega⟩,by omega,by omega,rfl,next _ ⟨Nat.le_trans (Uu _ _) (by omega),fun s=>?_⟩⟩) fun h=>⟨rfl,next _ ⟨by omega,fun s=>?_⟩⟩⟩
   · have h:uS a b (L.getD n ([],()))=true:=h
     rw [uQ,step,h,List.mem_append,hJ]
     show _↔_∨(s,())∈[L.getD n ([],())]
     rw [List.mem_singleton]
     exact Or.comm
   · have h:uS a b (L.getD n ([],()))=false:=h
     rw [step,h,hJ];simp
 · obtain ⟨hl,hJ⟩:=hJ
   rw [List.take_length] at hJ
   dsimp only
   refine dI (by omega) ⟨by rw [bW];omega,by show l.length≤1000;omega,fun s=>(hJ s).trans ?_⟩
   rw [← hLL]
   exact abb _ _ _ _ a _ _ _ _ b s
end Go.Proofs.Tryz
