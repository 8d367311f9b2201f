import Derived.Test.YtlbkigkbmeckbaaGreatP16
namespace Go.Proofs.Tryz
open Go Go.Fw Go.IntWalk
theorem Ou:ai prog G xA.e:=by
 refine afT (aj ah trivial) ?_
 intro f0 f1 f2 f3 f4 id hin hp
 dsimp only [xA] at hp ⊢
 exact rfl
theorem BD:ai prog G gB.e:=by
 refine BF (aj ah ⟨Ou,trivial⟩) ?_
 intro s1 id hin hp
 dsimp only [gB] at hp ⊢
 have hlen:s1.length≤maxLen:=hin.1.1
 rw [maxLen_eq] at hlen
 refine jd s1.length hlen (fun n=>∀ i,i<n→(Sp.fileAt s1 i).1≠id) (fun i hi=>by omega) (fun I μ n hn hJ next=>?_) fun I μ hJ=>?_
 · dsimp only
   refine dh (by omega) ⟨⟨by omega,by omega⟩,trivial,af (fun h=>?_) fun h=>⟨rfl,next fun i hi=>?_⟩⟩
   · have h:(Sp.fileAt s1 n).1=id:=gG h
     exact congrArg (·,()) (Sp.JE hn hJ h).symm
   · rcases Nat.lt_or_ge i n with h'|h'
     · exact hJ i h'
     · have:i=n:=by omega
       subst this
       have h:¬ (Sp.fileAt s1 i).1=id:=iw h
       exact h
 · dsimp only
   exact dm (by omega) (congrArg (·,()) (Sp.U5 hJ).symm)
theorem TN:ai prog G Aa.e:=by
 refine alC (aj ah ⟨BD,Ou,trivial⟩) ?_
 intro s0 s1 s2 id hin hp
 dsimp only [Aa] at hp ⊢
 exact ⟨trivial,rfl⟩
theorem GX:ai prog G tu.e:=by
 refine afU (aj ah ⟨GR,TN,trivial⟩) ?_
 intro s0 s1 s2 id hin hp
 dsimp only [tu] at hp ⊢
 obtain ⟨h0,h1,h2⟩:s0.length≤1000∧s1.length≤1000∧∀ f∈s1,Sp.bW f:=hp
 refine ⟨trivial,?_⟩
 rcases Sp.kP s1 id with ⟨h,_⟩|⟨n,hn,h,_,_⟩
 · have e:Sp.au (s0,s1,s2,()) id=(Sp.Ov,false):=by
    show (bif decide (Sp.place s1 id<0) then _ else _)=_
    rw [h];rfl
   refine dm (by omega) ?_
   show _=((Sp.au (s0,s1,s2,()) id).1,(Sp.au (s0,s1,s2,()) id).2,())
   rw [e];rfl
 · have e:Sp.au (s0,s1,s2,()) id=(Sp.fileAt s1 n,true):=by
    show (bif decide (Sp.place s1 id<0) then _ else (Sp.fileAt s1 (Sp.place s1 id).toNat,true))=_
    rw [h,decide_eq_false (by omega)];rfl
   refine dh (by omega) ⟨⟨by omega,by omega⟩,?_,?_⟩
   · rw [h,Int.toNat_natCast]
     exact h2 _ (getD_mem (d:=((0:Int),(0:Int),false,(0:Int),[],())) hn)
   · show _=((Sp.au (s0,s1,s2,()) id).1,(Sp.au (s0,s1,s2,()) id).2,())
     rw [e,h];rfl
theorem DR:ai prog G pK.e:=by
 refine afV (aj ah ⟨EH,GU,trivial⟩) ?_
 intro s0 s1 s2 id hin hp
 dsimp only [pK] at hp ⊢
 obtain ⟨h0,h1,h2⟩:s0.length≤1000∧s1.length≤1000∧∀ f∈s1,Sp.bW f:=hp
 refine ⟨trivial,?_⟩
 rcases Sp.kP s1 id with ⟨h,_⟩|⟨n,hn,h,_,_⟩
 · have e:Sp.au (s0,s1,s2,()) id=(Sp.Ov,false):=by
    show (bif decide (Sp.place s1 id<0) then _ else _)=_
    rw [h];rfl
   refine dh (by omega) ?_
   show _=((Sp.au (s0,s1,s2,()) id).1,(Sp.au (s0,s1,s2,()) id).2,())
   rw [e];rfl
 · have e:Sp.au (s0,s1,s2,()) id=(Sp.fileAt s1 n,true):=by
    show (bif decide (Sp.place s1 id<0) then _ else (Sp.fileAt s1 (Sp.place s1 id).toNat,true))=_
    rw [h,decide_eq_false (by omega)];rfl
   refine dm (by omega) ⟨⟨by omega,by omega⟩,?_,?_⟩
   · rw [h,Int.toNat_natCast]
     exact h2 _ (getD_mem (d:=((0:Int),(0:Int),false,(0:Int),[],())) hn)
   · show _=((Sp.au (s0,s1,s2,()) id).1,(Sp.au (s0,s1,s2,()) id).2,())
     rw [e,h];rfl
theorem XO:ai prog G nI.e:=by
 refine XP (aj ah ⟨GR,Jl,IL,TN,FO,trivial⟩) (fun ⟨s,f,_⟩ _=>⟨((((Sp.aP s f).1.1,(Sp.aP s f).1.2.1,(Sp.aP s f).1.2.2.1,()),(Sp.aP s f).2,()),()),⟨rfl,rfl,rfl,rfl⟩⟩) ?_
 intro s0 s1 s2 f0 f1 f2 f3 f4 hin hp
 dsimp only [nI] at hp ⊢
 refine ⟨hp.1,?_⟩
 rintro ⟨⟨⟨a,l,nx,⟨⟩⟩,⟨⟩⟩,⟨⟩⟩ e
 obtain ⟨rfl,rfl,rfl⟩:a=s0∧l=s1∧nx=s2:=by simpa using e
 have hs:l.length≤1000:=hp.1.2.1
 have no:¬ (Sp.aH (a,l,nx,())=true∧0≤Sp.place l f0∧Sp.cO a (f0,f1,f2,f3,f4,())=true)→Sp.aP (a,l,nx,()) (f0,f1,f2,f3,f4,())=((a,l,nx,()),false):=fun h=>by
  rcases Sp.jC (a,l,nx,()) (f0,f1,f2,f3,f4,()) with ⟨e,_⟩|⟨n,hn,h1,h2,h3,_⟩
  · exact e
  · exact (h ⟨h2,by have h1:Sp.place l f0=n:=h1;omega,h3⟩).elim
 refine ⟨trivial,trivial,af (fun h1=>?_) fun h1=>af (fun h2=>?_) fun h2=>⟨trivial,af (fun h3=>?_) fun h3=>?_⟩⟩
 · have:=no fun h=>by have h1:=fO h1;have:=h.1;rw [show Sp.aH (a,l,nx,())=false from h1] at this;cases this
   dsimp only
   rw [this];exact ⟨rfl,rfl,rfl,rfl⟩
 · have:=no fun h=>by have h2:Sp.place l f0<0:=gG h2;omega
   dsimp only
   rw [this];exact ⟨rfl,rfl,rfl,rfl⟩
 · have:=no fun h=>by have h3:=fO h3;have:=h.2.2;rw [show Sp.cO a (f0,f1,f2,f3,f4,())=false from h3] at this;cases this
   dsimp only
   rw [this];exact ⟨rfl,rfl,rfl,rfl⟩
 · have g1:Sp.aH (a,l,nx,())=true:=dI h1
   have g2:0≤Sp.place l f0:=by have h2:¬ Sp.place l f0<0:=iw h2;omega
   have g3:Sp.cO a (f0,f1,f2,f3,f4,())=true:=dI h3
   rcases Sp.jC (a,l,nx,()) (f0,f1,f2,f3,f4,()) with ⟨_,e⟩|⟨n,hn,hpl,_,_,e⟩
   · exact (e ⟨g1,g2,g3⟩).elim
   · have hn:n<l.length:=hn
     have hpl:Sp.place l f0=n:=hpl
     dsimp only
     rw [hpl,e]
     exact ⟨hp.2,⟨by omega,by omega⟩,hn,rfl,rfl,rfl,rfl⟩
theorem XQ:ai prog G nJ.e:=by
 refine XR (aj ah ⟨EH,EC,tX,GU,AL,trivial⟩) (fun ⟨s,f,_⟩ _=>⟨((((Sp.aP s f).1.1,(Sp.aP s f).1.2.1,(Sp.aP s f).1.2.2.1,()),(Sp.aP s f).2,()),()),⟨rfl,rfl,rfl,rfl⟩⟩) ?_
 intro s0 s1 s2 f0 f1 f2 f3 f4 hin hp
 dsimp only [nJ] at hp ⊢
 refine ⟨hp.1,?_⟩
 rintro ⟨⟨⟨a,l,nx,⟨⟩⟩,⟨⟩⟩,⟨⟩⟩ e
 obtain ⟨rfl,rfl,rfl⟩:a=s0∧l=s1∧nx=s2:=by simpa using e
 have hs:l.length≤1000:=hp.1.2.1
 have no:¬ (Sp.aH (a,l,nx,())=true∧0≤Sp.place l f0∧Sp.cO a (f0,f1,f2,f3,f4,())=true)→Sp.aP (a,l,nx,()) (f0,f1,f2,f3,f4,())=((a,l,nx,()),false):=fun h=>by
  rcases Sp.jC (a,l,nx,()) (f0,f1,f2,f3,f4,()) with ⟨e,_⟩|⟨n,hn,h1,h2,h3,_⟩
  · exact e
  · exact (h ⟨h2,by have h1:Sp.place l f0=n:=h1;omega,h3⟩).elim
 refine ⟨trivial,trivial,af (fun h1=>?_) fun h1=>af (fun h2=>?_) fun h2=>⟨trivial,af (fun h3=>?_) fun h3=>?_⟩⟩
 · have:=no fun h=>by have h1:=fO h1;have:=h.1;rw [show Sp.aH (a,l,nx,())=false from h1] at this;cases this
   dsimp only
   rw [this];exact ⟨rfl,rfl,rfl,rfl⟩
 · have:=no fun h=>by have h2:Sp.place l f0<0:=gG h2;omega
   dsimp only
   rw [this];exact ⟨rfl,rfl,rfl,rfl⟩
 · have:=no fun h=>by have h3:=fO h3;have:=h.2.2;rw [show Sp.cO a (f0,f1,f2,f3,f4,())=false from h3] at this;cases this
   dsimp only
   rw [this];exact ⟨rfl,rfl,rfl,rfl⟩
 · have g1:Sp.aH (a,l,nx,())=true:=dI h1
   have g2:0≤Sp.place l f0:=by have h2:¬ Sp.place l f0<0:=iw h2;omega
   have g3:Sp.cO a (f0,f1,f2,f3,f4,())=true:=dI h3
   rcases Sp.jC (a,l,nx,()) (f0,f1,f2,f3,f4,()) with ⟨_,e⟩|⟨n,hn,hpl,_,_,e⟩
   · exact (e ⟨g1,g2,g3⟩).elim
   · have hn:n<l.length:=hn
     have hpl:Sp.place l f0=n:=hpl
     dsimp only
     rw [hpl,e]
     exact ⟨hp.2,⟨by omega,by omega⟩,hn,rfl,rfl,rfl,rfl⟩
theorem Vm {d:List Sp.aT} {i:Nat} (hi:i<d.length):Sp.dQ (Sp.iY d) (Sp.nameOf d i)=true:=by
 rw [Sp.gW]
 unfold Sp.iY
 rw [List.mem_map]
 exact ⟨Sp.dX d i,getD_mem hi,rfl⟩
theorem MZ:Sp.bH []:=⟨by decide,fun x hx=>by cases hx⟩
theorem atA {fs:List Sp.aK} {d:List Sp.aT} {out:List Sp.dN} (h:Sp.iD fs d [] (Sp.dQ (Sp.iY d)) out):Sp.iD fs d [] (fun _=>true) out:=
 Sp.QO h (fun i hi=>Vm hi) fun i hi hn=>absurd ((Vm hi).symm.trans hn) (by decide)
theorem afW:ai prog G tq.e:=by
 refine afX (aj ah ⟨LK,Oq,trivial⟩) (fun ⟨(a,fs,nx,_),d,_⟩ _=>by obtain ⟨out,h⟩:=BB (fs:=fs) (a:=a) (nx:=nx) (d:=d) [] (fun _=>true);exact ⟨(((out,(Sp.aF d&&Sp.aH (a,fs,nx,())),()),())),⟨rfl,h⟩⟩) ?_
 intro a fs nx d hin hp
 dsimp only [tq] at hp ⊢
 refine ⟨hp.2.1,⟨hp.1,hp.2,MZ⟩,fun r hr=>⟨hr.1,fun h=>atA (hr.2 h)⟩⟩
theorem aax:ai prog G oN.e:=by
 refine aay (aj ah ⟨LK,trivial⟩) (fun ⟨(a,fs,nx,_),d,r,names,_⟩ _=>by obtain ⟨out,h⟩:=BB (fs:=fs) (a:=a) (nx:=nx) (d:=d) r (Sp.dQ names);exact ⟨(((out,(Sp.aF d&&Sp.aH (a,fs,nx,())),()),())),⟨rfl,h⟩⟩) ?_
 intro a fs nx d r names hin hp
 dsimp only [oN] at hp ⊢
 exact ⟨hp,fun r hr=>hr⟩
theorem Ox:ai prog G pJ.e:=by
 refine afY (aj ah ⟨alA,trivial⟩) (fun ⟨(a,fs,nx,_),d,_⟩ _=>by obtain ⟨out,h⟩:=BB (fs:=fs) (a:=a) (nx:=nx) (d:=d) [] (fun _=>true);exact ⟨(((out,(Sp.aF d&&Sp.aH (a,fs,nx,())),()),())),⟨rfl,h⟩⟩) ?_
 intro a fs nx d hin hp
 dsimp only [pJ] at hp ⊢
 exact ⟨hp,fun r hr=>hr⟩
theorem asn (a:List Sp.gU) (fs:List Sp.aK) (nx:Int) (d:List Sp.aT):∃ t:((List Sp.gU×List Sp.aK×Int×List Sp.aT×List Sp.dN×Unit)×Bool×Unit)×Unit,
 t.1.2.1=(Sp.aF d&&Sp.aH (a,fs,nx,()))∧(t.1.2.1=true→(t.1.1.1,t.1.1.2.1,t.1.1.2.2.1,())=(a,fs,nx,())∧t.1.1.2.2.2.1=d∧Sp.iD fs d [] (fun _=>true) t.1.1.2.2.2.2.1)∧(t.1.2.1=false→(t.1.1.1,t.1.1.2.1,t.1.1.2.2.1,t.1.1.2.2.2.1,t.1.1.2.2.2.2.1,())=([],[],0,[],[],())):=by
 obtain ⟨out,h⟩:=BB (fs:=fs) (a:=a) (nx:=nx) (d:=d) [] (fun _=>true)
 cases hk:(Sp.aF d&&Sp.aH (a,fs,nx,())) with
 |true=>exact ⟨(((a,fs,nx,d,out,()),true,()),()),⟨rfl,fun _=>⟨rfl,rfl,h hk⟩,fun h=>(by cases h)⟩⟩
 |false=>exact ⟨((([],[],0,[],[],()),false,()),()),⟨rfl,fun h=>(by cases h),fun _=>rfl⟩⟩
theorem KI:ai prog G lS.e:=by
 refine aaz (aj ah ⟨Qc,AL,Ox,trivial⟩) (fun ⟨(a,fs,nx,_),d,_⟩ _=>asn a fs nx d) ?_
 intro a fs nx d hin hp
 dsimp only [lS] at hp ⊢
 refine ⟨hp,fun r0 hr0=>af (fun h=>?_) fun h=>⟨hp.1,fun r1 hr1=>⟨hp.2,?_⟩⟩⟩
 · have h:r0.1.2.1=false:=fO h
   have e:(Sp.aF d&&Sp.aH (a,fs,nx,()))=false:=hr0.1.symm.trans h
   exact ⟨e.symm,fun h=>(by cases h),fun _=>rfl⟩
 · have h:r0.1.2.1=true:=dI h
   have e:(Sp.aF d&&Sp.aH (a,fs,nx,()))=true:=hr0.1.symm.trans h
   exact ⟨e.symm,fun _=>⟨hr1,rfl,hr0.2 h⟩,fun h=>by cases h⟩
theorem aiG {a:List Sp.gU} {fs:List Sp.aK} {nx:Int} {d:List Sp.aT} {r out:List Sp.dN} (h:(Sp.aF d&&Sp.aH (a,fs,nx,()))=true) (ho:Sp.iD fs d [] (fun _=>true) out):Sp.iH (a,fs,nx,d,r,())=decide (out=r):=by
 have e:Sp.iH (a,fs,nx,d,r,())=((Sp.aF d&&Sp.aH (a,fs,nx,()))&&@decide (Sp.iD fs d [] (fun _=>true) r) (Classical.propDecidable _)):=rfl
 rw [e,h,Bool.true_and,Bool.eq_iff_iff,decide_eq_true_eq (p:=out=r)]
 rw [Bool.and_eq_true] at h
 exact (@decide_eq_true_iff _ (Classical.propDecidable _)).trans ⟨fun hr=>Sp.aaA (Sp.oH.1 h.1).1 ho hr,fun e=>e▸ho⟩
theorem atB {a:List Sp.gU} {fs:List Sp.aK} {nx:Int} {d:List Sp.aT} {r:List Sp.dN} (h:(Sp.aF d&&Sp.aH (a,fs,nx,()))=false):Sp.iH (a,fs,nx,d,r,())=false:=by
 have e:Sp.iH (a,fs,nx,d,r,())=((Sp.aF d&&Sp.aH (a,fs,nx,()))&&@decide (Sp.iD fs d [] (fun _=>true) r) (Classical.propDecidable _)):=rfl
 rw [e,h,Bool.false_and]
theorem LM:ai prog G vz.e:=by
 refine ac9 (aj ah ⟨Vh,afW,trivial⟩) ?_
 intro a fs nx d r hin hp
 dsimp only [vz] at hp ⊢
 obtain ⟨h1,h2,h3⟩:Sp.bG (a,fs,nx,())∧Sp.aV d∧Sp.bH r:=hp
 refine ⟨⟨h1,h2⟩,fun r0 hr0=>af (fun h=>⟨trivial,?_⟩) fun h=>?_⟩
 · rw [aiG (hr0.1.symm.trans h) (hr0.2 h)]
 · rw [atB (hr0.1.symm.trans h)]
theorem LQ:ai prog G vC.e:=by
 refine ada (aj ah ⟨Vk,Ox,trivial⟩) ?_
 intro a fs nx d r hin hp
 dsimp only [vC] at hp ⊢
 obtain ⟨h1,h2,h3⟩:Sp.bG (a,fs,nx,())∧Sp.aV d∧Sp.bH r:=hp
 refine ⟨⟨h1,h2⟩,fun r0 hr0=>af (fun h=>⟨trivial,?_⟩) fun h=>?_⟩
 · rw [aiG (hr0.1.symm.trans h) (hr0.2 h)]
 · rw [atB (hr0.1.symm.trans h)]
theorem atV:ai prog G Dx.e:=by
 refine adb (aj ah trivial) ?_
 intro f0 f1 f2 f3 a hin hp
 dsimp only [Dx] at hp ⊢
 exact apI (K:=fun r=>r=(Sp.fQ a,())) (fun x:Sp.dR=>(x.1,())) ([],0,0,[],()) a _ (by have hp:a.length≤1000:=hp;omega) rfl
theorem QS:ai prog G kC.e:=by
 refine QT (aj ah trivial) (fun ⟨(_,_,_,_,a,_),_⟩ _=>⟨((Sp.fQ a,()),()),rfl⟩) ?_
 intro f0 f1 f2 f3 a hin hp
 dsimp only [kC] at hp ⊢
 exact apI (K:=fun r=>r.1=Sp.fQ a) (fun x:Sp.dR=>(x.1,())) ([],0,0,[],()) a _ (by have hp:a.length≤1000:=hp;omega) rfl
theorem QU:ai prog G kD.e:=by
 refine QV (aj ah trivial) (fun ⟨(_,_,_,_,a,_),_⟩ _=>⟨((Sp.fQ a,()),()),rfl⟩) ?_
 intro f0 f1 f2 f3 a hin hp
 dsimp only [kD] at hp ⊢
 exact apI (K:=fun r=>r.1=Sp.fQ a) (fun x:Sp.dR=>(x.1,())) ([],0,0,[],()) a _ (by have hp:a.length≤1000:=hp;omega) rfl
theorem aaB {α:Type} (g:α→Sp.Bytes) (l:List α) (s:Sp.Bytes):(s,())∈l.map (fun x=>(g x,()))↔s∈l.map g:=by simp
theorem EJ {α β:Type} (p:α→Bool) (g:α→β) (d:α) (l:List α) {n:Nat} (h:n<l.length) (s:β):s∈((l.take (n+1)).filter p).map g↔s∈((l.take n).filter p).map g∨(p (l.getD n d)=true∧s=g (l.getD n d)):=by
 rw [jO p d l h,List.map_append,List.mem_append]
 cases hp:p (l.getD n d)<;>simp
theorem CY {α β:Type} (p:α→Bool) (g:α→β) (l:List α) (n:Nat):(((l.take n).filter p).map g).length≤n:=by
 have:=List.length_filter_le p (l.take n)
 rw [List.length_take] at this
 rw [List.length_map];omega
def jP (n:Sp.bJ):Bool:=n.1==2||(n.1==3||n.1==4)
theorem Ae (l:List Sp.Bytes) (h:l.length≤1000):Sp.dB (l.map fun s=>(s,())) l:=⟨by rw [List.length_map];exact h,fun s=>by simp⟩
theorem aeu (q:List Sp.bJ):(Sp.lI q).length≤q.length:=by
 unfold Sp.lI
 rw [List.length_map]
 exact List.length_filter_le _ _
theorem aiH (q:List Sp.bJ):(Sp.rQ q).length≤q.length:=by
 unfold Sp.rQ
 rw [List.length_map]
 exact List.length_filter_le _ _
abbrev D9:Sp.bJ:=(0,0,0,[],0,0,[],())
theorem aaC:ai prog G oP.e:=by
 refine aaD (aj ah ⟨⟨wO,uS⟩,trivial⟩) (fun ⟨q,_⟩ hp=>⟨((_,()),()),Ae (Sp.lI q) (Nat.le_trans (aeu q) hp)⟩) ?_
 intro q hin hp
 dsimp only [oP] at hp ⊢
 have hp:q.length≤1000:=hp
 refine dM (fun i (x:Sp.LS)=>(((),i,()),x,())) (fun y=>y.1.2.1) (fun _ _=>rfl) q.length (by omega) (fun n l=>l=((q.take n).filter jP).map fun n=>(n.2.2.2.1,())) rfl (fun I μ n l hn hJ next=>?_) fun I μ l hJ=>?_
 · subst hJ
   have hl:=CY jP (fun n=>(n.2.2.2.1,())) q n
   have small:(((q.take n).filter jP).map fun n=>(n.2.2.2.1,())).length+1≤big:=by rw [bU];omega
   have yes:jP (q.getD n D9)=true→((q.take n).filter jP).map (fun n=>(n.2.2.2.1,()))++[((q.getD n D9).2.2.2.1,())]=((q.take (n+1)).filter jP).map fun n=>(n.2.2.2.1,()):=fun h=>by
    rw [jO jP D9 q hn,h,List.map_append];rfl
   dsimp only
   refine dh (by omega) ⟨⟨by omega,by omega⟩,af (fun h=>⟨small,rfl,next _ (yes ?_)⟩) fun h2=>af (fun h=>⟨small,rfl,next _ (yes ?_)⟩) fun h3=>af (fun h=>⟨small,rfl,next _ (yes ?_)⟩) fun h4=>⟨rfl,next _ ?_⟩⟩
   · have h:((q.getD n D9).1==2)=true:=h
     unfold jP;rw [h];rfl
   · have h:((q.getD n D9).1==3)=true:=h
     unfold jP;rw [h];simp
   · have h:((q.getD n D9).1==4)=true:=h
     unfold jP;rw [h];simp
   · have h2:((q.getD n D9).1==2)=false:=h2
     have h3:((q.getD n D9).1==3)=false:=h3
     have h4:((q.getD n D9).1==4)=false:=h4
     have:jP (q.getD n D9)=false:=by unfold jP;rw [h2,h3,h4];rfl
     rw [jO jP D9 q hn,this,List.map_append];simp
 · subst hJ
   rw [List.take_length]
   have hl:((q.filter jP).map fun n=>(n.2.2.2.1,())).length≤q.length:=by rw [List.length_map];exact List.length_filter_le _ _
   dsimp only
   refine dm (by omega) ⟨by omega,fun r hr=>⟨by have:=hr.1;omega,fun s=>(hr.2 (s,())).trans ?_⟩⟩
   exact aaB (fun n:Sp.bJ=>n.2.2.2.1) _ s
theorem ade:ai prog G qM.e:=by
 refine adf (aj ah ⟨⟨wO,uS⟩,Oy,trivial⟩) (fun ⟨q,_⟩ hp=>⟨((_,()),()),Ae (Sp.rQ q) (Nat.le_trans (aiH q) hp)⟩) ?_
 intro q hin hp
 dsimp only [qM] at hp ⊢
 have hp:q.length≤1000:=hp
 refine dM (fun i (x:Sp.LS)=>(((),i,()),x,())) (fun y=>y.1.2.1) (fun _ _=>rfl) q.length (by omega) (fun n l=>l=((q.take n).filter Sp.jL).map fun n=>(n.2.2.2.1,())) rfl (fun I μ n l hn hJ next=>?_) fun I μ l hJ=>?_
 · subst hJ
   have hl:=CY Sp.jL (fun n=>(n.2.2.2.1,())) q n
   dsimp only
   refine dh (by omega) ⟨⟨by omega,by omega⟩,trivial,af (fun h=>⟨by rw [bU];simp only [List.length_cons,List.length_nil];omega,rfl,next _ ?_⟩) fun h=>⟨rfl,next _ ?_⟩⟩
   · have h:Sp.jL (q.getD n D9)=true:=h
     rw [jO Sp.jL D9 q hn,h,List.map_append];rfl
   · have h:Sp.jL (q.getD n D9)=false:=h
     rw [jO Sp.jL D9 q hn,h,List.map_append];simp
 · subst hJ
   rw [List.take_length]
   have hl:((q.filter Sp.jL).map fun n=>(n.2.2.2.1,())).length≤q.length:=by rw [List.length_map];exact List.length_filter_le _ _
   dsimp only
   refine dm (by omega) ⟨by omega,fun r hr=>⟨by have:=hr.1;omega,fun s=>(hr.2 (s,())).trans ?_⟩⟩
   exact aaB (fun n:Sp.bJ=>n.2.2.2.1) _ s
theorem avu (n:Sp.bJ):(decide (2≤n.1)&&decide (n.1≤4))=jP n:=by
 rw [Bool.eq_iff_iff]
 unfold jP
 simp only [Bool.and_eq_true,Bool.or_eq_true,decide_eq_true_eq,beq_iff_eq]
 omega
theorem av6 (n:Sp.bJ):(decide (8≤n.1)&&decide (n.1≤9))=Sp.jL n:=by
 rw [Bool.eq_iff_iff]
 unfold Sp.jL
 simp only [Bool.and_eq_true,Bool.or_eq_true,decide_eq_true_eq,beq_iff_eq]
 omega
theorem aaE:ai prog G oQ.e:=by
 refine aaF (aj ah ⟨CZ,jX,trivial⟩) (fun ⟨q,_⟩ hp=>⟨((_,()),()),Ae (Sp.lI q) (Nat.le_trans (aeu q) hp)⟩) ?_
 intro q hin hp
 dsimp only [oQ] at hp ⊢
 have hp:q.length≤1000:=hp
 refine dM (fun i (x:Sp.LS)=>((x,i,()),())) (fun y=>y.1.2.1) (fun _ _=>rfl) q.length (by omega) (fun n l=>l.length≤n∧∀ s,(s,())∈l↔s∈((q.take n).filter jP).map fun n=>n.2.2.2.1) ⟨Nat.le_refl _,fun s=>by simp⟩ (fun I μ n l hn hJ next=>?_) fun I μ l hJ=>?_
 · obtain ⟨hl,hJ⟩:=hJ
   dsimp only
   rw [Int.toNat_natCast,avu]
   refine dh (by omega) ⟨⟨by omega,by omega⟩,trivial,af (fun h=>⟨⟨by omega,by omega⟩,by omega,rfl,next _ ⟨Nat.le_trans (Vo _ _) (by omega),fun s=>?_⟩⟩) fun h=>⟨rfl,next _ ⟨by omega,fun s=>?_⟩⟩⟩
   · have h:jP (q.getD n D9)=true:=h
     rw [yg,hJ,EJ jP _ D9 q hn,Prod.mk.injEq]
     exact ⟨fun g=>g.elim (fun g=> .inr ⟨h,g.1⟩) .inl,fun g=>g.elim .inr fun g=> .inl ⟨g.2,rfl⟩⟩
   · have h:jP (q.getD n D9)=false:=h
     rw [hJ,EJ jP _ D9 q hn,h];simp
 · obtain ⟨hl,hJ⟩:=hJ
   rw [List.take_length] at hJ
   dsimp only
   exact dm (by omega) ⟨by rw [bU];omega,by show l.length≤1000;omega,hJ⟩
theorem adg:ai prog G qN.e:=by
 refine adh (aj ah ⟨CZ,jX,trivial⟩) (fun ⟨q,_⟩ hp=>⟨((_,()),()),Ae (Sp.rQ q) (Nat.le_trans (aiH q) hp)⟩) ?_
 intro q hin hp
 dsimp only [qN] at hp ⊢
 have hp:q.length≤1000:=hp
 refine dM (fun i (x:Sp.LS)=>((x,i,()),())) (fun y=>y.1.2.1) (fun _ _=>rfl) q.length (by omega) (fun n l=>l.length≤n∧∀ s,(s,())∈l↔s∈((q.take n).filter Sp.jL).map fun n=>n.2.2.2.1) ⟨Nat.le_refl _,fun s=>by simp⟩ (fun I μ n l hn hJ next=>?_) fun I μ l hJ=>?_
 · obtain ⟨hl,hJ⟩:=hJ
   dsimp only
   rw [Int.toNat_natCast,av6]
   refine dh (by omega) ⟨⟨by omega,by omega⟩,trivial,af (fun h=>⟨⟨by omega,by omega⟩,by omega,rfl,next _ ⟨Nat.le_trans (Vo _ _) (by omega),fun s=>?_⟩⟩) fun h=>⟨rfl,next _ ⟨by omega,fun s=>?_⟩⟩⟩
   · have h:Sp.jL (q.getD n D9)=true:=h
     rw [yg,hJ,EJ Sp.jL _ D9 q hn,Prod.mk.injEq]
     exact ⟨fun g=>g.elim (fun g=> .inr ⟨h,g.1⟩) .inl,fun g=>g.elim .inr fun g=> .inl ⟨g.2,rfl⟩⟩
   · have h:Sp.jL (q.getD n D9)=false:=h
     rw [hJ,EJ Sp.jL _ D9 q hn,h];simp
 · obtain ⟨hl,hJ⟩:=hJ
   rw [List.take_length] at hJ
   dsimp only
   exact dm (by omega) ⟨by rw [bU];omega,by show l.length≤1000;omega,hJ⟩
def yh (a b:List Sp.dR) (x:Sp.Bytes×Unit):Bool:=!decide (Sp.bM a x.1=Sp.bM b x.1)
theorem aev (f0 f1:Int) (f2:Bool) (f3:Int) (a:List Sp.dR) (g0 g1:Int) (g2:Bool) (g3:Int) (b:List Sp.dR) (s:Sp.Bytes):
 (s,())∈(Sp.fQ a++Sp.fQ b).filter (yh a b)↔s∈Sp.jv (f0,f1,f2,f3,a,()) (g0,g1,g2,g3,b,()):=by
 unfold Sp.jv Sp.fQ
 rw [List.mem_filter,List.mem_filter,← List.map_append,aaB]
 exact Iff.rfl
theorem aaG (f g:Sp.aK):(Sp.jv f g).length≤f.2.2.2.2.1.length+g.2.2.2.2.1.length:=by
 unfold Sp.jv
 refine Nat.le_trans (List.length_filter_le _ _) ?_
 rw [List.length_map,List.length_append];exact Nat.le_refl _
theorem Vp:ai prog G mD.e:=by
 refine Vq (aj ah ⟨⟨wO,uS⟩,IU,QS,trivial⟩) (fun ⟨f,g,_⟩ hp=>⟨((_,()),()),Ae (Sp.jv f g) (Nat.le_trans (aaG f g) hp.2.2)⟩) ?_
 intro a0 a1 a2 a3 a b0 b1 b2 b3 b hin hp
 dsimp only [mD] at hp ⊢
 obtain ⟨ha,hb,hab⟩:a.length≤1000∧b.length≤1000∧a.length+b.length≤1000:=hp
 refine ⟨ha,?_⟩
 rintro ⟨⟨r0,⟨⟩⟩,⟨⟩⟩ e0
 have e0:r0=Sp.fQ a:=e0
 refine ⟨hb,?_⟩
 rintro ⟨⟨r1,⟨⟩⟩,⟨⟩⟩ e1
 have e1:r1=Sp.fQ b:=e1
 subst e0 e1
 have hL:(Sp.fQ a++Sp.fQ b).length=a.length+b.length:=by rw [List.length_append];unfold Sp.fQ;rw [List.length_map,List.length_map]
 refine ⟨by rw [bU];rw [List.length_append] at hL;dsimp only;omega,?_⟩
 dsimp only
 generalize hLL:Sp.fQ a++Sp.fQ b=L at hL
 refine dM (fun i (x:Sp.LS)=>(((),i,()),x,())) (fun y=>y.1.2.1) (fun _ _=>rfl) L.length (by omega) (fun n l=>l=(L.take n).filter (yh a b)) rfl (fun I μ n l hn hJ next=>?_) fun I μ l hJ=>?_
 · subst hJ
   have hl:((L.take n).filter (yh a b)).length≤n:=by
    have:=List.length_filter_le (yh a b) (L.take n)
    rw [List.length_take] at this;omega
   have step:=jO (yh a b) ([],()) L hn
   dsimp only
   rw [eq3,Int.toNat_natCast]
   refine dh (by omega) ⟨⟨by omega,by omega⟩,by omega,trivial,trivial,af (fun h=>⟨by rw [bU];simp only [List.length_cons,List.length_nil];omega,rfl,next _ ?_⟩) fun h=>⟨rfl,next _ ?_⟩⟩
   · have h:yh a b (L.getD n ([],()))=true:=h
     rw [step,h];rfl
   · have h:yh a b (L.getD n ([],()))=false:=h
     rw [step,h];simp
 · subst hJ
   rw [List.take_length]
   have hl:=List.length_filter_le (yh a b) L
   dsimp only
   refine dm (by omega) ⟨by omega,fun r hr=>⟨by have:=hr.1;omega,fun s=>(hr.2 (s,())).trans ?_⟩⟩
   rw [← hLL]
   exact aev _ _ _ _ a _ _ _ _ b s
theorem Vr:ai prog G mF.e:=by
 refine Vs (aj ah ⟨CZ,IV,QU,trivial⟩) (fun ⟨f,g,_⟩ hp=>⟨((_,()),()),Ae (Sp.jv f g) (Nat.le_trans (aaG f g) hp.2.2)⟩) ?_
 intro a0 a1 a2 a3 a b0 b1 b2 b3 b hin hp
 dsimp only [mF] at hp ⊢
 obtain ⟨ha,hb,hab⟩:a.length≤1000∧b.length≤1000∧a.length+b.length≤1000:=hp
 refine ⟨ha,?_⟩
 rintro ⟨⟨r0,⟨⟩⟩,⟨⟩⟩ e0
 have e0:r0=Sp.fQ a:=e0
 refine ⟨hb,?_⟩
 rintro ⟨⟨r1,⟨⟩⟩,⟨⟩⟩ e1
 have e1:r1=Sp.fQ b:=e1
 subst e0 e1
 have hL:(Sp.fQ a++Sp.fQ b).length=a.length+b.length:=by rw [List.length_append];unfold Sp.fQ;rw [List.length_map,List.length_map]
 refine ⟨by rw [bU];rw [List.length_append] at hL;dsimp only;omega,?_⟩
 dsimp only
 generalize hLL:Sp.fQ a++Sp.fQ b=L at hL
 refine dM (fun i (x:Sp.LS)=>((x,i,()),())) (fun y=>y.1.2.1) (fun _ _=>rfl) L.length (by omega) (fun n l=>l.length≤n∧∀ s,(s,())∈l↔(s,())∈(L.take n).filter (yh a b)) ⟨Nat.le_refl _,fun s=>by simp⟩ (fun I μ n l hn hJ next=>?_) fun I μ l hJ=>?_
 · obtain ⟨hl,hJ⟩:=hJ
   have step:=jO (yh a b) ([],()) L hn
   dsimp only
   rw [eq3,Int.toNat_natCast]
   refine dh (by omega) ⟨⟨by omega,by omega⟩,by omega,trivial,⟨by omega,by omega⟩,by omega,trivial,af (fun h=>⟨⟨by omega,by omega⟩,by omega,by omega,rfl,next _ ⟨Nat.le_trans (Vo _ _) (by omega),fun s=>?_⟩⟩) fun h=>⟨rfl,next _ ⟨by omega,fun s=>?_⟩⟩⟩
   · have h:yh a b (L.getD n ([],()))=true:=h
     rw [yg,step,h,List.mem_append,hJ]
     show _↔_∨(s,())∈[L.getD n ([],())]
     rw [List.mem_singleton]
     exact Or.comm
   · have h:yh a b (L.getD n ([],()))=false:=h
     rw [step,h,hJ];simp
 · obtain ⟨hl,hJ⟩:=hJ
   rw [List.take_length] at hJ
   dsimp only
   refine dm (by omega) ⟨by rw [bU];omega,by show l.length≤1000;omega,fun s=>(hJ s).trans ?_⟩
   rw [← hLL]
   exact aev _ _ _ _ a _ _ _ _ b s
end Go.Proofs.Tryz
