import Derived.Test.YtlbkigkbmeckbaaGreatP16
namespace Go.Proofs.Tryz
open Go Go.Fw Go.IntWalk
theorem Nc:ai prog G wP.e:=by
 refine aeM (aj ah trivial) ?_
 intro f0 f1 f2 f3 f4 id hin hp
 dsimp only [wP] at hp ⊢
 exact rfl
theorem Ap:ai prog G gy.e:=by
 refine Aq (aj ah ⟨Nc,trivial⟩) ?_
 intro s1 id hin hp
 dsimp only [gy] at hp ⊢
 have hlen:s1.length≤maxLen:=hin.1.1
 rw [maxLen_eq] at hlen
 refine iU s1.length hlen (fun n=>∀ i,i<n→(Sp.fileAt s1 i).1≠id) (fun i hi=>by omega) (fun I μ n hn hJ next=>?_) fun I μ hJ=>?_
 · dsimp only
   refine dh (by omega) ⟨⟨by omega,by omega⟩,trivial,af (fun h=>?_) fun h=>⟨rfl,next fun i hi=>?_⟩⟩
   · have h:(Sp.fileAt s1 n).1=id:=gm h
     exact congrArg (·,()) (Sp.IE hn hJ h).symm
   · rcases Nat.lt_or_ge i n with h'|h'
     · exact hJ i h'
     · have:i=n:=by omega
       subst this
       have h:¬ (Sp.fileAt s1 i).1=id:=gU h
       exact h
 · dsimp only
   exact dm (by omega) (congrArg (·,()) (Sp.TR hJ).symm)
theorem IQ:ai prog G xC.e:=by
 refine aj8 (aj ah ⟨Ap,Nc,trivial⟩) ?_
 intro s0 s1 s2 id hin hp
 dsimp only [xC] at hp ⊢
 exact ⟨trivial,rfl⟩
theorem aeN:ai prog G zQ.e:=by
 refine aeO (aj ah ⟨Ci,IQ,trivial⟩) ?_
 intro s0 s1 s2 id hin hp
 dsimp only [zQ] at hp ⊢
 obtain ⟨h0,h1,h2⟩:s0.length≤1000∧s1.length≤1000∧∀ f∈s1,Sp.bU f:=hp
 refine ⟨trivial,?_⟩
 rcases Sp.sG s1 id with ⟨h,_⟩|⟨n,hn,h,_,_⟩
 · have e:Sp.eu (s0,s1,s2,()) id=(Sp.Zd,false):=by
    show (bif decide (Sp.place s1 id<0) then _ else _)=_
    rw [h];rfl
   refine dm (by omega) ?_
   show _=((Sp.eu (s0,s1,s2,()) id).1,(Sp.eu (s0,s1,s2,()) id).2,())
   rw [e];rfl
 · have e:Sp.eu (s0,s1,s2,()) id=(Sp.fileAt s1 n,true):=by
    show (bif decide (Sp.place s1 id<0) then _ else (Sp.fileAt s1 (Sp.place s1 id).toNat,true))=_
    rw [h,decide_eq_false (by omega)];rfl
   refine dh (by omega) ⟨⟨by omega,by omega⟩,?_,?_⟩
   · rw [h,Int.toNat_natCast]
     exact h2 _ (getD_mem (d:=((0:Int),(0:Int),false,(0:Int),[],())) hn)
   · show _=((Sp.eu (s0,s1,s2,()) id).1,(Sp.eu (s0,s1,s2,()) id).2,())
     rw [e,h];rfl
theorem aeP:ai prog G zS.e:=by
 refine aeQ (aj ah ⟨DT,FX,trivial⟩) ?_
 intro s0 s1 s2 id hin hp
 dsimp only [zS] at hp ⊢
 obtain ⟨h0,h1,h2⟩:s0.length≤1000∧s1.length≤1000∧∀ f∈s1,Sp.bU f:=hp
 refine ⟨trivial,?_⟩
 rcases Sp.sG s1 id with ⟨h,_⟩|⟨n,hn,h,_,_⟩
 · have e:Sp.eu (s0,s1,s2,()) id=(Sp.Zd,false):=by
    show (bif decide (Sp.place s1 id<0) then _ else _)=_
    rw [h];rfl
   refine dh (by omega) ?_
   show _=((Sp.eu (s0,s1,s2,()) id).1,(Sp.eu (s0,s1,s2,()) id).2,())
   rw [e];rfl
 · have e:Sp.eu (s0,s1,s2,()) id=(Sp.fileAt s1 n,true):=by
    show (bif decide (Sp.place s1 id<0) then _ else (Sp.fileAt s1 (Sp.place s1 id).toNat,true))=_
    rw [h,decide_eq_false (by omega)];rfl
   refine dm (by omega) ⟨⟨by omega,by omega⟩,?_,?_⟩
   · rw [h,Int.toNat_natCast]
     exact h2 _ (getD_mem (d:=((0:Int),(0:Int),false,(0:Int),[],())) hn)
   · show _=((Sp.eu (s0,s1,s2,()) id).1,(Sp.eu (s0,s1,s2,()) id).2,())
     rw [e,h];rfl
theorem Wn:ai prog G ni.e:=by
 refine Wp (aj ah ⟨Ci,DL,yB,IQ,xX,trivial⟩) (fun ⟨s,f,_⟩ _=>⟨((((Sp.aU s f).1.1,(Sp.aU s f).1.2.1,(Sp.aU s f).1.2.2.1,()),(Sp.aU s f).2,()),()),⟨rfl,rfl,rfl,rfl⟩⟩) ?_
 intro s0 s1 s2 f0 f1 f2 f3 f4 hin hp
 dsimp only [ni] at hp ⊢
 refine ⟨hp.1,?_⟩
 rintro ⟨⟨⟨a,l,nx,⟨⟩⟩,⟨⟩⟩,⟨⟩⟩ e
 obtain ⟨rfl,rfl,rfl⟩:a=s0∧l=s1∧nx=s2:=by simpa using e
 have hs:l.length≤1000:=hp.1.2.1
 have no:¬ (Sp.aB (a,l,nx,())=true∧0≤Sp.place l f0∧Sp.bY a (f0,f1,f2,f3,f4,())=true)→Sp.aU (a,l,nx,()) (f0,f1,f2,f3,f4,())=((a,l,nx,()),false):=fun h=>by
  rcases Sp.jU (a,l,nx,()) (f0,f1,f2,f3,f4,()) with ⟨e,_⟩|⟨n,hn,h1,h2,h3,_⟩
  · exact e
  · exact (h ⟨h2,by have h1:Sp.place l f0=n:=h1;omega,h3⟩).elim
 refine ⟨trivial,trivial,af (fun h1=>?_) fun h1=>af (fun h2=>?_) fun h2=>⟨trivial,af (fun h3=>?_) fun h3=>?_⟩⟩
 · have:=no fun h=>by have h1:=fV h1;have:=h.1;rw [show Sp.aB (a,l,nx,())=false from h1] at this;cases this
   dsimp only
   rw [this];exact ⟨rfl,rfl,rfl,rfl⟩
 · have:=no fun h=>by have h2:Sp.place l f0<0:=gm h2;omega
   dsimp only
   rw [this];exact ⟨rfl,rfl,rfl,rfl⟩
 · have:=no fun h=>by have h3:=fV h3;have:=h.2.2;rw [show Sp.bY a (f0,f1,f2,f3,f4,())=false from h3] at this;cases this
   dsimp only
   rw [this];exact ⟨rfl,rfl,rfl,rfl⟩
 · have g1:Sp.aB (a,l,nx,())=true:=dO h1
   have g2:0≤Sp.place l f0:=by have h2:¬ Sp.place l f0<0:=gU h2;omega
   have g3:Sp.bY a (f0,f1,f2,f3,f4,())=true:=dO h3
   rcases Sp.jU (a,l,nx,()) (f0,f1,f2,f3,f4,()) with ⟨_,e⟩|⟨n,hn,hpl,_,_,e⟩
   · exact (e ⟨g1,g2,g3⟩).elim
   · have hn:n<l.length:=hn
     have hpl:Sp.place l f0=n:=hpl
     dsimp only
     rw [hpl,e]
     exact ⟨hp.2,⟨by omega,by omega⟩,hn,rfl,rfl,rfl,rfl⟩
theorem Wq:ai prog G ny.e:=by
 refine Ws (aj ah ⟨DT,DK,tH,FX,Aa,trivial⟩) (fun ⟨s,f,_⟩ _=>⟨((((Sp.aU s f).1.1,(Sp.aU s f).1.2.1,(Sp.aU s f).1.2.2.1,()),(Sp.aU s f).2,()),()),⟨rfl,rfl,rfl,rfl⟩⟩) ?_
 intro s0 s1 s2 f0 f1 f2 f3 f4 hin hp
 dsimp only [ny] at hp ⊢
 refine ⟨hp.1,?_⟩
 rintro ⟨⟨⟨a,l,nx,⟨⟩⟩,⟨⟩⟩,⟨⟩⟩ e
 obtain ⟨rfl,rfl,rfl⟩:a=s0∧l=s1∧nx=s2:=by simpa using e
 have hs:l.length≤1000:=hp.1.2.1
 have no:¬ (Sp.aB (a,l,nx,())=true∧0≤Sp.place l f0∧Sp.bY a (f0,f1,f2,f3,f4,())=true)→Sp.aU (a,l,nx,()) (f0,f1,f2,f3,f4,())=((a,l,nx,()),false):=fun h=>by
  rcases Sp.jU (a,l,nx,()) (f0,f1,f2,f3,f4,()) with ⟨e,_⟩|⟨n,hn,h1,h2,h3,_⟩
  · exact e
  · exact (h ⟨h2,by have h1:Sp.place l f0=n:=h1;omega,h3⟩).elim
 refine ⟨trivial,trivial,af (fun h1=>?_) fun h1=>af (fun h2=>?_) fun h2=>⟨trivial,af (fun h3=>?_) fun h3=>?_⟩⟩
 · have:=no fun h=>by have h1:=fV h1;have:=h.1;rw [show Sp.aB (a,l,nx,())=false from h1] at this;cases this
   dsimp only
   rw [this];exact ⟨rfl,rfl,rfl,rfl⟩
 · have:=no fun h=>by have h2:Sp.place l f0<0:=gm h2;omega
   dsimp only
   rw [this];exact ⟨rfl,rfl,rfl,rfl⟩
 · have:=no fun h=>by have h3:=fV h3;have:=h.2.2;rw [show Sp.bY a (f0,f1,f2,f3,f4,())=false from h3] at this;cases this
   dsimp only
   rw [this];exact ⟨rfl,rfl,rfl,rfl⟩
 · have g1:Sp.aB (a,l,nx,())=true:=dO h1
   have g2:0≤Sp.place l f0:=by have h2:¬ Sp.place l f0<0:=gU h2;omega
   have g3:Sp.bY a (f0,f1,f2,f3,f4,())=true:=dO h3
   rcases Sp.jU (a,l,nx,()) (f0,f1,f2,f3,f4,()) with ⟨_,e⟩|⟨n,hn,hpl,_,_,e⟩
   · exact (e ⟨g1,g2,g3⟩).elim
   · have hn:n<l.length:=hn
     have hpl:Sp.place l f0=n:=hpl
     dsimp only
     rw [hpl,e]
     exact ⟨hp.2,⟨by omega,by omega⟩,hn,rfl,rfl,rfl,rfl⟩
theorem Uj {d:List Sp.aQ} {i:Nat} (hi:i<d.length):Sp.dF (Sp.fJ d) (Sp.nameOf d i)=true:=by
 rw [Sp.gI]
 unfold Sp.fJ
 rw [List.mem_map]
 exact ⟨Sp.dV d i,getD_mem hi,rfl⟩
theorem Ld:Sp.bF []:=⟨by decide,fun x hx=>by cases hx⟩
theorem arw {fs:List Sp.aN} {d:List Sp.aQ} {out:List Sp.dn} (h:Sp.gQ fs d [] (Sp.dF (Sp.fJ d)) out):Sp.gQ fs d [] (fun _=>true) out:=
 Sp.Jf h (fun i hi=>Uj hi) fun i hi hn=>absurd ((Uj hi).symm.trans hn) (by decide)
theorem aeR:ai prog G sV.e:=by
 refine aeS (aj ah ⟨Kr,CJ,trivial⟩) (fun ⟨(a,fs,nx,_),d,_⟩ _=>by obtain ⟨out,h⟩:=Am (fs:=fs) (a:=a) (nx:=nx) (d:=d) [] (fun _=>true);exact ⟨(((out,(Sp.aF d&&Sp.aB (a,fs,nx,())),()),())),⟨rfl,h⟩⟩) ?_
 intro a fs nx d hin hp
 dsimp only [sV] at hp ⊢
 refine ⟨hp.2.1,⟨hp.1,hp.2,Ld⟩,fun r hr=>⟨hr.1,fun h=>arw (hr.2 h)⟩⟩
theorem Ze:ai prog G oI.e:=by
 refine Zf (aj ah ⟨Kr,trivial⟩) (fun ⟨(a,fs,nx,_),d,r,names,_⟩ _=>by obtain ⟨out,h⟩:=Am (fs:=fs) (a:=a) (nx:=nx) (d:=d) r (Sp.dF names);exact ⟨(((out,(Sp.aF d&&Sp.aB (a,fs,nx,())),()),())),⟨rfl,h⟩⟩) ?_
 intro a fs nx d r names hin hp
 dsimp only [oI] at hp ⊢
 exact ⟨hp,fun r hr=>hr⟩
theorem Nh:ai prog G pO.e:=by
 refine aeT (aj ah ⟨aj6,trivial⟩) (fun ⟨(a,fs,nx,_),d,_⟩ _=>by obtain ⟨out,h⟩:=Am (fs:=fs) (a:=a) (nx:=nx) (d:=d) [] (fun _=>true);exact ⟨(((out,(Sp.aF d&&Sp.aB (a,fs,nx,())),()),())),⟨rfl,h⟩⟩) ?_
 intro a fs nx d hin hp
 dsimp only [pO] at hp ⊢
 exact ⟨hp,fun r hr=>hr⟩
theorem aqm (a:List Sp.gK) (fs:List Sp.aN) (nx:Int) (d:List Sp.aQ):∃ t:((List Sp.gK×List Sp.aN×Int×List Sp.aQ×List Sp.dn×Unit)×Bool×Unit)×Unit,
 t.1.2.1=(Sp.aF d&&Sp.aB (a,fs,nx,()))∧(t.1.2.1=true→(t.1.1.1,t.1.1.2.1,t.1.1.2.2.1,())=(a,fs,nx,())∧t.1.1.2.2.2.1=d∧Sp.gQ fs d [] (fun _=>true) t.1.1.2.2.2.2.1)∧(t.1.2.1=false→(t.1.1.1,t.1.1.2.1,t.1.1.2.2.1,t.1.1.2.2.2.1,t.1.1.2.2.2.2.1,())=([],[],0,[],[],())):=by
 obtain ⟨out,h⟩:=Am (fs:=fs) (a:=a) (nx:=nx) (d:=d) [] (fun _=>true)
 cases hk:(Sp.aF d&&Sp.aB (a,fs,nx,())) with
 |true=>exact ⟨(((a,fs,nx,d,out,()),true,()),()),⟨rfl,fun _=>⟨rfl,rfl,h hk⟩,fun h=>(by cases h)⟩⟩
 |false=>exact ⟨((([],[],0,[],[],()),false,()),()),⟨rfl,fun h=>(by cases h),fun _=>rfl⟩⟩
theorem Zg:ai prog G oK.e:=by
 refine Zh (aj ah ⟨OX,Aa,Nh,trivial⟩) (fun ⟨(a,fs,nx,_),d,_⟩ _=>aqm a fs nx d) ?_
 intro a fs nx d hin hp
 dsimp only [oK] at hp ⊢
 refine ⟨hp,fun r0 hr0=>af (fun h=>?_) fun h=>⟨hp.1,fun r1 hr1=>⟨hp.2,?_⟩⟩⟩
 · have h:r0.1.2.1=false:=fV h
   have e:(Sp.aF d&&Sp.aB (a,fs,nx,()))=false:=hr0.1.symm.trans h
   exact ⟨e.symm,fun h=>(by cases h),fun _=>rfl⟩
 · have h:r0.1.2.1=true:=dO h
   have e:(Sp.aF d&&Sp.aB (a,fs,nx,()))=true:=hr0.1.symm.trans h
   exact ⟨e.symm,fun _=>⟨hr1,rfl,hr0.2 h⟩,fun h=>by cases h⟩
theorem RJ {a:List Sp.gK} {fs:List Sp.aN} {nx:Int} {d:List Sp.aQ} {r out:List Sp.dn} (h:(Sp.aF d&&Sp.aB (a,fs,nx,()))=true) (ho:Sp.gQ fs d [] (fun _=>true) out):Sp.dS (a,fs,nx,d,r,())=decide (out=r):=by
 have e:Sp.dS (a,fs,nx,d,r,())=((Sp.aF d&&Sp.aB (a,fs,nx,()))&&@decide (Sp.gQ fs d [] (fun _=>true) r) (Classical.propDecidable _)):=rfl
 rw [e,h,Bool.true_and,Bool.eq_iff_iff,decide_eq_true_eq (p:=out=r)]
 rw [Bool.and_eq_true] at h
 exact (@decide_eq_true_iff _ (Classical.propDecidable _)).trans ⟨fun hr=>Sp.Nj (Sp.oh.1 h.1).1 ho hr,fun e=>e▸ho⟩
theorem arx {a:List Sp.gK} {fs:List Sp.aN} {nx:Int} {d:List Sp.aQ} {r:List Sp.dn} (h:(Sp.aF d&&Sp.aB (a,fs,nx,()))=false):Sp.dS (a,fs,nx,d,r,())=false:=by
 have e:Sp.dS (a,fs,nx,d,r,())=((Sp.aF d&&Sp.aB (a,fs,nx,()))&&@decide (Sp.gQ fs d [] (fun _=>true) r) (Classical.propDecidable _)):=rfl
 rw [e,h,Bool.false_and]
theorem AL:ai prog G ng.e:=by
 refine abX (aj ah ⟨Uf,aeR,trivial⟩) ?_
 intro a fs nx d r hin hp
 dsimp only [ng] at hp ⊢
 obtain ⟨h1,h2,h3⟩:Sp.bI (a,fs,nx,())∧Sp.aS d∧Sp.bF r:=hp
 refine ⟨⟨h1,h2⟩,fun r0 hr0=>af (fun h=>⟨trivial,?_⟩) fun h=>?_⟩
 · rw [RJ (hr0.1.symm.trans h) (hr0.2 h)]
 · rw [arx (hr0.1.symm.trans h)]
theorem EN:ai prog G qL.e:=by
 refine abY (aj ah ⟨Uh,Nh,trivial⟩) ?_
 intro a fs nx d r hin hp
 dsimp only [qL] at hp ⊢
 obtain ⟨h1,h2,h3⟩:Sp.bI (a,fs,nx,())∧Sp.aS d∧Sp.bF r:=hp
 refine ⟨⟨h1,h2⟩,fun r0 hr0=>af (fun h=>⟨trivial,?_⟩) fun h=>?_⟩
 · rw [RJ (hr0.1.symm.trans h) (hr0.2 h)]
 · rw [arx (hr0.1.symm.trans h)]
theorem arT:ai prog G BU.e:=by
 refine abZ (aj ah trivial) ?_
 intro f0 f1 f2 f3 a hin hp
 dsimp only [BU] at hp ⊢
 exact anZ (K:=fun r=>r=(Sp.fU a,())) (fun x:Sp.fH=>(x.1,())) ([],0,0,[],()) a _ (by have hp:a.length≤1000:=hp;omega) rfl
theorem PS:ai prog G jZ.e:=by
 refine PU (aj ah trivial) (fun ⟨(_,_,_,_,a,_),_⟩ _=>⟨((Sp.fU a,()),()),rfl⟩) ?_
 intro f0 f1 f2 f3 a hin hp
 dsimp only [jZ] at hp ⊢
 exact anZ (K:=fun r=>r.1=Sp.fU a) (fun x:Sp.fH=>(x.1,())) ([],0,0,[],()) a _ (by have hp:a.length≤1000:=hp;omega) rfl
theorem PV:ai prog G ku.e:=by
 refine PW (aj ah trivial) (fun ⟨(_,_,_,_,a,_),_⟩ _=>⟨((Sp.fU a,()),()),rfl⟩) ?_
 intro f0 f1 f2 f3 a hin hp
 dsimp only [ku] at hp ⊢
 exact anZ (K:=fun r=>r.1=Sp.fU a) (fun x:Sp.fH=>(x.1,())) ([],0,0,[],()) a _ (by have hp:a.length≤1000:=hp;omega) rfl
theorem Zi {α:Type} (g:α→Sp.Bytes) (l:List α) (s:Sp.Bytes):(s,())∈l.map (fun x=>(g x,()))↔s∈l.map g:=by simp
theorem DW {α β:Type} (p:α→Bool) (g:α→β) (d:α) (l:List α) {n:Nat} (h:n<l.length) (s:β):s∈((l.take (n+1)).filter p).map g↔s∈((l.take n).filter p).map g∨(p (l.getD n d)=true∧s=g (l.getD n d)):=by
 rw [jg p d l h,List.map_append,List.mem_append]
 cases hp:p (l.getD n d)<;>simp
theorem BB {α β:Type} (p:α→Bool) (g:α→β) (l:List α) (n:Nat):(((l.take n).filter p).map g).length≤n:=by
 have:=List.length_filter_le p (l.take n)
 rw [List.length_take] at this
 rw [List.length_map];omega
def jM (n:Sp.bH):Bool:=n.1==2||(n.1==3||n.1==4)
theorem zI (l:List Sp.Bytes) (h:l.length≤1000):Sp.dD (l.map fun s=>(s,())) l:=⟨by rw [List.length_map];exact h,fun s=>by simp⟩
theorem ado (q:List Sp.bH):(Sp.lG q).length≤q.length:=by
 unfold Sp.lG
 rw [List.length_map]
 exact List.length_filter_le _ _
theorem ahq (q:List Sp.bH):(Sp.rH q).length≤q.length:=by
 unfold Sp.rH
 rw [List.length_map]
 exact List.length_filter_le _ _
abbrev C9:Sp.bH:=(0,0,0,[],0,0,[],())
theorem Zj:ai prog G oL.e:=by
 refine Zk (aj ah ⟨⟨wo,uJ⟩,trivial⟩) (fun ⟨q,_⟩ hp=>⟨((_,()),()),zI (Sp.lG q) (Nat.le_trans (ado q) hp)⟩) ?_
 intro q hin hp
 dsimp only [oL] at hp ⊢
 have hp:q.length≤1000:=hp
 refine dI (fun i (x:Sp.LS)=>(((),i,()),x,())) (fun y=>y.1.2.1) (fun _ _=>rfl) q.length (by omega) (fun n l=>l=((q.take n).filter jM).map fun n=>(n.2.2.2.1,())) rfl (fun I μ n l hn hJ next=>?_) fun I μ l hJ=>?_
 · subst hJ
   have hl:=BB jM (fun n=>(n.2.2.2.1,())) q n
   have small:(((q.take n).filter jM).map fun n=>(n.2.2.2.1,())).length+1≤big:=by rw [bT];omega
   have yes:jM (q.getD n C9)=true→((q.take n).filter jM).map (fun n=>(n.2.2.2.1,()))++[((q.getD n C9).2.2.2.1,())]=((q.take (n+1)).filter jM).map fun n=>(n.2.2.2.1,()):=fun h=>by
    rw [jg jM C9 q hn,h,List.map_append];rfl
   dsimp only
   refine dh (by omega) ⟨⟨by omega,by omega⟩,af (fun h=>⟨small,rfl,next _ (yes ?_)⟩) fun h2=>af (fun h=>⟨small,rfl,next _ (yes ?_)⟩) fun h3=>af (fun h=>⟨small,rfl,next _ (yes ?_)⟩) fun h4=>⟨rfl,next _ ?_⟩⟩
   · have h:((q.getD n C9).1==2)=true:=h
     unfold jM;rw [h];rfl
   · have h:((q.getD n C9).1==3)=true:=h
     unfold jM;rw [h];simp
   · have h:((q.getD n C9).1==4)=true:=h
     unfold jM;rw [h];simp
   · have h2:((q.getD n C9).1==2)=false:=h2
     have h3:((q.getD n C9).1==3)=false:=h3
     have h4:((q.getD n C9).1==4)=false:=h4
     have:jM (q.getD n C9)=false:=by unfold jM;rw [h2,h3,h4];rfl
     rw [jg jM C9 q hn,this,List.map_append];simp
 · subst hJ
   rw [List.take_length]
   have hl:((q.filter jM).map fun n=>(n.2.2.2.1,())).length≤q.length:=by rw [List.length_map];exact List.length_filter_le _ _
   dsimp only
   refine dm (by omega) ⟨by omega,fun r hr=>⟨by have:=hr.1;omega,fun s=>(hr.2 (s,())).trans ?_⟩⟩
   exact Zi (fun n:Sp.bH=>n.2.2.2.1) _ s
theorem ab1:ai prog G qM.e:=by
 refine ab2 (aj ah ⟨⟨wo,uJ⟩,Nk,trivial⟩) (fun ⟨q,_⟩ hp=>⟨((_,()),()),zI (Sp.rH q) (Nat.le_trans (ahq q) hp)⟩) ?_
 intro q hin hp
 dsimp only [qM] at hp ⊢
 have hp:q.length≤1000:=hp
 refine dI (fun i (x:Sp.LS)=>(((),i,()),x,())) (fun y=>y.1.2.1) (fun _ _=>rfl) q.length (by omega) (fun n l=>l=((q.take n).filter Sp.jG).map fun n=>(n.2.2.2.1,())) rfl (fun I μ n l hn hJ next=>?_) fun I μ l hJ=>?_
 · subst hJ
   have hl:=BB Sp.jG (fun n=>(n.2.2.2.1,())) q n
   dsimp only
   refine dh (by omega) ⟨⟨by omega,by omega⟩,trivial,af (fun h=>⟨by rw [bT];simp only [List.length_cons,List.length_nil];omega,rfl,next _ ?_⟩) fun h=>⟨rfl,next _ ?_⟩⟩
   · have h:Sp.jG (q.getD n C9)=true:=h
     rw [jg Sp.jG C9 q hn,h,List.map_append];rfl
   · have h:Sp.jG (q.getD n C9)=false:=h
     rw [jg Sp.jG C9 q hn,h,List.map_append];simp
 · subst hJ
   rw [List.take_length]
   have hl:((q.filter Sp.jG).map fun n=>(n.2.2.2.1,())).length≤q.length:=by rw [List.length_map];exact List.length_filter_le _ _
   dsimp only
   refine dm (by omega) ⟨by omega,fun r hr=>⟨by have:=hr.1;omega,fun s=>(hr.2 (s,())).trans ?_⟩⟩
   exact Zi (fun n:Sp.bH=>n.2.2.2.1) _ s
theorem aty (n:Sp.bH):(decide (2≤n.1)&&decide (n.1≤4))=jM n:=by
 rw [Bool.eq_iff_iff]
 unfold jM
 simp only [Bool.and_eq_true,Bool.or_eq_true,decide_eq_true_eq,beq_iff_eq]
 omega
theorem aue (n:Sp.bH):(decide (8≤n.1)&&decide (n.1≤9))=Sp.jG n:=by
 rw [Bool.eq_iff_iff]
 unfold Sp.jG
 simp only [Bool.and_eq_true,Bool.or_eq_true,decide_eq_true_eq,beq_iff_eq]
 omega
theorem Zl:ai prog G oM.e:=by
 refine Zm (aj ah ⟨BD,nP,trivial⟩) (fun ⟨q,_⟩ hp=>⟨((_,()),()),zI (Sp.lG q) (Nat.le_trans (ado q) hp)⟩) ?_
 intro q hin hp
 dsimp only [oM] at hp ⊢
 have hp:q.length≤1000:=hp
 refine dI (fun i (x:Sp.LS)=>((x,i,()),())) (fun y=>y.1.2.1) (fun _ _=>rfl) q.length (by omega) (fun n l=>l.length≤n∧∀ s,(s,())∈l↔s∈((q.take n).filter jM).map fun n=>n.2.2.2.1) ⟨Nat.le_refl _,fun s=>by simp⟩ (fun I μ n l hn hJ next=>?_) fun I μ l hJ=>?_
 · obtain ⟨hl,hJ⟩:=hJ
   dsimp only
   rw [Int.toNat_natCast,aty]
   refine dh (by omega) ⟨⟨by omega,by omega⟩,trivial,af (fun h=>⟨⟨by omega,by omega⟩,by omega,rfl,next _ ⟨Nat.le_trans (Uk _ _) (by omega),fun s=>?_⟩⟩) fun h=>⟨rfl,next _ ⟨by omega,fun s=>?_⟩⟩⟩
   · have h:jM (q.getD n C9)=true:=h
     rw [xJ,hJ,DW jM _ C9 q hn,Prod.mk.injEq]
     exact ⟨fun g=>g.elim (fun g=> .inr ⟨h,g.1⟩) .inl,fun g=>g.elim .inr fun g=> .inl ⟨g.2,rfl⟩⟩
   · have h:jM (q.getD n C9)=false:=h
     rw [hJ,DW jM _ C9 q hn,h];simp
 · obtain ⟨hl,hJ⟩:=hJ
   rw [List.take_length] at hJ
   dsimp only
   exact dm (by omega) ⟨by rw [bT];omega,by show l.length≤1000;omega,hJ⟩
theorem ab3:ai prog G qN.e:=by
 refine ab4 (aj ah ⟨BD,nP,trivial⟩) (fun ⟨q,_⟩ hp=>⟨((_,()),()),zI (Sp.rH q) (Nat.le_trans (ahq q) hp)⟩) ?_
 intro q hin hp
 dsimp only [qN] at hp ⊢
 have hp:q.length≤1000:=hp
 refine dI (fun i (x:Sp.LS)=>((x,i,()),())) (fun y=>y.1.2.1) (fun _ _=>rfl) q.length (by omega) (fun n l=>l.length≤n∧∀ s,(s,())∈l↔s∈((q.take n).filter Sp.jG).map fun n=>n.2.2.2.1) ⟨Nat.le_refl _,fun s=>by simp⟩ (fun I μ n l hn hJ next=>?_) fun I μ l hJ=>?_
 · obtain ⟨hl,hJ⟩:=hJ
   dsimp only
   rw [Int.toNat_natCast,aue]
   refine dh (by omega) ⟨⟨by omega,by omega⟩,trivial,af (fun h=>⟨⟨by omega,by omega⟩,by omega,rfl,next _ ⟨Nat.le_trans (Uk _ _) (by omega),fun s=>?_⟩⟩) fun h=>⟨rfl,next _ ⟨by omega,fun s=>?_⟩⟩⟩
   · have h:Sp.jG (q.getD n C9)=true:=h
     rw [xJ,hJ,DW Sp.jG _ C9 q hn,Prod.mk.injEq]
     exact ⟨fun g=>g.elim (fun g=> .inr ⟨h,g.1⟩) .inl,fun g=>g.elim .inr fun g=> .inl ⟨g.2,rfl⟩⟩
   · have h:Sp.jG (q.getD n C9)=false:=h
     rw [hJ,DW Sp.jG _ C9 q hn,h];simp
 · obtain ⟨hl,hJ⟩:=hJ
   rw [List.take_length] at hJ
   dsimp only
   exact dm (by omega) ⟨by rw [bT];omega,by show l.length≤1000;omega,hJ⟩
def xK (a b:List Sp.fH) (x:Sp.Bytes×Unit):Bool:=!decide (Sp.cO a x.1=Sp.cO b x.1)
theorem adp (f0 f1:Int) (f2:Bool) (f3:Int) (a:List Sp.fH) (g0 g1:Int) (g2:Bool) (g3:Int) (b:List Sp.fH) (s:Sp.Bytes):
 (s,())∈(Sp.fU a++Sp.fU b).filter (xK a b)↔s∈Sp.jm (f0,f1,f2,f3,a,()) (g0,g1,g2,g3,b,()):=by
 unfold Sp.jm Sp.fU
 rw [List.mem_filter,List.mem_filter,← List.map_append,Zi]
 exact Iff.rfl
theorem Zn (f g:Sp.aN):(Sp.jm f g).length≤f.2.2.2.2.1.length+g.2.2.2.2.1.length:=by
 unfold Sp.jm
 refine Nat.le_trans (List.length_filter_le _ _) ?_
 rw [List.length_map,List.length_append];exact Nat.le_refl _
theorem Ul:ai prog G lX.e:=by
 refine Um (aj ah ⟨⟨wo,uJ⟩,Ht,PS,trivial⟩) (fun ⟨f,g,_⟩ hp=>⟨((_,()),()),zI (Sp.jm f g) (Nat.le_trans (Zn f g) hp.2.2)⟩) ?_
 intro a0 a1 a2 a3 a b0 b1 b2 b3 b hin hp
 dsimp only [lX] at hp ⊢
 obtain ⟨ha,hb,hab⟩:a.length≤1000∧b.length≤1000∧a.length+b.length≤1000:=hp
 refine ⟨ha,?_⟩
 rintro ⟨⟨r0,⟨⟩⟩,⟨⟩⟩ e0
 have e0:r0=Sp.fU a:=e0
 refine ⟨hb,?_⟩
 rintro ⟨⟨r1,⟨⟩⟩,⟨⟩⟩ e1
 have e1:r1=Sp.fU b:=e1
 subst e0 e1
 have hL:(Sp.fU a++Sp.fU b).length=a.length+b.length:=by rw [List.length_append];unfold Sp.fU;rw [List.length_map,List.length_map]
 refine ⟨by rw [bT];rw [List.length_append] at hL;dsimp only;omega,?_⟩
 dsimp only
 generalize hLL:Sp.fU a++Sp.fU b=L at hL
 refine dI (fun i (x:Sp.LS)=>(((),i,()),x,())) (fun y=>y.1.2.1) (fun _ _=>rfl) L.length (by omega) (fun n l=>l=(L.take n).filter (xK a b)) rfl (fun I μ n l hn hJ next=>?_) fun I μ l hJ=>?_
 · subst hJ
   have hl:((L.take n).filter (xK a b)).length≤n:=by
    have:=List.length_filter_le (xK a b) (L.take n)
    rw [List.length_take] at this;omega
   have step:=jg (xK a b) ([],()) L hn
   dsimp only
   rw [eq3,Int.toNat_natCast]
   refine dh (by omega) ⟨⟨by omega,by omega⟩,by omega,trivial,trivial,af (fun h=>⟨by rw [bT];simp only [List.length_cons,List.length_nil];omega,rfl,next _ ?_⟩) fun h=>⟨rfl,next _ ?_⟩⟩
   · have h:xK a b (L.getD n ([],()))=true:=h
     rw [step,h];rfl
   · have h:xK a b (L.getD n ([],()))=false:=h
     rw [step,h];simp
 · subst hJ
   rw [List.take_length]
   have hl:=List.length_filter_le (xK a b) L
   dsimp only
   refine dm (by omega) ⟨by omega,fun r hr=>⟨by have:=hr.1;omega,fun s=>(hr.2 (s,())).trans ?_⟩⟩
   rw [← hLL]
   exact adp _ _ _ _ a _ _ _ _ b s
theorem Un:ai prog G lY.e:=by
 refine Uo (aj ah ⟨BD,OW,PV,trivial⟩) (fun ⟨f,g,_⟩ hp=>⟨((_,()),()),zI (Sp.jm f g) (Nat.le_trans (Zn f g) hp.2.2)⟩) ?_
 intro a0 a1 a2 a3 a b0 b1 b2 b3 b hin hp
 dsimp only [lY] at hp ⊢
 obtain ⟨ha,hb,hab⟩:a.length≤1000∧b.length≤1000∧a.length+b.length≤1000:=hp
 refine ⟨ha,?_⟩
 rintro ⟨⟨r0,⟨⟩⟩,⟨⟩⟩ e0
 have e0:r0=Sp.fU a:=e0
 refine ⟨hb,?_⟩
 rintro ⟨⟨r1,⟨⟩⟩,⟨⟩⟩ e1
 have e1:r1=Sp.fU b:=e1
 subst e0 e1
 have hL:(Sp.fU a++Sp.fU b).length=a.length+b.length:=by rw [List.length_append];unfold Sp.fU;rw [List.length_map,List.length_map]
 refine ⟨by rw [bT];rw [List.length_append] at hL;dsimp only;omega,?_⟩
 dsimp only
 generalize hLL:Sp.fU a++Sp.fU b=L at hL
 refine dI (fun i (x:Sp.LS)=>((x,i,()),())) (fun y=>y.1.2.1) (fun _ _=>rfl) L.length (by omega) (fun n l=>l.length≤n∧∀ s,(s,())∈l↔(s,())∈(L.take n).filter (xK a b)) ⟨Nat.le_refl _,fun s=>by simp⟩ (fun I μ n l hn hJ next=>?_) fun I μ l hJ=>?_
 · obtain ⟨hl,hJ⟩:=hJ
   have step:=jg (xK a b) ([],()) L hn
   dsimp only
   rw [eq3,Int.toNat_natCast]
   refine dh (by omega) ⟨⟨by omega,by omega⟩,by omega,trivial,⟨by omega,by omega⟩,by omega,trivial,af (fun h=>⟨⟨by omega,by omega⟩,by omega,by omega,rfl,next _ ⟨Nat.le_trans (Uk _ _) (by omega),fun s=>?_⟩⟩) fun h=>⟨rfl,next _ ⟨by omega,fun s=>?_⟩⟩⟩
   · have h:xK a b (L.getD n ([],()))=true:=h
     rw [xJ,step,h,List.mem_append,hJ]
     show _↔_∨(s,())∈[L.getD n ([],())]
     rw [List.mem_singleton]
     exact Or.comm
   · have h:xK a b (L.getD n ([],()))=false:=h
     rw [step,h,hJ];simp
 · obtain ⟨hl,hJ⟩:=hJ
   rw [List.take_length] at hJ
   dsimp only
   refine dm (by omega) ⟨by rw [bT];omega,by show l.length≤1000;omega,fun s=>(hJ s).trans ?_⟩
   rw [← hLL]
   exact adp _ _ _ _ a _ _ _ _ b s
end Go.Proofs.Tryz
