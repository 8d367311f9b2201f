import Derived.Test.YtgbobfdlafkijaaGreatP16
namespace Go.Proofs.Tryz
open Go Go.Fw Go.IntWalk
theorem ZG:aA prog G wu wQ:=by
 refine ao3 (aC (l:=[]) (au ah) (fun x hx=>by cases hx)) ?_
 intro f0 f1 f2 f3 f4 id hin hp
 exact rfl
theorem Gg:aA prog G iC je:=by
 refine Gh (aC (l:=[(wu, .pure wQ)]) (au ah) (by simp only [List.forall_mem_cons];exact ⟨⟨ZG,XD⟩,fun x hx=>by cases hx⟩)) ?_
 intro s1 id hin hp
 have hlen:s1.length≤maxLen:=hin.1.1
 rw [maxLen_eq] at hlen
 refine jH s1.length hlen (fun n=>∀ i,i<n→(Sp.fileAt s1 i).1≠id) (fun i hi=>by omega) (fun I μ n hn hJ next=>?_) fun I μ hJ=>?_
 · dsimp only
   refine eF (by omega) ⟨⟨by omega,by omega⟩,trivial,af (fun h=>?_) fun h=>⟨rfl,next fun i hi=>?_⟩⟩
   · have h:(Sp.fileAt s1 n).1=id:=jw h
     exact congrArg (·,()) (Sp.U7 hn hJ h).symm
   · rcases Nat.lt_or_ge i n with h'|h'
     · exact hJ i h'
     · have:i=n:=by omega
       subst this
       have h:¬ (Sp.fileAt s1 i).1=id:=jB h
       exact h
 · dsimp only
   exact eG (by omega) (congrArg (·,()) (Sp.aex hJ).symm)
theorem adh:aA prog G Ba Ar:=by
 refine auD (aC (l:=[(iC, .pure je),(wu, .pure wQ)]) (au ah) (by simp only [List.forall_mem_cons];exact ⟨⟨Gg,FN⟩,⟨ZG,XD⟩,fun x hx=>by cases hx⟩)) ?_
 intro s0 s1 s2 id hin hp
 exact ⟨trivial,rfl⟩
theorem ao4:aA prog G Fp GN:=by
 refine ao5 (aC (l:=[(oQ, .pure oq),(Ba, .pure Ar)]) (au ah) (by simp only [List.forall_mem_cons];exact ⟨⟨PV,Og⟩,⟨adh,aaR⟩,fun x hx=>by cases hx⟩)) ?_
 intro s0 s1 s2 id hin hp
 obtain ⟨h0,h1,h2⟩:s0.length≤1000∧s1.length≤1000∧∀ f∈s1,Sp.dK f:=hp
 refine ⟨trivial,?_⟩
 rcases Sp.Gi s1 id with ⟨h,_⟩|⟨n,hn,h,_,_⟩
 · have e:Sp.jY (s0,s1,s2,()) id=(Sp.ayg,false):=by
    show (bif decide (Sp.place s1 id<0) then _ else _)=_
    rw [h];rfl
   refine eG (by omega) ?_
   show _=((Sp.jY (s0,s1,s2,()) id).1,(Sp.jY (s0,s1,s2,()) id).2,())
   rw [e];rfl
 · have e:Sp.jY (s0,s1,s2,()) id=(Sp.fileAt s1 n,true):=by
    show (bif decide (Sp.place s1 id<0) then _ else (Sp.fileAt s1 (Sp.place s1 id).toNat,true))=_
    rw [h,decide_eq_false (by omega)];rfl
   refine eF (by omega) ⟨⟨by omega,by omega⟩,?_,?_⟩
   · rw [h,Int.toNat_natCast]
     exact h2 _ (getD_mem (d:=((0:Int),(0:Int),false,(0:Int),[],())) hn)
   · show _=((Sp.jY (s0,s1,s2,()) id).1,(Sp.jY (s0,s1,s2,()) id).2,())
     rw [e,h];rfl
theorem agP:aG prog G zq CP:=by
 refine agQ (aC (l:=[(oQ, .pure oq),(pJ, .pure qw),(oK, .pure o7),(Ba, .pure Ar),(nI, .eff (ay kM) mM)]) (au ah) (by simp only [List.forall_mem_cons];exact ⟨⟨PV,Og⟩,⟨Uw,SI⟩,⟨Tm,QB⟩,⟨adh,aaR⟩,⟨Oh,MG⟩,fun x hx=>by cases hx⟩)) (fun ⟨s,f,_⟩ _=>⟨((((Sp.bU s f).1.1,(Sp.bU s f).1.2.1,(Sp.bU s f).1.2.2.1,()),(Sp.bU s f).2,()),()),⟨rfl,rfl,rfl,rfl⟩⟩) ?_
 intro s0 s1 s2 f0 f1 f2 f3 f4 hin hp
 refine ⟨hp.1,?_⟩
 rintro ⟨⟨⟨a,l,nx,⟨⟩⟩,⟨⟩⟩,⟨⟩⟩ e
 obtain ⟨rfl,rfl,rfl⟩:a=s0∧l=s1∧nx=s2:=by simpa using e
 have hs:l.length≤1000:=hp.1.2.1
 have no:¬ (Sp.aN (a,l,nx,())=true∧0≤Sp.place l f0∧Sp.dA a (f0,f1,f2,f3,f4,())=true)→Sp.bU (a,l,nx,()) (f0,f1,f2,f3,f4,())=((a,l,nx,()),false):=fun h=>by
  rcases Sp.wX (a,l,nx,()) (f0,f1,f2,f3,f4,()) with ⟨e,_⟩|⟨n,hn,h1,h2,h3,_⟩
  · exact e
  · exact (h ⟨h2,by have h1:Sp.place l f0=n:=h1;omega,h3⟩).elim
 refine ⟨trivial,trivial,af (fun h1=>?_) fun h1=>af (fun h2=>?_) fun h2=>⟨trivial,af (fun h3=>?_) fun h3=>?_⟩⟩
 · have:=no fun h=>by have h1:=kQ h1;have:=h.1;rw [show Sp.aN (a,l,nx,())=false from h1] at this;cases this
   dsimp only
   rw [this];exact ⟨rfl,rfl,rfl,rfl⟩
 · have:=no fun h=>by have h2:Sp.place l f0<0:=jw h2;omega
   dsimp only
   rw [this];exact ⟨rfl,rfl,rfl,rfl⟩
 · have:=no fun h=>by have h3:=kQ h3;have:=h.2.2;rw [show Sp.dA a (f0,f1,f2,f3,f4,())=false from h3] at this;cases this
   dsimp only
   rw [this];exact ⟨rfl,rfl,rfl,rfl⟩
 · have g1:Sp.aN (a,l,nx,())=true:=ig h1
   have g2:0≤Sp.place l f0:=by have h2:¬ Sp.place l f0<0:=jB h2;omega
   have g3:Sp.dA a (f0,f1,f2,f3,f4,())=true:=ig h3
   rcases Sp.wX (a,l,nx,()) (f0,f1,f2,f3,f4,()) with ⟨_,e⟩|⟨n,hn,hpl,_,_,e⟩
   · exact (e ⟨g1,g2,g3⟩).elim
   · have hn:n<l.length:=hn
     have hpl:Sp.place l f0=n:=hpl
     dsimp only
     rw [hpl,e]
     exact ⟨hp.2,⟨by omega,by omega⟩,hn,rfl,rfl,rfl,rfl⟩
theorem aeK {d:List Sp.aW} {i:Nat} (hi:i<d.length):Sp.iG (Sp.lT d) (Sp.nameOf d i)=true:=by
 rw [Sp.uj]
 unfold Sp.lT
 rw [List.mem_map]
 exact ⟨Sp.eP d i,getD_mem hi,rfl⟩
theorem aeL:Sp.bJ []:=⟨by decide,fun x hx=>by cases hx⟩
theorem aBK {fs:List Sp.aQ} {d:List Sp.aW} {out:List Sp.dJ} (h:Sp.iY fs d [] (Sp.iG (Sp.lT d)) out):Sp.iY fs d [] (fun _=>true) out:=
 Sp.anm h (fun i hi=>aeK hi) fun i hi hn=>absurd ((aeK hi).symm.trans hn) (by decide)
theorem ao6:aG prog G Fj GK:=by
 refine ao7 (aC (l:=[(tY, .eff (ay oC) uJ),(wo, .pure wP)]) (au ah) (by simp only [List.forall_mem_cons];exact ⟨⟨XF,V5⟩,⟨ZE,XC⟩,fun x hx=>by cases hx⟩)) (fun ⟨(a,fs,nx,_),d,_⟩ _=>by obtain ⟨out,h⟩:=JK (fs:=fs) (a:=a) (nx:=nx) (d:=d) [] (fun _=>true);exact ⟨(((out,(Sp.aH d&&Sp.aN (a,fs,nx,())),()),())),⟨rfl,h⟩⟩) ?_
 intro a fs nx d hin hp
 refine ⟨hp.2.1,⟨hp.1,hp.2,aeL⟩,fun r hr=>⟨hr.1,fun h=>aBK (hr.2 h)⟩⟩
theorem ajB:aG prog G BI Ed:=by
 refine ajC (aC (l:=[(tY, .eff (ay oC) uJ)]) (au ah) (by simp only [List.forall_mem_cons];exact ⟨⟨XF,V5⟩,fun x hx=>by cases hx⟩)) (fun ⟨(a,fs,nx,_),d,r,names,_⟩ _=>by obtain ⟨out,h⟩:=JK (fs:=fs) (a:=a) (nx:=nx) (d:=d) r (Sp.iG names);exact ⟨(((out,(Sp.aH d&&Sp.aN (a,fs,nx,())),()),())),⟨rfl,h⟩⟩) ?_
 intro a fs nx d r names hin hp
 exact ⟨hp,fun r hr=>hr⟩
theorem ao8:aG prog G Fh GL:=by
 refine ao9 (aC (l:=[(JY, .eff (ay Dl) Ll)]) (au ah) (by simp only [List.forall_mem_cons];exact ⟨⟨auB,arj⟩,fun x hx=>by cases hx⟩)) (fun ⟨(a,fs,nx,_),d,_⟩ _=>by obtain ⟨out,h⟩:=JK (fs:=fs) (a:=a) (nx:=nx) (d:=d) [] (fun _=>true);exact ⟨(((out,(Sp.aH d&&Sp.aN (a,fs,nx,())),()),())),⟨rfl,h⟩⟩) ?_
 intro a fs nx d hin hp
 exact ⟨hp,fun r hr=>hr⟩
theorem aAB (a:List Sp.iH) (fs:List Sp.aQ) (nx:Int) (d:List Sp.aW):∃ t:((List Sp.iH×List Sp.aQ×Int×List Sp.aW×List Sp.dJ×Unit)×Bool×Unit)×Unit,
 t.1.2.1=(Sp.aH d&&Sp.aN (a,fs,nx,()))∧(t.1.2.1=true→(t.1.1.1,t.1.1.2.1,t.1.1.2.2.1,())=(a,fs,nx,())∧t.1.1.2.2.2.1=d∧Sp.iY fs d [] (fun _=>true) t.1.1.2.2.2.2.1)∧(t.1.2.1=false→(t.1.1.1,t.1.1.2.1,t.1.1.2.2.1,t.1.1.2.2.2.1,t.1.1.2.2.2.2.1,())=([],[],0,[],[],())):=by
 obtain ⟨out,h⟩:=JK (fs:=fs) (a:=a) (nx:=nx) (d:=d) [] (fun _=>true)
 cases hk:(Sp.aH d&&Sp.aN (a,fs,nx,())) with
 |true=>exact ⟨(((a,fs,nx,d,out,()),true,()),()),⟨rfl,fun _=>⟨rfl,rfl,h hk⟩,fun h=>(by cases h)⟩⟩
 |false=>exact ⟨((([],[],0,[],[],()),false,()),()),⟨rfl,fun h=>(by cases h),fun _=>rfl⟩⟩
theorem ajD:aG prog G BK Ee:=by
 refine ajE (aC (l:=[(Ia, .pure Jl),(qM, .eff (ay mF) pz),(Fh, .eff (ay yE) GL)]) (au ah) (by simp only [List.forall_mem_cons];exact ⟨⟨arW,aox⟩,⟨Ti,PO⟩,⟨ao8,alN⟩,fun x hx=>by cases hx⟩)) (fun ⟨(a,fs,nx,_),d,_⟩ _=>aAB a fs nx d) ?_
 intro a fs nx d hin hp
 refine ⟨hp,fun r0 hr0=>af (fun h=>?_) fun h=>⟨hp.1,fun r1 hr1=>⟨hp.2,?_⟩⟩⟩
 · have h:r0.1.2.1=false:=kQ h
   have e:(Sp.aH d&&Sp.aN (a,fs,nx,()))=false:=hr0.1.symm.trans h
   exact ⟨e.symm,fun h=>(by cases h),fun _=>rfl⟩
 · have h:r0.1.2.1=true:=ig h
   have e:(Sp.aH d&&Sp.aN (a,fs,nx,()))=true:=hr0.1.symm.trans h
   exact ⟨e.symm,fun _=>⟨hr1,rfl,hr0.2 h⟩,fun h=>by cases h⟩
theorem ayh {a:List Sp.iH} {fs:List Sp.aQ} {nx:Int} {d:List Sp.aW} {r out:List Sp.dJ} (h:(Sp.aH d&&Sp.aN (a,fs,nx,()))=true) (ho:Sp.iY fs d [] (fun _=>true) out):Sp.yQ (a,fs,nx,d,r,())=decide (out=r):=by
 have e:Sp.yQ (a,fs,nx,d,r,())=((Sp.aH d&&Sp.aN (a,fs,nx,()))&&@decide (Sp.iY fs d [] (fun _=>true) r) (Classical.propDecidable _)):=rfl
 rw [e,h,Bool.true_and,Bool.eq_iff_iff,decide_eq_true_eq (p:=out=r)]
 rw [Bool.and_eq_true] at h
 exact (@decide_eq_true_iff _ (Classical.propDecidable _)).trans ⟨fun hr=>Sp.ajF (Sp.qQ.1 h.1).1 ho hr,fun e=>e▸ho⟩
theorem aDX {a:List Sp.iH} {fs:List Sp.aQ} {nx:Int} {d:List Sp.aW} {r:List Sp.dJ} (h:(Sp.aH d&&Sp.aN (a,fs,nx,()))=false):Sp.yQ (a,fs,nx,d,r,())=false:=by
 have e:Sp.yQ (a,fs,nx,d,r,())=((Sp.aH d&&Sp.aN (a,fs,nx,()))&&@decide (Sp.iY fs d [] (fun _=>true) r) (Classical.propDecidable _)):=rfl
 rw [e,h,Bool.false_and]
theorem amb:aA prog G DL EX:=by
 refine amc (aC (l:=[(xQ, .pure Aq),(Fj, .eff (ay yD) GK)]) (au ah) (by simp only [List.forall_mem_cons];exact ⟨⟨aeI,acY⟩,⟨ao6,alM⟩,fun x hx=>by cases hx⟩)) ?_
 intro a fs nx d r hin hp
 obtain ⟨h1,h2,h3⟩:Sp.bQ (a,fs,nx,())∧Sp.aS d∧Sp.bJ r:=hp
 refine ⟨⟨h1,h2⟩,fun r0 hr0=>af (fun h=>⟨trivial,?_⟩) fun h=>?_⟩
 · rw [ayh (hr0.1.symm.trans h) (hr0.2 h)]
 · rw [aDX (hr0.1.symm.trans h)]
theorem aB1:aA prog G Zx VI:=by
 refine amd (aC (l:=[]) (au ah) (fun x hx=>by cases hx)) ?_
 intro f0 f1 f2 f3 a hin hp
 exact aCr (K:=fun r=>r=(Sp.kU a,())) (fun x:Sp.gy=>(x.1,())) ([],0,0,[],()) a _ (by have hp:a.length≤1000:=hp;omega) rfl
theorem abD:aG prog G uX xE:=by
 refine abE (aC (l:=[]) (au ah) (fun x hx=>by cases hx)) (fun ⟨(_,_,_,_,a,_),_⟩ _=>⟨((Sp.kU a,()),()),rfl⟩) ?_
 intro f0 f1 f2 f3 a hin hp
 exact aCr (K:=fun r=>r.1=Sp.kU a) (fun x:Sp.gy=>(x.1,())) ([],0,0,[],()) a _ (by have hp:a.length≤1000:=hp;omega) rfl
theorem ajG {α:Type} (g:α→Sp.Bytes) (l:List α) (s:Sp.Bytes):(s,())∈l.map (fun x=>(g x,()))↔s∈l.map g:=by simp
theorem Na {α β:Type} (p:α→Bool) (g:α→β) (l:List α) (n:Nat):(((l.take n).filter p).map g).length≤n:=by
 have:=List.length_filter_le p (l.take n)
 rw [List.length_take] at this
 rw [List.length_map];omega
def wH (n:Sp.bM):Bool:=n.1==2||(n.1==3||n.1==4)
theorem WJ (l:List Sp.Bytes) (h:l.length≤1000):Sp.dN (l.map fun s=>(s,())) l:=⟨by rw [List.length_map];exact h,fun s=>by simp⟩
theorem ayZ (q:List Sp.bM):(Sp.wR q).length≤q.length:=by
 unfold Sp.wR
 rw [List.length_map]
 exact List.length_filter_le _ _
theorem aAC (q:List Sp.bM):(Sp.JV q).length≤q.length:=by
 unfold Sp.JV
 rw [List.length_map]
 exact List.length_filter_le _ _
abbrev XG:Sp.bM:=(0,0,0,[],0,0,[],())
theorem ajH:aG prog G BH Ef:=by
 refine ajI (aC (l:=[(jl, .eff (ay gU) iK)]) (au ah) (by simp only [List.forall_mem_cons];exact ⟨⟨zD,xY⟩,fun x hx=>by cases hx⟩)) (fun ⟨q,_⟩ hp=>⟨((_,()),()),WJ (Sp.wR q) (Nat.le_trans (ayZ q) hp)⟩) ?_
 intro q hin hp
 have hp:q.length≤1000:=hp
 refine gQ (fun i (x:Sp.LS)=>(((),i,()),x,())) (fun y=>y.1.2.1) (fun _ _=>rfl) q.length (by omega) (fun n l=>l=((q.take n).filter wH).map fun n=>(n.2.2.2.1,())) rfl (fun I μ n l hn hJ next=>?_) fun I μ l hJ=>?_
 · subst hJ
   have hl:=Na wH (fun n=>(n.2.2.2.1,())) q n
   have small:(((q.take n).filter wH).map fun n=>(n.2.2.2.1,())).length+1≤big:=by rw [dU];omega
   have yes:wH (q.getD n XG)=true→((q.take n).filter wH).map (fun n=>(n.2.2.2.1,()))++[((q.getD n XG).2.2.2.1,())]=((q.take (n+1)).filter wH).map fun n=>(n.2.2.2.1,()):=fun h=>by
    rw [ql wH XG q hn,h,List.map_append];rfl
   dsimp only
   refine eF (by omega) ⟨⟨by omega,by omega⟩,af (fun h=>⟨small,rfl,next _ (yes ?_)⟩) fun h2=>af (fun h=>⟨small,rfl,next _ (yes ?_)⟩) fun h3=>af (fun h=>⟨small,rfl,next _ (yes ?_)⟩) fun h4=>⟨rfl,next _ ?_⟩⟩
   · have h:((q.getD n XG).1==2)=true:=h
     unfold wH;rw [h];rfl
   · have h:((q.getD n XG).1==3)=true:=h
     unfold wH;rw [h];simp
   · have h:((q.getD n XG).1==4)=true:=h
     unfold wH;rw [h];simp
   · have h2:((q.getD n XG).1==2)=false:=h2
     have h3:((q.getD n XG).1==3)=false:=h3
     have h4:((q.getD n XG).1==4)=false:=h4
     have:wH (q.getD n XG)=false:=by unfold wH;rw [h2,h3,h4];rfl
     rw [ql wH XG q hn,this,List.map_append];simp
 · subst hJ
   rw [List.take_length]
   have hl:((q.filter wH).map fun n=>(n.2.2.2.1,())).length≤q.length:=by rw [List.length_map];exact List.length_filter_le _ _
   dsimp only
   refine eG (by omega) ⟨by omega,fun r hr=>⟨by have:=hr.1;omega,fun s=>(hr.2 (s,())).trans ?_⟩⟩
   exact ajG (fun n:Sp.bM=>n.2.2.2.1) _ s
theorem ame:aG prog G DJ EY:=by
 refine amf (aC (l:=[(jl, .eff (ay gU) iK),(vY, .pure wK)]) (au ah) (by simp only [List.forall_mem_cons];exact ⟨⟨zD,xY⟩,⟨ZH,Xz⟩,fun x hx=>by cases hx⟩)) (fun ⟨q,_⟩ hp=>⟨((_,()),()),WJ (Sp.JV q) (Nat.le_trans (aAC q) hp)⟩) ?_
 intro q hin hp
 have hp:q.length≤1000:=hp
 refine gQ (fun i (x:Sp.LS)=>(((),i,()),x,())) (fun y=>y.1.2.1) (fun _ _=>rfl) q.length (by omega) (fun n l=>l=((q.take n).filter Sp.qX).map fun n=>(n.2.2.2.1,())) rfl (fun I μ n l hn hJ next=>?_) fun I μ l hJ=>?_
 · subst hJ
   have hl:=Na Sp.qX (fun n=>(n.2.2.2.1,())) q n
   dsimp only
   refine eF (by omega) ⟨⟨by omega,by omega⟩,trivial,af (fun h=>⟨by rw [dU];simp only [List.length_cons,List.length_nil];omega,rfl,next _ ?_⟩) fun h=>⟨rfl,next _ ?_⟩⟩
   · have h:Sp.qX (q.getD n XG)=true:=h
     rw [ql Sp.qX XG q hn,h,List.map_append];rfl
   · have h:Sp.qX (q.getD n XG)=false:=h
     rw [ql Sp.qX XG q hn,h,List.map_append];simp
 · subst hJ
   rw [List.take_length]
   have hl:((q.filter Sp.qX).map fun n=>(n.2.2.2.1,())).length≤q.length:=by rw [List.length_map];exact List.length_filter_le _ _
   dsimp only
   refine eG (by omega) ⟨by omega,fun r hr=>⟨by have:=hr.1;omega,fun s=>(hr.2 (s,())).trans ?_⟩⟩
   exact ajG (fun n:Sp.bM=>n.2.2.2.1) _ s
def MK (a b:List Sp.gy) (x:Sp.Bytes×Unit):Bool:=!decide (Sp.dF a x.1=Sp.dF b x.1)
theorem ay0 (f0 f1:Int) (f2:Bool) (f3:Int) (a:List Sp.gy) (g0 g1:Int) (g2:Bool) (g3:Int) (b:List Sp.gy) (s:Sp.Bytes):
 (s,())∈(Sp.kU a++Sp.kU b).filter (MK a b)↔s∈Sp.oH (f0,f1,f2,f3,a,()) (g0,g1,g2,g3,b,()):=by
 unfold Sp.oH Sp.kU
 rw [List.mem_filter,List.mem_filter,← List.map_append,ajG]
 exact Iff.rfl
theorem ayi (f g:Sp.aQ):(Sp.oH f g).length≤f.2.2.2.2.1.length+g.2.2.2.2.1.length:=by
 unfold Sp.oH
 refine Nat.le_trans (List.length_filter_le _ _) ?_
 rw [List.length_map,List.length_append];exact Nat.le_refl _
theorem aeM:aG prog G xR Au:=by
 refine aeN (aC (l:=[(jl, .eff (ay gU) iK),(qN, .pure pG),(uX, .eff (ay nV) xE)]) (au ah) (by simp only [List.forall_mem_cons];exact ⟨⟨zD,xY⟩,⟨Tn,PS⟩,⟨abD,Z9⟩,fun x hx=>by cases hx⟩)) (fun ⟨f,g,_⟩ hp=>⟨((_,()),()),WJ (Sp.oH f g) (Nat.le_trans (ayi f g) hp.2.2)⟩) ?_
 intro a0 a1 a2 a3 a b0 b1 b2 b3 b hin hp
 obtain ⟨ha,hb,hab⟩:a.length≤1000∧b.length≤1000∧a.length+b.length≤1000:=hp
 refine ⟨ha,?_⟩
 rintro ⟨⟨r0,⟨⟩⟩,⟨⟩⟩ e0
 have e0:r0=Sp.kU a:=e0
 refine ⟨hb,?_⟩
 rintro ⟨⟨r1,⟨⟩⟩,⟨⟩⟩ e1
 have e1:r1=Sp.kU b:=e1
 subst e0 e1
 have hL:(Sp.kU a++Sp.kU b).length=a.length+b.length:=by rw [List.length_append];unfold Sp.kU;rw [List.length_map,List.length_map]
 refine ⟨by rw [dU];rw [List.length_append] at hL;dsimp only;omega,?_⟩
 dsimp only
 generalize hLL:Sp.kU a++Sp.kU b=L at hL
 refine gQ (fun i (x:Sp.LS)=>(((),i,()),x,())) (fun y=>y.1.2.1) (fun _ _=>rfl) L.length (by omega) (fun n l=>l=(L.take n).filter (MK a b)) rfl (fun I μ n l hn hJ next=>?_) fun I μ l hJ=>?_
 · subst hJ
   have hl:((L.take n).filter (MK a b)).length≤n:=by
    have:=List.length_filter_le (MK a b) (L.take n)
    rw [List.length_take] at this;omega
   have step:=ql (MK a b) ([],()) L hn
   dsimp only
   rw [eq3,Int.toNat_natCast]
   refine eF (by omega) ⟨⟨by omega,by omega⟩,by omega,trivial,trivial,af (fun h=>⟨by rw [dU];simp only [List.length_cons,List.length_nil];omega,rfl,next _ ?_⟩) fun h=>⟨rfl,next _ ?_⟩⟩
   · have h:MK a b (L.getD n ([],()))=true:=h
     rw [step,h];rfl
   · have h:MK a b (L.getD n ([],()))=false:=h
     rw [step,h];simp
 · subst hJ
   rw [List.take_length]
   have hl:=List.length_filter_le (MK a b) L
   dsimp only
   refine eG (by omega) ⟨by omega,fun r hr=>⟨by have:=hr.1;omega,fun s=>(hr.2 (s,())).trans ?_⟩⟩
   rw [← hLL]
   exact ay0 _ _ _ _ a _ _ _ _ b s
end Go.Proofs.Tryz
