import Derived.Test.YtlbkigkbmeckbaaGreatP28
namespace Go.Proofs.Tryz
open Go Go.Fw Go.IntWalk
theorem VH {c:Sp.jB} (h:Sp.ast c) (id:Int):(Sp.au (Sp.aY c) id).1.2.2.2.2.1.length≤400:=by
 rcases Sp.kP c.2.1 id with ⟨e,_⟩|⟨n,hn,e,_,_⟩
 · have e':Sp.au (Sp.aY c) id=(Sp.Ov,false):=by
    show (bif decide (Sp.place c.2.1 id<0) then _ else _)=_
    rw [e];rfl
   rw [e'];exact Nat.zero_le _
 · have e':Sp.au (Sp.aY c) id=(Sp.fileAt c.2.1 n,true):=by
    show (bif decide (Sp.place c.2.1 id<0) then _ else (Sp.fileAt c.2.1 (Sp.place c.2.1 id).toNat,true))=_
    rw [e,decide_eq_false (by omega)];rfl
   rw [e'];exact h _ (getD_mem hn)
theorem arf {c:Sp.jB} {id:Int} (h:(Sp.au (Sp.aY c) id).2=true):(Sp.au (Sp.aY c) id).1.1=id:=by
 rcases Sp.kP c.2.1 id with ⟨e,_⟩|⟨n,hn,e,hi,_⟩
 · have e':Sp.au (Sp.aY c) id=(Sp.Ov,false):=by
    show (bif decide (Sp.place c.2.1 id<0) then _ else _)=_
    rw [e];rfl
   rw [e'] at h;cases h
 · have e':Sp.au (Sp.aY c) id=(Sp.fileAt c.2.1 n,true):=by
    show (bif decide (Sp.place c.2.1 id<0) then _ else (Sp.fileAt c.2.1 (Sp.place c.2.1 id).toNat,true))=_
    rw [e,decide_eq_false (by omega)];rfl
   rw [e'];exact hi
theorem Gq {c c':Sp.jB} {g:Sp.aK} {df:List Sp.IX} {b ok:Bool} (hb:b=true) (h:Sp.updated c g c' df ok):Sp.changed c g b c' ok:=by
 obtain ⟨h1,h2,h3⟩:=asu h
 exact ⟨by rw [hb];exact h1,fun hok=>⟨(h2 hok).1,(h2 hok).2.1,(h2 hok).2.2.1⟩,fun hok=>(h3 hok).1⟩
theorem lM {c z:Sp.jB} {g:Sp.aK} {b:Bool} (hb:(b&&(Sp.iH c&&(Sp.aP (Sp.aY c) g).2))=false) (e:z=c):Sp.changed c g b z false:=⟨hb.symm,fun h=>(by cases h),fun _=>e⟩
theorem J5 (c:Sp.jB) (g:Sp.aK) (b:Bool):∃ c',Sp.changed c g b c' (b&&(Sp.iH c&&(Sp.aP (Sp.aY c) g).2)):=by
 obtain ⟨c',df,h⟩:=Q5 c g
 cases b with
 |true=>exact ⟨c',Gq rfl h⟩
 |false=>exact ⟨c,lM rfl rfl⟩
theorem aex {c c1 c2:Sp.jB} {g:Sp.aK} {b ok1 ok2:Bool} (h1:Sp.changed c g b c1 ok1) (h2:Sp.changed c g b c2 ok2):c1=c2∧ok1=ok2:=by
 obtain ⟨a1,a2,a3⟩:=h1
 obtain ⟨b1,b2,b3⟩:=h2
 have e:=a1.trans b1.symm
 refine ⟨?_,e⟩
 cases h:ok1 with
 |true=>
  obtain ⟨x1,x2,x3⟩:=a2 h
  obtain ⟨y1,y2,y3⟩:=b2 (e.symm.trans h)
  exact auB x3 y3 (x1.trans y1.symm) (x2.trans y2.symm)
 |false=>exact (a3 h).trans (b3 (e.symm.trans h)).symm
theorem aey {c:Sp.jB} (h:Sp.uF c) (id:Int) (w:Sp.Bytes):Sp.iy c∧Sp.bW (Sp.named (Sp.au (Sp.aY c) id).1 w)∧Sp.JS c∧Sp.Ig (Sp.named (Sp.au (Sp.aY c) id).1 w):=by
 have h4:=VH h.2.1 id
 have h5:=aes (Sp.au (Sp.aY c) id).1.2.2.2.2.1 [110] 2 0 w
 exact ⟨h.1,(show (Sp.fH (Sp.au (Sp.aY c) id).1.2.2.2.2.1 [110] 2 0 w).length≤1000 by omega),Sp.apO h.2.1,(show (Sp.fH (Sp.au (Sp.aY c) id).1.2.2.2.2.1 [110] 2 0 w).length≤500 by omega)⟩
theorem aaS {c:Sp.jB} (h:Sp.uF c) (id n:Int):Sp.iy c∧Sp.bW (Sp.tC (Sp.au (Sp.aY c) id).1 n)∧Sp.JS c∧Sp.Ig (Sp.tC (Sp.au (Sp.aY c) id).1 n):=by
 have h4:=VH h.2.1 id
 exact ⟨h.1,(show (Sp.au (Sp.aY c) id).1.2.2.2.2.1.length≤1000 by omega),Sp.apO h.2.1,(show (Sp.au (Sp.aY c) id).1.2.2.2.2.1.length≤500 by omega)⟩
theorem apP {f g:Sp.aK} {w:Sp.Bytes} (h:g.1=f.1∧g.2.1=f.2.1∧g.2.2.1=f.2.2.1∧g.2.2.2.1=f.2.2.2.1∧g.2.2.2.2.1=Sp.fH f.2.2.2.2.1 [110] 2 0 w):g=Sp.named f w:=by
 obtain ⟨h1,h2,h3,h4,h5⟩:=h
 obtain ⟨a,b,c,d,e,_⟩:=g
 obtain rfl:a=f.1:=h1
 obtain rfl:b=f.2.1:=h2
 obtain rfl:c=f.2.2.1:=h3
 obtain rfl:d=f.2.2.2.1:=h4
 obtain rfl:e=Sp.fH f.2.2.2.2.1 [110] 2 0 w:=h5
 rfl
theorem aaT:ai prog G oW.e:=by
 refine aaU (aj ah ⟨KO,ai7,X9,zU,OL,GX,trivial⟩) (fun ⟨c,u,id,w,_⟩ _=>by obtain ⟨c',h⟩:=J5 c (Sp.named (Sp.au (Sp.aY c) id).1 w) (Sp.gJ c u id);exact ⟨((((c'.1,c'.2.1,c'.2.2.1,c'.2.2.2.1,c'.2.2.2.2.1,()),(Sp.gJ c u id&&(Sp.iH c&&(Sp.aP (Sp.aY c) (Sp.named (Sp.au (Sp.aY c) id).1 w)).2)),()),())),h⟩) ?_
 intro a l nx d r u id w hin hp
 dsimp only [oW] at hp ⊢
 have hp:Sp.uF (a,l,nx,d,r,()):=hp
 refine ⟨hp.1.1,af (fun h1=>⟨hp.1,fun r6 Jm=>lM ?_ Jm⟩) fun h1=>⟨trivial,af (fun h2=>⟨hp.1,fun r8 OO=>lM ?_ OO⟩) fun h2=>⟨trivial,Nat.le_trans (VH hp.2.1 id) (by decide),fun r9 hr9=>?_⟩⟩⟩
 · show (((Sp.au (a,l,nx,()) id).2&&_)&&_)=false
   rw [fO h1];rfl
 · show ((_&&Sp.mM (Sp.au (a,l,nx,()) id).1 u)&&_)=false
   rw [show Sp.mM (Sp.au (a,l,nx,()) id).1 u=false from fO h2,Bool.and_false,Bool.false_and]
 · have e:=apP (f:=(Sp.au (a,l,nx,()) id).1) (g:=r9.1.1) (w:=w) hr9
   rw [e]
   refine ⟨aey hp id w,fun r10 Vy=>Gq (df:=r10.1.2.1) ?_ Vy⟩
   show ((Sp.au (a,l,nx,()) id).2&&Sp.mM (Sp.au (a,l,nx,()) id).1 u)=true
   rw [dI h1,show Sp.mM (Sp.au (a,l,nx,()) id).1 u=true from dI h2];rfl
theorem aaV:ai prog G oZ.e:=by
 refine aaW (aj ah ⟨KP,Q7,uT,Qh,IY,trivial⟩) (fun ⟨c,u,id,w,_⟩ _=>by obtain ⟨c',h⟩:=J5 c (Sp.named (Sp.au (Sp.aY c) id).1 w) (Sp.gJ c u id);exact ⟨((((c'.1,c'.2.1,c'.2.2.1,c'.2.2.2.1,c'.2.2.2.2.1,()),(Sp.gJ c u id&&(Sp.iH c&&(Sp.aP (Sp.aY c) (Sp.named (Sp.au (Sp.aY c) id).1 w)).2)),()),())),h⟩) ?_
 intro a l nx d r u id w hin hp
 dsimp only [oZ] at hp ⊢
 have hp:Sp.uF (a,l,nx,d,r,()):=hp
 refine ⟨hp.1,fun r0 hr0=>⟨hp.1,trivial,Nat.le_trans (VH hp.2.1 id) (by decide),fun r7 hr7=>?_⟩⟩
 have e:=apP (f:=(Sp.au (Sp.aY (a,l,nx,d,r,())) id).1) (g:=r7.1.1) (w:=w) hr7
 rw [e]
 refine ⟨aey hp id w,fun r8 OO=>?_⟩
 have u8:=OO.1
 refine af (fun h=>lM ?_ hr0) fun h=>af (fun h2=>lM ?_ hr0) fun h2=>?_
 · have h:=fO h
   cases hm:Sp.gJ (a,l,nx,d,r,()) u id with
   |false=>rfl
   |true=>rw [hm,Bool.true_and] at h;rw [h];rfl
 · rw [← u8,show r8.1.2.2.1=false from fO h2,Bool.and_false]
 · have h:=dI h
   rw [Bool.and_eq_true] at h
   have:=Gq h.1 OO
   rw [show r8.1.2.2.1=true from dI h2] at this
   exact this
theorem aaX:ai prog G o5.e:=by
 refine aaY (aj ah ⟨KO,zU,ai5,OL,GX,trivial⟩) (fun ⟨c,u,id,n,_⟩ _=>by obtain ⟨c',h⟩:=J5 c (Sp.tC (Sp.au (Sp.aY c) id).1 n) (Sp.gJ c u id&&Sp.tZ c u n);exact ⟨((((c'.1,c'.2.1,c'.2.2.1,c'.2.2.2.1,c'.2.2.2.2.1,()),((Sp.gJ c u id&&Sp.tZ c u n)&&(Sp.iH c&&(Sp.aP (Sp.aY c) (Sp.tC (Sp.au (Sp.aY c) id).1 n)).2)),()),())),h⟩) ?_
 intro a l nx d r u id n hin hp
 dsimp only [o5] at hp ⊢
 have hp:Sp.uF (a,l,nx,d,r,()):=hp
 have ew:Sp.gJ (a,l,nx,d,r,()) u id=((Sp.au (a,l,nx,()) id).2&&Sp.mM (Sp.au (a,l,nx,()) id).1 u):=rfl
 have el:Sp.tZ (a,l,nx,d,r,()) u n=(n==0||((Sp.au (a,l,nx,()) n).2&&Sp.xB (Sp.au (a,l,nx,()) n).1 u)):=rfl
 refine ⟨hp.1.1,hp.1.1,fun _=>(Sp.gJ (a,l,nx,d,r,()) u id&&Sp.tZ (a,l,nx,d,r,()) u n)=true,af (fun h1=>⟨hp.1,fun r6 Jm=>lM ?_ Jm⟩) fun h1=>⟨trivial,af (fun h2=>⟨hp.1,fun r8 OO=>lM ?_ OO⟩) fun h2=>af (fun h3=>af (fun h4=>⟨hp.1,fun r8 OO=>lM ?_ OO⟩) fun h4=>⟨trivial,af (fun h5=>⟨hp.1,fun r8 OO=>lM ?_ OO⟩) fun h5=>⟨rfl,?_⟩⟩) fun h3=>⟨rfl,?_⟩⟩,fun _ hJ=>⟨aaS hp id n,fun LV axO=>Gq (df:=LV.1.2.1) hJ axO⟩⟩
 · rw [ew,fO h1];rfl
 · rw [ew,show Sp.mM (Sp.au (a,l,nx,()) id).1 u=false from fO h2,Bool.and_false,Bool.false_and,Bool.false_and]
 · rw [el,show (n==0)=false by simpa using h3,fO h4,Bool.false_and,Bool.or_false,Bool.and_false,Bool.false_and]
 · rw [el,show (n==0)=false by simpa using h3,show Sp.xB (Sp.au (a,l,nx,()) n).1 u=false from fO h5,Bool.and_false,Bool.or_false,Bool.and_false,Bool.false_and]
 · show (_&&_)=true
   rw [ew,el,dI h1,show Sp.mM (Sp.au (a,l,nx,()) id).1 u=true from dI h2,dI h4,show Sp.xB (Sp.au (a,l,nx,()) n).1 u=true from dI h5];simp
 · show (_&&_)=true
   rw [ew,el,dI h1,show Sp.mM (Sp.au (a,l,nx,()) id).1 u=true from dI h2,show (n==0)=true by simpa using h3];rfl
theorem aaZ:ai prog G o6.e:=by
 refine aa0 (aj ah ⟨Qe,KP,DR,Qh,IY,trivial⟩) (fun ⟨c,u,id,n,_⟩ _=>by obtain ⟨c',h⟩:=J5 c (Sp.tC (Sp.au (Sp.aY c) id).1 n) (Sp.gJ c u id&&Sp.tZ c u n);exact ⟨((((c'.1,c'.2.1,c'.2.2.1,c'.2.2.2.1,c'.2.2.2.2.1,()),((Sp.gJ c u id&&Sp.tZ c u n)&&(Sp.iH c&&(Sp.aP (Sp.aY c) (Sp.tC (Sp.au (Sp.aY c) id).1 n)).2)),()),())),h⟩) ?_
 intro a l nx d r u id n hin hp
 dsimp only [o6] at hp ⊢
 have hp:Sp.uF (a,l,nx,d,r,()):=hp
 have el:Sp.tZ (a,l,nx,d,r,()) u n=(n==0||((Sp.au (a,l,nx,()) n).2&&Sp.xB (Sp.au (a,l,nx,()) n).1 u)):=rfl
 refine ⟨hp.1,fun r0 hr0=>⟨hp.1,hp.1.1,aaS hp id n,fun r8 OO=>?_⟩⟩
 have u8:r8.1.2.2.1=(Sp.iH (a,l,nx,d,r,())&&(Sp.aP (Sp.aY (a,l,nx,d,r,())) (Sp.tC (Sp.au (Sp.aY (a,l,nx,d,r,())) id).1 n)).2):=OO.1
 have fin:Sp.gJ (a,l,nx,d,r,()) u id=true→Sp.tZ (a,l,nx,d,r,()) u n=true→r8.1.2.2.1=true→Sp.changed (a,l,nx,d,r,()) (Sp.tC (Sp.au (Sp.aY (a,l,nx,d,r,())) id).1 n) (Sp.gJ (a,l,nx,d,r,()) u id&&Sp.tZ (a,l,nx,d,r,()) u n) r8.1.1 true:=fun k1 k2 k3=>by
  have:=Gq (b:=Sp.gJ (a,l,nx,d,r,()) u id&&Sp.tZ (a,l,nx,d,r,()) u n) (by rw [k1,k2];rfl) OO
  rw [k3] at this
  exact this
 refine af (fun h=>lM ?_ hr0) fun h=>af (fun h2=>lM ?_ hr0) fun h2=>af (fun h3=>af (fun h4=>lM ?_ hr0) fun h4=>⟨trivial,af (fun h5=>lM ?_ hr0) fun h5=>fin ?_ ?_ ?_⟩) fun h3=>fin ?_ ?_ ?_
 · have h:=fO h
   cases hm:Sp.gJ (a,l,nx,d,r,()) u id with
   |false=>rfl
   |true=>rw [hm,Bool.true_and] at h;rw [h,Bool.false_and,Bool.and_false]
 · rw [← u8,show r8.1.2.2.1=false from fO h2,Bool.and_false]
 · rw [el,show (n==0)=false by simpa using h3,fO h4,Bool.false_and,Bool.or_false,Bool.and_false,Bool.false_and]
 · rw [el,show (n==0)=false by simpa using h3,show Sp.xB (Sp.au (a,l,nx,()) n).1 u=false from fO h5,Bool.and_false,Bool.or_false,Bool.and_false,Bool.false_and]
 · have h:=dI h;rw [Bool.and_eq_true] at h;exact h.1
 · rw [el,dI h4,show Sp.xB (Sp.au (a,l,nx,()) n).1 u=true from dI h5];simp
 · exact dI h2
 · have h:=dI h;rw [Bool.and_eq_true] at h;exact h.1
 · rw [el,show (n==0)=true by simpa using h3];rfl
 · exact dI h2
theorem Rh:ai prog G kG.e:=by
 refine Ri (aj ah ⟨jK,Qg,Tj,trivial⟩) (fun _ _=>by obtain ⟨c,h⟩:=any_some;exact ⟨((((c.1,c.2.1,c.2.2.1,c.2.2.2.1,c.2.2.2.2.1,()),0,0,[],()),())),h⟩) ?_
 intro code hin hp
 dsimp only [kG] at hp ⊢
 exact ⟨hp,fun r0 hr0=>⟨by rw [hr0];exact Int.le_refl _,fun r1 hr1=>⟨⟨hr1.1,by simp⟩,fun r2 hr2=>hr1.2⟩⟩⟩
theorem Rj:ai prog G kH.e:=by
 refine Rk (aj ah ⟨WZ,Qg,Tj,trivial⟩) (fun _ _=>by obtain ⟨c,h⟩:=any_some;exact ⟨((((c.1,c.2.1,c.2.2.1,c.2.2.2.1,c.2.2.2.2.1,()),0,0,0,()),())),h⟩) ?_
 intro code hin hp
 dsimp only [kH] at hp ⊢
 exact ⟨hp,fun r0 hr0=>⟨by rw [hr0];exact Int.le_refl _,fun r1 hr1=>⟨hr1.1,fun r2 hr2=>hr1.2⟩⟩⟩
theorem W9 {c x:Sp.jB} {g:Sp.aK} {b:Bool} (h:Sp.changed c g b x true):b=true∧Sp.au (Sp.aY x) g.1=(g,true)∧Sp.iH x=true∧Sp.jW x=Sp.jW c∧Sp.aY x=(Sp.aP (Sp.aY c) g).1:=by
 obtain ⟨h1,h2,_⟩:=h
 obtain ⟨k1,k2,k3⟩:=h2 rfl
 have h1:=h1.symm
 rw [Bool.and_eq_true,Bool.and_eq_true] at h1
 refine ⟨h1.1,?_,k3,k2,k1⟩
 rw [k1];exact (Sp.an0 h1.2.2).1
theorem aez {n:Sp.Bytes} {k i:Int} {s:Sp.Bytes}:∀ (l r:List Sp.dR),(∀ a∈l,a.1≠n)→Sp.bM (l++(n,k,i,s,())::r) n=(k,i,s,())
 |[],r,_=>by show (bif n==n then _ else _)=_;rw [beq_self_eq_true];rfl
 |x::l,r,h=>by
  show (bif x.1==n then _ else _)=_
  rw [beq_eq_false_iff_ne.2 (h x List.mem_cons_self)]
  exact aez l r fun a ha=>h a (List.mem_cons_of_mem _ ha)
theorem asv (f:Sp.aK) (w:Sp.Bytes):Sp.baseName (Sp.named f w)=w:=by
 have e:Sp.bM (Sp.fH f.2.2.2.2.1 [110] 2 0 w) [110]=(2,0,w,()):=by
  show Sp.bM (Sp.Fp (f.2.2.2.2.1.filter (Sp.jy [110])) ([110],2,0,w,())) [110]=_
  unfold Sp.Fp
  refine aez _ _ fun a ha=>?_
  have:=(List.mem_filter.1 (Sp.aa1 ha).2).2
  unfold Sp.jy at this
  simpa using this
 show (bif (Sp.bM (Sp.fH f.2.2.2.2.1 [110] 2 0 w) [110]).1==2 then (Sp.bM (Sp.fH f.2.2.2.2.1 [110] 2 0 w) [110]).2.2.1 else _)=_
 rw [e];rfl
theorem apQ {T:Prop} {b:Bool} (h:b=true) (ht:T):bif b then T else ((false,()):Bool×Unit)=(true,()):=by rw [h];exact ht
theorem aga:ai prog G EF.e:=by
 refine agb (aj ah ⟨Qe,LM,OJ,af8,alQ,X3,aaZ,aaX,Rj,aaV,aaT,Rh,aqt,trivial⟩) ?_
 intro code hin hp
 dsimp only [EF] at hp ⊢
 refine ⟨trivial,af (fun _=>rfl) fun hb=>?_⟩
 have hc:code.length≤1048576:=by have:=iw hb;omega
 refine ⟨hc,?_⟩
 rintro ⟨⟨c,u,id,w,⟨⟩⟩,⟨⟩⟩ hany
 have hany:Sp.uF c:=hany
 refine ⟨hany,?_⟩
 rintro ⟨⟨x,ok,⟨⟩⟩,⟨⟩⟩ hx
 have hx:Sp.changed c (Sp.named (Sp.au (Sp.aY c) id).1 w) (Sp.gJ c u id) x ok:=hx
 refine ⟨hany,?_⟩
 rintro ⟨⟨x2,ok2,⟨⟩⟩,⟨⟩⟩ hx2
 obtain ⟨rfl,rfl⟩:=aex hx hx2
 refine ⟨hc,?_⟩
 rintro ⟨⟨a,v,k,n,⟨⟩⟩,⟨⟩⟩ ach
 have ach:Sp.uF a:=ach
 refine ⟨ach,?_⟩
 rintro ⟨⟨y,put,⟨⟩⟩,⟨⟩⟩ hy
 have hy:Sp.changed a (Sp.tC (Sp.au (Sp.aY a) k).1 n) (Sp.gJ a v k&&Sp.tZ a v n) y put:=hy
 refine ⟨ach,?_⟩
 rintro ⟨⟨y2,ayS,⟨⟩⟩,⟨⟩⟩ hy2
 obtain ⟨rfl,rfl⟩:=aex hy hy2
 refine ⟨fun _=>True,?_,fun _ _=>?_⟩
 · dsimp only
   rw [show (ok==ok)=true from beq_self_eq_true ok,decide_eq_true (rfl:x=x),show (put==put)=true from beq_self_eq_true put,decide_eq_true (rfl:y=y)]
   exact ⟨trivial,trivial,rfl,trivial⟩
 · have tail:bif ok then ((true,()):Bool×Unit)=(true,()) else True∧((decide (x=c),()):Bool×Unit)=(true,()):=by
    cases ok with
    |true=>rfl
    |false=>exact ⟨trivial,by rw [decide_eq_true (hx.2.2 rfl)]⟩
   have mid:bif !put then (bif ok then ((true,()):Bool×Unit)=(true,()) else True∧((decide (x=c),()):Bool×Unit)=(true,())) else Sp.bG (Sp.aY y)∧bif (Sp.au (Sp.aY y) k).1.2.2.2.1==n then
    (bif n==0 then (bif ok then ((true,()):Bool×Unit)=(true,()) else True∧((decide (x=c),()):Bool×Unit)=(true,())) else Sp.bG (Sp.aY a)∧True∧bif Sp.xB (Sp.au (Sp.aY a) n).1 v then
      (bif ok then ((true,()):Bool×Unit)=(true,()) else True∧((decide (x=c),()):Bool×Unit)=(true,())) else ((false,()):Bool×Unit)=(true,())) else ((false,()):Bool×Unit)=(true,()):=by
    cases put with
    |false=>exact tail
    |true=>
     obtain ⟨k1,k2,k3,k4,k5⟩:=W9 hy
     rw [Bool.and_eq_true] at k1
     have hf:(Sp.au (Sp.aY a) k).2=true:=by
      have:=k1.1
      unfold Sp.gJ at this
      rw [Bool.and_eq_true] at this;exact this.1
     have hid:(Sp.tC (Sp.au (Sp.aY a) k).1 n).1=k:=arf hf
     rw [hid] at k2
     have sy:Sp.bG (Sp.aY y):=(anf k3 (by rw [k4];exact ach.1.2.1)).1
     refine ⟨sy,apQ (by rw [k2];exact beq_self_eq_true n) ?_⟩
     refine af (fun _=>tail) fun h0=>⟨ach.1.1,trivial,apQ ?_ tail⟩
     have:=k1.2
     unfold Sp.tZ at this
     rw [h0,Bool.false_or,Bool.and_eq_true] at this
     exact this.2
   cases ok with
   |false=>exact mid
   |true=>
    obtain ⟨k1,k2,k3,k4,k5⟩:=W9 hx
    have hw:=k1
    unfold Sp.gJ at hw
    rw [Bool.and_eq_true] at hw
    have hid:(Sp.named (Sp.au (Sp.aY c) id).1 w).1=id:=arf hw.1
    rw [hid] at k2
    have sx:=anf k3 (by rw [k4];exact hany.1.2.1)
    refine ⟨sx.1,trivial,apQ ?_ ⟨hany.1.1,trivial,apQ hw.2 ⟨sx,apQ k3 mid⟩⟩⟩
    show (Sp.baseName (Sp.au (Sp.aY x) id).1==w)=true
    rw [k2,asv];exact beq_self_eq_true w
end Go.Proofs.Tryz
