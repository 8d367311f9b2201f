import Derived.Test.YtkgkfdphbkfjnaaGreatP24
namespace Go.Proofs.Tryz
open Go Go.Fw Go.IntWalk Sp
theorem YF:OK Ag.e:=by
 refine XA.ok mixed (au [oM.e,kW.e,qg.e,lK.e] ⟨D7,vY,CZ,vF,trivial⟩) aaq (fun ⟨s,f,_⟩ _=>⟨((((aH s f).1.1,(aH s f).1.2.1,(aH s f).1.2.2.1,()),(aH s f).2.1,(aH s f).2.2,()),()),⟨rfl,rfl,rfl,rfl,rfl⟩⟩) (by kernel_rfl) (show ∀ s0 s1 s2 f0 f1 f2 f3 f4,Ag.goal (YG s0 s1 s2 f0 f1 f2 f3 f4) ((s0,s1,s2,()),(f0,f1,f2,f3,f4,()),()) from ?_)
 intro s0 s1 s2 f0 f1 f2 f3 f4 hin hp
 dsimp only [Ag] at hp ⊢
 refine ⟨hp.1,?_⟩
 rintro ⟨⟨⟨a,l,nx,⟨⟩⟩,⟨⟩⟩,⟨⟩⟩ e
 obtain ⟨rfl,rfl,rfl⟩:a=s0∧l=s1∧nx=s2:=by simpa using e
 have hs:l.length≤1000:=hp.1.2.1
 have no:¬ (ax (a,l,nx,())=true∧l.length<12∧dm a (nx,f1,f2,f3,f4,())=true)→aH (a,l,nx,()) (f0,f1,f2,f3,f4,())=((a,l,nx,()),0,false):=fun h=>by
  rcases jD (a,l,nx,()) (f0,f1,f2,f3,f4,()) with ⟨e,_⟩|⟨h1,h2,h3,_⟩
  · exact e
  · exact (h ⟨h1,h2,h3⟩).elim
 refine ⟨hp.2,trivial,af (fun h1=>?_) fun h1=>af (fun h2=>?_) fun h2=>⟨trivial,af (fun h3=>?_) fun h3=>?_⟩⟩
 · have:=no fun h=>by have h1:=dS h1;have:=h.1;rw [show ax (a,l,nx,())=false from h1] at this;cases this
   dsimp only
   rw [this];exact ⟨rfl,rfl,rfl,rfl,rfl⟩
 · have:=no fun h=>by have h2:(l.length:Int)≥12:=fJ h2;omega
   dsimp only
   rw [this];exact ⟨rfl,rfl,rfl,rfl,rfl⟩
 · have:=no fun h=>by have h3:=dS h3;have:=h.2.2;rw [show dm a (nx,f1,f2,f3,f4,())=false from h3] at this;cases this
   dsimp only
   rw [this];exact ⟨rfl,rfl,rfl,rfl,rfl⟩
 · have g1:ax (a,l,nx,())=true:=bU h1
   have g2:l.length<12:=by have h2:¬ (l.length:Int)≥12:=fZ h2;omega
   have g3:dm a (nx,f1,f2,f3,f4,())=true:=bU h3
   rcases jD (a,l,nx,()) (f0,f1,f2,f3,f4,()) with ⟨_,e⟩|⟨_,_,_,e⟩
   · exact (e ⟨g1,g2,g3⟩).elim
   · have hnx:=(kz.1 g1).2.2.2
     have w:IntKind.i64.wrap (nx+1)=nx+1:=fF _ (by have h5:nx≤61:=hnx.2;have h6:1≤nx:=hnx.1;omega)
     refine ⟨by rw [bW];simp only [List.length_cons,List.length_nil];omega,?_⟩
     dsimp only
     rw [e,w];exact ⟨rfl,rfl,rfl,rfl,rfl⟩
theorem LD:OK pU.e:=by
 refine XA.ok mixed (au [] trivial) Nh (fun ⟨s,i,j,_⟩ _=>⟨((s.take i.toNat++s.drop j.toNat,()),()),rfl⟩) (by kernel_rfl) (show ∀ s i j,pU.goal (LG s i j) (s,i,j,()) from ?_)
 intro s i j hin hp
 dsimp only [pU] at hp ⊢
 obtain ⟨h0,h1,h2⟩:0≤i∧i≤j∧j≤(s.length:Int):=hp
 obtain ⟨a,rfl⟩:∃ a:Nat,i=a:=⟨i.toNat,by omega⟩
 obtain ⟨b,rfl⟩:∃ b:Nat,j=b:=⟨j.toNat,by omega⟩
 refine ⟨⟨h0,h1,h2,Int.le_refl _⟩,af (fun h=>?_) fun h=>?_⟩
 · have h:(a:Int)=b:=by simpa using h
   have:a=b:=by omega
   subst this
   show s=s.take a++s.drop a
   rw [List.take_append_drop]
 · have h:¬ (a:Int)=b:=by simpa using h
   have hb:b≤s.length:=by omega
   have hab:a<b:=by omega
   simp only [Int.toNat_natCast,Nat.sub_zero,Nat.zero_add]
   have hn:(List.take (s.length-b) (List.drop b s)).length=s.length-b:=by rw [List.length_take,List.length_drop];omega
   have hd:List.take (s.length-b) (List.drop b s)=List.drop b s:=List.take_of_length_le (by rw [List.length_drop];omega)
   have l1:(bV s a (List.take (s.length-b) (List.drop b s))).length=s.length:=JU (by rw [hn];omega)
   have l2:(bV (bV s a (List.take (s.length-b) (List.drop b s))) (a+(s.length-b)) (List.replicate (s.length-(a+(s.length-b))) ((0:Int),(0:Int),false,(0:Int),([]:List fD),()))).length=s.length:=by
    rw [JU (by rw [l1,List.length_replicate];omega),l1]
   rw [l1,l2]
   refine ⟨by omega,⟨by omega,by omega⟩,⟨by omega,by omega⟩,⟨by omega,by omega⟩,⟨by omega,by omega,by omega⟩,by omega,⟨by omega,by omega⟩,?_⟩
   show List.take (a+(s.length-b)) (bV _ _ _)=s.take a++s.drop b
   rw [PY (Nat.le_refl _) (by rw [l1];omega),ajt (by rw [hn]) (by omega),hd]
theorem YH:OK Ah.e:=by
 refine XA.ok mixed (au [pU.e,kW.e,xZ.e,lK.e] ⟨LD,vY,JY,vF,trivial⟩) aar (fun ⟨s,id,_⟩ _=>⟨((((aX s id).1.1,(aX s id).1.2.1,(aX s id).1.2.2.1,()),(aX s id).2,()),()),⟨rfl,rfl,rfl,rfl⟩⟩) (by kernel_rfl) (show ∀ s0 s1 s2 id,Ah.goal (YI s0 s1 s2 id) ((s0,s1,s2,()),id,()) from ?_)
 intro s0 s1 s2 id hin hp
 dsimp only [Ah] at hp ⊢
 refine ⟨hp,?_⟩
 rintro ⟨⟨⟨a,l,nx,⟨⟩⟩,⟨⟩⟩,⟨⟩⟩ e
 obtain ⟨rfl,rfl,rfl⟩:a=s0∧l=s1∧nx=s2:=by simpa using e
 have hs:l.length≤1000:=hp.2.1
 have no:¬ (ax (a,l,nx,())=true∧0≤Sp.place l id)→aX (a,l,nx,()) id=((a,l,nx,()),false):=fun h=>by
  rcases lU (a,l,nx,()) id with ⟨e,_⟩|⟨n,hn,h1,h2,_⟩
  · exact e
  · exact (h ⟨h2,by have h1:Sp.place l id=n:=h1;omega⟩).elim
 refine ⟨trivial,trivial,af (fun h1=>?_) fun h1=>af (fun h2=>?_) fun h2=>?_⟩
 · have:=no fun h=>by have h1:=dS h1;have:=h.1;rw [show ax (a,l,nx,())=false from h1] at this;cases this
   dsimp only
   rw [this];exact ⟨rfl,rfl,rfl,rfl⟩
 · have:=no fun h=>by have h2:Sp.place l id<0:=fJ h2;omega
   dsimp only
   rw [this];exact ⟨rfl,rfl,rfl,rfl⟩
 · have g1:ax (a,l,nx,())=true:=bU h1
   have g2:0≤Sp.place l id:=by have h2:¬ Sp.place l id<0:=fZ h2;omega
   rcases lU (a,l,nx,()) id with ⟨_,e⟩|⟨n,hn,hpl,_,e⟩
   · exact (e ⟨g1,g2⟩).elim
   · have hn:n<l.length:=hn
     have hpl:Sp.place l id=n:=hpl
     have w:IntKind.i64.wrap ((n:Int)+1)=((n+1:Nat):Int):=fF _ (by omega)
     dsimp only
     rw [hpl,e,w,Int.toNat_natCast,Int.toNat_natCast]
     refine ⟨⟨by omega,by omega,by omega⟩,?_⟩
     rintro ⟨⟨x,⟨⟩⟩,⟨⟩⟩ e2
     have e2:x=l.take n++l.drop (n+1):=e2
     subst e2
     exact ⟨rfl,(List.eraseIdx_eq_take_drop_succ ..).symm,rfl,rfl⟩
theorem acP:OK Eg.e:=by
 refine PA.ok mixed (au [yT.e] ⟨OJ,trivial⟩) H0 (by kernel_rfl) (show ∀ a0 a1 a2 b0 b1 b2,Eg.goal (acQ a0 a1 a2 b0 b1 b2) ((a0,a1,a2,()),(b0,b1,b2,()),()) from ?_)
 intro a0 a1 a2 b0 b1 b2 hin hp
 dsimp only [Eg] at hp ⊢
 refine af (fun h0=>⟨trivial,af (fun h1=>⟨trivial,?_⟩) fun h1=>?_⟩) fun h0=>?_
 all_goals refine congrArg (·,()) (Bool.eq_iff_iff.2 ?_)
 · simp [beq_iff_eq.1 h0,fJ h1]
 · simp [fZ h1]
 · simp [show a0≠b0 by simpa using h0]
theorem aas:OK CJ.e:=by
 refine PA.ok mixed (au [Eg.e] ⟨acP,trivial⟩) acR (by kernel_rfl) (show ∀ a b,CJ.goal (aat a b) (a,b,()) from ?_)
 intro a b hin hp
 dsimp only [CJ] at hp ⊢
 exact aom (K:=fun r=>r=(decide (a=b),())) (fun x y=>!decide (x=y)) (fun x y=>by simp) _ a b _ hin.1.1 rfl
theorem ae1 {c c':gm} {x:aC} {df:List qF} {ok:Bool} {r:Sp.LS} (hcur:dF c=true) (hset:(bY (bJ c) x).2=true) (hst:ai (bY (bJ c) x).1=true)
 (hr:Sp.reached (bY (bJ c) x).1 [(x.1,())] r) (h:Sp.turned c (aT c) (bY (bJ c) x).1 (dA r) c' df ok):
 Sp.became c (aT c) (bY (bJ c) x).1 (dF c&&((bY (bJ c) x).2&&ai (bY (bJ c) x).1)) c' df ok:=by
 obtain ⟨k1,k2,k3⟩:=kG hcur
 obtain ⟨g1,g2,g3⟩:=apD hset
 rw [hcur,hset,hst]
 refine UI h (by rw [hst,k2];rfl) fun R E hR hE=>?_
 have hn:=hr.2
 rw [show (fun s=>dA [(x.1,())] s=true)=fun t=>t=x.1 from funext fun s=>propext (by rw [gB];simp)] at hn
 rw [g3] at hR hE hn
 exact aow g1 g2 hn k3 hR hE
theorem ae2 {c c':gm} {s:bT} {df:List qF} {ok:Bool} (hcur:dF c=true) (hs:ax s=true) (h:Sp.turned c s (bJ c) (dA (fE (bJ c))) c' df ok):Sp.became c s (bJ c) true c' df ok:=by
 obtain ⟨k1,k2,k3⟩:=kG hcur
 exact UI h (by rw [k1,hs];rfl) fun R E hR hE=>Oz (ji k1).1 (aox hR) hE
theorem stays {c:gm} {s:bT} {d:List aC} {b:Bool} (hb:b=false) {z:gm} (e:z=c):Sp.became c s d b z [] false:=⟨hb.symm,fun h=>(by cases h),fun _=>⟨e,rfl⟩⟩
theorem anB {c:gm} {x:aC} (h:(dF c&&((bY (bJ c) x).2&&ai (bY (bJ c) x).1))=true):(ai (bY (bJ c) x).1&&ax (aT c))=true:=by
 simp only [Bool.and_eq_true] at h ⊢
 exact ⟨h.2.2,(kG h.1).2.1⟩
theorem aau:OK CB.e:=by
 refine XA.ok mixed (au [lN.e,jf.e,jv.e,xw.e,kJ.e,GZ.e] ⟨vJ,rX,nM,Uh,qK,agJ,trivial⟩) H0 (fun ⟨c,x,_⟩ _=>by obtain ⟨c',df,h⟩:=zB c (aT c) (bY (bJ c) x).1 _ (anB (c:=c) (x:=x));exact ⟨((((c'.1,c'.2.1,c'.2.2.1,c'.2.2.2.1,c'.2.2.2.2.1,()),df,_,()),())),h⟩) (by kernel_rfl) (show ∀ c0 c1 c2 c3 c4 x0 x1,CB.goal (aav c0 c1 c2 c3 c4 x0 x1) ((c0,c1,c2,c3,c4,()),(x0,x1,()),()) from ?_)
 intro a l nx d r x0 x1 hin hp
 dsimp only [CB] at hp ⊢
 obtain ⟨⟨hc,hh,h10⟩,hx⟩:jM (a,l,nx,d,r,())∧x1.length≤1000:=hp
 have h10:d.length≤10:=h10
 have hsm:aA d:=hc.2.1
 have sm:=YE (x:=(x0,x1,())) hsm (by omega) hx
 refine ⟨⟨hsm,by omega,hx⟩,?_⟩
 rintro ⟨⟨o,ok,⟨⟩⟩,⟨⟩⟩ ⟨e1,e2⟩
 obtain rfl:o=(bY d (x0,x1,())).1:=e1
 obtain rfl:ok=(bY d (x0,x1,())).2:=e2
 refine af (fun h=>⟨hc,fun r1 hr1=>stays ?_ hr1⟩) fun h=>⟨hc,af (fun h2=>⟨hc,fun r3 hr3=>stays ?_ hr3⟩) fun h2=>⟨sm,af (fun h4=>⟨hc,fun r5 hr5=>stays ?_ hr5⟩) fun h4=>⟨⟨sm,(ji (bU h4)).2,by simp⟩,fun r6 LV=>⟨⟨hc,hc.1,sm⟩,fun r7 YA=>?_⟩⟩⟩⟩
 · have h:(bY d (x0,x1,())).2=false:=dS h
   show (_&&((bY d (x0,x1,())).2&&_))=false
   rw [h,Bool.false_and,Bool.and_false]
 · rw [dS h2];rfl
 · show (_&&(_&&ai (bY d (x0,x1,())).1))=false
   rw [dS h4,Bool.and_false,Bool.and_false]
 · exact ae1 (c:=(a,l,nx,d,r,())) (x:=(x0,x1,())) (bU h2) (bU h) (bU h4) LV YA
theorem aaw:OK CG.e:=by
 refine XA.ok mixed (au [oW.e,jg.e,rC.e,lM.e,G5.e,oV.e] ⟨zA,rY,Je,vG,agL,zy,trivial⟩) acS (fun ⟨c,x,_⟩ _=>by obtain ⟨c',df,h⟩:=zB c (aT c) (bY (bJ c) x).1 _ (anB (c:=c) (x:=x));exact ⟨((((c'.1,c'.2.1,c'.2.2.1,c'.2.2.2.1,c'.2.2.2.2.1,()),df,_,()),())),h⟩) (by kernel_rfl) (show ∀ l0 l1 l2 l3 l4 x0 x1,CG.goal (aax l0 l1 l2 l3 l4 x0 x1) ((l0,l1,l2,l3,l4,()),(x0,x1,()),()) from ?_)
 intro a l nx d r x0 x1 hin hp
 dsimp only [CG] at hp ⊢
 obtain ⟨⟨hc,hh,h10⟩,hx⟩:jM (a,l,nx,d,r,())∧x1.length≤1000:=hp
 have h10:d.length≤10:=h10
 have hsm:aA d:=hc.2.1
 have sm:=YE (x:=(x0,x1,())) hsm (by omega) hx
 refine ⟨hc,?_⟩
 rintro ⟨⟨c0,⟨⟩⟩,⟨⟩⟩ ec
 obtain rfl:c0=(a,l,nx,d,r,()):=ec
 refine ⟨⟨hsm,by show d.length≤900;omega,hx⟩,?_⟩
 rintro ⟨⟨o,ok,⟨⟩⟩,⟨⟩⟩ ⟨e1,e2⟩
 obtain rfl:o=(bY d (x0,x1,())).1:=e1
 obtain rfl:ok=(bY d (x0,x1,())).2:=e2
 refine ⟨fun _=>dF (a,l,nx,d,r,())=true∧(bY d (x0,x1,())).2=true∧ai (bY d (x0,x1,())).1=true,⟨hc,af (fun h2=>stays ?_ rfl) fun h2=>af (fun h=>stays ?_ rfl) fun h=>⟨sm,af (fun h4=>stays ?_ rfl) fun h4=>⟨rfl,bU h2,bU h,bU h4⟩⟩⟩,fun _ hJ=>?_⟩
 · rw [dS h2];rfl
 · have h:(bY d (x0,x1,())).2=false:=dS h
   show (_&&((bY d (x0,x1,())).2&&_))=false
   rw [h,Bool.false_and,Bool.and_false]
 · show (_&&(_&&ai (bY d (x0,x1,())).1))=false
   rw [dS h4,Bool.and_false,Bool.and_false]
 · obtain ⟨j1,j2,j3⟩:=hJ
   refine ⟨⟨sm,(ji j3).2,by simp⟩,fun r6 LV=>⟨⟨hc,hc.1,sm,?_⟩,fun r7 YA=>ae1 (c:=(a,l,nx,d,r,())) (x:=(x0,x1,())) j1 j2 j3 LV YA⟩⟩
   have:=(kG j1).2.1
   have this:ax (a,l,nx,())=true:=this
   rw [j3,this];rfl
theorem ajI {c:gm} {f:aN} (h:(dF c&&(aH (aT c) f).2.2)=true):(ai (bJ c)&&ax (aH (aT c) f).1)=true:=by
 simp only [Bool.and_eq_true] at h ⊢
 exact ⟨(kG h.1).1,Bh f (kG h.1).2.1⟩
theorem ajJ {c:gm} {id:Int} (h:(dF c&&(aX (aT c) id).2)=true):(ai (bJ c)&&ax (aX (aT c) id).1)=true:=by
 simp only [Bool.and_eq_true] at h ⊢
 exact ⟨(kG h.1).1,Bj id (kG h.1).2.1⟩
theorem ae3 {c c':gm} {f:aN} {df:List qF} {ok:Bool} {id:Int} (hcur:dF c=true) (hk:(aH (aT c) f).2.2=true) (hid:id=(aH (aT c) f).2.1) (h:Sp.turned c (aH (aT c) f).1 (bJ c) (dA (fE (bJ c))) c' df ok):
 Sp.became c (aH (aT c) f).1 (bJ c) (dF c&&(aH (aT c) f).2.2) c' df ok∧id=(bif ok then (aH (aT c) f).2.1 else 0):=by
 have hb:=ae2 hcur (Bh f (kG hcur).2.1) h
 rw [hcur,hk]
 refine ⟨hb,?_⟩
 rw [hb.1];exact hid
theorem ae4 {c c':gm} {n:Int} {df:List qF} {ok:Bool} (hcur:dF c=true) (hk:(aX (aT c) n).2=true) (h:Sp.turned c (aX (aT c) n).1 (bJ c) (dA (fE (bJ c))) c' df ok):
 Sp.became c (aX (aT c) n).1 (bJ c) (dF c&&(aX (aT c) n).2) c' df ok:=by
 rw [hcur,hk]
 exact ae2 hcur (Bj n (kG hcur).2.1) h
theorem ae5:OK Fh.e:=by
 refine XA.ok mixed (au [lN.e,qm.e,jv.e,kJ.e,Ag.e] ⟨vJ,Di,nM,qK,YF,trivial⟩) H0 (fun ⟨c,f,_⟩ _=>by obtain ⟨c',df,h⟩:=zB c (aH (aT c) f).1 (bJ c) _ (ajI (c:=c) (f:=f));exact ⟨((((c'.1,c'.2.1,c'.2.2.1,c'.2.2.2.1,c'.2.2.2.2.1,()),(bif (dF c&&(aH (aT c) f).2.2) then (aH (aT c) f).2.1 else 0),df,(dF c&&(aH (aT c) f).2.2),()),())),⟨h,rfl⟩⟩) (by kernel_rfl) (show ∀ c0 c1 c2 c3 c4 f0 f1 f2 f3 f4,Fh.goal (ae6 c0 c1 c2 c3 c4 f0 f1 f2 f3 f4) ((c0,c1,c2,c3,c4,()),(f0,f1,f2,f3,f4,()),()) from ?_)
 intro a l nx d r f0 f1 f2 f3 f4 hin hp
 dsimp only [Fh] at hp ⊢
 obtain ⟨⟨hc,hh,h10⟩,hf⟩:=hp
 have hl:d.length≤1000:=hc.2.1.1
 refine ⟨⟨hc.1,hf⟩,?_⟩
 rintro ⟨⟨⟨sa,sl,sn,⟨⟩⟩,id,ok,⟨⟩⟩,⟨⟩⟩ ⟨e1,e2,e3,e4,e5⟩
 have es:((sa,sl,sn,()):bT)=(aH (a,l,nx,()) (f0,f1,f2,f3,f4,())).1:=C9 e1 e2 e3
 have e5:ok=(aH (a,l,nx,()) (f0,f1,f2,f3,f4,())).2.2:=e5
 refine af (fun h=>⟨hc,fun r1 hr1=>⟨stays ?_ hr1,rfl⟩⟩) fun h=>⟨hc,af (fun h2=>⟨hc,fun r3 hr3=>⟨stays ?_ hr3,rfl⟩⟩) fun h2=>⟨hl,⟨hc,?_,hc.2.1⟩,fun r4 hr4=>?_⟩⟩
 · show (_&&(aH (a,l,nx,()) (f0,f1,f2,f3,f4,())).2.2)=false
   rw [← e5,show ok=false from dS h,Bool.and_false]
 · rw [dS h2];rfl
 · rw [es];exact Ll hc.1 hf
 · rw [es] at hr4
   exact ae3 (c:=(a,l,nx,d,r,())) (bU h2) (e5.symm.trans (bU h)) e4 hr4
theorem ae7:OK Fj.e:=by
 refine XA.ok mixed (au [oW.e,uq.e,lM.e,qG.e,oV.e] ⟨zA,Hy,vG,EL,zy,trivial⟩) agN (fun ⟨c,f,_⟩ _=>by obtain ⟨c',df,h⟩:=zB c (aH (aT c) f).1 (bJ c) _ (ajI (c:=c) (f:=f));exact ⟨((((c'.1,c'.2.1,c'.2.2.1,c'.2.2.2.1,c'.2.2.2.2.1,()),(bif (dF c&&(aH (aT c) f).2.2) then (aH (aT c) f).2.1 else 0),df,(dF c&&(aH (aT c) f).2.2),()),())),⟨h,rfl⟩⟩) (by kernel_rfl) (show ∀ l0 l1 l2 l3 l4 f0 f1 f2 f3 f4,Fj.goal (ae8 l0 l1 l2 l3 l4 f0 f1 f2 f3 f4) ((l0,l1,l2,l3,l4,()),(f0,f1,f2,f3,f4,()),()) from ?_)
 intro a l nx d r f0 f1 f2 f3 f4 hin hp
 dsimp only [Fj] at hp ⊢
 obtain ⟨⟨hc,hh,h10⟩,hf⟩:=hp
 have hl:d.length≤1000:=hc.2.1.1
 refine ⟨hc,?_⟩
 rintro ⟨⟨c0,⟨⟩⟩,⟨⟩⟩ ec
 obtain rfl:c0=(a,l,nx,d,r,()):=ec
 refine ⟨⟨hc.1,hf⟩,?_⟩
 rintro ⟨⟨⟨sa,sl,sn,⟨⟩⟩,id,ok,⟨⟩⟩,⟨⟩⟩ ⟨e1,e2,e3,e4,e5⟩
 have es:((sa,sl,sn,()):bT)=(aH (a,l,nx,()) (f0,f1,f2,f3,f4,())).1:=C9 e1 e2 e3
 have e5:ok=(aH (a,l,nx,()) (f0,f1,f2,f3,f4,())).2.2:=e5
 refine ⟨hc,af (fun h2=>⟨stays ?_ rfl,rfl⟩) fun h2=>af (fun h=>⟨stays ?_ rfl,rfl⟩) fun h=>⟨hl,⟨hc,?_,hc.2.1,?_⟩,fun r4 hr4=>?_⟩⟩
 · rw [dS h2];rfl
 · show (_&&(aH (a,l,nx,()) (f0,f1,f2,f3,f4,())).2.2)=false
   rw [← e5,show ok=false from dS h,Bool.and_false]
 · rw [es];exact Ll hc.1 hf
 · rw [es];exact ajI (c:=(a,l,nx,d,r,())) (f:=(f0,f1,f2,f3,f4,())) (by rw [bU h2,Bool.true_and];exact e5.symm.trans (bU h))
 · rw [es] at hr4
   exact ae3 (c:=(a,l,nx,d,r,())) (bU h2) (e5.symm.trans (bU h)) e4 hr4
theorem YJ:OK Ai.e:=by
 refine XA.ok mixed (au [lN.e,qm.e,jv.e,kJ.e,Ah.e] ⟨vJ,Di,nM,qK,YH,trivial⟩) H0 (fun ⟨c,n,_⟩ _=>by obtain ⟨c',df,h⟩:=zB c (aX (aT c) n).1 (bJ c) _ (ajJ (c:=c) (id:=n));exact ⟨((((c'.1,c'.2.1,c'.2.2.1,c'.2.2.2.1,c'.2.2.2.2.1,()),df,_,()),())),h⟩) (by kernel_rfl) (show ∀ c0 c1 c2 c3 c4 id,Ai.goal (YK c0 c1 c2 c3 c4 id) ((c0,c1,c2,c3,c4,()),id,()) from ?_)
 intro a l nx d r n hin hp
 dsimp only [Ai] at hp ⊢
 obtain ⟨hc,hh,h10⟩:=hp
 have hl:d.length≤1000:=hc.2.1.1
 refine ⟨hc.1,?_⟩
 rintro ⟨⟨⟨sa,sl,sn,⟨⟩⟩,ok,⟨⟩⟩,⟨⟩⟩ ⟨e1,e2,e3,e5⟩
 have es:((sa,sl,sn,()):bT)=(aX (a,l,nx,()) n).1:=C9 e1 e2 e3
 have e5:ok=(aX (a,l,nx,()) n).2:=e5
 refine af (fun h=>⟨hc,fun r1 hr1=>stays ?_ hr1⟩) fun h=>⟨hc,af (fun h2=>⟨hc,fun r3 hr3=>stays ?_ hr3⟩) fun h2=>⟨hl,⟨hc,?_,hc.2.1⟩,fun r4 hr4=>?_⟩⟩
 · show (_&&(aX (a,l,nx,()) n).2)=false
   rw [← e5,show ok=false from dS h,Bool.and_false]
 · rw [dS h2];rfl
 · rw [es];exact Lm n hc.1
 · rw [es] at hr4
   exact ae4 (c:=(a,l,nx,d,r,())) (bU h2) (e5.symm.trans (bU h)) hr4
theorem YL:OK Aj.e:=by
 refine XA.ok mixed (au [oW.e,uq.e,lM.e,uY.e,oV.e] ⟨zA,Hy,vG,KL,zy,trivial⟩) aay (fun ⟨c,n,_⟩ _=>by obtain ⟨c',df,h⟩:=zB c (aX (aT c) n).1 (bJ c) _ (ajJ (c:=c) (id:=n));exact ⟨((((c'.1,c'.2.1,c'.2.2.1,c'.2.2.2.1,c'.2.2.2.2.1,()),df,_,()),())),h⟩) (by kernel_rfl) (show ∀ l0 l1 l2 l3 l4 id,Aj.goal (YM l0 l1 l2 l3 l4 id) ((l0,l1,l2,l3,l4,()),id,()) from ?_)
 intro a l nx d r n hin hp
 dsimp only [Aj] at hp ⊢
 obtain ⟨hc,hh,h10⟩:=hp
 have hl:d.length≤1000:=hc.2.1.1
 refine ⟨hc,?_⟩
 rintro ⟨⟨c0,⟨⟩⟩,⟨⟩⟩ ec
 obtain rfl:c0=(a,l,nx,d,r,()):=ec
 refine ⟨hc.1,?_⟩
 rintro ⟨⟨⟨sa,sl,sn,⟨⟩⟩,ok,⟨⟩⟩,⟨⟩⟩ ⟨e1,e2,e3,e5⟩
 have es:((sa,sl,sn,()):bT)=(aX (a,l,nx,()) n).1:=C9 e1 e2 e3
 have e5:ok=(aX (a,l,nx,()) n).2:=e5
 refine ⟨hc,af (fun h2=>stays ?_ rfl) fun h2=>af (fun h=>stays ?_ rfl) fun h=>⟨hl,⟨hc,?_,hc.2.1,?_⟩,fun r4 hr4=>?_⟩⟩
 · rw [dS h2];rfl
 · show (_&&(aX (a,l,nx,()) n).2)=false
   rw [← e5,show ok=false from dS h,Bool.and_false]
 · rw [es];exact Lm n hc.1
 · rw [es];exact ajJ (c:=(a,l,nx,d,r,())) (id:=n) (by rw [bU h2,Bool.true_and];exact e5.symm.trans (bU h))
 · rw [es] at hr4
   exact ae4 (c:=(a,l,nx,d,r,())) (bU h2) (e5.symm.trans (bU h)) hr4
end Go.Proofs.Tryz
