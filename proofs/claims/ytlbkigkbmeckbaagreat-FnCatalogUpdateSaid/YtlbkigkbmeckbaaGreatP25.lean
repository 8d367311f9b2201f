import Derived.Test.YtlbkigkbmeckbaaGreatP24
namespace Go.Proofs.Tryz
open Go Go.Fw Go.IntWalk
theorem ZF:ai prog G oV.e:=by
 refine ZG (aj ah ⟨DL,yB,Ci,xX,trivial⟩) (fun ⟨s,f,_⟩ _=>⟨((((Sp.aH s f).1.1,(Sp.aH s f).1.2.1,(Sp.aH s f).1.2.2.1,()),(Sp.aH s f).2.1,(Sp.aH s f).2.2,()),()),⟨rfl,rfl,rfl,rfl,rfl⟩⟩) ?_
 intro s0 s1 s2 f0 f1 f2 f3 f4 hin hp
 dsimp only [oV] at hp ⊢
 refine ⟨hp.1,?_⟩
 rintro ⟨⟨⟨a,l,nx,⟨⟩⟩,⟨⟩⟩,⟨⟩⟩ e
 obtain ⟨rfl,rfl,rfl⟩:a=s0∧l=s1∧nx=s2:=by simpa using e
 have hs:l.length≤1000:=hp.1.2.1
 have no:¬ (Sp.aB (a,l,nx,())=true∧l.length<12∧Sp.bY a (nx,f1,f2,f3,f4,())=true)→Sp.aH (a,l,nx,()) (f0,f1,f2,f3,f4,())=((a,l,nx,()),0,false):=fun h=>by
  rcases Sp.kY (a,l,nx,()) (f0,f1,f2,f3,f4,()) with ⟨e,_⟩|⟨h1,h2,h3,_⟩
  · exact e
  · exact (h ⟨h1,h2,h3⟩).elim
 refine ⟨hp.2,trivial,af (fun h1=>?_) fun h1=>af (fun h2=>?_) fun h2=>⟨trivial,af (fun h3=>?_) fun h3=>?_⟩⟩
 · have:=no fun h=>by have h1:=fV h1;have:=h.1;rw [show Sp.aB (a,l,nx,())=false from h1] at this;cases this
   dsimp only
   rw [this];exact ⟨rfl,rfl,rfl,rfl,rfl⟩
 · have:=no fun h=>by have h2:(l.length:Int)≥12:=gm h2;omega
   dsimp only
   rw [this];exact ⟨rfl,rfl,rfl,rfl,rfl⟩
 · have:=no fun h=>by have h3:=fV h3;have:=h.2.2;rw [show Sp.bY a (nx,f1,f2,f3,f4,())=false from h3] at this;cases this
   dsimp only
   rw [this];exact ⟨rfl,rfl,rfl,rfl,rfl⟩
 · have g1:Sp.aB (a,l,nx,())=true:=dO h1
   have g2:l.length<12:=by have h2:¬ (l.length:Int)≥12:=gU h2;omega
   have g3:Sp.bY a (nx,f1,f2,f3,f4,())=true:=dO h3
   rcases Sp.kY (a,l,nx,()) (f0,f1,f2,f3,f4,()) with ⟨_,e⟩|⟨_,_,_,e⟩
   · exact (e ⟨g1,g2,g3⟩).elim
   · have hnx:=(Sp.jL.1 g1).2.2.2
     have w:IntKind.i64.wrap (nx+1)=nx+1:=fO _ (by have h5:nx≤61:=hnx.2;have h6:1≤nx:=hnx.1;omega)
     refine ⟨by rw [bT];simp only [List.length_cons,List.length_nil];omega,?_⟩
     dsimp only
     rw [e,w];exact ⟨rfl,rfl,rfl,rfl,rfl⟩
theorem JW:ai prog G iY.e:=by
 refine JX (aj ah trivial) (fun ⟨s,i,j,_⟩ _=>⟨((s.take i.toNat++s.drop j.toNat,()),()),rfl⟩) ?_
 intro s i j hin hp
 dsimp only [iY] at hp ⊢
 obtain ⟨h0,h1,h2⟩:0≤i∧i≤j∧j≤(s.length:Int):=hp
 obtain ⟨a,rfl⟩:∃ a:Nat,i=a:=⟨i.toNat,by omega⟩
 obtain ⟨b,rfl⟩:∃ b:Nat,j=b:=⟨j.toNat,by omega⟩
 refine ⟨⟨h0,h1,h2,Int.le_refl _⟩,af (fun h=>?_) fun h=>?_⟩
 · have h:(a:Int)=b:=by simpa using h
   have:a=b:=by omega
   subst this
   show s=s.take a++s.drop a
   rw [List.take_append_drop]
 · have h:¬ (a:Int)=b:=by simpa using h
   have hb:b≤s.length:=by omega
   have hab:a<b:=by omega
   simp only [Int.toNat_natCast,Nat.sub_zero,Nat.zero_add]
   have hn:(List.take (s.length-b) (List.drop b s)).length=s.length-b:=by rw [List.length_take,List.length_drop];omega
   have hd:List.take (s.length-b) (List.drop b s)=List.drop b s:=List.take_of_length_le (by rw [List.length_drop];omega)
   have l1:(dM s a (List.take (s.length-b) (List.drop b s))).length=s.length:=TU (by rw [hn];omega)
   have l2:(dM (dM s a (List.take (s.length-b) (List.drop b s))) (a+(s.length-b)) (List.replicate (s.length-(a+(s.length-b))) ((0:Int),(0:Int),false,(0:Int),([]:List Sp.fH),()))).length=s.length:=by
    rw [TU (by rw [l1,List.length_replicate];omega),l1]
   rw [l1,l2]
   refine ⟨by omega,⟨by omega,by omega⟩,⟨by omega,by omega⟩,⟨by omega,by omega⟩,⟨by omega,by omega,by omega⟩,by omega,⟨by omega,by omega⟩,?_⟩
   show List.take (a+(s.length-b)) (dM _ _ _)=s.take a++s.drop b
   rw [YV (Nat.le_refl _) (by rw [l1];omega),aso (by rw [hn]) (by omega),hd]
theorem ZH:ai prog G oW.e:=by
 refine ZI (aj ah ⟨JW,yB,IQ,xX,trivial⟩) (fun ⟨s,id,_⟩ _=>⟨((((Sp.aT s id).1.1,(Sp.aT s id).1.2.1,(Sp.aT s id).1.2.2.1,()),(Sp.aT s id).2,()),()),⟨rfl,rfl,rfl,rfl⟩⟩) ?_
 intro s0 s1 s2 id hin hp
 dsimp only [oW] at hp ⊢
 refine ⟨hp,?_⟩
 rintro ⟨⟨⟨a,l,nx,⟨⟩⟩,⟨⟩⟩,⟨⟩⟩ e
 obtain ⟨rfl,rfl,rfl⟩:a=s0∧l=s1∧nx=s2:=by simpa using e
 have hs:l.length≤1000:=hp.2.1
 have no:¬ (Sp.aB (a,l,nx,())=true∧0≤Sp.place l id)→Sp.aT (a,l,nx,()) id=((a,l,nx,()),false):=fun h=>by
  rcases Sp.qQ (a,l,nx,()) id with ⟨e,_⟩|⟨n,hn,h1,h2,_⟩
  · exact e
  · exact (h ⟨h2,by have h1:Sp.place l id=n:=h1;omega⟩).elim
 refine ⟨trivial,trivial,af (fun h1=>?_) fun h1=>af (fun h2=>?_) fun h2=>?_⟩
 · have:=no fun h=>by have h1:=fV h1;have:=h.1;rw [show Sp.aB (a,l,nx,())=false from h1] at this;cases this
   dsimp only
   rw [this];exact ⟨rfl,rfl,rfl,rfl⟩
 · have:=no fun h=>by have h2:Sp.place l id<0:=gm h2;omega
   dsimp only
   rw [this];exact ⟨rfl,rfl,rfl,rfl⟩
 · have g1:Sp.aB (a,l,nx,())=true:=dO h1
   have g2:0≤Sp.place l id:=by have h2:¬ Sp.place l id<0:=gU h2;omega
   rcases Sp.qQ (a,l,nx,()) id with ⟨_,e⟩|⟨n,hn,hpl,_,e⟩
   · exact (e ⟨g1,g2⟩).elim
   · have hn:n<l.length:=hn
     have hpl:Sp.place l id=n:=hpl
     have w:IntKind.i64.wrap ((n:Int)+1)=((n+1:Nat):Int):=fO _ (by omega)
     dsimp only
     rw [hpl,e,w,Int.toNat_natCast,Int.toNat_natCast]
     refine ⟨⟨by omega,by omega,by omega⟩,?_⟩
     rintro ⟨⟨x,⟨⟩⟩,⟨⟩⟩ e2
     have e2:x=l.take n++l.drop (n+1):=e2
     subst e2
     exact ⟨rfl,(List.eraseIdx_eq_take_drop_succ ..).symm,rfl,rfl⟩
theorem aeZ:ai prog G zU.e:=by
 refine ae0 (aj ah ⟨Nw,trivial⟩) ?_
 intro a0 a1 a2 b0 b1 b2 hin hp
 dsimp only [zU] at hp ⊢
 refine af (fun h0=>⟨trivial,af (fun h1=>⟨trivial,?_⟩) fun h1=>?_⟩) fun h0=>?_
 all_goals refine congrArg (·,()) (Bool.eq_iff_iff.2 ?_)
 · simp [beq_iff_eq.1 h0,gm h1]
 · simp [gU h1]
 · simp [show a0≠b0 by simpa using h0]
theorem ab9:ai prog G zk.e:=by
 refine acd (aj ah ⟨aeZ,trivial⟩) ?_
 intro a b hin hp
 dsimp only [zk] at hp ⊢
 exact asr (K:=fun r=>r=(decide (a=b),())) (fun x y=>!decide (x=y)) (fun x y=>by simp) _ a b _ hin.1.1 rfl
theorem ahP {c c':Sp.jv} {s:Sp.bV} {df:List Sp.tK} {ok:Bool} (hcur:Sp.dS c=true) (hs:Sp.aB s=true) (h:Sp.turned c s (Sp.fF c) (Sp.dF (Sp.fJ (Sp.fF c))) c' df ok):Sp.became c s (Sp.fF c) true c' df ok:=by
 obtain ⟨k1,k2,k3⟩:=wF hcur
 exact aqr h (by rw [k1,hs];rfl) fun R E hR hE=>Sp.Nj (kN k1).1 (Sp.asD hR) hE
theorem stays {c:Sp.jv} {s:Sp.bV} {d:List Sp.aQ} {b:Bool} (hb:b=false) {z:Sp.jv} (e:z=c):Sp.became c s d b z [] false:=⟨hb.symm,fun h=>(by cases h),fun _=>⟨e,rfl⟩⟩
theorem an4 {c:Sp.jv} {f:Sp.aN} (h:(Sp.dS c&&(Sp.aH (Sp.bJ c) f).2.2)=true):(Sp.aF (Sp.fF c)&&Sp.aB (Sp.aH (Sp.bJ c) f).1)=true:=by
 simp only [Bool.and_eq_true] at h ⊢
 exact ⟨(wF h.1).1,Sp.II f (wF h.1).2.1⟩
theorem an5 {c:Sp.jv} {id:Int} (h:(Sp.dS c&&(Sp.aT (Sp.bJ c) id).2)=true):(Sp.aF (Sp.fF c)&&Sp.aB (Sp.aT (Sp.bJ c) id).1)=true:=by
 simp only [Bool.and_eq_true] at h ⊢
 exact ⟨(wF h.1).1,Sp.IJ id (wF h.1).2.1⟩
theorem ahQ {c c':Sp.jv} {f:Sp.aN} {df:List Sp.tK} {ok:Bool} {id:Int} (hcur:Sp.dS c=true) (hk:(Sp.aH (Sp.bJ c) f).2.2=true) (hid:id=(Sp.aH (Sp.bJ c) f).2.1) (h:Sp.turned c (Sp.aH (Sp.bJ c) f).1 (Sp.fF c) (Sp.dF (Sp.fJ (Sp.fF c))) c' df ok):
 Sp.became c (Sp.aH (Sp.bJ c) f).1 (Sp.fF c) (Sp.dS c&&(Sp.aH (Sp.bJ c) f).2.2) c' df ok∧id=(bif ok then (Sp.aH (Sp.bJ c) f).2.1 else 0):=by
 have hb:=ahP hcur (Sp.II f (wF hcur).2.1) h
 rw [hcur,hk]
 refine ⟨hb,?_⟩
 rw [hb.1];exact hid
theorem ahR {c c':Sp.jv} {n:Int} {df:List Sp.tK} {ok:Bool} (hcur:Sp.dS c=true) (hk:(Sp.aT (Sp.bJ c) n).2=true) (h:Sp.turned c (Sp.aT (Sp.bJ c) n).1 (Sp.fF c) (Sp.dF (Sp.fJ (Sp.fF c))) c' df ok):
 Sp.became c (Sp.aT (Sp.bJ c) n).1 (Sp.fF c) (Sp.dS c&&(Sp.aT (Sp.bJ c) n).2) c' df ok:=by
 rw [hcur,hk]
 exact ahP hcur (Sp.IJ n (wF hcur).2.1) h
theorem ahS:ai prog G uY.e:=by
 refine ahT (aj ah ⟨EP,CJ,zC,AL,ZF,trivial⟩) (fun ⟨c,f,_⟩ _=>by obtain ⟨c',df,h⟩:=Lh c (Sp.aH (Sp.bJ c) f).1 (Sp.fF c) _ (an4 (c:=c) (f:=f));exact ⟨((((c'.1,c'.2.1,c'.2.2.1,c'.2.2.2.1,c'.2.2.2.2.1,()),(bif (Sp.dS c&&(Sp.aH (Sp.bJ c) f).2.2) then (Sp.aH (Sp.bJ c) f).2.1 else 0),df,(Sp.dS c&&(Sp.aH (Sp.bJ c) f).2.2),()),())),⟨h,rfl⟩⟩) ?_
 intro a l nx d r f0 f1 f2 f3 f4 hin hp
 dsimp only [uY] at hp ⊢
 obtain ⟨⟨hc,hh,h10⟩,hf⟩:=hp
 have hl:d.length≤1000:=hc.2.1.1
 refine ⟨⟨hc.1,hf⟩,?_⟩
 rintro ⟨⟨⟨sa,sl,sn,⟨⟩⟩,id,ok,⟨⟩⟩,⟨⟩⟩ ⟨e1,e2,e3,e4,e5⟩
 have es:((sa,sl,sn,()):Sp.bV)=(Sp.aH (a,l,nx,()) (f0,f1,f2,f3,f4,())).1:=Cj e1 e2 e3
 have e5:ok=(Sp.aH (a,l,nx,()) (f0,f1,f2,f3,f4,())).2.2:=e5
 refine af (fun h=>⟨hc,fun r1 hr1=>⟨stays ?_ hr1,rfl⟩⟩) fun h=>⟨hc,af (fun h2=>⟨hc,fun r3 hr3=>⟨stays ?_ hr3,rfl⟩⟩) fun h2=>⟨hl,⟨hc,?_,hc.2.1⟩,fun r4 hr4=>?_⟩⟩
 · show (_&&(Sp.aH (a,l,nx,()) (f0,f1,f2,f3,f4,())).2.2)=false
   rw [← e5,show ok=false from fV h,Bool.and_false]
 · rw [fV h2];rfl
 · rw [es];exact Sp.JQ hc.1 hf
 · rw [es] at hr4
   exact ahQ (c:=(a,l,nx,d,r,())) (dO h2) (e5.symm.trans (dO h)) e4 hr4
theorem ahU:ai prog G uZ.e:=by
 refine ahV (aj ah ⟨Hz,FY,EN,Ee,Hw,trivial⟩) (fun ⟨c,f,_⟩ _=>by obtain ⟨c',df,h⟩:=Lh c (Sp.aH (Sp.bJ c) f).1 (Sp.fF c) _ (an4 (c:=c) (f:=f));exact ⟨((((c'.1,c'.2.1,c'.2.2.1,c'.2.2.2.1,c'.2.2.2.2.1,()),(bif (Sp.dS c&&(Sp.aH (Sp.bJ c) f).2.2) then (Sp.aH (Sp.bJ c) f).2.1 else 0),df,(Sp.dS c&&(Sp.aH (Sp.bJ c) f).2.2),()),())),⟨h,rfl⟩⟩) ?_
 intro a l nx d r f0 f1 f2 f3 f4 hin hp
 dsimp only [uZ] at hp ⊢
 obtain ⟨⟨hc,hh,h10⟩,hf⟩:=hp
 have hl:d.length≤1000:=hc.2.1.1
 refine ⟨hc,?_⟩
 rintro ⟨⟨c0,⟨⟩⟩,⟨⟩⟩ ec
 obtain rfl:c0=(a,l,nx,d,r,()):=ec
 refine ⟨⟨hc.1,hf⟩,?_⟩
 rintro ⟨⟨⟨sa,sl,sn,⟨⟩⟩,id,ok,⟨⟩⟩,⟨⟩⟩ ⟨e1,e2,e3,e4,e5⟩
 have es:((sa,sl,sn,()):Sp.bV)=(Sp.aH (a,l,nx,()) (f0,f1,f2,f3,f4,())).1:=Cj e1 e2 e3
 have e5:ok=(Sp.aH (a,l,nx,()) (f0,f1,f2,f3,f4,())).2.2:=e5
 refine ⟨hc,af (fun h2=>⟨stays ?_ rfl,rfl⟩) fun h2=>af (fun h=>⟨stays ?_ rfl,rfl⟩) fun h=>⟨hl,⟨hc,?_,hc.2.1,?_⟩,fun r4 hr4=>?_⟩⟩
 · rw [fV h2];rfl
 · show (_&&(Sp.aH (a,l,nx,()) (f0,f1,f2,f3,f4,())).2.2)=false
   rw [← e5,show ok=false from fV h,Bool.and_false]
 · rw [es];exact Sp.JQ hc.1 hf
 · rw [es];exact an4 (c:=(a,l,nx,d,r,())) (f:=(f0,f1,f2,f3,f4,())) (by rw [dO h2,Bool.true_and];exact e5.symm.trans (dO h))
 · rw [es] at hr4
   exact ahQ (c:=(a,l,nx,d,r,())) (dO h2) (e5.symm.trans (dO h)) e4 hr4
theorem ZJ:ai prog G oZ.e:=by
 refine ZK (aj ah ⟨EP,CJ,zC,AL,ZH,trivial⟩) (fun ⟨c,n,_⟩ _=>by obtain ⟨c',df,h⟩:=Lh c (Sp.aT (Sp.bJ c) n).1 (Sp.fF c) _ (an5 (c:=c) (id:=n));exact ⟨((((c'.1,c'.2.1,c'.2.2.1,c'.2.2.2.1,c'.2.2.2.2.1,()),df,_,()),())),h⟩) ?_
 intro a l nx d r n hin hp
 dsimp only [oZ] at hp ⊢
 obtain ⟨hc,hh,h10⟩:=hp
 have hl:d.length≤1000:=hc.2.1.1
 refine ⟨hc.1,?_⟩
 rintro ⟨⟨⟨sa,sl,sn,⟨⟩⟩,ok,⟨⟩⟩,⟨⟩⟩ ⟨e1,e2,e3,e5⟩
 have es:((sa,sl,sn,()):Sp.bV)=(Sp.aT (a,l,nx,()) n).1:=Cj e1 e2 e3
 have e5:ok=(Sp.aT (a,l,nx,()) n).2:=e5
 refine af (fun h=>⟨hc,fun r1 hr1=>stays ?_ hr1⟩) fun h=>⟨hc,af (fun h2=>⟨hc,fun r3 hr3=>stays ?_ hr3⟩) fun h2=>⟨hl,⟨hc,?_,hc.2.1⟩,fun r4 hr4=>?_⟩⟩
 · show (_&&(Sp.aT (a,l,nx,()) n).2)=false
   rw [← e5,show ok=false from fV h,Bool.and_false]
 · rw [fV h2];rfl
 · rw [es];exact Sp.JR n hc.1
 · rw [es] at hr4
   exact ahR (c:=(a,l,nx,d,r,())) (dO h2) (e5.symm.trans (dO h)) hr4
theorem ZL:ai prog G o5.e:=by
 refine ZM (aj ah ⟨Hz,FY,EN,Jw,Hw,trivial⟩) (fun ⟨c,n,_⟩ _=>by obtain ⟨c',df,h⟩:=Lh c (Sp.aT (Sp.bJ c) n).1 (Sp.fF c) _ (an5 (c:=c) (id:=n));exact ⟨((((c'.1,c'.2.1,c'.2.2.1,c'.2.2.2.1,c'.2.2.2.2.1,()),df,_,()),())),h⟩) ?_
 intro a l nx d r n hin hp
 dsimp only [o5] at hp ⊢
 obtain ⟨hc,hh,h10⟩:=hp
 have hl:d.length≤1000:=hc.2.1.1
 refine ⟨hc,?_⟩
 rintro ⟨⟨c0,⟨⟩⟩,⟨⟩⟩ ec
 obtain rfl:c0=(a,l,nx,d,r,()):=ec
 refine ⟨hc.1,?_⟩
 rintro ⟨⟨⟨sa,sl,sn,⟨⟩⟩,ok,⟨⟩⟩,⟨⟩⟩ ⟨e1,e2,e3,e5⟩
 have es:((sa,sl,sn,()):Sp.bV)=(Sp.aT (a,l,nx,()) n).1:=Cj e1 e2 e3
 have e5:ok=(Sp.aT (a,l,nx,()) n).2:=e5
 refine ⟨hc,af (fun h2=>stays ?_ rfl) fun h2=>af (fun h=>stays ?_ rfl) fun h=>⟨hl,⟨hc,?_,hc.2.1,?_⟩,fun r4 hr4=>?_⟩⟩
 · rw [fV h2];rfl
 · show (_&&(Sp.aT (a,l,nx,()) n).2)=false
   rw [← e5,show ok=false from fV h,Bool.and_false]
 · rw [es];exact Sp.JR n hc.1
 · rw [es];exact an5 (c:=(a,l,nx,d,r,())) (id:=n) (by rw [dO h2,Bool.true_and];exact e5.symm.trans (dO h))
 · rw [es] at hr4
   exact ahR (c:=(a,l,nx,d,r,())) (dO h2) (e5.symm.trans (dO h)) hr4
end Go.Proofs.Tryz
