import Derived.Test.YtlbkigkbmeckbaaGreatP24
namespace Go.Proofs.Tryz
open Go Go.Fw Go.IntWalk
theorem Yi:ai prog G mZ.e:=by
 refine Yj (ak ah ⟨Ep,Dv,LD,trivial⟩) (fun ⟨(a,fs,nx,_),d,_⟩ _=>afE a fs nx d) ?_
 intro a fs nx d hin hp
 dsimp only [mZ] at hp ⊢
 refine ⟨hp,fun r0 hr0=>af (fun h=>?_) fun h=>⟨hp.1,fun r1 hr1=>⟨hp.2,?_⟩⟩⟩
 · have h:r0.1.2.1=false:=fQ h
   have e:(Sp.ax d&&Sp.aJ (a,fs,nx,()))=false:=hr0.1.symm.trans h
   exact ⟨e.symm,fun h=>(by cases h),fun _=>rfl⟩
 · have h:r0.1.2.1=true:=dH h
   have e:(Sp.ax d&&Sp.aJ (a,fs,nx,()))=true:=hr0.1.symm.trans h
   exact ⟨e.symm,fun _=>⟨hr1,rfl,hr0.2 h⟩,fun h=>by cases h⟩
theorem Qp:ai prog G qV.e:=by
 refine Qq (ak ah ⟨FV,aad,UW,trivial⟩) ?_
 intro a0 a1 a2 a3 a4 b0 b1 b2 b3 b4 hin hp
 dsimp only [qV] at hp ⊢
 refine ⟨trivial,af (fun h0=>⟨trivial,af (fun h1=>⟨trivial,?_⟩) fun h1=>?_⟩) fun h0=>?_⟩
 all_goals refine congrArg (·,()) (Bool.eq_iff_iff.2 ?_)
 · have h0:=fD h0
   have h1:=fD h1
   simp only [Prod.mk.injEq] at h0
   obtain ⟨rfl,rfl,rfl,_⟩:=h0
   subst h1
   simp
 · have h1:=fP h1
   simp [h1]
 · have h0:=fP h0
   simp only [decide_eq_true_eq,Bool.false_eq_true,false_iff,Prod.mk.injEq,and_true] at h0 ⊢
   exact fun h=>h0 ⟨h.1,h.2.1,h.2.2.1⟩
theorem adl:ai prog G yO.e:=by
 refine adn (ak ah ⟨LV,trivial⟩) ?_
 intro a0 a1 a2 b0 b1 b2 hin hp
 dsimp only [yO] at hp ⊢
 refine af (fun h0=>⟨trivial,af (fun h1=>⟨trivial,?_⟩) fun h1=>?_⟩) fun h0=>?_
 all_goals refine congrArg (·,()) (Bool.eq_iff_iff.2 ?_)
 · simp [beq_iff_eq.1 h0,fD h1]
 · simp [fP h1]
 · simp [show a0≠b0 by simpa using h0]
theorem aau:ai prog G xQ.e:=by
 refine aav (ak ah ⟨adl,trivial⟩) ?_
 intro a b hin hp
 dsimp only [xQ] at hp ⊢
 exact amb (K:=fun r=>r=(decide (a=b),())) (fun x y=>!decide (x=y)) (fun x y=>by simp) _ a b _ hin.1.1 rfl
theorem af8 {c c':Sp.ny} {x:Sp.aH} {df:List Sp.FX} {ok:Bool} {r:Sp.LS} (hcur:Sp.gy c=true) (hset:(Sp.bG (Sp.fM c) x).2=true) (hst:Sp.ax (Sp.bG (Sp.fM c) x).1=true)
 (hr:Sp.reached (Sp.bG (Sp.fM c) x).1 [(x.1,())] r) (h:Sp.turned c (Sp.mJ c) (Sp.bG (Sp.fM c) x).1 (Sp.eP r) c' df ok):
 Sp.became c (Sp.mJ c) (Sp.bG (Sp.fM c) x).1 (Sp.gy c&&((Sp.bG (Sp.fM c) x).2&&Sp.ax (Sp.bG (Sp.fM c) x).1)) c' df ok:=by
 obtain ⟨k1,k2,k3⟩:=LU hcur
 obtain ⟨g1,g2,g3⟩:=arL hset
 rw [hcur,hset,hst]
 refine aoM h (by rw [hst,k2];rfl) fun R E hR hE=>?_
 have hn:=hr.2
 rw [show (fun s=>Sp.eP [(x.1,())] s=true)=fun t=>t=x.1 from funext fun s=>propext (by rw [Sp.iG];simp)] at hn
 rw [g3] at hR hE hn
 exact Sp.aqI g1 g2 hn k3 hR hE
theorem stays {c:Sp.ny} {s:Sp.dG} {d:List Sp.aH} {b:Bool} (hb:b=false) {z:Sp.ny} (e:z=c):Sp.became c s d b z [] false:=⟨hb.symm,fun h=>(by cases h),fun _=>⟨e,rfl⟩⟩
theorem ap3 {c:Sp.ny} {x:Sp.aH} (h:(Sp.gy c&&((Sp.bG (Sp.fM c) x).2&&Sp.ax (Sp.bG (Sp.fM c) x).1))=true):(Sp.ax (Sp.bG (Sp.fM c) x).1&&Sp.aJ (Sp.mJ c))=true:=by
 simp only [Bool.and_eq_true] at h ⊢
 exact ⟨h.2.2,(LU h.1).2.1⟩
theorem aaw:ai prog G o9.e:=by
 refine aax (ak ah ⟨aas,GY,Gu,Si,Ja,aiu,trivial⟩) (fun ⟨c,x,_⟩ _=>by obtain ⟨c',df,h⟩:=afZ c (Sp.mJ c) (Sp.bG (Sp.fM c) x).1 _ (ap3 (c:=c) (x:=x));exact ⟨((((c'.1,c'.2.1,c'.2.2.1,c'.2.2.2.1,c'.2.2.2.2.1,()),df,_,()),())),h⟩) ?_
 intro a l nx d r x0 x1 hin hp
 dsimp only [o9] at hp ⊢
 obtain ⟨⟨hc,hh,h10⟩,hx⟩:Sp.zJ (a,l,nx,d,r,())∧x1.length≤1000:=hp
 have h10:d.length≤10:=h10
 have hsm:Sp.aB d:=hc.2.1
 have sm:=Yh (x:=(x0,x1,())) hsm (by omega) hx
 refine ⟨⟨hsm,by omega,hx⟩,?_⟩
 rintro ⟨⟨o,ok,⟨⟩⟩,⟨⟩⟩ ⟨e1,e2⟩
 obtain rfl:o=(Sp.bG d (x0,x1,())).1:=e1
 obtain rfl:ok=(Sp.bG d (x0,x1,())).2:=e2
 refine af (fun h=>⟨hc,fun r1 hr1=>stays ?_ hr1⟩) fun h=>⟨hc,af (fun h2=>⟨hc,fun r3 hr3=>stays ?_ hr3⟩) fun h2=>⟨sm,af (fun h4=>⟨hc,fun r5 Ur=>stays ?_ Ur⟩) fun h4=>⟨⟨sm,(nV (dH h4)).2,by simp⟩,fun r6 P6=>⟨⟨hc,hc.1,sm⟩,fun r7 Uo=>?_⟩⟩⟩⟩
 · have h:(Sp.bG d (x0,x1,())).2=false:=fQ h
   show (_&&((Sp.bG d (x0,x1,())).2&&_))=false
   rw [h,Bool.false_and,Bool.and_false]
 · rw [fQ h2];rfl
 · show (_&&(_&&Sp.ax (Sp.bG d (x0,x1,())).1))=false
   rw [fQ h4,Bool.and_false,Bool.and_false]
 · exact af8 (c:=(a,l,nx,d,r,())) (x:=(x0,x1,())) (dH h2) (dH h) (dH h4) P6 Uo
theorem aay:ai prog G pq.e:=by
 refine aaz (ak ah ⟨afW,G5,AB,Jb,Qo,NR,trivial⟩) (fun ⟨c,x,_⟩ _=>by obtain ⟨c',df,h⟩:=afZ c (Sp.mJ c) (Sp.bG (Sp.fM c) x).1 _ (ap3 (c:=c) (x:=x));exact ⟨((((c'.1,c'.2.1,c'.2.2.1,c'.2.2.2.1,c'.2.2.2.2.1,()),df,_,()),())),h⟩) ?_
 intro a l nx d r x0 x1 hin hp
 dsimp only [pq] at hp ⊢
 obtain ⟨⟨hc,hh,h10⟩,hx⟩:Sp.zJ (a,l,nx,d,r,())∧x1.length≤1000:=hp
 have h10:d.length≤10:=h10
 have hsm:Sp.aB d:=hc.2.1
 have sm:=Yh (x:=(x0,x1,())) hsm (by omega) hx
 refine ⟨hc,?_⟩
 rintro ⟨⟨c0,⟨⟩⟩,⟨⟩⟩ ec
 obtain rfl:c0=(a,l,nx,d,r,()):=ec
 refine ⟨⟨hsm,by show d.length≤900;omega,hx⟩,?_⟩
 rintro ⟨⟨o,ok,⟨⟩⟩,⟨⟩⟩ ⟨e1,e2⟩
 obtain rfl:o=(Sp.bG d (x0,x1,())).1:=e1
 obtain rfl:ok=(Sp.bG d (x0,x1,())).2:=e2
 refine ⟨fun _=>Sp.gy (a,l,nx,d,r,())=true∧(Sp.bG d (x0,x1,())).2=true∧Sp.ax (Sp.bG d (x0,x1,())).1=true,⟨hc,af (fun h2=>stays ?_ rfl) fun h2=>af (fun h=>stays ?_ rfl) fun h=>⟨sm,af (fun h4=>stays ?_ rfl) fun h4=>⟨rfl,dH h2,dH h,dH h4⟩⟩⟩,fun _ hJ=>?_⟩
 · rw [fQ h2];rfl
 · have h:(Sp.bG d (x0,x1,())).2=false:=fQ h
   show (_&&((Sp.bG d (x0,x1,())).2&&_))=false
   rw [h,Bool.false_and,Bool.and_false]
 · show (_&&(_&&Sp.ax (Sp.bG d (x0,x1,())).1))=false
   rw [fQ h4,Bool.and_false,Bool.and_false]
 · obtain ⟨j1,j2,j3⟩:=hJ
   refine ⟨⟨sm,(nV j3).2,by simp⟩,fun r6 P6=>⟨⟨hc,hc.1,sm,?_⟩,fun r7 Uo=>af8 (c:=(a,l,nx,d,r,())) (x:=(x0,x1,())) j1 j2 j3 P6 Uo⟩⟩
   have:=(LU j1).2.1
   have this:Sp.aJ (a,l,nx,())=true:=this
   rw [j3,this];rfl
end Go.Proofs.Tryz
