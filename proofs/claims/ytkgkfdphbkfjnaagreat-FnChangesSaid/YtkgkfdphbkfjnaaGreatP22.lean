import Derived.Test.YtkgkfdphbkfjnaaGreatP21
namespace Go.Proofs.Tryz
open Go Go.Fw Go.IntWalk Sp
theorem YB:OK Ae.e:=by
 refine XA.ok mixed (au [oW.e,xI.e,lM.e,yP.e,uw.e,oV.e] ⟨zA,UG,vG,VL,Hz,zy,trivial⟩) aap (fun ⟨c,f,_⟩ _=>by obtain ⟨c',df,h⟩:=abe c f;exact ⟨((((c'.1,c'.2.1,c'.2.2.1,c'.2.2.2.1,c'.2.2.2.2.1,()),df,(dF c&&(aV (aT c) f).2),()),())),h⟩) (by kernel_rfl) (show ∀ l0 l1 l2 l3 l4 f0 f1 f2 f3 f4,Ae.goal (YC l0 l1 l2 l3 l4 f0 f1 f2 f3 f4) ((l0,l1,l2,l3,l4,()),(f0,f1,f2,f3,f4,()),()) from ?_)
 intro a l nx d r f0 f1 f2 f3 f4 hin hp
 dsimp only [Ae] at hp ⊢
 obtain ⟨hc,hf,hhc,hhf⟩:=hp
 refine ⟨hc,?_⟩
 rintro ⟨⟨c',⟨⟩⟩,⟨⟩⟩ ec
 have ec:c'=(a,l,nx,d,r,()):=ec
 subst ec
 refine ⟨hc.1,⟨hc.1,hf⟩,?_⟩
 rintro ⟨⟨⟨sa,sl,sn,⟨⟩⟩,ok,⟨⟩⟩,⟨⟩⟩ ⟨e1,e2,e3,e4⟩
 have es:((sa,sl,sn,()):bT)=(aV (a,l,nx,()) (f0,f1,f2,f3,f4,())).1:=C9 e1 e2 e3
 have e4:ok=(aV (a,l,nx,()) (f0,f1,f2,f3,f4,())).2:=e4
 have bad:(dF (a,l,nx,d,r,())&&(aV (a,l,nx,()) (f0,f1,f2,f3,f4,())).2)=false→Sp.updated (a,l,nx,d,r,()) (f0,f1,f2,f3,f4,()) (a,l,nx,d,r,()) [] false:=fun hz=>⟨hz.symm,fun h=>(by cases h),fun _=>⟨rfl,rfl⟩⟩
 dsimp only
 refine ⟨hc,af (fun h2=>bad ?_) fun h2=>af (fun h=>bad ?_) fun h=>?_⟩
 · rw [dS h2];rfl
 · have h:ok=false:=dS h
   rw [← e4,h,Bool.and_false]
 have h:ok=true:=bU h
 have h2:=bU h2
 obtain ⟨hst,hok,hev⟩:=kG h2
 have hst:ai d=true:=hst
 have hlen:=(ji hst).2
 have hfind:cu (aO (a,l,nx,()) f0).1∧Tf (aO (a,l,nx,()) f0).1:=by
  rcases lZ l f0 with ⟨h,_⟩|⟨n,hn,h,_,_⟩
  · have e:aO (a,l,nx,()) f0=(X6,false):=by
     show (bif decide (Sp.place l f0<0) then _ else _)=_
     rw [h];rfl
    rw [e];exact ⟨Nat.zero_le _,Nat.zero_le _⟩
  · have e:aO (a,l,nx,()) f0=(Sp.fileAt l n,true):=by
     show (bif decide (Sp.place l f0<0) then _ else (Sp.fileAt l (Sp.place l f0).toNat,true))=_
     rw [h,decide_eq_false (by omega)];rfl
    rw [e]
    have hm:Sp.fileAt l n∈l:=getD_mem hn
    exact ⟨hc.1.2.2 _ hm,hhc _ hm⟩
 have hh:(aO (a,l,nx,()) f0).1.2.2.2.2.1.length≤500:=hfind.2
 have hh2:f4.length≤500:=hhf
 have hrep:(aV (a,l,nx,()) (f0,f1,f2,f3,f4,())).2=true:=e4▸h
 have hz:(ai d&&ax (aV (a,l,nx,()) (f0,f1,f2,f3,f4,())).1)=true:=by rw [hst,UD hrep];rfl
 have hz2:(dF (a,l,nx,d,r,())&&(aV (a,l,nx,()) (f0,f1,f2,f3,f4,())).2)=true:=by rw [h2,hrep];rfl
 refine ⟨⟨hc.2.1,hlen,hfind.1,hf,by omega⟩,fun r10 aoo=>⟨⟨hc,?_,hc.2.1,?_⟩,fun r11 ajC=>?_⟩⟩
 · rw [es];exact Sv hc.1 hf
 · rw [es];exact hz
 · rw [es] at ajC
   obtain ⟨g1,g2,g3⟩:=ajC
   obtain ⟨k1,k2,k3,k4⟩:=g2 rfl
   exact ⟨hz2.symm,fun _=>⟨k1,k2,Kv k3 (fun i hi=>alb aoo _) fun _ _ _=>rfl,k4⟩,fun hno=>by cases hno⟩
theorem apC {a b:gm} (h1:aT a=aT b) (h2:bJ a=bJ b) (h3:uV a=uV b):a=b:=by
 obtain ⟨x1,x2,x3,x4,x5,_⟩:=a
 obtain ⟨y1,y2,y3,y4,y5,_⟩:=b
 have t1:x1=y1:=congrArg (fun s:bT=>s.1) h1
 have t2:x2=y2:=congrArg (fun s:bT=>s.2.1) h1
 have t3:x3=y3:=congrArg (fun s:bT=>s.2.2.1) h1
 have t4:x4=y4:=h2
 have t5:x5=y5:=h3
 rw [t1,t2,t3,t4,t5]
theorem aot {a b:gm} (ha:dF a=true) (hb:dF b=true) (h1:aT a=aT b) (h2:bJ a=bJ b):a=b:=by
 obtain ⟨hst,_,e1⟩:=kG ha
 obtain ⟨_,_,e2⟩:=kG hb
 have hf:a.2.1=b.2.1:=congrArg (fun s:bT=>s.2.1) h1
 rw [← hf,← h2] at e2
 exact apC h1 h2 (Oz (ji hst).1 e1 e2)
end Go.Proofs.Tryz
