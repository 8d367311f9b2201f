import Derived.Test.YtlbkigkbmeckbaaGreatP21
namespace Go.Proofs.Tryz
open Go Go.Fw Go.IntWalk
theorem KP:ai prog G lU.e:=by
 refine aaR (aj ah ⟨aiZ,VD,LQ,XQ,DR,IY,trivial⟩) (fun ⟨c,f,_⟩ _=>by obtain ⟨c',df,h⟩:=Q5 c f;exact ⟨((((c'.1,c'.2.1,c'.2.2.1,c'.2.2.2.1,c'.2.2.2.2.1,()),df,(Sp.iH c&&(Sp.aP (Sp.aY c) f).2),()),())),h⟩) ?_
 intro a l nx d r f0 f1 f2 f3 f4 hin hp
 dsimp only [lU] at hp ⊢
 obtain ⟨hc,hf,hhc,hhf⟩:=hp
 refine ⟨hc,?_⟩
 rintro ⟨⟨c',⟨⟩⟩,⟨⟩⟩ ec
 have ec:c'=(a,l,nx,d,r,()):=ec
 subst ec
 refine ⟨hc.1,⟨hc.1,hf⟩,?_⟩
 rintro ⟨⟨⟨sa,sl,sn,⟨⟩⟩,ok,⟨⟩⟩,⟨⟩⟩ ⟨e1,e2,e3,e4⟩
 have es:((sa,sl,sn,()):Sp.bZ)=(Sp.aP (a,l,nx,()) (f0,f1,f2,f3,f4,())).1:=Oh e1 e2 e3
 have e4:ok=(Sp.aP (a,l,nx,()) (f0,f1,f2,f3,f4,())).2:=e4
 have bad:(Sp.iH (a,l,nx,d,r,())&&(Sp.aP (a,l,nx,()) (f0,f1,f2,f3,f4,())).2)=false→Sp.updated (a,l,nx,d,r,()) (f0,f1,f2,f3,f4,()) (a,l,nx,d,r,()) [] false:=fun hz=>⟨hz.symm,fun h=>(by cases h),fun _=>⟨rfl,rfl⟩⟩
 dsimp only
 refine ⟨hc,af (fun h2=>bad ?_) fun h2=>af (fun h=>bad ?_) fun h=>?_⟩
 · rw [fO h2];rfl
 · have h:ok=false:=fO h
   rw [← e4,h,Bool.and_false]
 have h:ok=true:=dI h
 have h2:=dI h2
 obtain ⟨hst,hok,hev⟩:=KN h2
 have hst:Sp.aF d=true:=hst
 have hlen:=(uy hst).2
 have hfind:Sp.bW (Sp.au (a,l,nx,()) f0).1∧Sp.Ig (Sp.au (a,l,nx,()) f0).1:=by
  rcases Sp.kP l f0 with ⟨h,_⟩|⟨n,hn,h,_,_⟩
  · have e:Sp.au (a,l,nx,()) f0=(Sp.Ov,false):=by
     show (bif decide (Sp.place l f0<0) then _ else _)=_
     rw [h];rfl
    rw [e];exact ⟨Nat.zero_le _,Nat.zero_le _⟩
  · have e:Sp.au (a,l,nx,()) f0=(Sp.fileAt l n,true):=by
     show (bif decide (Sp.place l f0<0) then _ else (Sp.fileAt l (Sp.place l f0).toNat,true))=_
     rw [h,decide_eq_false (by omega)];rfl
    rw [e]
    have hm:Sp.fileAt l n∈l:=getD_mem hn
    exact ⟨hc.1.2.2 _ hm,hhc _ hm⟩
 have hh:(Sp.au (a,l,nx,()) f0).1.2.2.2.2.1.length≤500:=hfind.2
 have hh2:f4.length≤500:=hhf
 have hrep:(Sp.aP (a,l,nx,()) (f0,f1,f2,f3,f4,())).2=true:=e4▸h
 have hz:(Sp.aF d&&Sp.aH (Sp.aP (a,l,nx,()) (f0,f1,f2,f3,f4,())).1)=true:=by rw [hst,Vx hrep];rfl
 have hz2:(Sp.iH (a,l,nx,d,r,())&&(Sp.aP (a,l,nx,()) (f0,f1,f2,f3,f4,())).2)=true:=by rw [h2,hrep];rfl
 refine ⟨⟨hc.2.1,hlen,hfind.1,hf,by omega⟩,fun r10 Vy=>⟨⟨hc,?_,hc.2.1,?_⟩,fun r11 afZ=>?_⟩⟩
 · rw [es];exact Sp.TQ hc.1 hf
 · rw [es];exact hz
 · rw [es] at afZ
   obtain ⟨g1,g2,g3⟩:=afZ
   obtain ⟨k1,k2,k3,k4⟩:=g2 rfl
   exact ⟨hz2.symm,fun _=>⟨k1,k2,Sp.QO k3 (fun i hi=>ara Vy _) fun _ _ _=>rfl,k4⟩,fun hno=>by cases hno⟩
theorem avz {a b:Sp.jB} (h1:Sp.aY a=Sp.aY b) (h2:Sp.jW a=Sp.jW b) (h3:Sp.zQ a=Sp.zQ b):a=b:=by
 obtain ⟨x1,x2,x3,x4,x5,_⟩:=a
 obtain ⟨y1,y2,y3,y4,y5,_⟩:=b
 have t1:x1=y1:=congrArg (fun s:Sp.bZ=>s.1) h1
 have t2:x2=y2:=congrArg (fun s:Sp.bZ=>s.2.1) h1
 have t3:x3=y3:=congrArg (fun s:Sp.bZ=>s.2.2.1) h1
 have t4:x4=y4:=h2
 have t5:x5=y5:=h3
 rw [t1,t2,t3,t4,t5]
theorem auB {a b:Sp.jB} (ha:Sp.iH a=true) (hb:Sp.iH b=true) (h1:Sp.aY a=Sp.aY b) (h2:Sp.jW a=Sp.jW b):a=b:=by
 obtain ⟨hst,_,e1⟩:=KN ha
 obtain ⟨_,_,e2⟩:=KN hb
 have hf:a.2.1=b.2.1:=congrArg (fun s:Sp.bZ=>s.2.1) h1
 rw [← hf,← h2] at e2
 exact avz h1 h2 (Sp.aaA (uy hst).1 e1 e2)
end Go.Proofs.Tryz
