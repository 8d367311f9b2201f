import Derived.Test.YtlbkigkbmeckbaaGreatP21
namespace Go.Proofs.Tryz
open Go Go.Fw Go.IntWalk
theorem ZC:ai prog G oQ.e:=by
 refine ZE (aj ah ⟨Hz,Ux,EN,Wq,aeP,Hw,trivial⟩) (fun ⟨c,f,_⟩ _=>by obtain ⟨c',df,h⟩:=adq c f;exact ⟨((((c'.1,c'.2.1,c'.2.2.1,c'.2.2.2.1,c'.2.2.2.2.1,()),df,(Sp.dS c&&(Sp.aU (Sp.bJ c) f).2),()),())),h⟩) ?_
 intro a l nx d r f0 f1 f2 f3 f4 hin hp
 dsimp only [oQ] at hp ⊢
 obtain ⟨hc,hf,hhc,hhf⟩:=hp
 refine ⟨hc,?_⟩
 rintro ⟨⟨c',⟨⟩⟩,⟨⟩⟩ ec
 have ec:c'=(a,l,nx,d,r,()):=ec
 subst ec
 refine ⟨hc.1,⟨hc.1,hf⟩,?_⟩
 rintro ⟨⟨⟨sa,sl,sn,⟨⟩⟩,ok,⟨⟩⟩,⟨⟩⟩ ⟨e1,e2,e3,e4⟩
 have es:((sa,sl,sn,()):Sp.bV)=(Sp.aU (a,l,nx,()) (f0,f1,f2,f3,f4,())).1:=Cj e1 e2 e3
 have e4:ok=(Sp.aU (a,l,nx,()) (f0,f1,f2,f3,f4,())).2:=e4
 have bad:(Sp.dS (a,l,nx,d,r,())&&(Sp.aU (a,l,nx,()) (f0,f1,f2,f3,f4,())).2)=false→Sp.updated (a,l,nx,d,r,()) (f0,f1,f2,f3,f4,()) (a,l,nx,d,r,()) [] false:=fun hz=>⟨hz.symm,fun h=>(by cases h),fun _=>⟨rfl,rfl⟩⟩
 dsimp only
 refine ⟨hc,af (fun h2=>bad ?_) fun h2=>af (fun h=>bad ?_) fun h=>?_⟩
 · rw [fV h2];rfl
 · have h:ok=false:=fV h
   rw [← e4,h,Bool.and_false]
 have h:ok=true:=dO h
 have h2:=dO h2
 obtain ⟨hst,hok,hev⟩:=wF h2
 have hst:Sp.aF d=true:=hst
 have hlen:=(kN hst).2
 have hfind:Sp.bU (Sp.eu (a,l,nx,()) f0).1∧Sp.Ot (Sp.eu (a,l,nx,()) f0).1:=by
  rcases Sp.sG l f0 with ⟨h,_⟩|⟨n,hn,h,_,_⟩
  · have e:Sp.eu (a,l,nx,()) f0=(Sp.Zd,false):=by
     show (bif decide (Sp.place l f0<0) then _ else _)=_
     rw [h];rfl
    rw [e];exact ⟨Nat.zero_le _,Nat.zero_le _⟩
  · have e:Sp.eu (a,l,nx,()) f0=(Sp.fileAt l n,true):=by
     show (bif decide (Sp.place l f0<0) then _ else (Sp.fileAt l (Sp.place l f0).toNat,true))=_
     rw [h,decide_eq_false (by omega)];rfl
    rw [e]
    have hm:Sp.fileAt l n∈l:=getD_mem hn
    exact ⟨hc.1.2.2 _ hm,hhc _ hm⟩
 have hh:(Sp.eu (a,l,nx,()) f0).1.2.2.2.2.1.length≤500:=hfind.2
 have hh2:f4.length≤500:=hhf
 have hrep:(Sp.aU (a,l,nx,()) (f0,f1,f2,f3,f4,())).2=true:=e4▸h
 have hz:(Sp.aF d&&Sp.aB (Sp.aU (a,l,nx,()) (f0,f1,f2,f3,f4,())).1)=true:=by rw [hst,Uu hrep];rfl
 have hz2:(Sp.dS (a,l,nx,d,r,())&&(Sp.aU (a,l,nx,()) (f0,f1,f2,f3,f4,())).2)=true:=by rw [h2,hrep];rfl
 refine ⟨⟨hc.2.1,hlen,hfind.1,hf,by omega⟩,fun r10 asu=>⟨⟨hc,?_,hc.2.1,?_⟩,fun r11 an0=>?_⟩⟩
 · rw [es];exact Sp.RN hc.1 hf
 · rw [es];exact hz
 · rw [es] at an0
   obtain ⟨g1,g2,g3⟩:=an0
   obtain ⟨k1,k2,k3,k4⟩:=g2 rfl
   exact ⟨hz2.symm,fun _=>⟨k1,k2,Sp.Jf k3 (fun i hi=>apm asu _) fun _ _ _=>rfl,k4⟩,fun hno=>by cases hno⟩
theorem atF {a b:Sp.jv} (h1:Sp.bJ a=Sp.bJ b) (h2:Sp.fF a=Sp.fF b) (h3:Sp.jH a=Sp.jH b):a=b:=by
 obtain ⟨x1,x2,x3,x4,x5,_⟩:=a
 obtain ⟨y1,y2,y3,y4,y5,_⟩:=b
 have t1:x1=y1:=congrArg (fun s:Sp.bV=>s.1) h1
 have t2:x2=y2:=congrArg (fun s:Sp.bV=>s.2.1) h1
 have t3:x3=y3:=congrArg (fun s:Sp.bV=>s.2.2.1) h1
 have t4:x4=y4:=h2
 have t5:x5=y5:=h3
 rw [t1,t2,t3,t4,t5]
theorem asA {a b:Sp.jv} (ha:Sp.dS a=true) (hb:Sp.dS b=true) (h1:Sp.bJ a=Sp.bJ b) (h2:Sp.fF a=Sp.fF b):a=b:=by
 obtain ⟨hst,_,e1⟩:=wF ha
 obtain ⟨_,_,e2⟩:=wF hb
 have hf:a.2.1=b.2.1:=congrArg (fun s:Sp.bV=>s.2.1) h1
 rw [← hf,← h2] at e2
 exact atF h1 h2 (Sp.Nj (kN hst).1 e1 e2)
end Go.Proofs.Tryz
