import Derived.Test.YtncbcelpbmlgdaaGreatDoorP91
import Derived.Test.YtncbcelpbmlgdaaGreatDoorSp
namespace Go.Proofs.Tryz
open Go Go.Fw Go.IntWalk Sp
set_option maxRecDepth 100000
theorem ahO{s:List UInt8}(h:bY s):Gq (Sp.inner (Sp.pieces 10 s)):=by unfold Sp.inner;refine⟨?_,λx hx=>h.2 x (aqp (aqc hx))⟩;have:=h.1;rw[apj,ao2];omega
theorem amw(x:aQ):Sp.slot 0 x=[]:=by unfold Sp.slot;rw[ao1 (by omega),aqI,aqd];rfl
theorem Ri:OK uG.e:=by
 refine PA.ok mixed (aO [pF.e,(vI,.pure rD),(qH,.pure oI),(CO,.pure zB)] ⟨Ey,⟨JH,Ib⟩,⟨uM,yN⟩,⟨GZ,TQ⟩,trivial⟩) H0 (by kernel_rfl) (show∀s,uG.goal (Ez s) (s,())from ?_);intro s hin hp;dsimp only[uG]at hp ⊢;have hp:bY s:=hp;have hl:=ZA hp;dsimp only[Ez];rw[show([10]:List UInt8).getD 0 0=10 from rfl,show(1:Int).toNat=1 from rfl,show(0:Int).toNat=0 from rfl];refine⟨⟨by omega,.inr rfl⟩,af (λh=>?_) λh=>?_⟩
 .have h:=fV h;unfold aF;rw[ao1 (by omega)];rfl
 have h:=gK h;have h2:2<=(Sp.pieces 10 s).length:=by omega
 have hc:=hp.1;have ew:IntKind.i64.wrap (((Sp.pieces 10 s).length:Int)-1)=(((Sp.pieces 10 s).length-1:Nat):Int):=by rw[wrap_in (by omega)];omega
 have ei:List.drop 1 (List.take ((Sp.pieces 10 s).length-1) (Sp.pieces 10 s))=Sp.inner (Sp.pieces 10 s):=rfl;have hne:s≠[]:=λe=>by rw[e]at h2;exact absurd h2 (by decide)
 have hn:aU ((Sp.pieces 10 s).getD 0 ([],())).1=false->decide (Sp.slot (Sp.parseNum ((Sp.pieces 10 s).getD 0 ([],())).1) (Sp.dec (Sp.inner (Sp.pieces 10 s))).1=s)=false:=λe=>by rw[xC e,amw];exact ao1 λe2=>hne e2.symm
 have hd:aF s=bif (Sp.dec (Sp.inner (Sp.pieces 10 s))).2&&decide (Sp.slot (Sp.parseNum ((Sp.pieces 10 s).getD 0 ([],())).1) (Sp.dec (Sp.inner (Sp.pieces 10 s))).1=s)then(Sp.parseNum ((Sp.pieces 10 s).getD 0 ([],())).1,(Sp.dec (Sp.inner (Sp.pieces 10 s))).1,true)else(0,dw,false):=by unfold aF;rw[aoZ h2];rfl
 rw[ew,ao6,ei,hd];refine⟨⟨by decide,by omega⟩,trivial,⟨by decide,by omega,by omega⟩,ahO hp,af (λg=>?_) λg=>af (λg2=>?_) λg2=>⟨ahP _,af (λg3=>?_) λg3=>?_⟩⟩
 .rw[hn (iW g),aqd];rfl
 .rw[iW g2];rfl
 .have g3:(Sp.slot (Sp.parseNum ((Sp.pieces 10 s).getD 0 ([],())).1) (Sp.dec (Sp.inner (Sp.pieces 10 s))).1==s)=false:=iW g3;rw[ao1 (aoL.1 g3),aqd];rfl
 .have g3:(Sp.slot (Sp.parseNum ((Sp.pieces 10 s).getD 0 ([],())).1) (Sp.dec (Sp.inner (Sp.pieces 10 s))).1==s)=true:=fC g3;rw[aoZ (apf.1 g3),fC g2];rfl
theorem EC:OK pG.e:=by
 refine PA.ok mixed (aO [uG.e] ⟨Ri,trivial⟩) H0 (by kernel_rfl) (show∀d0 d1,pG.goal (Rj d0 d1) ((d0,d1,()),())from ?_);intro a b hin hp;dsimp only[pG]at hp ⊢;obtain⟨ha,hb⟩:bY a/\bY b:=hp;refine⟨ha,hb,?_⟩;dsimp only;unfold Sp.latest;refine af (λg=>?_) λg=>?_
 .rw[g];refine af (λg2=>?_) λg2=>af (λg3=>?_) λg3=>?_
  .rw[g2];rfl
  .rw[aoZ (show(aF a).1<(aF b).1 from fV g3),Bool.or_true];rfl
  .rw[g2,ao1 (show ¬(aF a).1<(aF b).1 from gK g3)];rfl
 .rw[g];rfl
theorem JI:OK oU.e:=by refine PA.ok mixed (aO [pG.e] ⟨EC,trivial⟩) H0 (by kernel_rfl) (show∀d0 d1,oU.goal (JJ d0 d1) ((d0,d1,()),())from ?_);intro a b hin hp;dsimp only[oU]at hp ⊢;exact⟨hp,rfl⟩
theorem Wj:OK yw.e:=by refine PA.ok mixed (aO [pF.e,pG.e] ⟨Ey,EC,trivial⟩) H0 (by kernel_rfl) (show∀d0 d1 x0 x1 x2 x3,yw.goal (Wl d0 d1 x0 x1 x2 x3) ((d0,d1,()),(x0,x1,x2,x3,()),())from ?_);intro a b x0 x1 x2 x3 hin hp;dsimp only[yw]at hp ⊢;obtain⟨ha,hb,hx⟩:bY a/\bY b/\gq (x0,x1,x2,x3,()):=hp;have hn:=agn a b;refine⟨⟨ha,hb⟩,hx,?_⟩;dsimp only;rw[wrap_in (by omega)];rfl
theorem Ug:OK wH.e:=by
 refine PA.ok mixed (aO [BM.e,yw.e] ⟨abm,Wj,trivial⟩) Wn (by kernel_rfl) (show∀d0 d1 x0 x1 x2 x3 keep,wH.goal (Uh d0 d1 x0 x1 x2 x3 keep) ((d0,d1,()),(x0,x1,x2,x3,()),keep,())from ?_);intro a b x0 x1 x2 x3 k hin hp;dsimp only[wH]at hp ⊢;refine⟨hp,?_⟩;dsimp only;unfold bP;rw[show∀l:List UInt8,List.drop 0 l=l fromλ_=>rfl,show∀n:Nat,(max 0 (min k (n:Int))).toNat=Sp.kept k n fromλ_=>rfl];generalize bg a b (x0,x1,x2,x3,())=t;refine af (λg=>by rw[g];rfl) λg=>?_;rw[g];refine⟨by omega,⟨by omega,by omega⟩,af (λg2=>?_) λg2=>?_⟩
 .rw[iW g2];rfl
 .rw[fC g2];rfl
end Go.Proofs.Tryz
namespace Go.Proofs.Tryz
open Go Go.Fw Go.IntWalk Sp
set_option maxRecDepth 100000
theorem ae4{a:List dH}{l:List aT}{nx m:Int}(h:((a,l,nx,()):gI)=Sp.sample m):((a,l,nx,[],()):aQ)=Ny m:=by unfold Ny;rw[← h]
theorem Pe:OK yF.e:=by
 refine PA.ok mixed (aO [qW.e,oU.e,wH.e,sH.e,uy.e,Fg.e] ⟨Nz,JI,Ug,Pg,Rk,aep,trivial⟩) H0 (by kernel_rfl) (show∀code,yF.goal (Ph code) (code,())from ?_);intro code hin hp;dsimp only[yF]at hp ⊢;refine⟨trivial,af (λ_=>rfl) λhc=>?_⟩;have hc:=gK hc;refine⟨by omega,λr1 h1=>?_⟩;obtain⟨⟨p,⟨⟩⟩,⟨⟩⟩:=r1;obtain⟨alj,hpx⟩:=h1;have alj:p.length=12:=alj;have hk:(p.getD 2 (0,())).1.tmod 20<20:=arH _ (by decide);refine⟨⟨by decide,by show(0:Int)<(p.length:Int);omega⟩,by decide,trivial,?_⟩;rintro⟨⟨⟨a,l,nx,⟨⟩⟩,⟨⟩⟩,⟨⟩⟩ h2;refine⟨⟨by decide,by show(1:Int)<(p.length:Int);omega⟩,by decide,trivial,?_⟩;rintro⟨⟨⟨a',l',nx',⟨⟩⟩,⟨⟩⟩,⟨⟩⟩ h3;have eA:=ae4 h2;have eB:=ae4 h3;have hA:bK (a,l,nx,[],())=true:=by rw[eA];exact Wp _
 have hB:bK (a',l',nx',[],())=true:=by rw[eB];exact Wp _
 have h20:20<=(Sp.slot 3 (a,l,nx,[],())).length:=by rw[eA];exact akv _
 have sA:=Wq hA;have sB:=Wq hB;clear eA eB h2 h3;have key:=λ{W1 W2 W3}=>@akw (a,l,nx,[],()) (a',l',nx',[],()) hA hB (ac7 _ _ _) (ac7 _ _ _) h20 _ hk W1 W2 W3;clear h20 hA hB;have f1:=Rl (x:=(a,l,nx,[],())) (k:=1000000) Tt Tt;dsimp only;generalize e1:bP [] [] (a,l,nx,[],()) 1000000=W1 at f1 ⊢;have f2:=Rl (x:=(a',l',nx',[],())) (k:=1000000) f1.1 f1.2;generalize e2:bP W1.1.1 W1.1.2.1 (a',l',nx',[],()) 1000000=W2 at f2 ⊢;have f3:=Rl (x:=(a,l,nx,[],())) (k:=(p.getD 2 (0,())).1.tmod 20) f2.1 f2.2;rw[show(2:Int).toNat=2 from rfl];generalize e3:bP W2.1.1 W2.1.2.1 (a,l,nx,[],()) ((p.getD 2 (0,())).1.tmod 20)=W3 at f3 ⊢;obtain⟨k1,k2,k3,k4,k5,k6,k7,k8,k9⟩:=key e1.symm e2.symm e3.symm;rw[k1,k2,k3,k4,k5,k6,k7,k8];refine⟨⟨Tt,Tt,sA⟩,⟨f1.1,f1.2,sB⟩,⟨k8▸f2.1,f2.2⟩,⟨by decide,by show(2:Int)<(p.length:Int);omega⟩,by decide,⟨k8▸f2.1,f2.2,sA⟩,⟨f3.1,f3.2⟩,?_⟩;rw[aoZ (show(((2,(a',l',nx',[],()),true,false):Int×aQ×Bool×Bool).2.1.1,((2,(a',l',nx',[],()),true,false):Int×aQ×Bool×Bool).2.1.2.1,((2,(a',l',nx',[],()),true,false):Int×aQ×Bool×Bool).2.1.2.2.1,((2,(a',l',nx',[],()),true,false):Int×aQ×Bool×Bool).2.1.2.2.2.1,())=(a',l',nx',[],())from rfl),
  aqL,aoL.2 k9]
 have e:(W1.1.1==W1.1.1)=true:=aqL _;refine⟨trivial,trivial,?_⟩;rw[e];rfl
end Go.Proofs.Tryz
