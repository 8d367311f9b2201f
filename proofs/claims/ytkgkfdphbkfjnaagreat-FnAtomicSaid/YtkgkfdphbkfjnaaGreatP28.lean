import Derived.Test.YtkgkfdphbkfjnaaGreatP27
import Derived.Test.YtkgkfdphbkfjnaaGreatV10
import Derived.Test.YtkgkfdphbkfjnaaGreatL3
namespace Go.Proofs.Tryz
open Go Go.Fw Go.IntWalk Sp
theorem adl:OK Eu.e:=by
 refine PA.ok mixed (au [iT.e] ⟨jA,trivial⟩) H0 (by kernel_rfl) (show∀f0 f1 f2 f3 f4 u,Eu.goal (adn f0 f1 f2 f3 f4 u) ((f0,f1,f2,f3,f4,()),u,())from ?_);intro f0 f1 f2 f3 f4 u hin hp;dsimp only[Eu]at hp ⊢;refine⟨trivial,af (λh=>?_) λh=>?_⟩
 all_goals refine congrArg (·,()) ?_
 .show _=((decide (0<=u)&&decide (u<=2))&&decide (f1=u));rw[h];rfl
 .show _=((decide (0<=u)&&decide (u<=2))&&decide (f1=u));rw[h];rfl
theorem ado:OK Ew.e:=by
 refine PA.ok mixed (au [yx.e] ⟨Kr,trivial⟩) H0 (by kernel_rfl) (show∀f0 f1 f2 f3 f4 user,Ew.goal (adp f0 f1 f2 f3 f4 user) ((f0,f1,f2,f3,f4,()),user,())from ?_);intro f0 f1 f2 f3 f4 u hin hp;dsimp only[Ew]at hp ⊢;refine⟨trivial,af (λh=>?_) λh=>?_⟩
 all_goals refine congrArg (·,()) ?_
 .show _=((decide (0<=u)&&decide (u<=2))&&decide (f1=u));rw[h];rfl
 .show _=((decide (0<=u)&&decide (u<=2))&&decide (f1=u));rw[h];rfl
theorem Vf:OK xZ.e:=by
 refine PA.ok mixed (au [] trivial) WN (by kernel_rfl) (show∀s0 s1 s2 u,xZ.goal (Vg s0 s1 s2 u) ((s0,s1,s2,()),u,())from ?_);intro s0 s1 s2 u hin hp;dsimp only[xZ]at hp ⊢;have hp:s1.length<=1000:=hp;refine dM (λi(x:List (Int×Unit))=>(((),i,()),x,())) (λy=>y.1.2.1) (λ_ _=>rfl) s1.length (by omega) (λn l=>l=wO (s1.take n) u) rfl (λI μ n l hn hJ next=>?_) λI μ l hJ=>?_
 .subst hJ;have hl:=aod (s1.take n) u;rw[aut]at hl;dsimp only;refine dn (by omega) ⟨⟨by omega,by omega⟩,af (λh=>⟨⟨by omega,by omega⟩,by rw[bY];simp only[auv,auz];omega,rfl,next _ ?_⟩) λh=>⟨rfl,next _ ?_⟩⟩
  .rw[aeJ hn,if_pos (show(Sp.fileAt s1 n).2.1=u from fG h)];rfl
  .rw[aeJ hn,if_neg (show ¬(Sp.fileAt s1 n).2.1=u from fZ h),avr]
 .subst hJ;dsimp only;refine dw (by omega) ?_;rw[auO]
theorem afI:OK FM.e:=by refine XA.ok mixed (au [iG.e] ⟨jF,trivial⟩) H0 (λ_ _=>⟨((0,()),(([],0,0,()),())),au7 0⟩) (by kernel_rfl) (show∀c0 c1 c2,FM.goal (afJ c0 c1 c2) ((c0,c1,c2,()),())from ?_);intro b i h hin hp;dsimp only[FM]at hp ⊢;exact⟨⟨hp,by simp⟩,λr0 hr0=>hr0.1⟩
theorem Ro:OK uP.e:=by
 refine XA.ok mixed (au [vN.e,AX.e,uH.e] ⟨LC,Qy,Ig,trivial⟩) H0 (λ_ _=>by obtain⟨c,h⟩:=aid;exact⟨(((c.1,c.2.1,c.2.2.1,c.2.2.2.1,c.2.2.2.2.1,()),()),(([],0,0,()),())),⟨au7 0,h⟩⟩) (by kernel_rfl) (show∀c0 c1 c2,uP.goal (Rq c0 c1 c2) ((c0,c1,c2,()),())from ?_);intro b i h hin hp;dsimp only[uP]at hp ⊢;refine⟨hp,λr0 hr0=>⟨hr0.1,λr1 hr1=>⟨⟨hr0.2.2.2.2.1,hr1.2.2.1⟩,?_⟩⟩⟩;rintro⟨⟨⟨a,fs,nx,d,r,⟨⟩⟩,ok,⟨⟩⟩,⟨⟩⟩ ⟨e1,e2,_⟩;have hz:(aj r1.1.1&&aB r0.1.1)=true:=by rw[hr1.2.2.2.1,hr0.2.2.1];rfl
 obtain⟨k1,k2,k3⟩:=e2 (e1.trans hz);have k1:((a,fs,nx,()):bU)=r0.1.1:=k1;have k2:d=r1.1.1:=k2;refine⟨hr1.1,?_⟩;subst k2;rw[← k1]at hr0 k3;exact⟨ag9 hr0.2.1 hr0.2.2.1 hr0.2.2.2.2.1 hr0.2.2.2.2.2 hr1.2.2.1 hr1.2.2.2.1 k3,hr1.2.2.2.2⟩
end Go.Proofs.Tryz
