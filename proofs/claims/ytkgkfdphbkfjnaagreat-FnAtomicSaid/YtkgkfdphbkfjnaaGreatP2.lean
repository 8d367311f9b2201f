import Derived.Test.YtkgkfdphbkfjnaaGreatV2
import Derived.Test.YtkgkfdphbkfjnaaGreatP1
import Derived.Test.YtkgkfdphbkfjnaaGreatFwC
import Derived.Test.YtkgkfdphbkfjnaaGreatSp
namespace Go.Proofs.Tryz
open Go Go.Fw Go.IntWalk Sp
theorem YZ:OK Ac.e:=by
 refine XA.ok mixed (au [iI.e] ⟨jE,trivial⟩) H0 (λ_ _=>⟨((([]:List UInt8),()),(([],0,0,()),())),⟨by decide,by decide⟩⟩) (by kernel_rfl) (show∀c0 c1 c2,Ac.goal (Y0 c0 c1 c2) ((c0,c1,c2,()),())from ?_);intro b i h hin hp;dsimp only[Ac]at hp ⊢;have hp:0<=i:=hp
 repeat' first
  |exact trivial
  |refine af (λ_=>?_) λ_=>?_
  |refine And.intro ?_ ?_
  |(intro r hr;simp only[]at hr)
  |intro r hr
 all_goals first
  |omega
  |(dsimp only at*;omega)
  |exact hr
  |(simp only[auu,ne_eq]at*;omega)
  |(simp only[auR,aut,auy,auv,auz];omega)
  |(rw[bY];simp only[auR,aut,auy,auv,auz];omega)
  |(simp only[auR,aut,auy,auv,auz]at*;omega)
  |exact(show∀y∈_,List.length y.1<=10 from by decide) _ hr.2
  |(simp;done)
  |skip
theorem QC:OK wK.e:=by
 refine XA.ok mixed (au [Ac.e,lT.e,uF.e,iI.e,dS.e] ⟨YZ,yh,Ic,jE,eG,trivial⟩) H0 (λ_ _=>⟨((((0:Int),(0:Int),(0:Int),([]:List UInt8),(0:Int),(0:Int),([]:List UInt8),()),()),(([],0,0,()),())),⟨by decide,trivial⟩⟩) (by kernel_rfl) (show∀c0 c1 c2,wK.goal (afm c0 c1 c2) ((c0,c1,c2,()),())from ?_);intro b i h hin hp;dsimp only[wK]at hp ⊢;have hp:0<=i:=hp
 repeat' first
  |exact trivial
  |refine af (λ_=>?_) λ_=>?_
  |refine And.intro ?_ ?_
  |(intro r hr;simp only[]at hr)
  |intro r hr
 all_goals first
  |omega
  |(dsimp only at*;omega)
  |exact hr
  |(simp only[auu,ne_eq]at*;omega)
  |(simp only[auR,aut,auy,auv,auz];omega)
  |(rw[bY];simp only[auR,aut,auy,auv,auz];omega)
  |(simp only[auR,aut,auy,auv,auz]at*;omega)
  |exact(show∀y∈_,List.length y.1<=10 from by decide) _ hr.2
  |(simp;done)
  |skip
theorem Tv[tq](U7:ku prog G x9 AP):ku prog G Jq Gt:=by
 refine Tz (au [(x9,.eff (DC qw) AP),dS.e,wK.e,kV.e] ⟨⟨U7,SE⟩,eG,QC,uX,trivial⟩) (λ⟨_,q,deep,_,_⟩ _=>⟨((q++[(0,0,0,[],0,0,[],())],()),(([],0,0,()),())),⟨by decide,by simp,by simp⟩⟩) ?_;intro b i h q deep not hin hp;obtain⟨⟨hp1,hp2,hp3,hp4⟩,hp5⟩:=hp;have hw:IntKind.i64.wrap (deep-1)=deep-1:=eP _ (by omega);refine⟨λy=>0<=y.2.1.2.1/\0<deep,?_⟩;dsimp only;rw[hw]
 repeat' first
  |exact trivial
  |refine af (λ_=>?_) λ_=>?_
  |refine And.intro ?_ ?_
  |(intro r hr;simp only[]at hr)
  |intro r hr
 all_goals first
  |omega
  |(dsimp only at*;omega)
  |exact hr
  |(simp only[auu,ne_eq]at*;omega)
  |(simp only[auR,aut,auy,auv,auz];omega)
  |(rw[bY];simp only[auR,aut,auy,auv,auz];omega)
  |(simp only[auR,aut,auy,auv,auz]at*;omega)
  |exact(show∀y∈_,List.length y.1<=10 from by decide) _ hr.2
  |(simp;done)
  |skip
theorem afn:ku prog G agJ abX:=
 aqk (λn=>@JG ⟨n⟩) (λn=>@vY ⟨n⟩) (by rintro⟨⟨b,i,h,⟨⟩⟩,q,deep,not,⟨⟩⟩ h;exact axd _ h.2) (by rintro _ ⟨⟨b,i,h,⟨⟩⟩,q,deep,not,⟨⟩⟩;rfl) (by rintro⟨⟨b,i,h,⟨⟩⟩,q,deep,not,⟨⟩⟩ h;exact⟨_,h,axz _⟩) (by rintro _ ⟨⟨b,i,h,⟨⟩⟩,q,deep,not,⟨⟩⟩;rfl) λn h=>@Tv ⟨n⟩ h
theorem JA:ku prog G yg AQ:=
 anX (F:=RD) (F':=JH) (by decide) afn (λa x h=>⟨h.1,h.2.1,h.2.2,(show∀z:Int,0<=z->z<=4->0+2*z.toNat<=900 fromλz _ _=>by omega) _ h.2.1 h.2.2⟩) λa x h=>rfl
theorem JS:OK tu.e:=by
 refine XA.ok mixed (au [(yg,.eff (DC qx) AQ),dS.e] ⟨⟨JA,Iz⟩,eG,trivial⟩) Y3 (λ_ _=>⟨(([(0,0,0,[],0,0,[],())],()),(([],0,0,()),())),⟨by decide,by decide,by decide⟩⟩) (by kernel_rfl) (show∀c0 c1 c2,tu.goal (WL c0 c1 c2) ((c0,c1,c2,()),())from ?_);intro b i h hin hp;dsimp only[tu]at hp ⊢;have hp:0<=i:=hp
 repeat' first
  |exact trivial
  |refine af (λ_=>?_) λ_=>?_
  |refine And.intro ?_ ?_
  |(intro r hr;simp only[]at hr)
  |intro r hr
 all_goals first
  |omega
  |(dsimp only at*;omega)
  |exact hr
  |(simp only[auu,ne_eq]at*;omega)
  |(simp only[auR,aut,auy,auv,auz];omega)
  |(rw[bY];simp only[auR,aut,auy,auv,auz];omega)
  |(simp only[auR,aut,auy,auv,auz]at*;omega)
  |exact(show∀y∈_,List.length y.1<=10 from by decide) _ hr.2
  |(simp;done)
  |skip
theorem DW:OK lI.e:=by
 refine XA.ok mixed (au [(yg,.eff (DC qx) AQ),dS.e] ⟨⟨JA,Iz⟩,eG,trivial⟩) NH (λ_ _=>⟨(([(0,0,0,[],0,0,[],())],()),(([],0,0,()),())),⟨by decide,by decide,by decide⟩⟩) (by kernel_rfl) (show∀c0 c1 c2,lI.goal (MB c0 c1 c2) ((c0,c1,c2,()),())from ?_);intro b i h hin hp;dsimp only[lI]at hp ⊢;have hp:0<=i:=hp
 repeat' first
  |exact trivial
  |refine af (λ_=>?_) λ_=>?_
  |refine And.intro ?_ ?_
  |(intro r hr;simp only[]at hr)
  |intro r hr
 all_goals first
  |omega
  |(dsimp only at*;omega)
  |exact hr
  |(simp only[auu,ne_eq]at*;omega)
  |(simp only[auR,aut,auy,auv,auz];omega)
  |(rw[bY];simp only[auR,aut,auy,auv,auz];omega)
  |(simp only[auR,aut,auy,auv,auz]at*;omega)
  |exact(show∀y∈_,List.length y.1<=10 from by decide) _ hr.2
  |(simp;done)
  |skip
theorem ahb:OK Hl.e:=by
 refine XA.ok mixed (au [Dw.e,wK.e,iI.e,iG.e,dS.e,tu.e] ⟨SH,QC,jE,jF,eG,JS,trivial⟩) aiN (λ_ _=>⟨(([],()),(([],0,0,()),())),⟨by decide,by decide⟩⟩) (by kernel_rfl) (show∀c0 c1 c2,Hl.goal (ahc c0 c1 c2) ((c0,c1,c2,()),())from ?_);intro b i h hin hp;dsimp only[Hl]at hp ⊢;have hp:0<=i:=hp
 repeat' first
  |exact trivial
  |refine af (λ_=>?_) λ_=>?_
  |refine And.intro ?_ ?_
  |(intro r hr;simp only[]at hr)
  |intro r hr
 all_goals first
  |omega
  |(dsimp only at*;omega)
  |exact hr
  |(simp only[auu,ne_eq]at*;omega)
  |(simp only[auR,aut,auy,auv,auz];omega)
  |(rw[bY];simp only[auR,aut,auy,auv,auz];omega)
  |(simp only[auR,aut,auy,auv,auz]at*;omega)
  |exact(show∀y∈_,List.length y.1<=10 from by decide) _ hr.2
  |(simp;done)
  |skip
theorem Dk:aC []:=⟨by simp,λx hx=>by cases hx⟩
theorem Jv{d:List aF}{x:aF}(h:aC d)(hl:d.length<1000)(hx:x.2.1.length<=1000):aC (d++[x]):=
 ⟨by simp;omega,λy hy=>by rcases auL.1 hy with hy|hy;exact h.2 y hy;rw[avk.1 hy];exact hx⟩
theorem afo{d:List aF}{x:aF}(n:Nat)(h:aC d)(hx:x.2.1.length<=1000):aC (d.set n x):=
 ⟨by simp;exact h.1,λy hy=>by rcases aws hy with hy|hy;exact h.2 y hy;rw[hy];exact hx⟩
theorem alo{d:List aF}(n:Nat)(h:aC d):aC (d.take n):=
 ⟨by rw[aut];have:=h.1;omega,λy hy=>h.2 y (avV hy)⟩
theorem aop{d:List aF}(h:aC d){n:Nat}(hn:n<d.length):(d.getD n ([],[],())).2.1.length<=1000:=h.2 _ (getD_mem hn)
theorem Qz:OK AU.e:=by
 refine XA.ok mixed (au [lI.e,dS.e] ⟨DW,eG,trivial⟩) ahd (λ_ _=>⟨(([([],[],())],()),(([],0,0,()),())),⟨by decide,by decide,by decide,by decide,by decide⟩⟩) (by kernel_rfl) (show∀c0 c1 c2,AU.goal (afp c0 c1 c2) ((c0,c1,c2,()),())from ?_);intro b i h hin hp;dsimp only[AU]at hp ⊢;have hp:0<=i:=hp;refine⟨λy=>0<=y.2.1.2.1/\y.1.2.1=y.2.2.1.length/\y.2.2.1.length<=4/\aC y.2.2.1,λy=>(4-y.1.2.1).toNat,⟨hp,rfl,by simp,Dk⟩,?_⟩;rintro⟨⟨_,k,_⟩,⟨b1,i1,h1,_⟩,l,_⟩ ⟨q1,q2,q3,q4⟩;dsimp only at q1 q2 q3 q4 ⊢;refine⟨q1,?_⟩;rintro⟨⟨r,_⟩,⟨b2,i2,h2,_⟩,_⟩ ⟨e1,e2,e3,_⟩;dsimp only at e1 e2 e3 ⊢;have e3:=e3 (by omega);rw[eP (1+r) (by omega),eP (k+1) (by omega)];refine af (λhc=>?_) λhc=>?_
 .have hc:=fG hc;refine⟨⟨by omega,by simp only[auv,auz];omega⟩,by simp only[auv,auz];omega,e1,?_⟩;rintro⟨⟨x,_⟩,⟨b3,i3,h3,_⟩,_⟩ ⟨g1,g2,g3⟩;dsimp only at g1 g2 g3 ⊢;refine⟨by rw[bY];simp only[auv,auz];omega,rfl,⟨g1,by simp;omega,by simp;omega,Jv q4 (by omega) (by dsimp only;omega)⟩,by omega⟩
 .have hc:=fZ hc;exact⟨e1,by omega,by omega,q4⟩
theorem ahe:OK Ho.e:=by
 refine XA.ok mixed (au [lI.e,Hl.e,iI.e,dS.e,AU.e] ⟨DW,ahb,jE,eG,Qz,trivial⟩) aiO (λ_ _=>⟨(([],()),(([],0,0,()),())),⟨by decide,by decide,Dk⟩⟩) (by kernel_rfl) (show∀c0 c1 c2,Ho.goal (ahf c0 c1 c2) ((c0,c1,c2,()),())from ?_);intro b i h hin hp;dsimp only[Ho]at hp ⊢;have hp:0<=i:=hp;refine⟨hp,?_⟩;rintro⟨⟨d,_⟩,⟨b1,i1,h1,_⟩,_⟩ ⟨q1,q2,q3,q4⟩;dsimp only at q1 q2 q3 q4 ⊢;refine⟨q1,?_⟩;rintro⟨⟨r,_⟩,⟨b2,i2,h2,_⟩,_⟩ ⟨e1,e2,e3,_⟩;dsimp only at e1 e2 e3 ⊢;have e3:=e3 (by omega);refine⟨e1,?_⟩;rintro⟨⟨s,_⟩,⟨b3,i3,h3,_⟩,_⟩ ⟨f1,f2,f3,_⟩;dsimp only at f1 f2 f3 ⊢;have hn:r.toNat<d.length:=by omega
 refine af (λ_=>⟨⟨f1,by simp⟩,?_⟩) λ_=>af (λ_=>⟨f1,?_⟩) λ_=>af (λ_=>?_) λ_=>af (λ_=>?_) λ_=>?_
 .rintro⟨⟨x,_⟩,⟨b4,i4,h4,_⟩,_⟩ ⟨g1,g2⟩;exact⟨⟨e2,e3⟩,hn,g1,by simp;omega,afo _ q4 (aop q4 hn)⟩
 .rintro⟨⟨x,_⟩,⟨b4,i4,h4,_⟩,_⟩ ⟨g1,g2⟩;exact⟨⟨e2,e3⟩,hn,g1,by simp;omega,afo _ q4 (by dsimp only at g2 ⊢;omega)⟩
 .refine⟨λy=>0<=y.2.1.2.1/\y.2.2.1.length<=6/\aC y.2.2.1,λy=>6-y.2.2.1.length,⟨f1,by dsimp only;omega,q4⟩,?_⟩;rintro⟨_,⟨b4,i4,h4,_⟩,l,_⟩ ⟨g1,g2,g3⟩;dsimp only at g1 g2 g3 ⊢;refine⟨g1,?_⟩;rintro⟨⟨r',_⟩,⟨b5,i5,h5,_⟩,_⟩ ⟨k1,k2,k3,_⟩;dsimp only at k1 k2 k3 ⊢;have k3:=k3 (by omega);rw[eP (5+r') (by omega)];refine af (λhc=>?_) λhc=>?_
  .have hc:=fG hc;refine⟨⟨by omega,by simp only[auv,auz];omega⟩,k1,?_⟩;rintro⟨⟨x,_⟩,⟨b6,i6,h6,_⟩,_⟩ ⟨m1,m2,m3⟩;dsimp only at m1 m2 m3 ⊢;refine⟨by rw[bY];simp only[auv,auz];omega,rfl,⟨m1,by simp;omega,Jv g3 (by omega) (by dsimp only;omega)⟩,by simp;omega⟩
  .exact⟨k1,by omega,g3⟩
 .exact⟨f1,by simp,Dk⟩
 .exact⟨f1,by omega,q4⟩
end Go.Proofs.Tryz
