import Derived.Test.YthkihdfanbmegaaGreatDoorV1
import Derived.Test.YthkihdfanbmegaaGreatDoorSp
import Derived.Test.YthkihdfanbmegaaGreatDoorV2
import Derived.Test.YthkihdfanbmegaaGreatDoorFwC
import Derived.Test.YthkihdfanbmegaaGreatDoorL1
namespace Go.Proofs.Tryz
open Go Go.Fw Go.IntWalk Sp
theorem alu(x y:Int)(m:Nat)(hm:m<9223372036854775807)(hy:(BitVec.ofInt 64 y).toNat=m):0<=bitsOf .and .i64 x y/\bitsOf .and .i64 x y<=m:=by
 have h:(BitVec.ofInt 64 x&&&BitVec.ofInt 64 y).toNat<=m:=by rw[BitVec.toNat_and,hy];exact Nat.and_le_right
 show 0<=IntKind.i64.wrap ((BitVec.ofInt 64 x&&&BitVec.ofInt 64 y).toNat:Int)/\IntKind.i64.wrap ((BitVec.ofInt 64 x&&&BitVec.ofInt 64 y).toNat:Int)<=m;generalize (BitVec.ofInt 64 x&&&BitVec.ofInt 64 y).toNat=z at h ⊢;rw[fD _ (by omega)];omega
theorem alv(x:Int):0<=bitsOf .and .i64 x 255/\bitsOf .and .i64 x 255<=255:=alu x 255 255 (by omega) (by decide)
theorem Ik:OK vO.e:=by
 refine QA.ok mixed (aA [] trivial) afT (λ⟨_,⟨⟩⟩ _=>⟨([],0,0,()),rfl⟩) (by kernel_rfl) (show∀code,vO.goal (adW code) (code,())from ?_);intro code hin hp;dsimp only[vO]at hp ⊢;have hp:code.length<=1048576:=hp;refine⟨λy=>∃n:Nat,y.1.2.1=n/\n<=code.length,λy=>((code.length:Int)-y.1.2.1).toNat,⟨0,rfl,by omega⟩,?_⟩;rintro⟨⟨h,_,⟨⟩⟩,⟨⟩⟩ ⟨n,rfl,hn⟩;dsimp only;refine af (λhc=>?_) λhc=>?_
 .simp only[arD]at hc;cases decide ((n:Int)<4000)with
  |false=>exact rfl
  |true=>
   have e:IntKind.i64.wrap ((n:Int)+1)=((n+1:Nat):Int):=fD _ (by omega);refine⟨?_,?_,?_,?_⟩
   .exact⟨by omega,hc⟩
   .exact rfl
   .exact⟨n+1,e,by omega⟩
   show((code.length:Int)-IntKind.i64.wrap ((n:Int)+1)).toNat<((code.length:Int)-n).toNat;rw[e];omega
 .exact rfl
theorem abE:OK CU.e:=by
 refine XA.ok mixed (aA [] trivial) H0 (λ_ _=>⟨(((0:Int),()),(([],0,0,()),())),⟨by decide,by decide,by decide⟩⟩) (by kernel_rfl) (show∀c0 c1 c2,CU.goal (abG c0 c1 c2) ((c0,c1,c2,()),())from ?_);intro b i h hin hp;dsimp only[CU]at hp ⊢;have hp:0<=i:=hp;refine⟨by decide,by decide,af (λhc=>?_) λhc=>?_⟩<;>simp only[arD,ar1]at hc
 .have hl:b.length<=maxLen:=hin.1.1.1;rw[maxLen_eq]at hl;refine⟨⟨hp,hc⟩,?_,alv _⟩;show 0<=IntKind.i64.wrap (i+1);rw[fD _ (by omega)];omega
 .exact⟨hp,alv _⟩
theorem tmod_lt{a n:Int}(ha:0<=a)(hn:0<n):0<=a.tmod n/\a.tmod n<n:=⟨auT n ha,Int.tmod_lt_of_pos a hn⟩
theorem dJ:OK bY.e:=by
 refine XA.ok mixed (aA [CU.e] ⟨abE,trivial⟩) H0 (λ⟨_,n,⟨⟩⟩ _=>⟨(((0:Int),()),(([],0,0,()),())),⟨ar4 _,ar4 _,λh=>h,λ_=>rfl⟩⟩) (by kernel_rfl) (show∀c0 c1 c2 n,bY.goal (ZE c0 c1 c2 n) ((c0,c1,c2,()),n,())from ?_);intro b i h n hin hp;dsimp only[bY]at hp ⊢;have hp:0<=i:=hp;refine af (λhc=>?_) λhc=>?_<;>simp only[arD,ar1]at hc
 .exact⟨hp,ar4 _,λh=>(by omega),λ_=>rfl⟩
 .refine af (λhc2=>?_) λhc2=>?_
  .refine⟨hp,?_⟩;rintro⟨⟨x,⟨⟩⟩,⟨b',i',h',⟨⟩⟩,⟨⟩⟩ ⟨h1,h2,h3⟩;dsimp only at h1 h2 h3 ⊢;have:=tmod_lt h2 (show 0<n by omega);exact⟨by omega,h1,this.1,λ_=>this.2,λh=>(by omega)⟩
  .refine⟨hp,?_⟩;rintro⟨⟨x1,⟨⟩⟩,⟨b1,i1,g1,⟨⟩⟩,⟨⟩⟩ ⟨h1,h2,h3⟩;refine⟨h1,?_⟩;rintro⟨⟨x2,⟨⟩⟩,⟨b2,i2,g2,⟨⟩⟩,⟨⟩⟩ ⟨k1,k2,k3⟩;refine⟨k1,?_⟩;rintro⟨⟨x3,⟨⟩⟩,⟨b3,i3,g3,⟨⟩⟩,⟨⟩⟩ ⟨l1,l2,l3⟩;refine⟨l1,?_⟩;rintro⟨⟨x4,⟨⟩⟩,⟨b4,i4,g4,⟨⟩⟩,⟨⟩⟩ ⟨m1,m2,m3⟩;dsimp only at*;rw[fD (x1*16777216) (by omega),fD (x2*65536) (by omega),fD (x3*256) (by omega),fD (x1*16777216+x2*65536) (by omega),fD (x1*16777216+x2*65536+x3*256) (by omega),fD (x1*16777216+x2*65536+x3*256+x4) (by omega)];have:=tmod_lt (a:=x1*16777216+x2*65536+x3*256+x4) (n:=n) (by omega) (by omega);exact⟨by omega,m1,this.1,λ_=>this.2,λh=>(by omega)⟩
theorem rJ:OK jQ.e:=by refine XA.ok mixed (aA [bY.e] ⟨dJ,trivial⟩) H0 (λ_ _=>⟨((false,()),(([],0,0,()),())),ar4 _⟩) (by kernel_rfl) (show∀c0 c1 c2 n,jQ.goal (abH c0 c1 c2 n) ((c0,c1,c2,()),n,())from ?_);intro b i h n hin hp;dsimp only[jQ]at hp ⊢;refine⟨hp,?_⟩;rintro⟨⟨x,⟨⟩⟩,⟨b',i',h',⟨⟩⟩,⟨⟩⟩ ⟨h1,_⟩;exact h1
theorem jD:OK iI.e:=by refine XA.ok mixed (aA [bY.e] ⟨dJ,trivial⟩) H0 (λ⟨_,l,⟨⟩⟩⟨_,hl⟩=>(match l,hl with|x::_,_=>⟨((x.1,()),(([],0,0,()),())),⟨ar4 _,arC⟩⟩)) (by kernel_rfl) (show∀c0 c1 c2 list,iI.goal (abI c0 c1 c2 list) ((c0,c1,c2,()),list,())from ?_);intro b i h l hin hp;dsimp only[iI]at hp ⊢;obtain⟨hp,hl⟩:=hp;have hpos:0<l.length:=atW.2 hl;refine⟨hp,?_⟩;rintro⟨⟨x,⟨⟩⟩,⟨b',i',h',⟨⟩⟩,⟨⟩⟩ ⟨h1,h2,h3,_⟩;have h3:x<(l.length:Int):=h3 (by omega);refine⟨⟨h2,h3⟩,h1,?_⟩;exact getD_mem (by dsimp only at h2;omega)
theorem kM:OK iW.e:=by refine XA.ok mixed (aA [bY.e] ⟨dJ,trivial⟩) H0 (λ⟨_,l,⟨⟩⟩⟨_,hl⟩=>(match l,hl with|x::_,_=>⟨((x.1,()),(([],0,0,()),())),⟨ar4 _,arC⟩⟩)) (by kernel_rfl) (show∀c0 c1 c2 list,iW.goal (VJ c0 c1 c2 list) ((c0,c1,c2,()),list,())from ?_);intro b i h l hin hp;dsimp only[iW]at hp ⊢;obtain⟨hp,hl⟩:=hp;have hpos:0<l.length:=atW.2 hl;refine⟨hp,?_⟩;rintro⟨⟨x,⟨⟩⟩,⟨b',i',h',⟨⟩⟩,⟨⟩⟩ ⟨h1,h2,h3,_⟩;have h3:x<(l.length:Int):=h3 (by omega);refine⟨⟨h2,h3⟩,h1,?_⟩;exact getD_mem (by dsimp only at h2;omega)
theorem LX:OK vV.e:=by refine XA.ok mixed (aA [] trivial) abJ (λ_ _=>⟨((Sp.usual,()),()),rfl⟩) (by kernel_rfl) (show vV.goal (ZF) (())from ?_);intro hin hp;dsimp only[vV]at hp ⊢;exact rfl
theorem BK:OK qg.e:=by refine XA.ok mixed (aA [iI.e] ⟨jD,trivial⟩) H0 (λ_ _=>⟨(([],()),(([],0,0,()),())),⟨by decide,by decide⟩⟩) (by kernel_rfl) (show∀c0 c1 c2,qg.goal (abK c0 c1 c2) ((c0,c1,c2,()),())from ?_);intro b i h hin hp;dsimp only[qg]at hp ⊢;refine⟨⟨hp,by simp⟩,?_⟩;rintro⟨⟨x,⟨⟩⟩,⟨b',i',h',⟨⟩⟩,⟨⟩⟩ ⟨h1,h2⟩;refine⟨h1,?_⟩;exact(show∀y∈_,List.length y.1<=1 from by decide) _ h2
theorem VK:Sp.usual.length=4:=rfl
theorem P6:OK Af.e:=by
 refine XA.ok mixed (aA [iI.e,qg.e,bY.e,vV.e] ⟨jD,BK,dJ,LX,trivial⟩) afU (λ_ _=>⟨(([],()),(([],0,0,()),())),⟨by decide,by decide⟩⟩) (by kernel_rfl) (show∀c0 c1 c2,Af.goal (adX c0 c1 c2) ((c0,c1,c2,()),())from ?_);intro b i h hin hp;dsimp only[Af]at hp ⊢;have hp:0<=i:=hp;refine⟨trivial,?_⟩;rintro⟨⟨_,⟨⟩⟩,⟨⟩⟩ rfl;dsimp only
 repeat' first
  |exact trivial
  |refine af (λ_=>?_) λ_=>?_
  |refine And.intro ?_ ?_
  |(intro r hr;simp only[]at hr)
  |intro r hr
 all_goals first
  |omega
  |(dsimp only at*;omega)
  |exact hr
  |(simp only[arn,ne_eq]at*;omega)
  |(simp only[arP,aro,arv,arq,arw,VK];omega)
  |(rw[bW];simp only[arP,aro,arv,arq,arw,VK];omega)
  |(simp only[arP,aro,arv,arq,arw,VK]at*;omega)
  |exact(show∀y∈_,List.length y.1<=10 from by decide) _ hr.2
  |(simp;done)
  |skip
theorem zS:OK oJ.e:=by refine PA.ok mixed (aA [] trivial) H0 (by kernel_rfl) (show∀n,oJ.goal (ZG n) (n,())from ?_);intro n hin hp;dsimp only[oJ]at hp ⊢;exact rfl
theorem jW:OK iD.e:=by refine PA.ok mixed (aA [] trivial) H0 (by kernel_rfl) (show∀w,iD.goal (TR w) (w,())from ?_);intro n hin hp;dsimp only[iD]at hp ⊢;exact rfl
theorem ZH:OK Bh.e:=by
 refine XA.ok mixed (aA [iD.e,iI.e,oJ.e,bY.e] ⟨jW,jD,zS,dJ,trivial⟩) H0 (λ_ _=>⟨((((0:Int),(0:Int),([]:List UInt8),()),()),(([],0,0,()),())),⟨by decide,by decide⟩⟩) (by kernel_rfl) (show∀c0 c1 c2,Bh.goal (ZI c0 c1 c2) ((c0,c1,c2,()),())from ?_);intro b i h hin hp;dsimp only[Bh]at hp ⊢;have hp:0<=i:=hp
 repeat' first
  |exact trivial
  |refine af (λ_=>?_) λ_=>?_
  |refine And.intro ?_ ?_
  |(intro r hr;simp only[]at hr)
  |intro r hr
 all_goals first
  |omega
  |(dsimp only at*;omega)
  |exact hr
  |(simp only[arn,ne_eq]at*;omega)
  |(simp only[arP,aro,arv,arq,arw];omega)
  |(rw[bW];simp only[arP,aro,arv,arq,arw];omega)
  |(simp only[arP,aro,arv,arq,arw]at*;omega)
  |exact(show∀y∈_,List.length y.1<=10 from by decide) _ hr.2
  |(simp;done)
  |skip
theorem Il:OK vP.e:=by
 refine XA.ok mixed (aA [iI.e,iW.e,bY.e,Bh.e] ⟨jD,kM,dJ,ZH,trivial⟩) H0 (λ_ _=>⟨((((0:Int),(0:Int),([]:List UInt8),()),()),(([],0,0,()),())),⟨by decide,by decide⟩⟩) (by kernel_rfl) (show∀c0 c1 c2,vP.goal (adY c0 c1 c2) ((c0,c1,c2,()),())from ?_);intro b i h hin hp;dsimp only[vP]at hp ⊢;have hp:0<=i:=hp
 repeat' first
  |exact trivial
  |refine af (λ_=>?_) λ_=>?_
  |refine And.intro ?_ ?_
  |(intro r hr;simp only[]at hr)
  |intro r hr
 all_goals first
  |omega
  |(dsimp only at*;omega)
  |exact hr
  |(simp only[arn,ne_eq]at*;omega)
  |(simp only[arP,aro,arv,arq,arw];omega)
  |(rw[bW];simp only[arP,aro,arv,arq,arw];omega)
  |(simp only[arP,aro,arv,arq,arw]at*;omega)
  |exact(show∀y∈_,List.length y.1<=10 from by decide) _ hr.2
  |(simp;done)
  |skip
theorem kT:OK jv.e:=by
 refine PA.ok mixed (aA [] trivial) H0 (by kernel_rfl) (show∀yS least most,jv.goal (afV yS least most) (yS,least,most,())from ?_);intro x a b hin hp;dsimp only[jv]at hp ⊢;refine af (λh=>?_) λh=>?_
 .have h:=fP h;show(decide (x<=b),())=(decide (a<=x)&&decide (x<=b),());rw[aru (show a<=x from h)];rfl
 .have h:=gV h;show(false,())=(decide (a<=x)&&decide (x<=b),());rw[arx (show ¬a<=x from h)];rfl
theorem qw:OK kQ.e:=by
 refine PA.ok mixed (aA [] trivial) H0 (by kernel_rfl) (show∀n low high,kQ.goal (adZ n low high) (n,low,high,())from ?_);intro x a b hin hp;dsimp only[kQ]at hp ⊢;refine af (λh=>?_) λh=>?_
 .show(decide (x<=b),())=(decide (a<=x)&&decide (x<=b),());rw[h];rfl
 .show(false,())=(decide (a<=x)&&decide (x<=b),());rw[h];rfl
theorem Ky{s:List UInt8}{n:Nat}(hlt:n<s.length)(hl:Sp.lower s=true):97<=(s.getD n 0).toNat/\(s.getD n 0).toNat<=122:=by have:=arK.1 hl _ (getD_mem (d:=0) hlt);simpa using this
theorem NS:OK yx.e:=by
 refine PA.ok mixed (aA [jv.e] ⟨kT,trivial⟩) ad1 (by kernel_rfl) (show∀s most,yx.goal (abL s most) (s,most,())from ?_);intro s most hin hp;dsimp only[yx]at hp ⊢;have hlen:s.length<=maxLen:=hin.1;rw[maxLen_eq]at hlen;refine⟨λy=>∃n:Nat,y.1.1=n/\n<=s.length/\Sp.lower (s.take n)=true,λy=>((s.length:Int)-y.1.1).toNat,⟨0,rfl,by omega,rfl⟩,?_⟩;rintro⟨⟨_,⟨⟩⟩,⟨⟩⟩ ⟨n,rfl,hn,hJ⟩;dsimp only;refine af (λh=>?_) λh=>?_<;>simp only[arD,ar1]at h
 .have hlt:n<s.length:=by omega
  rw[fD _ (by omega),arI];refine⟨⟨by omega,by omega⟩,af (λh2=>?_) λh2=>⟨⟨by omega,by omega⟩,af (λh3=>?_) λh3=>?_⟩⟩<;>simp only[arD,ar1]at*
  .cases hl:Sp.lower s with
   |false=>rfl
   |true=>have:=Ky hlt hl;omega
  .cases hl:Sp.lower s with
   |false=>rfl
   |true=>have:=Ky hlt hl;omega
  .refine⟨rfl,⟨n+1,by simp,by omega,?_⟩,by dsimp only;omega⟩;rw[Sp.take_succ' s n 0 hlt];unfold Sp.lower at hJ ⊢;rw[List.all_append,hJ];simp only[asy,auP,atQ,aug,ark,arD];omega
 .have hge:n=s.length:=by omega
  rw[hge,arZ]at hJ;rw[hJ];exact⟨trivial,rfl⟩
theorem yT:OK kW.e:=by refine PA.ok mixed (aA [yx.e] ⟨NS,trivial⟩) H0 (by kernel_rfl) (show∀s,kW.goal (P7 s) (s,())from ?_);intro s hin hp;dsimp only[kW]at hp ⊢;exact⟨trivial,rfl⟩
theorem zT:OK mg.e:=by
 refine PA.ok mixed (aA [kW.e,jv.e] ⟨yT,kT,trivial⟩) H0 (by kernel_rfl) (show∀v0 v1 v2,mg.goal (Rn v0 v1 v2) ((v0,v1,v2,()),())from ?_);intro k n s hin hp;dsimp only[mg]at hp ⊢;refine af (λh=>?_) λh=>af (λh2=>⟨trivial,af (λh3=>?_) λh3=>?_⟩) λh2=>af (λh3=>⟨trivial,af (λh4=>?_) λh4=>?_⟩) λh3=>?_
 .have e:k=0:=by simpa using h
  subst e;exact congrArg (·,()) (arR.2 (by simp[dA]))
 .have e:k=1:=by simpa using h2
  subst e;exact congrArg (·,()) (arR.2 (by simp only[ark,arD]at h3;simp[dA,h3]))
 .have e:k=1:=by simpa using h2
  subst e;exact congrArg (·,()) (arR.2 (by simp only[dA,h3];simp))
 .have e:k=2:=by simpa using h3
  subst e;exact congrArg (·,()) (arR.2 (by simp[dA,h4]))
 .have e:k=2:=by simpa using h3
  subst e;exact congrArg (·,()) (arR.2 (by simp[dA,h4]))
 .have e1:k≠0:=by simpa using h
  have e2:k≠1:=by simpa using h2
  have e3:k≠2:=by simpa using h3
  exact congrArg (·,()) (arR.2 (by simp[dA,e1,e2,e3]))
theorem DI:OK mM.e:=by refine PA.ok mixed (aA [yx.e] ⟨NS,trivial⟩) H0 (by kernel_rfl) (show∀s,mM.goal (MZ s) (s,())from ?_);intro s hin hp;dsimp only[mM]at hp ⊢;exact⟨trivial,rfl⟩
theorem JI:OK uh.e:=by
 refine PA.ok mixed (aA [] trivial) ZJ (by kernel_rfl) (show∀s name,uh.goal (XR s name) (s,name,())from ?_);intro s name hin hp;dsimp only[uh]at hp ⊢;have hlen:s.length<=maxLen:=hin.1.1;rw[maxLen_eq]at hlen;refine iJ s.length hlen (λn=>∀i,i<n->(s.getD i ([],0,())).1≠name) (λi hi=>by omega) (λI μ n hn hJ next=>?_) λI μ hJ=>?_
 .dsimp only;refine dG (by omega) ⟨⟨by omega,by omega⟩,af (λh=>⟨⟨by omega,by omega⟩,?_⟩) λh=>⟨rfl,next λi hi=>?_⟩⟩
  .exact congrArg (·,()) (NT s n hn hJ (by simpa only[arI,arA]using h)).symm
  .rcases arH i n with h'|h'
   .exact hJ i h'
   .have:i=n:=by omega
    subst this;have h2:((s.getD i ([],0,())).1==name)=false:=h;exactλe=>by rw[e]at h2;simp at h2
 .dsimp only;exact dH (by omega) (congrArg (·,()) (IB s hJ).symm)
theorem Fz:OK oK.e:=by
 refine PA.ok mixed (aA [jv.e,mM.e] ⟨kT,DI,trivial⟩) Ro (by kernel_rfl) (show∀s,oK.goal (P8 s) (s,())from ?_);intro s hin hp;dsimp only[oK]at hp ⊢;have hlen:s.length<=maxLen:=hin.1.1;rw[maxLen_eq]at hlen;refine iJ s.length hlen (λn=>∀i,i<n->jh s i=true) (λi hi=>by omega) (λI μ n hn hJ next=>?_) λI μ hJ=>?_
 .dsimp only;have no:jh s n=false->(false,())=(dF s,()):=λh=>by rw[YV hn h]
  refine dG (by omega) ⟨⟨by omega,by omega⟩,trivial,af (λh2=>no ?_) λh2=>⟨⟨by omega,by omega⟩,trivial,af (λh3=>no ?_) λh3=>af (λh4=>?_) λh4=>⟨rfl,next (dV hJ ?_)⟩⟩⟩
  .have h2:jd (Sp.fieldAt s n).1=false:=fK h2;unfold jh;rw[h2];rfl
  .have h2:jd (Sp.fieldAt s n).1=true:=cZ h2;have h3:(decide (1<=(Sp.fieldAt s n).2.1)&&decide ((Sp.fieldAt s n).2.1<=2))=false:=fK h3;unfold jh;rw[h2,h3];rfl
  .have h2:jd (Sp.fieldAt s n).1=true:=cZ h2;have h3:(decide (1<=(Sp.fieldAt s n).2.1)&&decide ((Sp.fieldAt s n).2.1<=2))=true:=cZ h3;have h4:0<n:=by have:=fP h4;omega
   rw[uf h4 (by omega)];refine⟨⟨by omega,by omega⟩,⟨by omega,by omega⟩,af (λh5=>no ?_) λh5=>⟨rfl,next (dV hJ ?_)⟩⟩
   .have h5:Op.bytesLess (Sp.fieldAt s (n-1)).1 (Sp.fieldAt s n).1=false:=fK h5;unfold jh;rw[h2,h3,h5,aru h4];rfl
   .have h5:Op.bytesLess (Sp.fieldAt s (n-1)).1 (Sp.fieldAt s n).1=true:=cZ h5;unfold jh;rw[h2,h3,h5,aru h4];rfl
  .have h2:jd (Sp.fieldAt s n).1=true:=cZ h2;have h3:(decide (1<=(Sp.fieldAt s n).2.1)&&decide ((Sp.fieldAt s n).2.1<=2))=true:=cZ h3;have h4:¬0<n:=by have:=gV h4;omega
   unfold jh;rw[h2,h3,arx h4];rfl
 .dsimp only;refine dH (by omega) (congrArg (·,()) ?_);unfold dF;rw[mX hJ];rfl
theorem P9:OK sD.e:=by
 refine PA.ok mixed (aA [uh.e,mg.e] ⟨JI,zT,trivial⟩) H0 (by kernel_rfl) (show∀s name v0 v1 v2,sD.goal (Qa s name v0 v1 v2) (s,name,(v0,v1,v2,()),())from ?_);intro fs s k n w hin hp;dsimp only[sD]at hp ⊢;refine⟨trivial,af (λh=>af (λh2=>⟨trivial,?_⟩) λh2=>?_) λh=>?_⟩
 .exact congrArg (·,()) (arR.2 (by simp only[auL,ne_eq]at h2;simp[fZ,h,h2]))
 .exact congrArg (·,()) (arR.2 (by simp at h2;simp[fZ,h2]))
 .exact congrArg (·,()) (arR.2 (by simp[fZ,h]))
theorem Ht:OK qG.e:=by
 refine PA.ok mixed (aA [jv.e,oK.e,sD.e] ⟨kT,Fz,P9,trivial⟩) VL (by kernel_rfl) (show∀s f0 f1 f2 f3 f4,qG.goal (TS s f0 f1 f2 f3 f4) (s,(f0,f1,f2,f3,f4,()),())from ?_);intro fs f0 f1 f2 f3 f4 hin hp;dsimp only[qG]at hp ⊢;have hlen:f4.length<=maxLen:=hin.2.1.2.2.2.2.1.1;rw[maxLen_eq]at hlen;refine iJ f4.length hlen (λn=>∀i,i<n->jB fs f4 i=true) (λi hi=>by omega) (λI μ n hn hJ next=>?_) λI μ hJ=>?_
 .dsimp only;have no:jB fs f4 n=false->(false,())=(dm fs (f0,f1,f2,f3,f4,()),()):=λh=>by rw[afq (f:=(f0,f1,f2,f3,f4,())) hn h]
  refine dG (by omega) ⟨⟨by omega,by omega⟩,⟨by omega,by omega⟩,trivial,af (λh2=>no ?_) λh2=>af (λh4=>?_) λh4=>⟨rfl,next (dV hJ ?_)⟩⟩
  .have h2:fZ fs (bI f4 n).1 (bI f4 n).2.1 (bI f4 n).2.2.1 (bI f4 n).2.2.2.1=false:=fK h2;unfold jB;rw[h2];rfl
  .have h2:fZ fs (bI f4 n).1 (bI f4 n).2.1 (bI f4 n).2.2.1 (bI f4 n).2.2.2.1=true:=cZ h2;have h4:0<n:=by have:=fP h4;omega
   rw[uf h4 (by omega)];refine⟨⟨by omega,by omega⟩,⟨by omega,by omega⟩,af (λh5=>no ?_) λh5=>⟨rfl,next (dV hJ ?_)⟩⟩
   .have h5:Op.bytesLess (bI f4 (n-1)).1 (bI f4 n).1=false:=fK h5;unfold jB;rw[h2,h5,aru h4];rfl
   .have h5:Op.bytesLess (bI f4 (n-1)).1 (bI f4 n).1=true:=cZ h5;unfold jB;rw[h2,h5,aru h4];rfl
  .have h2:fZ fs (bI f4 n).1 (bI f4 n).2.1 (bI f4 n).2.2.1 (bI f4 n).2.2.2.1=true:=cZ h2;have h4:¬0<n:=by have:=gV h4;omega
   unfold jB;rw[h2,arx h4];rfl
 .dsimp only;have ha:ja fs f4=true:=mX hJ;refine dH (by omega) ⟨trivial,af (λh1=>⟨trivial,af (λh2=>⟨trivial,af (λh3=>⟨trivial,?_⟩) λh3=>?_⟩) λh2=>?_⟩) λh1=>?_⟩
  .refine congrArg (·,()) ?_;unfold dm;rw[ha,h1,h2,h3];rfl
  .refine congrArg (·,()) ?_;unfold dm;rw[ha,h1,h2,h3];rfl
  .refine congrArg (·,()) ?_;unfold dm;rw[ha,h1,h2];rfl
  .refine congrArg (·,()) ?_;unfold dm;rw[ha,h1];rfl
theorem lC:OK iT.e:=by
 refine PA.ok mixed (aA [jv.e,oK.e,qG.e] ⟨kT,Fz,Ht,trivial⟩) TT (by kernel_rfl) (show∀s0 s1 s2,iT.goal (Rq s0 s1 s2) ((s0,s1,s2,()),())from ?_);intro s0 s1 s2 hin hp;dsimp only[iT]at hp ⊢;have hlen:s1.length<=maxLen:=hin.1.2.1.1;rw[maxLen_eq]at hlen;refine iJ s1.length hlen (λn=>∀i,i<n->jM (s0,s1,s2,()) i=true) (λi hi=>by omega) (λI μ n hn hJ next=>?_) λI μ hJ=>?_
 .dsimp only;have no:jM (s0,s1,s2,()) n=false->(false,())=(ak (s0,s1,s2,()),()):=λh=>by rw[abM (s:=(s0,s1,s2,())) hn h]
  refine dG (by omega) ⟨⟨by omega,by omega⟩,trivial,af (λh2=>no ?_) λh2=>⟨⟨by omega,by omega⟩,af (λh3=>no ?_) λh3=>af (λh4=>?_) λh4=>⟨rfl,next (dV hJ ?_)⟩⟩⟩
  .have h2:dm s0 (Sp.fileAt s1 n)=false:=fK h2;show(dm s0 (Sp.fileAt s1 n)&&_&&_)=false;rw[h2];rfl
  .have h2:dm s0 (Sp.fileAt s1 n)=true:=cZ h2;have h3:¬(Sp.fileAt s1 n).1<s2:=by have h3:(Sp.fileAt s1 n).1>=s2:=fP h3;omega
   show(dm s0 (Sp.fileAt s1 n)&&decide ((Sp.fileAt s1 n).1<s2)&&_)=false;rw[h2,arx h3];rfl
  .have h2:dm s0 (Sp.fileAt s1 n)=true:=cZ h2;have h3:(Sp.fileAt s1 n).1<s2:=by have h3:¬(Sp.fileAt s1 n).1>=s2:=gV h3;omega
   have h4:0<n:=by have:=fP h4;omega
   rw[uf h4 (by omega)];refine⟨⟨by omega,by omega⟩,⟨by omega,by omega⟩,af (λh5=>no ?_) λh5=>⟨rfl,next (dV hJ ?_)⟩⟩
   .have h5:¬(Sp.fileAt s1 (n-1)).1<(Sp.fileAt s1 n).1:=by have h5:(Sp.fileAt s1 (n-1)).1>=(Sp.fileAt s1 n).1:=fP h5;omega
    show(dm s0 (Sp.fileAt s1 n)&&decide ((Sp.fileAt s1 n).1<s2)&&!(decide (0<n)&&!decide ((Sp.fileAt s1 (n-1)).1<(Sp.fileAt s1 n).1)))=false;rw[h2,aru h3,aru h4,arx h5];rfl
   .have h5:(Sp.fileAt s1 (n-1)).1<(Sp.fileAt s1 n).1:=by have h5:¬(Sp.fileAt s1 (n-1)).1>=(Sp.fileAt s1 n).1:=gV h5;omega
    show(dm s0 (Sp.fileAt s1 n)&&decide ((Sp.fileAt s1 n).1<s2)&&!(decide (0<n)&&!decide ((Sp.fileAt s1 (n-1)).1<(Sp.fileAt s1 n).1)))=true;rw[h2,aru h3,aru h4,aru h5];rfl
  .have h2:dm s0 (Sp.fileAt s1 n)=true:=cZ h2;have h3:(Sp.fileAt s1 n).1<s2:=by have h3:¬(Sp.fileAt s1 n).1>=s2:=gV h3;omega
   have h4:¬0<n:=by have:=gV h4;omega
   show(dm s0 (Sp.fileAt s1 n)&&decide ((Sp.fileAt s1 n).1<s2)&&!(decide (0<n)&&!decide ((Sp.fileAt s1 (n-1)).1<(Sp.fileAt s1 n).1)))=true;rw[h2,aru h3,arx h4];rfl
 .dsimp only;have ha:jc s1.length (jM (s0,s1,s2,()))=true:=mX hJ;refine dH (by omega) ⟨trivial,af (λh1=>af (λh2=>⟨trivial,?_⟩) λh2=>?_) λh1=>?_⟩
  .refine congrArg (·,()) ?_;show _=(jc s1.length (jM (s0,s1,s2,()))&&dF s0&&decide ((s1.length:Int)<=12)&&(decide (1<=s2)&&decide (s2<=61)));rw[ha,h1,h2];rfl
  .refine congrArg (·,()) ?_;show _=(jc s1.length (jM (s0,s1,s2,()))&&dF s0&&decide ((s1.length:Int)<=12)&&(decide (1<=s2)&&decide (s2<=61)));rw[ha,h1,h2];rfl
  .refine congrArg (·,()) ?_;show _=(jc s1.length (jM (s0,s1,s2,()))&&dF s0&&decide ((s1.length:Int)<=12)&&(decide (1<=s2)&&decide (s2<=61)));rw[ha,h1];rfl
theorem VN:OK xQ.e:=by
 refine PA.ok mixed (aA [] trivial) XT (by kernel_rfl) (show∀a b,xQ.goal (VO a b) (a,b,())from ?_);intro a b hin hp;dsimp only[xQ]at hp ⊢;have hlen:a.length<=maxLen:=hin.1.1;rw[maxLen_eq]at hlen;refine af (λh=>?_) λh=>?_
 .have h:(a.length:Int)≠b.length:=by simpa using h
  exact congrArg (·,()) (arx λe=>h (by rw[e])).symm
 .have h:(a.length:Int)=b.length:=by simpa using h
  exact Qb (K:=λr=>r=(decide (a=b),())) (λx y=>!(x.1==y.1&&(x.2.1==y.2.1&&true))) (λx y=>by simp[atj]) _ a b _ hlen (by omega) (λe=>by rw[arx e]) λe=>by rw[aru e]
theorem XU:OK zC.e:=by
 refine PA.ok mixed (aA [] trivial) ZK (by kernel_rfl) (show∀a b,zC.goal (XV a b) (a,b,())from ?_);intro a b hin hp;dsimp only[zC]at hp ⊢;have hlen:a.length<=maxLen:=hin.1.1;rw[maxLen_eq]at hlen;refine af (λh=>?_) λh=>?_
 .have h:(a.length:Int)≠b.length:=by simpa using h
  exact congrArg (·,()) (arx λe=>h (by rw[e])).symm
 .have h:(a.length:Int)=b.length:=by simpa using h
  exact Qb (K:=λr=>r=(decide (a=b),())) (λx y=>!(x.1==y.1&&(x.2.1==y.2.1&&(x.2.2.1==y.2.2.1&&(x.2.2.2.1==y.2.2.2.1&&true))))) (λx y=>by simp[atj]) _ a b _ hlen (by omega) (λe=>by rw[arx e]) λe=>by rw[aru e]
theorem ZL:OK Bj.e:=by
 refine PA.ok mixed (aA [zC.e] ⟨XU,trivial⟩) H0 (by kernel_rfl) (show∀a0 a1 a2 a3 a4 b0 b1 b2 b3 b4,Bj.goal (ZM a0 a1 a2 a3 a4 b0 b1 b2 b3 b4) ((a0,a1,a2,a3,a4,()),(b0,b1,b2,b3,b4,()),())from ?_);intro a0 a1 a2 a3 a4 b0 b1 b2 b3 b4 hin hp;dsimp only[Bj]at hp ⊢;refine af (λh0=>af (λh1=>af (λh2=>af (λh3=>⟨trivial,?_⟩) λh3=>?_) λh2=>?_) λh1=>?_) λh0=>?_
 all_goals refine congrArg (·,()) (arR.2 ?_)
 .simp only[arA]at h0 h1 h2 h3;subst h0 h1 h2 h3;simp
 .have h3:a3≠b3:=by simpa using h3
  simp[h3]
 .have h2:a2≠b2:=by simpa using h2
  simp[h2]
 .have h1:a1≠b1:=by simpa using h1
  simp[h1]
 .have h0:a0≠b0:=by simpa using h0
  simp[h0]
theorem XW:OK zD.e:=by
 refine PA.ok mixed (aA [Bj.e] ⟨ZL,trivial⟩) ZN (by kernel_rfl) (show∀a b,zD.goal (XY a b) (a,b,())from ?_);intro a b hin hp;dsimp only[zD]at hp ⊢;have hlen:a.length<=maxLen:=hin.1.1;rw[maxLen_eq]at hlen;refine af (λh=>?_) λh=>?_
 .have h:(a.length:Int)≠b.length:=by simpa using h
  exact congrArg (·,()) (arx λe=>h (by rw[e])).symm
 .have h:(a.length:Int)=b.length:=by simpa using h
  exact ZO (K:=λr=>r=(decide (a=b),())) (λx y=>!decide ((x.1,x.2.1,x.2.2.1,x.2.2.2.1,x.2.2.2.2.1,())=(y.1,y.2.1,y.2.2.1,y.2.2.2.1,y.2.2.2.2.1,()))) (λx y=>by simp[atj]) _ a b _ hlen (by omega) (λe=>by rw[arx e]) λe=>by rw[aru e]
theorem JJ:OK um.e:=by
 refine PA.ok mixed (aA [zD.e,xQ.e] ⟨XW,VN,trivial⟩) H0 (by kernel_rfl) (show∀a0 a1 a2 b0 b1 b2,um.goal (XZ a0 a1 a2 b0 b1 b2) ((a0,a1,a2,()),(b0,b1,b2,()),())from ?_);intro a0 a1 a2 b0 b1 b2 hin hp;dsimp only[um]at hp ⊢;refine⟨trivial,af (λh0=>⟨trivial,af (λh1=>?_) λh1=>?_⟩) λh0=>?_⟩
 all_goals refine congrArg (·,()) (arR.2 ?_)
 .have h0:=fP h0;have h1:=fP h1;subst h0 h1;simp
 .have h1:=gV h1;simp[h1]
 .have h0:=gV h0;simp[h0]
theorem Gt:OK tK.e:=by refine PA.ok mixed (aA [] trivial) ad2 (by kernel_rfl) (show∀f0 f1 f2 f3 f4,tK.goal (abN f0 f1 f2 f3 f4) ((f0,f1,f2,f3,f4,()),())from ?_);intro f0 f1 f2 f3 f4 hin hp;dsimp only[tK]at hp ⊢;have hp:f4.length<=1000:=hp;exact⟨by rw[bW];omega,rfl⟩
theorem Jv:OK oD.e:=by refine PA.ok mixed (aA [] trivial) Kz (by kernel_rfl) (show∀s,oD.goal (Jw s) (s,())from ?_);intro l hin hp;dsimp only[oD]at hp ⊢;intro g hg;have hp:l.length<=1000:=hp;refine af (λh=>?_) λh=>⟨by rw[bW];omega,rfl⟩;have:=asr.1 (hg h);rw[this]
theorem KA:OK oM.e:=by refine PA.ok mixed (aA [] trivial) LY (by kernel_rfl) (show∀s,oM.goal (KC s) (s,())from ?_);intro l hin hp;dsimp only[oM]at hp ⊢;intro g hg;have hp:l.length<=1000:=hp;refine af (λh=>?_) λh=>⟨by rw[bW];omega,rfl⟩;have:=asr.1 (hg h);rw[this]
theorem ZP:OK Bl.e:=by refine PA.ok mixed (aA [oM.e] ⟨KA,trivial⟩) abO (by kernel_rfl) (show∀f0 f1 f2 f3 f4,Bl.goal (ZQ f0 f1 f2 f3 f4) ((f0,f1,f2,f3,f4,()),())from ?_);intro f0 f1 f2 f3 f4 hin hp;dsimp only[Bl]at hp ⊢;exact⟨hp,rfl⟩
theorem ad3:OK Ew.e:=by refine PA.ok mixed (aA [kQ.e] ⟨qw,trivial⟩) H0 (by kernel_rfl) (show∀n,Ew.goal (ad4 n) (n,())from ?_);intro n hin hp;dsimp only[Ew]at hp ⊢;exact⟨trivial,rfl⟩
theorem LZ:OK vX.e:=by
 refine PA.ok mixed (aA [] trivial) abP (by kernel_rfl) (show∀s0 s1 s2 id,vX.goal (ZR s0 s1 s2 id) ((s0,s1,s2,()),id,())from ?_);intro s0 s1 s2 id hin hp;dsimp only[vX]at hp ⊢;have hlen:s1.length<=maxLen:=hin.1.2.1.1;rw[maxLen_eq]at hlen;refine iJ s1.length hlen (λn=>∀i,i<n->(Sp.fileAt s1 i).1≠id) (λi hi=>by omega) (λI μ n hn hJ next=>?_) λI μ hJ=>?_
 .dsimp only;refine dG (by omega) ⟨⟨by omega,by omega⟩,af (λh=>?_) λh=>⟨rfl,next λi hi=>?_⟩⟩
  .have h:(Sp.fileAt s1 n).1=id:=fP h;exact congrArg (·,()) (Sp.L6 hn hJ h).symm
  .rcases arH i n with h'|h'
   .exact hJ i h'
   .have:i=n:=by omega
    subst this;have h:¬(Sp.fileAt s1 i).1=id:=gV h;exact h
 .dsimp only;exact dH (by omega) (congrArg (·,()) (abQ hJ).symm)
theorem set_self{fs:List aI}{n:Nat}(hn:n<fs.length):fs.set n (fs.getD n (0,0,false,0,[],()))=fs:=by
 refine atK (by simp) λi h1 h2=>?_;rw[List.getElem_set];split
 .next e=>subst e;rw[arp,ars hn];rfl
 .rfl
theorem zU{s:List aW}(p:aW->Bool){n:Nat}(hn:n<s.length):(s.take (n+1)).filter p=(s.take n).filter p++(if p (bI s n)=true then[bI s n]else[]):=by
 rw[Sp.take_succ' s n ([],0,0,[],()) hn,as5];congr 1;show List.filter _ [bI s n]=_;by_cases h:p (bI s n)=true
 .rw[asz h,if_pos h];rfl
 .rw[asP h,if_neg h];rfl
theorem NU(s:List aW)(p:aW->Bool)(n:Nat):((s.take n).filter p).length<=n:=by have:=asn p (s.take n);rw[aro]at this;omega
theorem VP(al:List aW)(name:Sp.Bytes)(n:Int)(s:Sp.Bytes):dO al name 0 n s=al.filter (fQ name):=rfl
theorem abR{al:List aW}{name:Sp.Bytes}{k n:Int}{s:Sp.Bytes}(hk:k≠0){l:List aW}(hl:l=al.filter (fQ name)){m:Nat}(hm:m<=l.length)
 (h1:∀i,i<m->iC name (bI l i)=true) (h2:m<l.length->iC name (bI l m)=false):
 List.drop 0 (List.take m l)++[(name,k,n,s,())]++List.drop m (List.take l.length l)=dO al name k n s:=by
 obtain⟨e1,e2⟩:=L8 (d:=(([]:List UInt8),(0:Int),(0:Int),([]:List UInt8),())) l m hm h1 h2;unfold dO yU;rw[arx hk,← hl];show _=l.takeWhile (iC name)++_::l.dropWhile (iC name);rw[e1,e2,arZ,as4,ar6];rfl
theorem Gu:OK tN.e:=by
 refine XA.ok mixed (aA [] trivial) ad5 (λ⟨(i,o,s,l,a,_),name,(k,n,w,_),_⟩ _=>⟨(((i,o,s,l,dO a name k n w,()),()),()),⟨rfl,rfl,rfl,rfl,rfl⟩⟩) (by kernel_rfl) (show∀f0 f1 f2 f3 f4 name v0 v1 v2,tN.goal (abS f0 f1 f2 f3 f4 name v0 v1 v2) ((f0,f1,f2,f3,f4,()),name,(v0,v1,v2,()),())from ?_);intro f0 f1 f2 f3 f4 name k n s hin hp;dsimp only[tN]at hp ⊢;have hp:f4.length<=1000:=hp;refine eP (λi(x:List aW)=>(((),i,()),x,())) (λy=>y.1.2.1) (λ_ _=>rfl) f4.length (by omega) (λm l=>l=(f4.take m).filter (fQ name)) (by simp) (λI μ m l hm hJ next=>?_) λI μ l hJ=>?_
 .subst hJ;have hl:=NU f4 (fQ name) m;dsimp only;refine dG (by omega) ⟨⟨by omega,by omega⟩,af (λh=>⟨⟨by omega,by omega⟩,by rw[bW];simp only[arq,arw];omega,rfl,next _ ?_⟩) λh=>⟨rfl,next _ ?_⟩⟩
  .rw[zU _ hm,if_pos (show fQ name (bI f4 m)=true from h)];rfl
  .rw[zU _ hm,if_neg (show ¬fQ name (bI f4 m)=true fromλh'=>by have h:fQ name (bI f4 m)=false:=h;rw[h]at h';cases h'),ash]
 .rw[arZ]at hJ;have hl:l.length<=1000:=by rw[hJ];have:=asn (fQ name) f4;omega
  dsimp only;refine dH (by omega) (af (λh=>?_) λh=>?_)
  .have hk:k≠0:=by simpa using h
   have fin:∀m:Nat,m<=l.length->(∀i,i<m->iC name (bI l i)=true)->(m<l.length->iC name (bI l m)=false)->
    ((0:Int)<=m/\(m:Int)<=l.length)/\0+(List.drop 0 (List.take m l)).length<=big/\(List.drop 0 (List.take m l)).length+[(name,k,n,s,())].length<=big/\((0:Int)<=m/\(m:Int)<=l.length)/\
    (List.drop 0 (List.take m l)++[(name,k,n,s,())]).length+(List.drop m (List.take l.length l)).length<=big/\
    (f0=f0/\f1=f1/\f2=f2/\f3=f3/\List.drop 0 (List.take m l)++[(name,k,n,s,())]++List.drop m (List.take l.length l)=dO f4 name k n s):=by
    intro m hm h1 h2;refine⟨⟨by omega,by omega⟩,?_,?_,⟨by omega,by omega⟩,?_,rfl,rfl,rfl,rfl,abR hk hJ hm h1 h2⟩
    all_goals
     rw[bW];simp only[arv,arY,aro,arq,arw];omega
   refine iJ l.length (by omega) (λm=>∀i,i<m->iC name (bI l i)=true) (λi hi=>by omega) (λI μ m hm hJ2 next=>?_) λI μ hJ2=>?_
   .dsimp only;refine dG (by omega) ⟨⟨by omega,by omega⟩,hm,af (λh2=>⟨rfl,next (dV (f:=λi=>iC name (bI l i)) hJ2 h2)⟩) λh2=>?_⟩;exact fin m (by omega) hJ2 λ_=>h2
   .dsimp only;exact dH (by omega) (fin l.length (arF _) hJ2 λh'=>by omega)
  .have hk:k=0:=by simpa using h
   subst hk;exact⟨rfl,rfl,rfl,rfl,by rw[VP];exact hJ⟩
theorem ZT:OK Bo.e:=by refine XA.ok mixed (aA [] trivial) abT (λ⟨s,_⟩ _=>⟨(((s,[],1,()),()),()),⟨rfl,rfl,rfl⟩⟩) (by kernel_rfl) (show∀s,Bo.goal (ZU s) (s,())from ?_);intro s hin hp;dsimp only[Bo]at hp ⊢;have hp:s.length<=1000:=hp;exact⟨by rw[bW];omega,rfl,rfl,rfl⟩
theorem wY:OK nU.e:=by
 refine XA.ok mixed (aA [tK.e] ⟨Gt,trivial⟩) ad6 (λ⟨(a,l,nx,_),_⟩ _=>⟨(((a,l,nx,()),()),()),rfl⟩) (by kernel_rfl) (show∀s0 s1 s2,nU.goal (abU s0 s1 s2) ((s0,s1,s2,()),())from ?_);intro s0 s1 s2 hin hp;dsimp only[nU]at hp ⊢;obtain⟨h0,h1,h2⟩:s0.length<=1000/\s1.length<=1000/\∀f∈s1,jl f:=hp;refine⟨by rw[bW];omega,?_⟩;refine eP (λi(x:List aI)=>((i,()),((),(),s2,()),x,())) (λy=>y.1.1) (λ_ _=>rfl) s1.length (by omega) (λn l=>l=s1.take n) (by simp) (λI μ n l hn hJ next=>?_) λI μ l hJ=>?_
 .subst hJ;have hl:(s1.take n).length<=n:=by rw[aro];omega
  dsimp only;refine dG (by omega) ⟨⟨by omega,by omega⟩,h2 _ (getD_mem (d:=((0:Int),(0:Int),false,(0:Int),[],())) hn),by rw[bW];simp only[arq,arw];omega,rfl,next _ ?_⟩;exact(Sp.take_succ' s1 n (0,0,false,0,[],()) hn).symm
 .subst hJ;dsimp only;refine dH (by omega) ?_;rw[arZ]
theorem Cm:OK o7.e:=by
 refine XA.ok mixed (aA [qG.e,iT.e,tK.e,nU.e] ⟨Ht,lC,Gt,wY,trivial⟩) X0 (λ⟨s,f,_⟩ _=>⟨((((bJ s f).1.1,(bJ s f).1.2.1,(bJ s f).1.2.2.1,()),(bJ s f).2.1,(bJ s f).2.2,()),()),⟨rfl,rfl,rfl,rfl,rfl⟩⟩) (by kernel_rfl) (show∀s0 s1 s2 f0 f1 f2 f3 f4,o7.goal (VQ s0 s1 s2 f0 f1 f2 f3 f4) ((s0,s1,s2,()),(f0,f1,f2,f3,f4,()),())from ?_);intro s0 s1 s2 f0 f1 f2 f3 f4 hin hp;dsimp only[o7]at hp ⊢;refine⟨hp.1,?_⟩;rintro⟨⟨⟨a,l,nx,⟨⟩⟩,⟨⟩⟩,⟨⟩⟩ e;obtain⟨rfl,rfl,rfl⟩:a=s0/\l=s1/\nx=s2:=by simpa using e
 have hs:l.length<=1000:=hp.1.2.1;have no:¬(ak (a,l,nx,())=true/\l.length<12/\dm a (nx,f1,f2,f3,f4,())=true)->bJ (a,l,nx,()) (f0,f1,f2,f3,f4,())=((a,l,nx,()),0,false):=λh=>by
  rcases nR (a,l,nx,()) (f0,f1,f2,f3,f4,())with⟨e,_⟩|⟨h1,h2,h3,_⟩
  .exact e
  .exact(h ⟨h1,h2,h3⟩).elim
 refine⟨hp.2,trivial,af (λh1=>?_) λh1=>af (λh2=>?_) λh2=>⟨trivial,af (λh3=>?_) λh3=>?_⟩⟩
 .have:=no λh=>by have h1:=fK h1;have:=h.1;rw[show ak (a,l,nx,())=false from h1]at this;cases this
  dsimp only;rw[this];exact⟨rfl,rfl,rfl,rfl,rfl⟩
 .have:=no λh=>by have h2:(l.length:Int)>=12:=fP h2;omega
  dsimp only;rw[this];exact⟨rfl,rfl,rfl,rfl,rfl⟩
 .have:=no λh=>by have h3:=fK h3;have:=h.2.2;rw[show dm a (nx,f1,f2,f3,f4,())=false from h3]at this;cases this
  dsimp only;rw[this];exact⟨rfl,rfl,rfl,rfl,rfl⟩
 .have g1:ak (a,l,nx,())=true:=cZ h1;have g2:l.length<12:=by have h2:¬(l.length:Int)>=12:=gV h2;omega
  have g3:dm a (nx,f1,f2,f3,f4,())=true:=cZ h3;rcases nR (a,l,nx,()) (f0,f1,f2,f3,f4,())with⟨_,e⟩|⟨_,_,_,e⟩
  .exact(e ⟨g1,g2,g3⟩).elim
  .have hnx:=(jE.1 g1).2.2.2;have w:IntKind.i64.wrap (nx+1)=nx+1:=fD _ (by have h5:nx<=61:=hnx.2;have h6:1<=nx:=hnx.1;omega);refine⟨by rw[bW];simp only[arq,arw];omega,?_⟩;dsimp only;rw[e,w];exact⟨rfl,rfl,rfl,rfl,rfl⟩
theorem VR:OK xR.e:=by
 refine XA.ok mixed (aA [iT.e,vX.e,nU.e] ⟨lC,LZ,wY,trivial⟩) X3 (λ⟨s,id,_⟩ _=>⟨((((fA s id).1.1,(fA s id).1.2.1,(fA s id).1.2.2.1,()),(fA s id).2,()),()),⟨rfl,rfl,rfl,rfl⟩⟩) (by kernel_rfl) (show∀s0 s1 s2 id,xR.goal (VS s0 s1 s2 id) ((s0,s1,s2,()),id,())from ?_);intro s0 s1 s2 id hin hp;dsimp only[xR]at hp ⊢;refine⟨hp,?_⟩;rintro⟨⟨⟨a,l,nx,⟨⟩⟩,⟨⟩⟩,⟨⟩⟩ e;obtain⟨rfl,rfl,rfl⟩:a=s0/\l=s1/\nx=s2:=by simpa using e
 have hs:l.length<=1000:=hp.2.1;have no:¬(ak (a,l,nx,())=true/\0<=Sp.place l id)->fA (a,l,nx,()) id=((a,l,nx,()),false):=λh=>by
  rcases uO (a,l,nx,()) id with⟨e,_⟩|⟨n,hn,h1,h2,_⟩
  .exact e
  .exact(h ⟨h2,by have h1:Sp.place l id=n:=h1;omega⟩).elim
 refine⟨trivial,trivial,af (λh1=>?_) λh1=>af (λh2=>?_) λh2=>?_⟩
 .have:=no λh=>by have h1:=fK h1;have:=h.1;rw[show ak (a,l,nx,())=false from h1]at this;cases this
  dsimp only;rw[this];exact⟨rfl,rfl,rfl,rfl⟩
 .have:=no λh=>by have h2:Sp.place l id<0:=fP h2;omega
  dsimp only;rw[this];exact⟨rfl,rfl,rfl,rfl⟩
 .have g1:ak (a,l,nx,())=true:=cZ h1;have g2:0<=Sp.place l id:=by have h2:¬Sp.place l id<0:=gV h2;omega
  rcases uO (a,l,nx,()) id with⟨_,e⟩|⟨n,hn,hpl,_,e⟩
  .exact(e ⟨g1,g2⟩).elim
  .have hn:n<l.length:=hn;have hpl:Sp.place l id=n:=hpl;have w:IntKind.i64.wrap ((n:Int)+1)=((n+1:Nat):Int):=fD _ (by omega);dsimp only;rw[hpl,e,w,arI,arI,as4,arZ,bW];refine⟨⟨by omega,by omega⟩,by rw[aro];omega,⟨by omega,by omega⟩,by rw[aro,arY];omega,rfl,?_,rfl,rfl⟩;exact(List.eraseIdx_eq_take_drop_succ ..).symm
def XK(L:List (List aW))(name:Sp.Bytes)(vals:List (Int×Int×Sp.Bytes)):List (List aW):=L++L.flatMap λa=>vals.map λv=>dO a name v.1 v.2.1 v.2.2
theorem tH{L:List (List aW)}{name:Sp.Bytes}{vals:List (Int×Int×Sp.Bytes)}{a:List aW}(h:a∈L):a∈XK L name vals:=asl _ h
theorem NV{L:List (List aW)}{name:Sp.Bytes}{vals:List (Int×Int×Sp.Bytes)}{a:List aW}(h:a∈L){k n:Int}{s:Sp.Bytes}(hv:(k,n,s)∈vals):dO a name k n s∈XK L name vals:=
 asH _ (List.mem_flatMap.2 ⟨a,h,asK.2 ⟨(k,n,s),hv,rfl⟩⟩)
def ints:List (Int×Int×Sp.Bytes):=[(1,0,[]),(1,1,[]),(1,2,[]),(1,3,[])]
def names:List (Int×Int×Sp.Bytes):=[(2,0,[105,110,107]),(2,0,[115,101,97])]
def tags:List (Int×Int×Sp.Bytes):=[(2,0,[114,101,100]),(2,0,[98,108,117,101])]
def abV:List (List aW):=XK [[]] [97] ints
def abW:List (List aW):=XK abV [98] ints
def abX:List (List aW):=XK abW [110] names
def abY:List (List aW):=XK abX [116] tags
theorem amv:(abY.all λa=>ja Sp.usual a&&decide (a.length<=4))=true:=by kernel_rfl
theorem NW{a:List aW}(h:a∈abY):ja Sp.usual a=true/\a.length<=4:=by have:=arK.1 amv a h;simpa using this
theorem anA{a:List aW}(h:a∈abV):a.length<=4:=(NW (tH (tH (tH h)))).2
theorem anB{a:List aW}(h:a∈abW):a.length<=4:=(NW (tH (tH h))).2
theorem anC{a:List aW}(h:a∈abX):a.length<=4:=(NW (tH h)).2
theorem ahx{x:Int}(h0:0<=x)(h1:x<4):((1:Int),x,([]:Sp.Bytes))∈ints:=by rcases(show x=0\/x=1\/x=2\/x=3 by omega)with h|h|h|h<;>subst h<;>simp[ints]
theorem alx{w:Sp.Bytes}(h:(w,())∈[(([105,110,107]:Sp.Bytes),()),([115,101,97],())]):((2:Int),(0:Int),w)∈names:=by simp only[arU,Prod.mk.injEq,auv,auQ,or_false]at h;rcases h with h|h<;>subst h<;>simp[names]
theorem amw{w:Sp.Bytes}(h:(w,())∈[(([114,101,100]:Sp.Bytes),()),([98,108,117,101],())]):((2:Int),(0:Int),w)∈tags:=by simp only[arU,Prod.mk.injEq,auv,auQ,or_false]at h;rcases h with h|h<;>subst h<;>simp[tags]
def Head(id:Int)(f:Int×Int×Bool×Int×Unit×Unit):Prop:=f.1=id/\0<=f.2.1/\f.2.1<=2/\0<=f.2.2.2.1/\f.2.2.2.1<=6
theorem BL:OK qh.e:=by
 refine XA.ok mixed (aA [iD.e,iI.e,tN.e,oJ.e,jQ.e,bY.e] ⟨jW,jD,Gu,zS,rJ,dJ,trivial⟩) ad7 (λ⟨_,id,_⟩ _=>⟨(((id,0,false,0,[],()),()),(([],0,0,()),())),⟨by dsimp only;decide,rfl,by dsimp only;decide,by dsimp only;decide,by dsimp only;decide,by dsimp only;decide,rfl,by dsimp only;decide⟩⟩) (by kernel_rfl) (show∀c0 c1 c2 id,qh.goal (abZ c0 c1 c2 id) ((c0,c1,c2,()),id,())from ?_);intro b i h id hin hp;dsimp only[qh]at hp ⊢;have hp:0<=i:=hp;refine⟨hp,?_⟩;rintro⟨⟨x0,⟨⟩⟩,⟨b0,i0,g0,⟨⟩⟩,⟨⟩⟩ ⟨p0,q0,q1,_⟩;refine⟨p0,?_⟩;rintro⟨⟨x1,⟨⟩⟩,⟨b1,i1,g1,⟨⟩⟩,⟨⟩⟩ p1;have q1:x0<3:=q1 (by decide);have q0:0<=x0:=q0;refine⟨λy=>0<=y.2.1.2.1/\Head id y.2.2.1,⟨p1,?_⟩,?_⟩
 .rintro⟨⟨x3,⟨⟩⟩,⟨b3,i3,g3,⟨⟩⟩,⟨⟩⟩ p3;refine af (λ_=>⟨p3,?_⟩) λ_=>⟨rfl,p3,rfl,q0,(show x0<=2 by omega),ar4 _,(show(0:Int)<=6 by decide)⟩;rintro⟨⟨x4,⟨⟩⟩,⟨b4,i4,g4,⟨⟩⟩,⟨⟩⟩ ⟨p4,q4,q5,_⟩;have q5:x4<7:=q5 (by decide);exact⟨rfl,p4,rfl,q0,(show x0<=2 by omega),q4,(show x4<=6 by omega)⟩
 rintro⟨⟨⟩,⟨b5,i5,g5,⟨⟩⟩,f5,⟨⟩⟩ ⟨p5,H5⟩;refine⟨λy=>0<=y.2.1.2.1/\Head id y.2.2.1/\y.2.2.2.1∈abV,⟨p5,?_⟩,?_⟩
 .rintro⟨⟨x7,⟨⟩⟩,⟨b7,i7,g7,⟨⟩⟩,⟨⟩⟩ p7;refine af (λ_=>⟨p7,?_⟩) λ_=>⟨rfl,p7,H5,tH arC⟩;rintro⟨⟨x8,⟨⟩⟩,⟨b8,i8,g8,⟨⟩⟩,⟨⟩⟩ ⟨p8,q8,q9,_⟩;refine⟨trivial,(show(0:Nat)<=1000 by decide),?_⟩;rintro⟨⟨⟨d,o,s,l,a,⟨⟩⟩,⟨⟩⟩,⟨⟩⟩ ⟨e1,e2,e3,e4,e5⟩;refine⟨rfl,p8,?_,?_⟩
  .exact⟨(show d=id from(show d=f5.1 from e1).trans H5.1),by rw[show o=f5.2.1 from e2];exact H5.2.1,by rw[show o=f5.2.1 from e2];exact H5.2.2.1,by rw[show l=f5.2.2.2.1 from e4];exact H5.2.2.2.1,by rw[show l=f5.2.2.2.1 from e4];exact H5.2.2.2.2⟩
  .have e5:a=dO [] [97] 1 x8 []:=e5;show a∈abV;rw[e5];exact NV arC (ahx q8 (q9 (by decide)))
 rintro⟨⟨⟩,⟨b11,i11,g11,⟨⟩⟩,f11,a11,⟨⟩⟩ ⟨p11,H11,m11⟩;refine⟨λy=>0<=y.2.1.2.1/\Head id y.2.2.1/\y.2.2.2.1∈abW,⟨p11,?_⟩,?_⟩
 .rintro⟨⟨x7,⟨⟩⟩,⟨b7,i7,g7,⟨⟩⟩,⟨⟩⟩ p7;refine af (λ_=>⟨p7,?_⟩) λ_=>⟨rfl,p7,H11,tH m11⟩;rintro⟨⟨x8,⟨⟩⟩,⟨b8,i8,g8,⟨⟩⟩,⟨⟩⟩ ⟨p8,q8,q9,_⟩;refine⟨trivial,arM (anA m11) (by decide),?_⟩;rintro⟨⟨⟨d,o,s,l,a,⟨⟩⟩,⟨⟩⟩,⟨⟩⟩ ⟨e1,e2,e3,e4,e5⟩;refine⟨rfl,p8,?_,?_⟩
  .exact⟨(show d=id from(show d=f11.1 from e1).trans H11.1),by rw[show o=f11.2.1 from e2];exact H11.2.1,by rw[show o=f11.2.1 from e2];exact H11.2.2.1,by rw[show l=f11.2.2.2.1 from e4];exact H11.2.2.2.1,by rw[show l=f11.2.2.2.1 from e4];exact H11.2.2.2.2⟩
  .have e5:a=dO a11 [98] 1 x8 []:=e5;show a∈abW;rw[e5];exact NV m11 (ahx q8 (q9 (by decide)))
 rintro⟨⟨⟩,⟨b17,i17,g17,⟨⟩⟩,f17,a17,⟨⟩⟩ ⟨p17,H17,m17⟩;refine⟨λy=>0<=y.2.1.2.1/\Head id y.2.2.1/\y.2.2.2.1∈abX,⟨p17,?_⟩,?_⟩
 .rintro⟨⟨x7,⟨⟩⟩,⟨b7,i7,g7,⟨⟩⟩,⟨⟩⟩ p7;refine af (λ_=>⟨⟨p7,by simp⟩,?_⟩) λ_=>⟨rfl,p7,H17,tH m17⟩;rintro⟨⟨x8,⟨⟩⟩,⟨b8,i8,g8,⟨⟩⟩,⟨⟩⟩ ⟨p8,q8⟩;refine⟨trivial,arM (anB m17) (by decide),?_⟩;rintro⟨⟨⟨d,o,s,l,a,⟨⟩⟩,⟨⟩⟩,⟨⟩⟩ ⟨e1,e2,e3,e4,e5⟩;refine⟨rfl,p8,?_,?_⟩
  .exact⟨(show d=id from(show d=f17.1 from e1).trans H17.1),by rw[show o=f17.2.1 from e2];exact H17.2.1,by rw[show o=f17.2.1 from e2];exact H17.2.2.1,by rw[show l=f17.2.2.2.1 from e4];exact H17.2.2.2.1,by rw[show l=f17.2.2.2.1 from e4];exact H17.2.2.2.2⟩
  .have e5:a=dO a17 [110] 2 0 x8:=e5;show a∈abX;rw[e5];exact NV m17 (alx q8)
 rintro⟨⟨⟩,⟨b23,i23,g23,⟨⟩⟩,f23,a23,⟨⟩⟩ ⟨p23,H23,m23⟩;refine⟨λy=>0<=y.2.1.2.1/\Head id y.2.2.1/\y.2.2.2.1∈abY,⟨p23,?_⟩,?_⟩
 .rintro⟨⟨x7,⟨⟩⟩,⟨b7,i7,g7,⟨⟩⟩,⟨⟩⟩ p7;refine af (λ_=>⟨⟨p7,by simp⟩,?_⟩) λ_=>⟨rfl,p7,H23,tH m23⟩;rintro⟨⟨x8,⟨⟩⟩,⟨b8,i8,g8,⟨⟩⟩,⟨⟩⟩ ⟨p8,q8⟩;refine⟨trivial,arM (anC m23) (by decide),?_⟩;rintro⟨⟨⟨d,o,s,l,a,⟨⟩⟩,⟨⟩⟩,⟨⟩⟩ ⟨e1,e2,e3,e4,e5⟩;refine⟨rfl,p8,?_,?_⟩
  .exact⟨(show d=id from(show d=f23.1 from e1).trans H23.1),by rw[show o=f23.2.1 from e2];exact H23.2.1,by rw[show o=f23.2.1 from e2];exact H23.2.2.1,by rw[show l=f23.2.2.2.1 from e4];exact H23.2.2.2.1,by rw[show l=f23.2.2.2.1 from e4];exact H23.2.2.2.2⟩
  .have e5:a=dO a23 [116] 2 0 x8:=e5;show a∈abY;rw[e5];exact NV m23 (amw q8)
 rintro⟨⟨⟩,⟨b29,i29,g29,⟨⟩⟩,f29,a29,⟨⟩⟩ ⟨p29,H29,m29⟩;have hm:=NW m29;exact⟨p29,H29.1,H29.2.1,H29.2.2.1,H29.2.2.2.1,H29.2.2.2.2,hm.1,hm.2⟩
theorem YW(al:List aW)(name:Sp.Bytes)(k n:Int)(s:Sp.Bytes):(dO al name k n s).length<=al.length+1:=by
 have hf:=asn (fQ name) al;unfold dO;cases decide (k=0)with
 |true=>show(al.filter _).length<=_;omega
 |false=>show(yU _ _).length<=_;unfold yU;have:=congrArg List.length (as7 (p:=iC name) (l:=al.filter (fQ name)));rw[arv]at this;rw[arv,arq];show((al.filter (fQ name)).takeWhile (iC name)).length+(((al.filter (fQ name)).dropWhile (iC name)).length+1)<=_;omega
theorem Qc:OK Ag.e:=by
 refine XA.ok mixed (aA [tN.e,iD.e,vP.e,qg.e,iW.e,qh.e,bY.e] ⟨Gu,jW,Il,BK,kM,BL,dJ,trivial⟩) afW (λ_ _=>⟨(((0,0,false,0,[],()),()),(([],0,0,()),())),⟨by decide,by decide⟩⟩) (by kernel_rfl) (show∀c0 c1 c2,Ag.goal (ad8 c0 c1 c2) ((c0,c1,c2,()),())from ?_);intro b i h hin hp;dsimp only[Ag]at hp ⊢;have hp:0<=i:=hp;refine⟨hp,?_⟩;rintro⟨⟨x0,⟨⟩⟩,⟨b0,i0,g0,⟨⟩⟩,⟨⟩⟩ ⟨p0,_⟩;refine⟨p0,?_⟩;rintro⟨⟨⟨d,o,s,l,a,⟨⟩⟩,⟨⟩⟩,⟨b1,i1,g1,⟨⟩⟩,⟨⟩⟩ ⟨p1,_,_,_,_,_,_,ha⟩;have ha:a.length<=4:=ha;refine⟨p1,?_⟩;rintro⟨⟨x2,⟨⟩⟩,⟨b2,i2,g2,⟨⟩⟩,⟨⟩⟩ ⟨p2,_⟩;refine af (λ_=>⟨⟨p2,by simp⟩,?_⟩) λ_=>af (λ_=>⟨⟨p2,by simp⟩,?_⟩) λ_=>af (λ_=>⟨⟨p2,by simp⟩,?_⟩) λ_=>af (λ_=>⟨p2,?_⟩) λ_=>af (λ_=>⟨trivial,(show a.length<=1000 by omega),?_⟩) λ_=>⟨p2,(show a.length<=10 by omega)⟩
 .rintro⟨⟨x3,⟨⟩⟩,⟨b3,i3,g3,⟨⟩⟩,⟨⟩⟩ ⟨p3,_⟩;exact⟨p3,(show a.length<=10 by omega)⟩
 .rintro⟨⟨x3,⟨⟩⟩,⟨b3,i3,g3,⟨⟩⟩,⟨⟩⟩ ⟨p3,_⟩;exact⟨p3,(show a.length<=10 by omega)⟩
 .rintro⟨⟨x3,⟨⟩⟩,⟨b3,i3,g3,⟨⟩⟩,⟨⟩⟩ ⟨p3,_⟩;exact⟨p3,(show a.length<=10 by omega)⟩
 .rintro⟨⟨x3,⟨⟩⟩,⟨b3,i3,g3,⟨⟩⟩,⟨⟩⟩ ⟨p3,_⟩;refine⟨p3,?_⟩;rintro⟨⟨⟨k,n,w,⟨⟩⟩,⟨⟩⟩,⟨b4,i4,g4,⟨⟩⟩,⟨⟩⟩ ⟨p4,_⟩;refine⟨(show a.length+1<=big by rw[bW];omega),p4,?_⟩;show(a++[_]).length<=10;rw[arv,arq,arw];omega
 .rintro⟨⟨⟨d',o',s',l',a',⟨⟩⟩,⟨⟩⟩,⟨⟩⟩ ⟨_,_,_,_,e5⟩;refine⟨p2,?_⟩;have e5:a'=dO a [97] 2 0 [114,101,100]:=e5;show a'.length<=10;rw[e5];have:=YW a [97] 2 0 [114,101,100];omega
theorem amx:dF Sp.usual=true:=by kernel_rfl
theorem amy:ak (Sp.usual,[],1,())=true:=by kernel_rfl
theorem aiy:aU (Sp.usual,[],1,()):=⟨by decide,by decide,λf hf=>by cases hf⟩
theorem Rt{a:List dD}{l:List aI}{nx:Int}{X:bf}(h1:a=X.1)(h2:l=X.2.1)(h3:nx=X.2.2.1):((a,l,nx,()):bf)=X:=by subst h1 h2 h3;rfl
theorem ahy(s:bf)(f:aI):(bJ s f).1.1=s.1/\((bJ s f).1.2.1.length:Int)-(bJ s f).1.2.2.1=s.2.1.length-s.2.2.1:=by
 rcases nR s f with⟨e,_⟩|⟨_,_,_,e⟩
 .rw[e];exact⟨rfl,rfl⟩
 .rw[e];refine⟨rfl,?_⟩;show((s.2.1++[(s.2.2.1,f.2)]).length:Int)-(s.2.2.1+1)=_;rw[arv,arq,arw];omega
theorem VT(s:bf)(id:Int):(fA s id).1.1=s.1/\(fA s id).1.2.2.1=s.2.2.1/\s.2.1.length<=(fA s id).1.2.1.length+1:=by
 rcases uO s id with⟨e,_⟩|⟨n,hn,_,_,e⟩
 .rw[e];exact⟨rfl,rfl,Nat.le_succ _⟩
 .rw[e];refine⟨rfl,rfl,?_⟩;show s.2.1.length<=(s.2.1.eraseIdx n).length+1;rw[atS hn];omega
structure nJ(k:Int)(s:bf):Prop where
 sch:s.1=Sp.usual
 ok:ak s=true
 nx:s.2.2.1<=s.2.1.length+k
 small:aU s
theorem nJ.create{k:Int}{s:bf}(h:nJ k s){f:aI}(hf:jl f):nJ k (bJ s f).1:=by obtain⟨h1,h2⟩:=ahy s f;exact⟨h1.trans h.sch,ad9 f h.ok,by have:=h.nx;omega,afX h.small hf⟩
theorem nJ.delete{k:Int}{s:bf}(h:nJ k s)(id:Int):nJ (k+1) (fA s id).1:=by obtain⟨h1,h2,h3⟩:=VT s id;exact⟨h1.trans h.sch,aea id h.ok,by have:=h.nx;omega,afY id h.small⟩
theorem nJ.more{k k':Int}{s:bf}(h:nJ k s)(hk:k<=k'):nJ k' s:=⟨h.sch,h.ok,by have:=h.nx;omega,h.small⟩
theorem nJ.grows{s:bf}(h:nJ 2 s)(hl:s.2.1.length<12){f:aI}(ho:0<=f.2.1/\f.2.1<=2)(hk:0<=f.2.2.2.1/\f.2.2.2.1<=6)(ha:ja Sp.usual f.2.2.2.2.1=true):(bJ s f).1.2.1.length=s.2.1.length+1:=by
 have hnx:=(jE.1 h.ok).2.2.2;have h2:=h.nx;have hf:dm s.1 (s.2.2.1,f.2)=true:=by rw[h.sch];show(ja Sp.usual f.2.2.2.2.1&&dF Sp.usual&&(decide (1<=s.2.2.1)&&decide (s.2.2.1<=60))&&(decide (0<=f.2.1)&&decide (f.2.1<=2))&&(decide (0<=f.2.2.2.1)&&decide (f.2.2.2.1<=60)))=true;rw[ha,amx,aru hnx.1,aru (by omega),aru ho.1,aru ho.2,aru hk.1,aru (by omega)];rfl
 rcases nR s f with⟨_,e⟩|⟨_,_,_,e⟩
 .exact(e ⟨h.ok,hl,hf⟩).elim
 .rw[e];show(s.2.1++[_]).length=_;rw[arv];rfl
theorem L9:ak (Sp.usual,[(1,0,false,0,[],())],2,())=true/\aU (Sp.usual,[(1,0,false,0,[],())],2,()):=⟨by kernel_rfl,by decide,by decide,λf hf=>by rw[asq.1 hf];exact ar0 _⟩
theorem nJ.one{s:bf}(h:nJ 1 s){f:aI}(ho:0<=f.2.1/\f.2.1<=2)(hk:0<=f.2.2.2.1/\f.2.2.2.1<=6)(ha:ja Sp.usual f.2.2.2.2.1=true):0<(bJ s f).1.2.1.length:=by
 by_cases hl:s.2.1.length<12
 .rw[(h.more (show(1:Int)<=2 by decide)).grows hl ho hk ha];omega
 .rcases nR s f with⟨e,_⟩|⟨_,_,_,e⟩
  .rw[e];show 0<s.2.1.length;omega
  .rw[e];show 0<(s.2.1++[_]).length;rw[arv,List.length_singleton];omega
theorem EY:OK qW.e:=by
 refine XA.ok mixed (aA [xR.e,jQ.e,o7.e,qh.e,bY.e,Bo.e,vV.e] ⟨VR,rJ,Cm,BL,dJ,ZT,LX,trivial⟩) ab1 (λ_ _=>⟨(((Sp.usual,[(1,0,false,0,[],())],2,()),()),(([],0,0,()),())),⟨by decide,rfl,L9.1,by decide,L9.2,by decide⟩⟩) (by kernel_rfl) (show∀c0 c1 c2,qW.goal (ZV c0 c1 c2) ((c0,c1,c2,()),())from ?_);intro b i h hin hp;dsimp only[qW]at hp ⊢;have hp:0<=i:=hp;refine⟨trivial,?_⟩;rintro⟨⟨u,⟨⟩⟩,⟨⟩⟩ hu;have hu:u=Sp.usual:=hu;subst hu;refine⟨(show Sp.usual.length<=1000 by decide),?_⟩;rintro⟨⟨⟨a,l,nx,⟨⟩⟩,⟨⟩⟩,⟨⟩⟩ ⟨e1,e2,e3⟩;have e1:a=Sp.usual:=e1;have e2:l=[]:=e2;have e3:nx=1:=e3;subst e1 e2 e3;refine⟨λy=>0<=y.2.1.2.1/\(0<=y.1.1/\y.1.1<=7)/\nJ 1 (y.2.2.2.1,y.2.2.2.2.1,y.2.2.1.2.2.1,())/\(0<y.1.1->0<y.2.2.2.2.1.length),λy=>(8-y.1.1).toNat,⟨hp,⟨(show(0:Int)<=0 by decide),(show(0:Int)<=7 by decide)⟩,⟨rfl,amy,(show(1:Int)<=((0:Nat):Int)+1 by decide),aiy⟩,λh=>absurd h (Int.lt_irrefl 0)⟩,?_⟩;rintro⟨⟨n,⟨⟩⟩,⟨b0,i0,g0,⟨⟩⟩,⟨⟨⟩,⟨⟩,nx,⟨⟩⟩,a,l,⟨⟩⟩ ⟨p0,⟨k0,k1⟩,D,hne⟩;have p0:0<=i0:=p0;have k0:0<=n:=k0;have k1:n<=7:=k1;have D:nJ 1 (a,l,nx,()):=D;have hne:0<n->0<l.length:=hne;refine⟨p0,?_⟩;rintro⟨⟨x1,⟨⟩⟩,⟨b1,i1,g1,⟨⟩⟩,⟨⟩⟩ ⟨p1,q0,q1,_⟩;have q1:x1<7:=q1 (by decide);have q0:0<=x1:=q0;have w:IntKind.i64.wrap (1+x1)=1+x1:=fD _ (by omega);dsimp only;rw[w];refine af (λhc=>⟨p1,?_⟩) λhc=>af (λh2=>⟨p1,?_⟩) λh2=>?_
 .have hc:=fP hc;have wn:IntKind.i64.wrap (n+1)=n+1:=fD _ (by omega);rw[wn];rintro⟨⟨⟨d,o,s,lk,al,⟨⟩⟩,⟨⟩⟩,⟨b2,i2,g2,⟨⟩⟩,⟨⟩⟩ ⟨p2,_,o1,o2,k3,k4,hat,ha⟩;have hf:jl (d,o,s,lk,al,()):=(show al.length<=1000 from arM ha (by decide));refine⟨⟨D.small,hf⟩,?_⟩;rintro⟨⟨⟨a3,l3,VU,⟨⟩⟩,id3,ok3,⟨⟩⟩,⟨⟩⟩ ⟨e1,e2,e3,_⟩;have e:((a3,l3,VU,()):bf)=(bJ (a,l,nx,()) (d,o,s,lk,al,())).1:=Rt e1 e2 e3;refine⟨rfl,⟨p2,⟨(show 0<=n+1 by omega),(show n+1<=7 by omega)⟩,?_,λ_=>?_⟩,?_⟩
  .show nJ 1 (a3,l3,VU,());rw[e];exact D.create hf
  .have:=D.one (f:=(d,o,s,lk,al,())) ⟨o1,o2⟩ ⟨k3,k4⟩ hat;rw[← e]at this;exact this
  .show(8-(n+1)).toNat<(8-n).toNat;omega
 .rintro⟨⟨x3,⟨⟩⟩,⟨b3,i3,g3,⟨⟩⟩,⟨⟩⟩ p3;have h2:(l.length:Int)>2:=fP h2;refine af (λ_=>⟨⟨by decide,(show(1:Int)<l.length by omega)⟩,(show 1<l.length by omega),D.small,?_⟩) λ_=>?_
  .rintro⟨⟨⟨a3,l3,VU,⟨⟩⟩,ok3,⟨⟩⟩,⟨⟩⟩ ⟨e1,e2,e3,_⟩;have e:=Rt e1 e2 e3;have D':=D.delete (List.getD l (Int.toNat 1) (0,0,false,0,[],())).1;have D':nJ 2 (a3,l3,VU,()):=by have e:((a3,l3,VU,()):bf)=(fA (a,l,nx,()) (List.getD l (Int.toNat 1) (0,0,false,0,[],())).1).1:=e;rw[e];exact D'
   refine⟨p3,D'.sch,D'.ok,D'.nx,D'.small,?_⟩;have:=(VT (a,l,nx,()) (List.getD l (Int.toNat 1) (0,0,false,0,[],())).1).2.2;have e2:l3=(fA (a,l,nx,()) (List.getD l (Int.toNat 1) (0,0,false,0,[],())).1).1.2.1:=e2;rw[← e2]at this;have this:l.length<=l3.length+1:=this;show 0<l3.length;omega
  .have D':=D.more (show(1:Int)<=2 by decide);exact⟨p3,D'.sch,D'.ok,D'.nx,D'.small,hne (by have:=gV hc;omega)⟩
 .have D':=D.more (show(1:Int)<=2 by decide);exact⟨p1,D'.sch,D'.ok,D'.nx,D'.small,hne (by have:=gV hc;omega)⟩
theorem aiz:OK JU.e:=by refine PA.ok mixed (aA [] trivial) H0 (by kernel_rfl) (show∀code,JU.goal (aiA code) (code,())from ?_);intro b hin hp;dsimp only[JU]at hp ⊢;exact rfl
theorem yV:OK kX.e:=by
 refine PA.ok mixed (aA [kQ.e] ⟨qw,trivial⟩) Ru (by kernel_rfl) (show∀s,kX.goal (Qd s) (s,())from ?_);intro s hin hp;dsimp only[kX]at hp ⊢;have hlen:s.length<=maxLen:=hin.1;rw[maxLen_eq]at hlen;refine⟨λy=>∃n:Nat,y.1.1=n/\n<=s.length/\Sp.lower (s.take n)=true,λy=>((s.length:Int)-y.1.1).toNat,⟨0,rfl,by omega,rfl⟩,?_⟩;rintro⟨⟨_,⟨⟩⟩,⟨⟩⟩ ⟨n,rfl,hn,hJ⟩;dsimp only;refine af (λh=>?_) λh=>?_<;>simp only[arD,ar1]at h
 .have hlt:n<s.length:=by omega
  rw[fD _ (by omega),arI];refine⟨⟨by omega,by omega⟩,af (λh2=>?_) λh2=>⟨⟨by omega,by omega⟩,af (λh3=>?_) λh3=>?_⟩⟩<;>simp only[arD,ar1]at*
  .unfold fO;cases hl:Sp.lower s with
   |false=>rfl
   |true=>have:=Ky hlt hl;omega
  .unfold fO;cases hl:Sp.lower s with
   |false=>rfl
   |true=>have:=Ky hlt hl;omega
  .refine⟨rfl,⟨n+1,by simp,by omega,?_⟩,by dsimp only;omega⟩;rw[Sp.take_succ' s n 0 hlt];unfold Sp.lower at hJ ⊢;rw[List.all_append,hJ];simp only[asy,auP,atQ,aug,ark,arD];omega
 .have hge:n=s.length:=by omega
  rw[hge,arZ]at hJ;unfold fO;rw[hJ];exact⟨trivial,rfl⟩
theorem zV:OK mr.e:=by
 refine PA.ok mixed (aA [kX.e,kQ.e] ⟨yV,qw,trivial⟩) H0 (by kernel_rfl) (show∀v0 v1 v2,mr.goal (Rw v0 v1 v2) ((v0,v1,v2,()),())from ?_);intro k n s hin hp;dsimp only[mr]at hp ⊢;refine af (λh=>?_) λh=>af (λh2=>⟨trivial,af (λh3=>?_) λh3=>?_⟩) λh2=>af (λh3=>⟨trivial,af (λh4=>?_) λh4=>?_⟩) λh3=>?_
 .have e:k=0:=by simpa using h
  subst e;exact congrArg (·,()) (arR.2 (by simp[dA]))
 .have e:k=1:=by simpa using h2
  subst e;exact congrArg (·,()) (arR.2 (by simp only[ark,arD]at h3;simp[dA,h3]))
 .have e:k=1:=by simpa using h2
  subst e;exact congrArg (·,()) (arR.2 (by simp only[dA,h3];simp))
 .have e:k=2:=by simpa using h3
  subst e;exact congrArg (·,()) (arR.2 (by simp[dA,h4]))
 .have e:k=2:=by simpa using h3
  subst e;exact congrArg (·,()) (arR.2 (by simp[dA,h4]))
 .have e1:k≠0:=by simpa using h
  have e2:k≠1:=by simpa using h2
  have e3:k≠2:=by simpa using h3
  exact congrArg (·,()) (arR.2 (by simp[dA,e1,e2,e3]))
theorem DJ:OK mO.e:=by
 refine PA.ok mixed (aA [] trivial) H0 (by kernel_rfl) (show∀s,mO.goal (Na s) (s,())from ?_);intro s hin hp;dsimp only[mO]at hp ⊢;refine af (λh=>?_) λh=>?_
 .have h:(s.length:Int)=1:=fP h
  match s,h with
  |[c],_=>
   refine⟨⟨by decide,(by show(0:Int)<1;decide)⟩,af (λh2=>⟨⟨by decide,(by show(0:Int)<1;decide)⟩,?_⟩) λh2=>?_⟩
   .have h2:(c.toNat:Int)>=97:=fP h2;refine congrArg (·,()) (arR.2 ?_);simp only[jd,Sp.lower,asy,auP,atQ,ark,arD,arq,arw];constructor
    .intro h3;have h3:(c.toNat:Int)<=122:=h3;exact⟨⟨⟨by omega,by omega⟩,by decide⟩,by decide⟩
    .rintro⟨⟨⟨_,h4⟩,_⟩,_⟩;show(c.toNat:Int)<=122;omega
   .have h2:¬(c.toNat:Int)>=97:=gV h2;refine congrArg (·,()) (arR.2 ?_);simp only[jd,Sp.lower,asy,auP,atQ,ark,arD];constructor
    .intro h3;cases h3
    .rintro⟨⟨⟨h4,_⟩,_⟩,_⟩;omega
 .have h:¬(s.length:Int)=1:=gV h;refine congrArg (·,()) (arR.2 ?_);simp only[jd,ark,arD];constructor
  .intro h3;cases h3
  .rintro⟨⟨_,h4⟩,h5⟩;omega
theorem JK:OK uj.e:=by
 refine PA.ok mixed (aA [] trivial) ZW (by kernel_rfl) (show∀s name,uj.goal (X4 s name) (s,name,())from ?_);intro s name hin hp;dsimp only[uj]at hp ⊢;have hlen:s.length<=maxLen:=hin.1.1;rw[maxLen_eq]at hlen;refine iJ s.length hlen (λn=>∀i,i<n->(s.getD i ([],0,())).1≠name) (λi hi=>by omega) (λI μ n hn hJ next=>?_) λI μ hJ=>?_
 .dsimp only;refine dG (by omega) ⟨⟨by omega,by omega⟩,af (λh=>?_) λh=>⟨rfl,next λi hi=>?_⟩⟩
  .exact congrArg (·,()) (NT s n hn hJ (by simpa only[arI,arA]using h)).symm
  .rcases arH i n with h'|h'
   .exact hJ i h'
   .have:i=n:=by omega
    subst this;have h2:((s.getD i ([],0,())).1==name)=false:=h;exactλe=>by rw[e]at h2;simp at h2
 .dsimp only;exact dH (by omega) (congrArg (·,()) (IB s hJ).symm)
theorem alz{k:Int}(h:(k !=1)=false\/(k !=2)=false):(decide (1<=k)&&decide (k<=2))=true:=by have:k=1\/k=2:=h.imp (by simp) (by simp);rcases this with h|h<;>subst h<;>rfl
theorem anD{k:Int}(h1:(k !=1)=true)(h2:(k !=2)=true):(decide (1<=k)&&decide (k<=2))=false:=by
 have h1:k≠1:=by simpa using h1
 have h2:k≠2:=by simpa using h2
 rw[aun];by_cases h:k<1
 .left;exact arx (by omega)
 .right;exact arx (by omega)
theorem FB:OK oL.e:=by
 refine PA.ok mixed (aA [mO.e] ⟨DJ,trivial⟩) Rx (by kernel_rfl) (show∀s,oL.goal (Qe s) (s,())from ?_);intro s hin hp;dsimp only[oL]at hp ⊢;have hlen:s.length<=maxLen:=hin.1.1;rw[maxLen_eq]at hlen;refine iJ s.length hlen (λn=>∀i,i<n->jh s i=true) (λi hi=>by omega) (λI μ n hn hJ next=>?_) λI μ hJ=>?_
 .dsimp only;have no:jh s n=false->(false,())=(dF s,()):=λh=>by rw[YV hn h]
  have rest:jd (Sp.fieldAt s n).1=true->(decide (1<=(Sp.fieldAt s n).2.1)&&decide ((Sp.fieldAt s n).2.1<=2))=true->
   bif decide ((n:Int)>0)then
    ((0:Int)<=IntKind.i64.wrap ((n:Int)-1)/\IntKind.i64.wrap ((n:Int)-1)<(s.length:Int))/\
      bif !Op.bytesLess (s.getD (IntKind.i64.wrap ((n:Int)-1)).toNat ([],0,())).fst (s.getD (Int.toNat (n:Int)) ([],0,())).fst then(false,())=(dF s,())
      else NX ((s,s,(s.length:Int),()),()) I μ ((IntKind.i64.wrap ((n:Int)+1),()),()) (((n:Int),()),())
   else NX ((s,s,(s.length:Int),()),()) I μ ((IntKind.i64.wrap ((n:Int)+1),()),()) (((n:Int),()),()):=by
   intro h2 h3;refine af (λh4=>?_) λh4=>⟨rfl,next (dV hJ ?_)⟩
   .have h4:0<n:=by have:=fP h4;omega
    rw[uf h4 (by omega)];refine⟨⟨by omega,by omega⟩,af (λh5=>no ?_) λh5=>⟨rfl,next (dV hJ ?_)⟩⟩
    .have h5:Op.bytesLess (Sp.fieldAt s (n-1)).1 (Sp.fieldAt s n).1=false:=fK h5;unfold jh;rw[h2,h3,h5,aru h4];rfl
    .have h5:Op.bytesLess (Sp.fieldAt s (n-1)).1 (Sp.fieldAt s n).1=true:=cZ h5;unfold jh;rw[h2,h3,h5,aru h4];rfl
   .have h4:¬0<n:=by have:=gV h4;omega
    unfold jh;rw[h2,h3,arx h4];rfl
  refine dG (by omega) ⟨⟨by omega,by omega⟩,trivial,af (λh2=>no ?_) λh2=>af (λh3=>af (λh4=>no ?_) λh4=>?_) λh3=>?_⟩
  .have h2:jd (Sp.fieldAt s n).1=false:=fK h2;unfold jh;rw[h2];rfl
  .have h2:jd (Sp.fieldAt s n).1=true:=cZ h2;have h3:(decide (1<=(Sp.fieldAt s n).2.1)&&decide ((Sp.fieldAt s n).2.1<=2))=false:=anD h3 h4;unfold jh;rw[h2,h3];rfl
  .have h2:jd (Sp.fieldAt s n).1=true:=cZ h2;have h3:(decide (1<=(Sp.fieldAt s n).2.1)&&decide ((Sp.fieldAt s n).2.1<=2))=true:=alz (.inr h4);exact rest h2 h3
  .have h2:jd (Sp.fieldAt s n).1=true:=cZ h2;have h3:(decide (1<=(Sp.fieldAt s n).2.1)&&decide ((Sp.fieldAt s n).2.1<=2))=true:=alz (.inl h3);exact rest h2 h3
 .dsimp only;refine dH (by omega) (congrArg (·,()) ?_);unfold dF;rw[mX hJ];rfl
theorem Qg:OK sF.e:=by
 refine PA.ok mixed (aA [uj.e,mr.e] ⟨JK,zV,trivial⟩) H0 (by kernel_rfl) (show∀s name v0 v1 v2,sF.goal (Qh s name v0 v1 v2) (s,name,(v0,v1,v2,()),())from ?_);intro fs s k n w hin hp;dsimp only[sF]at hp ⊢;refine⟨trivial,af (λh=>af (λh2=>⟨trivial,?_⟩) λh2=>?_) λh=>?_⟩
 .exact congrArg (·,()) (arR.2 (by simp only[auL,ne_eq]at h2;simp[fZ,h,h2]))
 .exact congrArg (·,()) (arR.2 (by simp at h2;simp[fZ,h2]))
 .exact congrArg (·,()) (arR.2 (by simp[fZ,h]))
theorem TU:OK vW.e:=by
 refine PA.ok mixed (aA [oL.e,Ew.e,kQ.e,sF.e] ⟨FB,ad3,qw,Qg,trivial⟩) VW (by kernel_rfl) (show∀s f0 f1 f2 f3 f4,vW.goal (TV s f0 f1 f2 f3 f4) (s,(f0,f1,f2,f3,f4,()),())from ?_);intro fs f0 f1 f2 f3 f4 hin hp;dsimp only[vW]at hp ⊢;have hlen:f4.length<=maxLen:=hin.2.1.2.2.2.2.1.1;rw[maxLen_eq]at hlen;refine iJ f4.length hlen (λn=>∀i,i<n->jB fs f4 i=true) (λi hi=>by omega) (λI μ n hn hJ next=>?_) λI μ hJ=>?_
 .dsimp only;have no:jB fs f4 n=false->(false,())=(dm fs (f0,f1,f2,f3,f4,()),()):=λh=>by rw[afq (f:=(f0,f1,f2,f3,f4,())) hn h]
  refine dG (by omega) ⟨⟨by omega,by omega⟩,af (λh4=>?_) λh4=>⟨trivial,af (λh2=>no ?_) λh2=>⟨rfl,next (dV hJ ?_)⟩⟩⟩
  .have h4:0<n:=by have:=fP h4;omega
   rw[uf h4 (by omega)];refine⟨⟨by omega,by omega⟩,af (λh5=>no ?_) λh5=>⟨trivial,af (λh2=>no ?_) λh2=>⟨rfl,next (dV hJ ?_)⟩⟩⟩
   .have h5:Op.bytesLess (bI f4 (n-1)).1 (bI f4 n).1=false:=fK h5;unfold jB;rw[h5,aru h4];exact ar9 _
   .have h2:fZ fs (bI f4 n).1 (bI f4 n).2.1 (bI f4 n).2.2.1 (bI f4 n).2.2.2.1=false:=fK h2;unfold jB;rw[h2];rfl
   .have h2:fZ fs (bI f4 n).1 (bI f4 n).2.1 (bI f4 n).2.2.1 (bI f4 n).2.2.2.1=true:=cZ h2;have h5:Op.bytesLess (bI f4 (n-1)).1 (bI f4 n).1=true:=cZ h5;unfold jB;rw[h2,h5,aru h4];rfl
  .have h2:fZ fs (bI f4 n).1 (bI f4 n).2.1 (bI f4 n).2.2.1 (bI f4 n).2.2.2.1=false:=fK h2;unfold jB;rw[h2];rfl
  .have h2:fZ fs (bI f4 n).1 (bI f4 n).2.1 (bI f4 n).2.2.1 (bI f4 n).2.2.2.1=true:=cZ h2;have h4:¬0<n:=by have:=gV h4;omega
   unfold jB;rw[h2,arx h4];rfl
 .dsimp only;have ha:ja fs f4=true:=mX hJ;refine dH (by omega) ⟨trivial,af (λh1=>⟨trivial,af (λh2=>⟨trivial,af (λh3=>⟨trivial,?_⟩) λh3=>?_⟩) λh2=>?_⟩) λh1=>?_⟩
  all_goals refine congrArg (·,()) ?_
  .show dF fs=(ja fs f4&&dF fs&&(decide (1<=f0)&&decide (f0<=60))&&(decide (0<=f1)&&decide (f1<=2))&&(decide (0<=f3)&&decide (f3<=60)));rw[ha,h1,h2,h3];cases dF fs<;>rfl
  .show false=(ja fs f4&&dF fs&&(decide (1<=f0)&&decide (f0<=60))&&(decide (0<=f1)&&decide (f1<=2))&&(decide (0<=f3)&&decide (f3<=60)));rw[h3,ar9]
  .show false=(ja fs f4&&dF fs&&(decide (1<=f0)&&decide (f0<=60))&&(decide (0<=f1)&&decide (f1<=2))&&(decide (0<=f3)&&decide (f3<=60)));rw[h2,ar9,as6]
  .show false=(ja fs f4&&dF fs&&(decide (1<=f0)&&decide (f0<=60))&&(decide (0<=f1)&&decide (f1<=2))&&(decide (0<=f3)&&decide (f3<=60)));rw[h1,ar9,as6,as6]
theorem Gv:OK pV.e:=by
 refine PA.ok mixed (aA [kQ.e,oL.e,vW.e] ⟨qw,FB,TU,trivial⟩) TW (by kernel_rfl) (show∀s0 s1 s2,pV.goal (Ry s0 s1 s2) ((s0,s1,s2,()),())from ?_);intro s0 s1 s2 hin hp;dsimp only[pV]at hp ⊢;have hlen:s1.length<=maxLen:=hin.1.2.1.1;rw[maxLen_eq]at hlen;refine iJ s1.length hlen (λn=>∀i,i<n->jM (s0,s1,s2,()) i=true) (λi hi=>by omega) (λI μ n hn hJ next=>?_) λI μ hJ=>?_
 .dsimp only;have no:jM (s0,s1,s2,()) n=false->(false,())=(ak (s0,s1,s2,()),()):=λh=>by rw[abM (s:=(s0,s1,s2,())) hn h]
  refine dG (by omega) ⟨⟨by omega,by omega⟩,trivial,af (λh2=>no ?_) λh2=>af (λh3=>no ?_) λh3=>af (λh4=>?_) λh4=>⟨rfl,next (dV hJ ?_)⟩⟩
  .have h2:dm s0 (Sp.fileAt s1 n)=false:=fK h2;show(dm s0 (Sp.fileAt s1 n)&&_&&_)=false;rw[h2];rfl
  .have h2:dm s0 (Sp.fileAt s1 n)=true:=cZ h2;have h3:¬(Sp.fileAt s1 n).1<s2:=by have h3:(Sp.fileAt s1 n).1>=s2:=fP h3;omega
   show(dm s0 (Sp.fileAt s1 n)&&decide ((Sp.fileAt s1 n).1<s2)&&_)=false;rw[h2,arx h3];rfl
  .have h2:dm s0 (Sp.fileAt s1 n)=true:=cZ h2;have h3:(Sp.fileAt s1 n).1<s2:=by have h3:¬(Sp.fileAt s1 n).1>=s2:=gV h3;omega
   have h4:0<n:=by have:=fP h4;omega
   rw[uf h4 (by omega)];refine⟨⟨by omega,by omega⟩,af (λh5=>no ?_) λh5=>⟨rfl,next (dV hJ ?_)⟩⟩
   .have h5:¬(Sp.fileAt s1 (n-1)).1<(Sp.fileAt s1 n).1:=by have h5:(Sp.fileAt s1 (n-1)).1>=(Sp.fileAt s1 n).1:=fP h5;omega
    show(dm s0 (Sp.fileAt s1 n)&&decide ((Sp.fileAt s1 n).1<s2)&&!(decide (0<n)&&!decide ((Sp.fileAt s1 (n-1)).1<(Sp.fileAt s1 n).1)))=false;rw[h2,aru h3,aru h4,arx h5];rfl
   .have h5:(Sp.fileAt s1 (n-1)).1<(Sp.fileAt s1 n).1:=by have h5:¬(Sp.fileAt s1 (n-1)).1>=(Sp.fileAt s1 n).1:=gV h5;omega
    show(dm s0 (Sp.fileAt s1 n)&&decide ((Sp.fileAt s1 n).1<s2)&&!(decide (0<n)&&!decide ((Sp.fileAt s1 (n-1)).1<(Sp.fileAt s1 n).1)))=true;rw[h2,aru h3,aru h4,aru h5];rfl
  .have h2:dm s0 (Sp.fileAt s1 n)=true:=cZ h2;have h3:(Sp.fileAt s1 n).1<s2:=by have h3:¬(Sp.fileAt s1 n).1>=s2:=gV h3;omega
   have h4:¬0<n:=by have:=gV h4;omega
   show(dm s0 (Sp.fileAt s1 n)&&decide ((Sp.fileAt s1 n).1<s2)&&!(decide (0<n)&&!decide ((Sp.fileAt s1 (n-1)).1<(Sp.fileAt s1 n).1)))=true;rw[h2,aru h3,arx h4];rfl
 .dsimp only;have ha:jc s1.length (jM (s0,s1,s2,()))=true:=mX hJ;refine dH (by omega) ⟨trivial,af (λh1=>af (λh2=>⟨trivial,?_⟩) λh2=>?_) λh1=>?_⟩
  .refine congrArg (·,()) ?_;show _=(jc s1.length (jM (s0,s1,s2,()))&&dF s0&&decide ((s1.length:Int)<=12)&&(decide (1<=s2)&&decide (s2<=61)));rw[ha,h1,h2];rfl
  .refine congrArg (·,()) ?_;show _=(jc s1.length (jM (s0,s1,s2,()))&&dF s0&&decide ((s1.length:Int)<=12)&&(decide (1<=s2)&&decide (s2<=61)));rw[ha,h1,h2];rfl
  .refine congrArg (·,()) ?_;show _=(jc s1.length (jM (s0,s1,s2,()))&&dF s0&&decide ((s1.length:Int)<=12)&&(decide (1<=s2)&&decide (s2<=61)));rw[ha,h1];rfl
theorem ahA{α:Type}{l:List α}{lo:Nat}{news:List α}(h:lo+news.length<=l.length):(eH l lo news).length=l.length:=by unfold eH;simp only[arv,aro,arY];omega
theorem afr{α:Type}{l:List α}{lo k:Nat}{news:List α}(hk:k<=lo)(h:lo<=l.length):(eH l lo news).take k=l.take k:=by unfold eH;rw[ar6,asB (by rw[aro];omega),atc,asT hk]
theorem JL:OK uo.e:=by
 refine XA.ok mixed (aA [Bl.e] ⟨ZP,trivial⟩) ZX (λ⟨l,_⟩ _=>⟨((l,()),()),rfl⟩) (by kernel_rfl) (show∀l,uo.goal (X5 l) (l,())from ?_);intro l hin hp;dsimp only[uo]at hp ⊢;obtain⟨h1,h2⟩:l.length<=1000/\∀f∈l,jl f:=hp;refine eP (λi(x:List aI)=>(((),i,()),x,())) (λy=>y.1.2.1) (λ_ _=>rfl) l.length (by omega) (λn x=>x=l.take n) (by simp) (λI μ n x hn hJ next=>?_) λI μ x hJ=>?_
 .subst hJ;have hl:(l.take n).length<=n:=by rw[aro];omega
  dsimp only;refine dG (by omega) ⟨⟨by omega,by omega⟩,h2 _ (getD_mem (d:=((0:Int),(0:Int),false,(0:Int),[],())) hn),by rw[bW];simp only[arq,arw];omega,rfl,next _ ?_⟩;exact(Sp.take_succ' l n (0,0,false,0,[],()) hn).symm
 .subst hJ;dsimp only;refine dH (by omega) ?_;show List.take l.length l=l;rw[arZ]
theorem JM:OK uq.e:=by refine XA.ok mixed (aA [uo.e,oD.e] ⟨JL,Jv,trivial⟩) ZY (λ⟨(a,l,nx,_),_⟩ _=>⟨(((a,l,nx,()),()),()),rfl⟩) (by kernel_rfl) (show∀s0 s1 s2,uq.goal (X6 s0 s1 s2) ((s0,s1,s2,()),())from ?_);intro s0 s1 s2 hin hp;dsimp only[uq]at hp ⊢;obtain⟨h0,h1,h2⟩:s0.length<=1000/\s1.length<=1000/\∀f∈s1,jl f:=hp;refine⟨h0,⟨h1,h2⟩,?_⟩;rintro⟨⟨x,⟨⟩⟩,⟨⟩⟩ e;have e:x=s1:=e;subst e;exact rfl
end Go.Proofs.Tryz
namespace Go.Proofs.Tryz
open Go Go.Fw Go.IntWalk Sp
theorem WQ:OK xU.e:=by
 refine XA.ok mixed (aA [iI.e] ⟨jD,trivial⟩) H0 (λ_ _=>⟨((([]:List UInt8),()),(([],0,0,()),())),⟨by decide,by decide⟩⟩) (by kernel_rfl) (show∀c0 c1 c2,xU.goal (WR c0 c1 c2) ((c0,c1,c2,()),())from ?_);intro b i h hin hp;dsimp only[xU]at hp ⊢;have hp:0<=i:=hp
 repeat' first
  |exact trivial
  |refine af (λ_=>?_) λ_=>?_
  |refine And.intro ?_ ?_
  |(intro r hr;simp only[]at hr)
  |intro r hr
 all_goals first
  |omega
  |(dsimp only at*;omega)
  |exact hr
  |(simp only[arn,ne_eq]at*;omega)
  |(simp only[arP,aro,arv,arq,arw];omega)
  |(rw[bW];simp only[arP,aro,arv,arq,arw];omega)
  |(simp only[arP,aro,arv,arq,arw]at*;omega)
  |exact(show∀y∈_,List.length y.1<=10 from by decide) _ hr.2
  |(simp;done)
  |skip
theorem N8:OK tV.e:=by
 refine XA.ok mixed (aA [xU.e,iD.e,oJ.e,iI.e,bY.e] ⟨WQ,jW,zS,jD,dJ,trivial⟩) H0 (λ_ _=>⟨((((0:Int),(0:Int),(0:Int),([]:List UInt8),(0:Int),(0:Int),([]:List UInt8),()),()),(([],0,0,()),())),⟨by decide,trivial⟩⟩) (by kernel_rfl) (show∀c0 c1 c2,tV.goal (acD c0 c1 c2) ((c0,c1,c2,()),())from ?_);intro b i h hin hp;dsimp only[tV]at hp ⊢;have hp:0<=i:=hp
 repeat' first
  |exact trivial
  |refine af (λ_=>?_) λ_=>?_
  |refine And.intro ?_ ?_
  |(intro r hr;simp only[]at hr)
  |intro r hr
 all_goals first
  |omega
  |(dsimp only at*;omega)
  |exact hr
  |(simp only[arn,ne_eq]at*;omega)
  |(simp only[arP,aro,arv,arq,arw];omega)
  |(rw[bW];simp only[arP,aro,arv,arq,arw];omega)
  |(simp only[arP,aro,arv,arq,arw]at*;omega)
  |exact(show∀y∈_,List.length y.1<=10 from by decide) _ hr.2
  |(simp;done)
  |skip
theorem Qo[qF](Si:jy prog G vw yA):jy prog G Gq D6:=by
 refine Qp (aA [(vw,.eff (IZ oN) yA),bY.e,tV.e,jQ.e] ⟨⟨Si,PZ⟩,dJ,N8,rJ,trivial⟩) (λ⟨_,q,deep,_,_⟩ _=>⟨((q++[(0,0,0,[],0,0,[],())],()),(([],0,0,()),())),⟨by decide,by simp,by simp⟩⟩) ?_;intro b i h q deep not hin hp;obtain⟨⟨hp1,hp2,hp3,hp4⟩,hp5⟩:=hp;have hw:IntKind.i64.wrap (deep-1)=deep-1:=fD _ (by omega);refine⟨λy=>0<=y.2.1.2.1/\0<deep,?_⟩;dsimp only;rw[hw]
 repeat' first
  |exact trivial
  |refine af (λ_=>?_) λ_=>?_
  |refine And.intro ?_ ?_
  |(intro r hr;simp only[]at hr)
  |intro r hr
 all_goals first
  |omega
  |(dsimp only at*;omega)
  |exact hr
  |(simp only[arn,ne_eq]at*;omega)
  |(simp only[arP,aro,arv,arq,arw];omega)
  |(rw[bW];simp only[arP,aro,arv,arq,arw];omega)
  |(simp only[arP,aro,arv,arq,arw]at*;omega)
  |exact(show∀y∈_,List.length y.1<=10 from by decide) _ hr.2
  |(simp;done)
  |skip
theorem acE:jy prog G adV Zb:=
 anr (λn=>@Hf ⟨n⟩) (λn=>@sG ⟨n⟩) (by rintro⟨⟨b,i,h,⟨⟩⟩,q,deep,not,⟨⟩⟩ h;exact auW _ h.2) (by rintro _ ⟨⟨b,i,h,⟨⟩⟩,q,deep,not,⟨⟩⟩;rfl) (by rintro⟨⟨b,i,h,⟨⟩⟩,q,deep,not,⟨⟩⟩ h;exact⟨_,h,auR _⟩) (by rintro _ ⟨⟨b,i,h,⟨⟩⟩,q,deep,not,⟨⟩⟩;rfl) λn h=>@Qo ⟨n⟩ h
theorem GH:jy prog G vC yB:=
 ale (F:=Pe) (F':=Hg) (by decide) acE (λa x h=>⟨h.1,h.2.1,h.2.2,(show∀z:Int,0<=z->z<=4->0+2*z.toNat<=900 fromλz _ _=>by omega) _ h.2.1 h.2.2⟩) λa x h=>rfl
theorem Uw:OK vY.e:=by
 refine XA.ok mixed (aA [(vC,.eff (IZ oO) yB),bY.e] ⟨⟨GH,Fv⟩,dJ,trivial⟩) WS (λ_ _=>⟨(([(0,0,0,[],0,0,[],())],()),(([],0,0,()),())),⟨by decide,by decide,by decide⟩⟩) (by kernel_rfl) (show∀c0 c1 c2,vY.goal (Ux c0 c1 c2) ((c0,c1,c2,()),())from ?_);intro b i h hin hp;dsimp only[vY]at hp ⊢;have hp:0<=i:=hp
 repeat' first
  |exact trivial
  |refine af (λ_=>?_) λ_=>?_
  |refine And.intro ?_ ?_
  |(intro r hr;simp only[]at hr)
  |intro r hr
 all_goals first
  |omega
  |(dsimp only at*;omega)
  |exact hr
  |(simp only[arn,ne_eq]at*;omega)
  |(simp only[arP,aro,arv,arq,arw];omega)
  |(rw[bW];simp only[arP,aro,arv,arq,arw];omega)
  |(simp only[arP,aro,arv,arq,arw]at*;omega)
  |exact(show∀y∈_,List.length y.1<=10 from by decide) _ hr.2
  |(simp;done)
  |skip
theorem AB:OK jY.e:=by
 refine XA.ok mixed (aA [(vC,.eff (IZ oO) yB),bY.e] ⟨⟨GH,Fv⟩,dJ,trivial⟩) KG (λ_ _=>⟨(([(0,0,0,[],0,0,[],())],()),(([],0,0,()),())),⟨by decide,by decide,by decide⟩⟩) (by kernel_rfl) (show∀c0 c1 c2,jY.goal (Jy c0 c1 c2) ((c0,c1,c2,()),())from ?_);intro b i h hin hp;dsimp only[jY]at hp ⊢;have hp:0<=i:=hp
 repeat' first
  |exact trivial
  |refine af (λ_=>?_) λ_=>?_
  |refine And.intro ?_ ?_
  |(intro r hr;simp only[]at hr)
  |intro r hr
 all_goals first
  |omega
  |(dsimp only at*;omega)
  |exact hr
  |(simp only[arn,ne_eq]at*;omega)
  |(simp only[arP,aro,arv,arq,arw];omega)
  |(rw[bW];simp only[arP,aro,arv,arq,arw];omega)
  |(simp only[arP,aro,arv,arq,arw]at*;omega)
  |exact(show∀y∈_,List.length y.1<=10 from by decide) _ hr.2
  |(simp;done)
  |skip
theorem aem:OK Ez.e:=by
 refine XA.ok mixed (aA [vP.e,tV.e,iI.e,iW.e,bY.e,vY.e] ⟨Il,N8,jD,kM,dJ,Uw,trivial⟩) af5 (λ_ _=>⟨(([],()),(([],0,0,()),())),⟨by decide,by decide⟩⟩) (by kernel_rfl) (show∀c0 c1 c2,Ez.goal (aen c0 c1 c2) ((c0,c1,c2,()),())from ?_);intro b i h hin hp;dsimp only[Ez]at hp ⊢;have hp:0<=i:=hp
 repeat' first
  |exact trivial
  |refine af (λ_=>?_) λ_=>?_
  |refine And.intro ?_ ?_
  |(intro r hr;simp only[]at hr)
  |intro r hr
 all_goals first
  |omega
  |(dsimp only at*;omega)
  |exact hr
  |(simp only[arn,ne_eq]at*;omega)
  |(simp only[arP,aro,arv,arq,arw];omega)
  |(rw[bW];simp only[arP,aro,arv,arq,arw];omega)
  |(simp only[arP,aro,arv,arq,arw]at*;omega)
  |exact(show∀y∈_,List.length y.1<=10 from by decide) _ hr.2
  |(simp;done)
  |skip
theorem zW:aX []:=⟨by simp,λx hx=>by cases hx⟩
theorem Gw{d:List aN}{x:aN}(h:aX d)(hl:d.length<1000)(hx:x.2.1.length<=1000):aX (d++[x]):=
 ⟨by simp;omega,λy hy=>by rcases arW.1 hy with hy|hy;exact h.2 y hy;rw[asq.1 hy];exact hx⟩
theorem acF{d:List aN}{x:aN}(n:Nat)(h:aX d)(hx:x.2.1.length<=1000):aX (d.set n x):=
 ⟨by simp;exact h.1,λy hy=>by rcases atY hy with hy|hy;exact h.2 y hy;rw[hy];exact hx⟩
theorem aiB{d:List aN}(n:Nat)(h:aX d):aX (d.take n):=
 ⟨by rw[aro];have:=h.1;omega,λy hy=>h.2 y (atJ hy)⟩
theorem alH{d:List aN}(h:aX d){n:Nat}(hn:n<d.length):(d.getD n ([],[],())).2.1.length<=1000:=h.2 _ (getD_mem hn)
theorem NZ:OK yC.e:=by
 refine XA.ok mixed (aA [jY.e,bY.e] ⟨AB,dJ,trivial⟩) aeo (λ_ _=>⟨(([([],[],())],()),(([],0,0,()),())),⟨by decide,by decide,by decide,by decide,by decide⟩⟩) (by kernel_rfl) (show∀c0 c1 c2,yC.goal (acG c0 c1 c2) ((c0,c1,c2,()),())from ?_);intro b i h hin hp;dsimp only[yC]at hp ⊢;have hp:0<=i:=hp;refine⟨λy=>0<=y.2.1.2.1/\y.1.2.1=y.2.2.1.length/\y.2.2.1.length<=4/\aX y.2.2.1,λy=>(4-y.1.2.1).toNat,⟨hp,rfl,by simp,zW⟩,?_⟩;rintro⟨⟨_,k,_⟩,⟨b1,i1,h1,_⟩,l,_⟩ ⟨q1,q2,q3,q4⟩;dsimp only at q1 q2 q3 q4 ⊢;refine⟨q1,?_⟩;rintro⟨⟨r,_⟩,⟨b2,i2,h2,_⟩,_⟩ ⟨e1,e2,e3,_⟩;dsimp only at e1 e2 e3 ⊢;have e3:=e3 (by omega);rw[fD (1+r) (by omega),fD (k+1) (by omega)];refine af (λhc=>?_) λhc=>?_
 .have hc:=fP hc;refine⟨⟨by omega,by simp only[arq,arw];omega⟩,by simp only[arq,arw];omega,e1,?_⟩;rintro⟨⟨x,_⟩,⟨b3,i3,h3,_⟩,_⟩ ⟨g1,g2,g3⟩;dsimp only at g1 g2 g3 ⊢;refine⟨by rw[bW];simp only[arq,arw];omega,rfl,⟨g1,by simp;omega,by simp;omega,Gw q4 (by omega) (by dsimp only;omega)⟩,by omega⟩
 .have hc:=gV hc;exact⟨e1,by omega,by omega,q4⟩
theorem aep:OK EC.e:=by
 refine XA.ok mixed (aA [jY.e,Ez.e,iI.e,bY.e,yC.e] ⟨AB,aem,jD,dJ,NZ,trivial⟩) af6 (λ_ _=>⟨(([],()),(([],0,0,()),())),⟨by decide,by decide,zW⟩⟩) (by kernel_rfl) (show∀c0 c1 c2,EC.goal (aer c0 c1 c2) ((c0,c1,c2,()),())from ?_);intro b i h hin hp;dsimp only[EC]at hp ⊢;have hp:0<=i:=hp;refine⟨hp,?_⟩;rintro⟨⟨d,_⟩,⟨b1,i1,h1,_⟩,_⟩ ⟨q1,q2,q3,q4⟩;dsimp only at q1 q2 q3 q4 ⊢;refine⟨q1,?_⟩;rintro⟨⟨r,_⟩,⟨b2,i2,h2,_⟩,_⟩ ⟨e1,e2,e3,_⟩;dsimp only at e1 e2 e3 ⊢;have e3:=e3 (by omega);refine⟨e1,?_⟩;rintro⟨⟨s,_⟩,⟨b3,i3,h3,_⟩,_⟩ ⟨f1,f2,f3,_⟩;dsimp only at f1 f2 f3 ⊢;have hn:r.toNat<d.length:=by omega
 refine af (λ_=>⟨⟨f1,by simp⟩,?_⟩) λ_=>af (λ_=>⟨f1,?_⟩) λ_=>af (λ_=>?_) λ_=>af (λ_=>?_) λ_=>?_
 .rintro⟨⟨x,_⟩,⟨b4,i4,h4,_⟩,_⟩ ⟨g1,g2⟩;exact⟨⟨e2,e3⟩,hn,g1,by simp;omega,acF _ q4 (alH q4 hn)⟩
 .rintro⟨⟨x,_⟩,⟨b4,i4,h4,_⟩,_⟩ ⟨g1,g2⟩;exact⟨⟨e2,e3⟩,hn,g1,by simp;omega,acF _ q4 (by dsimp only at g2 ⊢;omega)⟩
 .refine⟨λy=>0<=y.2.1.2.1/\y.2.2.1.length<=6/\aX y.2.2.1,λy=>6-y.2.2.1.length,⟨f1,by dsimp only;omega,q4⟩,?_⟩;rintro⟨_,⟨b4,i4,h4,_⟩,l,_⟩ ⟨g1,g2,g3⟩;dsimp only at g1 g2 g3 ⊢;refine⟨g1,?_⟩;rintro⟨⟨r',_⟩,⟨b5,i5,h5,_⟩,_⟩ ⟨k1,k2,k3,_⟩;dsimp only at k1 k2 k3 ⊢;have k3:=k3 (by omega);rw[fD (5+r') (by omega)];refine af (λhc=>?_) λhc=>?_
  .have hc:=fP hc;refine⟨⟨by omega,by simp only[arq,arw];omega⟩,k1,?_⟩;rintro⟨⟨x,_⟩,⟨b6,i6,h6,_⟩,_⟩ ⟨m1,m2,m3⟩;dsimp only at m1 m2 m3 ⊢;refine⟨by rw[bW];simp only[arq,arw];omega,rfl,⟨m1,by simp;omega,Gw g3 (by omega) (by dsimp only;omega)⟩,by simp;omega⟩
  .exact⟨k1,by omega,g3⟩
 .exact⟨f1,by simp,zW⟩
 .exact⟨f1,by omega,q4⟩
end Go.Proofs.Tryz
namespace Go.Proofs.Tryz
open Go Go.Fw Go.IntWalk Sp
theorem KI(n0 n1 n2:Int)(n3:Sp.Bytes)(n4 n5:Int)(n6:Sp.Bytes)(a:Int):jH (n0,n1,n2,n3,n4,n5,n6,()) a=
 (bif n0==1 then(n1==0&&n2==0)&&(n3==[]&&(n4==0&&(n5==0&&n6==[])))else bif n0==2 then(n1==0&&n2==0)&&(n4==0&&(n5==0&&n6==[]))&&jd n3 else
 bif n0==3 then(n1==0&&n2==0)&&jd n3&&dA n4 n5 n6&&!(n4==0)else bif n0==4 then(n1==0&&n2==0)&&jd n3&&dA n4 n5 n6&&n4==1 else
 bif n0==5 then(decide (0<=n1)&&decide (n1<=a-1)&&decide (0<a))&&n2==0&&(n3==[]&&(n4==0&&(n5==0&&n6==[])))else
 bif n0==6||n0==7 then(decide (0<=n1)&&decide (n1<=a-1)&&decide (0<a))&&(decide (0<=n2)&&decide (n2<=a-1))&&(n3==[]&&(n4==0&&(n5==0&&n6==[])))else
 bif n0==8||n0==9 then(n1==0&&n2==0)&&(n4==0&&(n5==0&&n6==[]))&&fO n3 else false):=rfl
theorem UC:OK wo.e:=by
 refine PA.ok mixed (aA [kX.e,kQ.e,mr.e,mO.e] ⟨yV,qw,zV,DJ,trivial⟩) WU (by kernel_rfl) (show∀n0 n1 n2 n3 n4 n5 n6 at',wo.goal (HY n0 n1 n2 n3 n4 n5 n6 at') ((n0,n1,n2,n3,n4,n5,n6,()),at',())from ?_);intro n0 n1 n2 n3 n4 n5 n6 a hin hp;dsimp only[wo]at hp ⊢;have ha:-9223372036854775808<=a/\a<=9223372036854775807:=hin.2.1;show HY n0 n1 n2 n3 n4 n5 n6 a λr=>r=(jH (n0,n1,n2,n3,n4,n5,n6,()) a,());rw[KI];have w:0<a->IntKind.i64.wrap (a-1)=a-1:=λh=>fD _ (by omega);refine af (λ_=>?_) λ_=>af (λ_=>af (λ_=>⟨trivial,?_⟩) λ_=>?_) λ_=>⟨λy=>y=((n0==3||n0==4,()),()),?_,?_⟩
 .first|(simp_all;done)|(simp_all;grind)
 .first|(simp_all;done)|(simp_all;grind)
 .first|(simp_all;done)|(simp_all;grind)
 .refine af (λ_=>⟨rfl,?_⟩) λ_=>⟨rfl,?_⟩<;>first|(simp_all;done)|(simp_all;grind)
 .rintro _ rfl;refine af (λ_=>?_) λ_=>af (λ_=>af (λ_=>af (λh=>⟨trivial,?_⟩) λ_=>?_) λ_=>?_) λ_=>⟨λy=>y=((n0==6||n0==7,()),()),?_,?_⟩
  .refine af (λ_=>⟨trivial,af (λ_=>⟨trivial,af (λ_=>af (λ_=>af (λ_=>?_) λ_=>?_) λ_=>?_) λ_=>?_⟩) λ_=>?_⟩) λ_=>?_
   all_goals first|(simp_all;done)|(simp_all;grind)
  .rw[w (fP h)]
   first|(simp_all;done)|(simp_all;grind)
  .first|(simp_all;done)|(simp_all;grind)
  .first|(simp_all;done)|(simp_all;grind)
  .refine af (λ_=>⟨rfl,?_⟩) λ_=>⟨rfl,?_⟩<;>first|(simp_all;done)|(simp_all;grind)
  .rintro _ rfl;refine af (λ_=>af (λ_=>af (λh=>⟨trivial,?_⟩) λ_=>?_) λ_=>?_) λ_=>?_
   .rw[w (fP h)];refine af (λ_=>⟨trivial,?_⟩) λ_=>?_<;>first|(simp_all;done)|(simp_all;grind)
   .first|(simp_all;done)|(simp_all;grind)
   .first|(simp_all;done)|(simp_all;grind)
   .refine af (λ_=>af (λ_=>af (λ_=>⟨trivial,?_⟩) λ_=>?_) λ_=>?_) λ_=>af (λ_=>af (λ_=>⟨trivial,?_⟩) λ_=>?_) λ_=>?_
    all_goals first|(simp_all;done)|(simp_all;grind)
theorem UD:OK vZ.e:=by
 refine PA.ok mixed (aA [kW.e,mg.e,mM.e,jv.e] ⟨yT,zT,DI,kT,trivial⟩) WV (by kernel_rfl) (show∀n0 n1 n2 n3 n4 n5 n6 at',vZ.goal (H6 n0 n1 n2 n3 n4 n5 n6 at') ((n0,n1,n2,n3,n4,n5,n6,()),at',())from ?_);intro n0 n1 n2 n3 n4 n5 n6 a hin hp;dsimp only[vZ]at hp ⊢;have ha:-9223372036854775808<=a/\a<=9223372036854775807:=hin.2.1;show H6 n0 n1 n2 n3 n4 n5 n6 a λr=>r=(jH (n0,n1,n2,n3,n4,n5,n6,()) a,());rw[KI];have w:0<a->IntKind.i64.wrap (a-1)=a-1:=λh=>fD _ (by omega);refine⟨λy=>y=((decide (0<=n1)&&decide (n1<=a-1)&&decide (0<a),()),()),⟨trivial,?_⟩,?_⟩
 .by_cases h:0<a
  .dsimp only;rw[w h];refine af (λ_=>⟨rfl,?_⟩) λ_=>⟨rfl,?_⟩<;>first|(simp_all;done)|(simp_all;grind)
  .dsimp only;refine af (λ_=>⟨rfl,?_⟩) λ_=>⟨rfl,?_⟩<;>first|(simp_all;done)|(simp_all;grind)
 .rintro _ rfl;refine⟨λy=>y=(((decide (0<=n1)&&decide (n1<=a-1)&&decide (0<a))&&(decide (0<=n2)&&decide (n2<=a-1)),()),()),?_,?_⟩
  .refine af (λh=>⟨trivial,rfl,?_⟩) λh=>⟨rfl,?_⟩
   .have h:(decide (0<=n1)&&decide (n1<=a-1)&&decide (0<a))=true:=h;have h2:0<a:=by simp at h;omega
    rw[w h2,h,aug]
   .have h:(decide (0<=n1)&&decide (n1<=a-1)&&decide (0<a))=false:=h;rw[h,as6]
  .rintro _ rfl;dsimp only;generalize (decide (0<=n1)&&decide (n1<=a-1)&&decide (0<a))=kids;generalize (decide (0<=n2)&&decide (n2<=a-1))=two
   repeat' first
    |exact trivial
    |refine af (λ_=>?_) λ_=>?_
    |refine And.intro trivial ?_
   all_goals first|(simp_all;done)|(simp_all;grind)
end Go.Proofs.Tryz
namespace Go.Proofs.Tryz
open Go Go.Fw Go.IntWalk Sp
theorem BM:OK qi.e:=by
 refine PA.ok mixed (aA [] trivial) aeD (by kernel_rfl) (show∀a b,qi.goal (acO a b) (a,b,())from ?_);intro a b hin hp;dsimp only[qi]at hp ⊢;have hlen:a.length<=maxLen:=hin.1.1;rw[maxLen_eq]at hlen;refine af (λh=>?_) λh=>?_
 .have h:(a.length:Int)≠b.length:=by simpa using h
  exact congrArg (·,()) (arx λe=>h (by rw[e])).symm
 .have h:(a.length:Int)=b.length:=by simpa using h
  exact Qb (K:=λr=>r=(decide (a=b),())) (λx y=>x.1 !=y.1) (λx y=>by simp[atj]) _ a b _ hlen (by omega) (λe=>by rw[arx e]) λe=>by rw[aru e]
theorem Yt:OK zF.e:=by
 refine PA.ok mixed (aA [] trivial) aax (by kernel_rfl) (show∀a b,zF.goal (Yu a b) (a,b,())from ?_);intro a b hin hp;dsimp only[zF]at hp ⊢;have hlen:a.length<=maxLen:=hin.1.1;rw[maxLen_eq]at hlen;refine af (λh=>?_) λh=>?_
 .have h:(a.length:Int)≠b.length:=by simpa using h
  exact congrArg (·,()) (arx λe=>h (by rw[e])).symm
 .have h:(a.length:Int)=b.length:=by simpa using h
  exact Qb (K:=λr=>r=(decide (a=b),())) (λx y=>!(x.1==y.1&&(x.2.1==y.2.1&&(x.2.2.1==y.2.2.1&&(x.2.2.2.1==y.2.2.2.1&&(x.2.2.2.2.1==y.2.2.2.2.1&&(x.2.2.2.2.2.1==y.2.2.2.2.2.1&&(x.2.2.2.2.2.2.1==y.2.2.2.2.2.2.1&&true)))))))) (λx y=>by simp[atj]) _ a b _ hlen (by omega) (λe=>by rw[arx e]) λe=>by rw[aru e]
theorem acP:OK CX.e:=by
 refine PA.ok mixed (aA [zF.e] ⟨Yt,trivial⟩) H0 (by kernel_rfl) (show∀a0 a1 b0 b1,CX.goal (acQ a0 a1 b0 b1) ((a0,a1,()),(b0,b1,()),())from ?_);intro a0 a1 b0 b1 hin hp;dsimp only[CX]at hp ⊢;refine af (λh0=>⟨trivial,?_⟩) λh0=>?_
 all_goals refine congrArg (·,()) (arR.2 ?_)
 .simp only[arA]at h0;subst h0;simp
 .have h0:a0≠b0:=by simpa using h0
  simp[h0]
theorem aas:OK BA.e:=by
 refine PA.ok mixed (aA [CX.e] ⟨acP,trivial⟩) acR (by kernel_rfl) (show∀a b,BA.goal (aay a b) (a,b,())from ?_);intro a b hin hp;dsimp only[BA]at hp ⊢;have hlen:a.length<=maxLen:=hin.1.1;rw[maxLen_eq]at hlen;refine af (λh=>?_) λh=>?_
 .have h:(a.length:Int)≠b.length:=by simpa using h
  exact congrArg (·,()) (arx λe=>h (by rw[e])).symm
 .have h:(a.length:Int)=b.length:=by simpa using h
  exact ZO (K:=λr=>r=(decide (a=b),())) (λx y=>!decide ((x.1,x.2.1,())=(y.1,y.2.1,()))) (λx y=>by simp[atj]) _ a b _ hlen (by omega) (λe=>by rw[arx e]) λe=>by rw[aru e]
theorem aaz:OK Bq.e:=by refine PA.ok mixed (aA [] trivial) H0 (by kernel_rfl) (show∀n0 n1 n2 n3 n4 n5 n6,Bq.goal (aaA n0 n1 n2 n3 n4 n5 n6) ((n0,n1,n2,n3,n4,n5,n6,()),())from ?_);intro n0 n1 n2 n3 n4 n5 n6 hin hp;dsimp only[Bq]at hp ⊢;exact af (λh=>by rw[h];rfl) λh=>by rw[h];rfl
theorem KJ:OK oP.e:=by refine PA.ok mixed (aA [] trivial) MN (by kernel_rfl) (show∀s,oP.goal (KL s) (s,())from ?_);intro s hin hp;dsimp only[oP]at hp ⊢;have hp:s.length<=1000:=hp;refineλg hg=>af (λh=>?_) λh=>⟨by rw[bW];omega,rfl⟩;have:=hg h;rw[List.eq_nil_of_length_eq_zero this]
theorem acS:OK CW.e:=by refine PA.ok mixed (aA [oP.e] ⟨KJ,trivial⟩) aeE (by kernel_rfl) (show∀x0 x1,CW.goal (acT x0 x1) ((x0,x1,()),())from ?_);intro x0 x1 hin hp;dsimp only[CW]at hp ⊢;exact⟨hp,rfl⟩
theorem uP{d:List aN}(h:aX d){n:Nat}(hn:n<d.length):(d.getD n ([],[],())).2.1.length<=1000:=h.2 _ (getD_mem hn)
theorem MK:OK wF.e:=by
 refine PA.ok mixed (aA [CW.e] ⟨acS,trivial⟩) acU (by kernel_rfl) (show∀d,wF.goal (aaB d) (d,())from ?_);intro d hin hp;dsimp only[wF]at hp ⊢;have hp:aX d:=hp;have hlen:d.length<=1000:=hp.1;refine eP (λi(x:List aN)=>(((),i,()),x,())) (λy=>y.1.2.1) (λ_ _=>rfl) d.length (by omega) (λn l=>l=d.take n) (by simp) (λI μ n l hn hJ next=>?_) λI μ l hJ=>?_
 .subst hJ;have hl:(d.take n).length<=n:=by rw[aro];omega
  dsimp only;refine dG (by omega) ⟨⟨by omega,by omega⟩,uP hp hn,by rw[bW];simp only[arq,arw];omega,rfl,next _ ?_⟩;exact(Sp.take_succ' d n ([],[],()) hn).symm
 .subst hJ;dsimp only;refine dH (by omega) ?_;rw[arZ]
theorem N7:OK yE.e:=by
 refine PA.ok mixed (aA [] trivial) aeF (by kernel_rfl) (show∀d,yE.goal (acV d) (d,())from ?_);intro d hin hp;dsimp only[yE]at hp ⊢;have hp:aX d:=hp;have hlen:d.length<=1000:=hp.1;refine eP (λi(x:List aN)=>(((),i,()),x,())) (λy=>y.1.2.1) (λ_ _=>rfl) d.length (by omega) (λn l=>l=d.take n) (by simp) (λI μ n l hn hJ next=>?_) λI μ l hJ=>?_
 .subst hJ;have hl:(d.take n).length<=n:=by rw[aro];omega
  dsimp only;refine dG (by omega) ⟨⟨by omega,by omega⟩,⟨by omega,by omega⟩,by rw[bW];have:=uP hp hn;show 0+(d.getD n ([],[],())).2.1.length<=_;omega,by rw[bW];simp only[arq,arw];omega,rfl,next _ ?_⟩;exact(Sp.take_succ' d n ([],[],()) hn).symm
 .subst hJ;dsimp only;refine dH (by omega) ?_;rw[arZ]
end Go.Proofs.Tryz
namespace Go.Proofs.Tryz
open Go Go.Fw Go.IntWalk Sp
theorem SB(a:Int)(x:bM):(Sp.refsOf a x:Int)=(if(x.1=6\/x.1=7\/x.1=5)/\x.2.1=a then 1 else 0)+(if(x.1=6\/x.1=7)/\x.2.2.1=a then 1 else 0):=by unfold Sp.refsOf ji;by_cases h6:x.1=6<;>by_cases h7:x.1=7<;>by_cases h5:x.1=5<;>by_cases hl:x.2.1=a<;>by_cases hr:x.2.2.1=a<;>simp[cond_eq_ite,h6,h7,h5,hl,hr]
theorem anH(a:Int)(x:bM):Sp.refsOf a x<=2:=by have:=SB a x;split at this<;>split at this<;>omega
def mY(q:List bM)(a:Int)(n:Nat):Nat:=((q.take n).map (Sp.refsOf a)).sum
theorem O0(q:List bM)(a:Int){n:Nat}(hn:n<q.length):mY q a (n+1)=mY q a n+Sp.refsOf a (Sp.nodeAt q n):=by unfold mY;rw[Sp.take_succ' q n (0,0,0,[],0,0,[],()) hn];simp only[asJ,List.sum_append,arS,List.map_nil,atw,List.sum_nil,asN];rfl
theorem Xb(q:List bM)(a:Int):∀n,n<=q.length->mY q a n<=2*n
 |0,_=>by simp[mY]
 |n+1,h=>by rw[O0 q a (by omega)];have:=Xb q a n (by omega);have:=anH a (Sp.nodeAt q n);omega
theorem ac6(q:List bM)(a:Int):mY q a q.length=lU q a:=by unfold mY lU;rw[arZ]
theorem Np:OK qy.e:=by
 refine PA.ok mixed (aA [] trivial) O1 (by kernel_rfl) (show∀q at',qy.goal (Nq q at') (q,at',())from ?_);intro q a hin hp;dsimp only[qy]at hp ⊢;have hp:q.length<=1000000:=hp;refine eP (λi(c:Int)=>((c,i,()),())) (λy=>y.1.2.1) (λ_ _=>rfl) q.length (by omega) (λn c=>c=(mY q a n:Int)) rfl (λI μ n c hn hJ next=>?_) λI μ c hJ=>?_
 .subst hJ;have hs:=O0 q a hn;have hb:=Xb q a n (by omega);have hr:=SB a (Sp.nodeAt q n);dsimp only;rw[arI];have e:q.getD n (0,0,0,[],0,0,[],())=Sp.nodeAt q n:=rfl;rw[e];have w1:IntKind.i64.wrap ((mY q a n:Int)+1)=(mY q a n:Int)+1:=fD _ (by omega);have w2:IntKind.i64.wrap ((mY q a n:Int)+1+1)=(mY q a n:Int)+1+1:=fD _ (by omega);refine dG (by omega) ⟨⟨by omega,by omega⟩,af (λh6=>⟨λy=>y=(((mY q a n:Int)+(if(Sp.nodeAt q n).2.1=a then 1 else 0),()),()),⟨⟨by omega,by omega⟩,af (λhl=>⟨rfl,?_⟩) λhl=>⟨rfl,?_⟩⟩,?_⟩) λh6=>⟨⟨by omega,by omega⟩,λy=>y=(((mY q a n:Int)+(if((Sp.nodeAt q n).1=7\/(Sp.nodeAt q n).1=5)/\(Sp.nodeAt q n).2.1=a then 1 else 0),()),()),?_,?_⟩⟩
  .simp only[arA]at hl;rw[w1,if_pos hl]
  .simp only[arn]at hl;rw[if_neg hl,atG]
  .rintro _ rfl;simp only[arA]at h6;refine⟨⟨by omega,by omega⟩,af (λhrr=>⟨rfl,next _ ?_⟩) λhrr=>⟨rfl,next _ ?_⟩⟩
   all_goals
    dsimp only;simp only[arA,arn,ne_eq]at hrr;by_cases hl:(Sp.nodeAt q n).2.1=a<;>simp[h6,hl,hrr]at hr<;>simp only[hl,if_true,atH,atG,w1,w2]<;>omega
  .simp only[arn,ne_eq]at h6;refine af (λh7=>⟨⟨by omega,by omega⟩,af (λhl=>⟨rfl,?_⟩) λhl=>⟨rfl,?_⟩⟩) λh7=>⟨⟨by omega,by omega⟩,af (λh5=>⟨⟨by omega,by omega⟩,af (λhl=>⟨rfl,?_⟩) λhl=>⟨rfl,?_⟩⟩) λh5=>⟨rfl,?_⟩⟩
   all_goals simp_all
  .rintro _ rfl;simp only[arn,ne_eq]at h6;refine af (λh7=>⟨⟨by omega,by omega⟩,af (λhrr=>⟨rfl,next _ ?_⟩) λhrr=>⟨rfl,next _ ?_⟩⟩) λh7=>⟨rfl,next _ ?_⟩
   .simp only[arA]at h7 hrr;by_cases hl:(Sp.nodeAt q n).2.1=a<;>simp[h6,h7,hl,hrr]at hr<;>simp only[h7,hl,true_or,and_self,and_false,if_true,atH,atG,w1,w2]<;>omega
   .simp only[arA,arn,ne_eq]at h7 hrr;by_cases hl:(Sp.nodeAt q n).2.1=a<;>simp[h6,h7,hl,hrr]at hr<;>simp only[h7,hl,true_or,and_self,and_false,if_true,atH,atG,w1,w2]<;>omega
   .simp only[arn,ne_eq]at h7;dsimp only;by_cases h5:(Sp.nodeAt q n).1=5<;>by_cases hl:(Sp.nodeAt q n).2.1=a<;>simp[h6,h7,h5,hl]at hr<;>simp[h7,h5,hl]<;>omega
 .dsimp only;refine dH (by omega) ?_;rw[hJ,ac6]
theorem Nr:OK qA.e:=by
 refine PA.ok mixed (aA [] trivial) O3 (by kernel_rfl) (show∀q at',qA.goal (Ns q at') (q,at',())from ?_);intro q a hin hp;dsimp only[qA]at hp ⊢;have hp:q.length<=1000000:=hp;refine eP (λi(c:Int)=>((c,i,()),())) (λy=>y.1.2.1) (λ_ _=>rfl) q.length (by omega) (λn c=>c=(mY q a n:Int)) rfl (λI μ n c hn hJ next=>?_) λI μ c hJ=>?_
 .subst hJ;have hs:=O0 q a hn;have hb:=Xb q a n (by omega);have hr:=SB a (Sp.nodeAt q n);dsimp only;rw[arI];have e:q.getD n (0,0,0,[],0,0,[],())=Sp.nodeAt q n:=rfl;rw[e];have w1:IntKind.i64.wrap ((mY q a n:Int)+1)=(mY q a n:Int)+1:=fD _ (by omega);have w2:IntKind.i64.wrap ((mY q a n:Int)+1+1)=(mY q a n:Int)+1+1:=fD _ (by omega);refine dG (by omega) ⟨⟨by omega,by omega⟩,af (λh6=>⟨λy=>y=(((mY q a n:Int)+(if(Sp.nodeAt q n).2.1=a then 1 else 0),()),()),af (λhl=>⟨rfl,?_⟩) λhl=>⟨rfl,?_⟩,?_⟩) λh6=>⟨λy=>y=(((mY q a n:Int)+(if((Sp.nodeAt q n).1=7\/(Sp.nodeAt q n).1=5)/\(Sp.nodeAt q n).2.1=a then 1 else 0),()),()),?_,?_⟩⟩
  .simp only[arA]at hl;rw[w1,if_pos hl]
  .simp only[arn]at hl;rw[if_neg hl,atG]
  .rintro _ rfl;simp only[arA]at h6;refine af (λhrr=>⟨rfl,next _ ?_⟩) λhrr=>⟨rfl,next _ ?_⟩
   all_goals
    dsimp only;simp only[arA,arn,ne_eq]at hrr;by_cases hl:(Sp.nodeAt q n).2.1=a<;>simp[h6,hl,hrr]at hr<;>simp only[hl,if_true,atH,atG,w1,w2]<;>omega
  .simp only[arn,ne_eq]at h6;refine af (λhl=>af (λh7=>⟨rfl,?_⟩) λh7=>af (λh5=>⟨rfl,?_⟩) λh5=>⟨rfl,?_⟩) λhl=>⟨rfl,?_⟩
   all_goals simp_all
  .rintro _ rfl;simp only[arn,ne_eq]at h6;refine af (λhrr=>af (λh7=>⟨rfl,next _ ?_⟩) λh7=>⟨rfl,next _ ?_⟩) λhrr=>⟨rfl,next _ ?_⟩
   .simp only[arA]at h7 hrr;by_cases hl:(Sp.nodeAt q n).2.1=a<;>simp[h6,h7,hl,hrr]at hr<;>simp only[h7,hl,true_or,and_self,and_false,if_true,atH,atG,w1,w2]<;>omega
   .simp only[arn,ne_eq]at h7;dsimp only;by_cases h5:(Sp.nodeAt q n).1=5<;>by_cases hl:(Sp.nodeAt q n).2.1=a<;>simp[h6,h7,h5,hl]at hr<;>simp[h7,h5,hl]<;>omega
   .simp only[arn,ne_eq]at hrr;dsimp only;by_cases h7:(Sp.nodeAt q n).1=7<;>by_cases h5:(Sp.nodeAt q n).1=5<;>by_cases hl:(Sp.nodeAt q n).2.1=a<;>simp[h6,h7,h5,hl,hrr]at hr<;>simp[h7,h5,hl]<;>omega
 .dsimp only;refine dH (by omega) ?_;rw[hJ,ac6]
theorem ac7{q:List bM}{n:Nat}(hn:n<q.length)(h:kP q n=false):bF q=false:=by unfold bF;rw[AL hn h];rfl
theorem zY:OK mD.e:=by
 refine PA.ok mixed (aA [jv.e,qy.e,vZ.e] ⟨kT,Np,UD,trivial⟩) UI (by kernel_rfl) (show∀q,mD.goal (SC q) (q,())from ?_);intro q hin hp;dsimp only[mD]at hp ⊢;have hp:q.length<=1000000:=hp;refine iJ q.length (by omega) (λn=>∀i,i<n->kP q i=true) (λi hi=>by omega) (λI μ n hn hJ next=>?_) λI μ hJ=>?_
 .dsimp only;have no:kP q n=false->(false,())=(bF q,()):=λh=>by rw[ac7 hn h]
  rw[uf (show 0<q.length by omega) (by omega)];refine dG (by omega) ⟨⟨by omega,by omega⟩,trivial,af (λh2=>no ?_) λh2=>af (λh3=>⟨hp,af (λh4=>no ?_) λh4=>⟨rfl,next (dV hJ ?_)⟩⟩) λh3=>⟨rfl,next (dV hJ ?_)⟩⟩
  .have h2:jH (Sp.nodeAt q n) n=false:=fK h2;unfold kP;rw[h2];rfl
  .have h2:jH (Sp.nodeAt q n) n=true:=cZ h2;have h4:(lU q n:Int)≠1:=by simpa using h4
   have h3:(n:Int)<(q.length:Int)-1:=by have:=fP h3;omega
   unfold kP;simp only[h3,h2];simp;omega
  .have h2:jH (Sp.nodeAt q n) n=true:=cZ h2;have h4:(lU q n:Int)=1:=by simpa using h4
   have h4:lU q n=1:=by omega
   unfold kP;simp[h2,h4]
  .have h2:jH (Sp.nodeAt q n) n=true:=cZ h2;have h3:¬(n:Int)<(q.length:Int)-1:=by have:=gV h3;omega
   unfold kP;simp[h2,h3]
 .dsimp only;refine dH (by omega) ⟨trivial,congrArg (·,()) ?_⟩;unfold bF;rw[mX hJ];rfl
theorem zX:OK mF.e:=by
 refine PA.ok mixed (aA [kQ.e,qA.e,wo.e] ⟨qw,Nr,UC,trivial⟩) UJ (by kernel_rfl) (show∀q,mF.goal (SE q) (q,())from ?_);intro q hin hp;dsimp only[mF]at hp ⊢;have hp:q.length<=1000000:=hp;refine iJ q.length (by omega) (λn=>∀i,i<n->kP q i=true) (λi hi=>by omega) (λI μ n hn hJ next=>?_) λI μ hJ=>?_
 .dsimp only;have no:kP q n=false->(false,())=(bF q,()):=λh=>by rw[ac7 hn h]
  rw[uf (show 0<q.length by omega) (by omega)];refine dG (by omega) ⟨⟨by omega,by omega⟩,trivial,af (λh2=>no ?_) λh2=>af (λh3=>⟨hp,af (λh4=>no ?_) λh4=>⟨rfl,next (dV hJ ?_)⟩⟩) λh3=>⟨rfl,next (dV hJ ?_)⟩⟩
  .have h2:jH (Sp.nodeAt q n) n=false:=fK h2;unfold kP;rw[h2];rfl
  .have h2:jH (Sp.nodeAt q n) n=true:=cZ h2;have h4:(lU q n:Int)≠1:=by simpa using h4
   have h3:(n:Int)<(q.length:Int)-1:=by have:=fP h3;omega
   unfold kP;simp only[h3,h2];simp;omega
  .have h2:jH (Sp.nodeAt q n) n=true:=cZ h2;have h4:(lU q n:Int)=1:=by simpa using h4
   have h4:lU q n=1:=by omega
   unfold kP;simp[h2,h4]
  .have h2:jH (Sp.nodeAt q n) n=true:=cZ h2;have h3:¬(n:Int)<(q.length:Int)-1:=by have:=gV h3;omega
   unfold kP;simp[h2,h3]
 .dsimp only;refine dH (by omega) ⟨trivial,congrArg (·,()) ?_⟩;unfold bF;rw[mX hJ];rfl
theorem afy{d:List aN}{n:Nat}(hn:n<d.length)(h:lG d n=false):gy d=false:=by unfold gy;rw[AL hn h];rfl
theorem TY:OK wu.e:=by
 refine PA.ok mixed (aA [mD.e,kW.e] ⟨zY,yT,trivial⟩) Xc (by kernel_rfl) (show∀d,wu.goal (UK d) (d,())from ?_);intro d hin hp;dsimp only[wu]at hp ⊢;have hp:aX d:=hp;have hlen:d.length<=1000:=hp.1;refine iJ d.length (by omega) (λn=>∀i,i<n->lG d i=true) (λi hi=>by omega) (λI μ n hn hJ next=>?_) λI μ hJ=>?_
 .dsimp only;have no:lG d n=false->(false,())=(gy d,()):=λh=>by rw[afy hn h]
  have hq:(dM d n).2.1.length<=1000000:=arM (uP hp hn) (by omega);refine dG (by omega) ⟨⟨by omega,by omega⟩,trivial,af (λh2=>no ?_) λh2=>⟨⟨by omega,by omega⟩,hq,af (λh3=>no ?_) λh3=>af (λh4=>?_) λh4=>⟨rfl,next (dV hJ ?_)⟩⟩⟩
  .have h2:fO (dM d n).1=false:=fK h2;unfold lG;rw[h2];rfl
  .have h3:bF (dM d n).2.1=false:=fK h3;unfold lG;rw[h3];simp
  .have h2:fO (dM d n).1=true:=cZ h2;have h3:bF (dM d n).2.1=true:=cZ h3;have h4:0<n:=by have:=fP h4;omega
   rw[uf h4 (by omega)];refine⟨⟨by omega,by omega⟩,⟨by omega,by omega⟩,af (λh5=>no ?_) λh5=>⟨rfl,next (dV hJ ?_)⟩⟩
   .have h5:Op.bytesLess (dM d (n-1)).1 (dM d n).1=false:=fK h5;unfold lG;rw[h2,h3,h5,aru h4];rfl
   .have h5:Op.bytesLess (dM d (n-1)).1 (dM d n).1=true:=cZ h5;unfold lG;rw[h2,h3,h5,aru h4];rfl
  .have h2:fO (dM d n).1=true:=cZ h2;have h3:bF (dM d n).2.1=true:=cZ h3;have h4:¬0<n:=by have:=gV h4;omega
   unfold lG;rw[h2,h3,arx h4];rfl
 .dsimp only;refine dH (by omega) (congrArg (·,()) ?_);unfold gy;rw[mX hJ];rfl
theorem Ub:OK wz.e:=by
 refine PA.ok mixed (aA [mF.e,kX.e] ⟨zX,yV,trivial⟩) Xd (by kernel_rfl) (show∀d,wz.goal (UL d) (d,())from ?_);intro d hin hp;dsimp only[wz]at hp ⊢;have hp:aX d:=hp;have hlen:d.length<=1000:=hp.1;refine iJ d.length (by omega) (λn=>∀i,i<n->lG d i=true) (λi hi=>by omega) (λI μ n hn hJ next=>?_) λI μ hJ=>?_
 .dsimp only;have no:lG d n=false->(false,())=(gy d,()):=λh=>by rw[afy hn h]
  have hq:(dM d n).2.1.length<=1000000:=arM (uP hp hn) (by omega);refine dG (by omega) ⟨⟨by omega,by omega⟩,trivial,af (λh2=>no ?_) λh2=>af (λh4=>?_) λh4=>⟨hq,af (λh3=>no ?_) λh3=>⟨rfl,next (dV hJ ?_)⟩⟩⟩
  .have h2:fO (dM d n).1=false:=fK h2;unfold lG;rw[h2];rfl
  .have h2:fO (dM d n).1=true:=cZ h2;have h4:0<n:=by have:=fP h4;omega
   rw[uf h4 (by omega)];refine⟨⟨by omega,by omega⟩,af (λh5=>no ?_) λh5=>⟨hq,af (λh3=>no ?_) λh3=>⟨rfl,next (dV hJ ?_)⟩⟩⟩
   .have h5:Op.bytesLess (dM d (n-1)).1 (dM d n).1=false:=fK h5;unfold lG;rw[h5,aru h4];simp
   .have h3:bF (dM d n).2.1=false:=fK h3;unfold lG;rw[h3];simp
   .have h3:bF (dM d n).2.1=true:=cZ h3;have h5:Op.bytesLess (dM d (n-1)).1 (dM d n).1=true:=cZ h5;unfold lG;rw[h2,h3,h5,aru h4];rfl
  .have h3:bF (dM d n).2.1=false:=fK h3;unfold lG;rw[h3];simp
  .have h2:fO (dM d n).1=true:=cZ h2;have h3:bF (dM d n).2.1=true:=cZ h3;have h4:¬0<n:=by have:=gV h4;omega
   unfold lG;rw[h2,h3,arx h4];rfl
 .dsimp only;refine dH (by omega) (congrArg (·,()) ?_);unfold gy;rw[mX hJ];rfl
end Go.Proofs.Tryz
namespace Go.Proofs.Tryz
open Go Go.Fw Go.IntWalk Sp
theorem afz{S:Type}{B:((Int×Unit)×S->Prop)->((Int×Unit)×S->Nat)->(Int×Unit)×S->Prop}(len:Nat)(hlen:len<=9223372036854775807)(J:Nat->S->Prop){s0:S}(h0:J len s0)
 (hstep:∀I μ(n:Nat)(s:S),n<len->J (n+1) s->(∀s',J n s'->I ((IntKind.i64.wrap ((n:Int)-1),()),s')/\μ ((IntKind.i64.wrap ((n:Int)-1),()),s')<μ (((n:Int),()),s))->B I μ (((n:Int),()),s))
 (hend:∀I μ s,J 0 s->B I μ ((-1,()),s)):∃I,∃μ,I ((IntKind.i64.wrap ((len:Int)-1),()),s0)/\∀y,I y->B I μ y:=by
 have w:∀n:Nat,n<=len->IntKind.i64.wrap ((n:Int)-1)=(n:Int)-1:=λn hn=>fD _ (by omega);refine⟨λy=>∃(n:Nat)(s:S),y=(((n:Int)-1,()),s)/\n<=len/\J n s,λy=>(y.1.1+1).toNat,⟨len,s0,by rw[w len (arF _)],arF _,h0⟩,?_⟩;rintro _ ⟨n,s,rfl,hn,hJ⟩;cases n with
 |zero=>exact hend _ _ s hJ
 |succ n=>
  have e:((n+1:Nat):Int)-1=n:=by omega
  rw[e];refine hstep _ _ n s hn hJ λs' hJ'=>?_;rw[w n (by omega)];refine⟨⟨n,s',rfl,by omega,hJ'⟩,?_⟩;show((n:Int)-1+1).toNat<((n:Int)+1).toNat;omega
theorem getD_set_ne{α:Type}(l:List α)(i n:Nat)(x d:α)(h:i≠n):(l.set i x).getD n d=l.getD n d:=by rw[arp,arp,asj h]
theorem KP{x:bM}{a:Int}(h:jH x a=true)(h2:x.1=5\/x.1=6\/x.1=7):0<=x.2.1/\x.2.1<a:=by obtain⟨x0,x1,x2,x3,x4,x5,x6,_⟩:=x;rw[KI]at h;rcases h2 with rfl|rfl|rfl<;>simp at h<;>exact⟨h.1.1.1.1,by dsimp only;omega⟩
theorem KQ{x:bM}{a:Int}(h:jH x a=true)(h2:x.1=6\/x.1=7):0<=x.2.2.1/\x.2.2.1<a:=by obtain⟨x0,x1,x2,x3,x4,x5,x6,_⟩:=x;rw[KI]at h;rcases h2 with rfl|rfl<;>simp at h<;>exact⟨h.1.2.1,by dsimp only;omega⟩
theorem ac8{q:List bM}(h:bF q=true){n:Nat}(hn:n<q.length):jH (Sp.nodeAt q n) n=true:=by unfold bF at h;simp only[ark]at h;have:=O4.1 h.1 n hn;unfold kP at this;simp only[ark]at this;exact this.1
theorem Eo{q:List bM}(h:bF q=true):1<=q.length/\q.length<=9:=by unfold bF at h;simp only[ark,arD]at h;omega
theorem Y0{q:List bM}{n:Nat}{out:List (Bool×Unit)}(h:(Sp.nodeAt q n).1=5):jK q n out=out.set (Sp.nodeAt q n).2.1.toNat (true,()):=by unfold jK;simp[h]
theorem Y3{q:List bM}{n:Nat}{out:List (Bool×Unit)}(h:(Sp.nodeAt q n).1=6\/(Sp.nodeAt q n).1=7):jK q n out=(out.set (Sp.nodeAt q n).2.1.toNat ((out.getD n (false,())).1,())).set (Sp.nodeAt q n).2.2.1.toNat ((out.getD n (false,())).1,()):=by unfold jK ji;rcases h with h|h<;>simp[h]
theorem Xe{q:List bM}{n:Nat}{out:List (Bool×Unit)}(h5:(Sp.nodeAt q n).1≠5)(h6:(Sp.nodeAt q n).1≠6)(h7:(Sp.nodeAt q n).1≠7):jK q n out=out:=by unfold jK ji;dsimp only;rw[arn.2 h5,arn.2 h6,arn.2 h7];rfl
theorem Es(q:List bM):∀(n:Nat)(out:List (Bool×Unit)),(iK q n out).length=out.length
 |0,out=>rfl
 |n+1,out=>by
  rw[iK,Es q n];unfold jK;simp only[cond_eq_ite];split
  .simp
  .split<;>simp
theorem aiE{q:List bM}(h:bF q=true):(Sp.negated q).length=q.length:=by unfold Sp.negated;rw[h];show(iK q _ _).length=_;rw[Es];simp
theorem SG:OK uS.e:=by
 refine PA.ok mixed (aA [mF.e] ⟨zX,trivial⟩) UM (by kernel_rfl) (show∀q,uS.goal (SH q) (q,())from ?_);intro q hin hp;dsimp only[uS]at hp ⊢;have hp:q.length<=1000:=hp;refine⟨by omega,af (λh=>?_) λh=>⟨⟨by omega,by omega,by rw[bW];omega⟩,?_⟩⟩
 .have h:=fK h;unfold Sp.negated;rw[h];rfl
 have hok:=cZ h;have hR:Sp.negated q=iK q q.length (List.replicate q.length (false,())):=by unfold Sp.negated;rw[hok];rfl
 refine afz q.length (by omega) (λn(s:List (Bool×Unit)×Unit)=>s.1.length=q.length/\iK q n s.1=Sp.negated q) ⟨by simp,hR.symm⟩ (λI μ n s hn hJ next=>?_) λI μ s hJ=>?_
 .obtain⟨out,⟨⟩⟩:=s;obtain⟨hl,hJ⟩:=hJ;have hl:out.length=q.length:=hl;have hJ:iK q n (jK q n out)=Sp.negated q:=hJ;have hk:=ac8 hok hn;have e:q.getD n (0,0,0,[],0,0,[],())=Sp.nodeAt q n:=rfl;dsimp only;rw[arI,e];simp only[arP];refine dG (by omega) ⟨⟨by omega,by omega⟩,by omega,?_⟩;by_cases h5:(Sp.nodeAt q n).1=5
  .have hb:=KP hk (.inl h5);simp only[h5,Int.reduceBEq,auw,atL];have fin:iK q n (out.set (Sp.nodeAt q n).2.1.toNat (true,()))=Sp.negated q:=by rw[← Y0 h5];exact hJ
   refine af (λ_=>⟨⟨by omega,by omega⟩,⟨by omega,by omega⟩,⟨by omega,by omega⟩,by omega,trivial,next _ ⟨by simp[hl],fin⟩⟩) λ_=>⟨⟨by omega,by omega⟩,⟨by omega,by omega⟩,⟨by omega,by omega⟩,⟨by omega,by omega⟩,by omega,trivial,next _ ⟨by simp[hl],fin⟩⟩
  by_cases Qw:(Sp.nodeAt q n).1=6\/(Sp.nodeAt q n).1=7
  .have hb:=KP hk (.inr Qw);have hb2:=KQ hk Qw;have fin:∀b,(out.getD n (false,())).1=b->iK q n ((out.set (Sp.nodeAt q n).2.1.toNat (b,())).set (Sp.nodeAt q n).2.2.1.toNat (b,()))=Sp.negated q:=λb hb=>by rw[← hb,← Y3 Qw];exact hJ
   rcases Qw with h6|h6
   all_goals
    simp only[h6,Int.reduceBEq,auw,atL];refine af (λhc=>⟨⟨by omega,by omega⟩,⟨by omega,by omega⟩,⟨by omega,by omega⟩,⟨by omega,by omega⟩,by omega,⟨by omega,by omega⟩,by omega,trivial,next _ ⟨by simp[hl],fin true hc⟩⟩) λhc=>⟨⟨by omega,by omega⟩,⟨by omega,by omega⟩,⟨by omega,by omega⟩,⟨by omega,by omega⟩,⟨by omega,by omega⟩,by omega,⟨by omega,by omega⟩,by omega,trivial,next _ ⟨by simp[hl],fin false hc⟩⟩
  .have h6:(Sp.nodeAt q n).1≠6:=λh=>Qw (.inl h);have h7:(Sp.nodeAt q n).1≠7:=λh=>Qw (.inr h);have fin:iK q n out=Sp.negated q:=by rw[Xe h5 h6 h7]at hJ;exact hJ
   simp only[arn.2 h5,arn.2 h6,arn.2 h7,atL];exact af (λ_=>⟨⟨by omega,by omega⟩,rfl,next _ ⟨hl,fin⟩⟩) λ_=>⟨⟨by omega,by omega⟩,⟨by omega,by omega⟩,rfl,next _ ⟨hl,fin⟩⟩
 .obtain⟨out,⟨⟩⟩:=s;obtain⟨hl,hJ⟩:=hJ;dsimp only;refine dH (by omega) ?_;have hJ:out=Sp.negated q:=hJ;rw[hJ]
theorem SI:OK uQ.e:=by
 refine PA.ok mixed (aA [mD.e] ⟨zY,trivial⟩) UN (by kernel_rfl) (show∀q,uQ.goal (SK q) (q,())from ?_);intro q hin hp;dsimp only[uQ]at hp ⊢;have hp:q.length<=1000:=hp;refine⟨by omega,af (λh=>?_) λh=>⟨⟨by omega,by omega,by rw[bW];omega⟩,?_⟩⟩
 .have h:=fK h;unfold Sp.negated;rw[h];rfl
 have hok:=cZ h;have hR:Sp.negated q=iK q q.length (List.replicate q.length (false,())):=by unfold Sp.negated;rw[hok];rfl
 refine afz q.length (by omega) (λn(s:List (Bool×Unit)×Unit)=>s.1.length=q.length/\iK q n s.1=Sp.negated q) ⟨by simp,hR.symm⟩ (λI μ n s hn hJ next=>?_) λI μ s hJ=>?_
 .obtain⟨out,⟨⟩⟩:=s;obtain⟨hl,hJ⟩:=hJ;have hl:out.length=q.length:=hl;have hJ:iK q n (jK q n out)=Sp.negated q:=hJ;have hk:=ac8 hok hn;have e:q.getD n (0,0,0,[],0,0,[],())=Sp.nodeAt q n:=rfl;dsimp only;rw[arI,e];simp only[arP];refine dG (by omega) ⟨⟨by omega,by omega⟩,?_⟩;by_cases h5:(Sp.nodeAt q n).1=5
  .have hb:=KP hk (.inl h5);simp only[h5,Int.reduceBEq,auw,atL];have fin:iK q n (out.set (Sp.nodeAt q n).2.1.toNat (true,()))=Sp.negated q:=by rw[← Y0 h5];exact hJ
   exact⟨⟨by omega,by omega⟩,by omega,trivial,next _ ⟨by simp[hl],fin⟩⟩
  by_cases Qw:(Sp.nodeAt q n).1=6\/(Sp.nodeAt q n).1=7
  .have hb:=KP hk (.inr Qw);have hb2:=KQ hk Qw;have hne:(Sp.nodeAt q n).2.1.toNat≠n:=by omega
   have fin:iK q n ((out.set (Sp.nodeAt q n).2.1.toNat ((out.getD n (false,())).1,())).set (Sp.nodeAt q n).2.2.1.toNat ((out.getD n (false,())).1,()))=Sp.negated q:=by rw[← Y3 Qw];exact hJ
   rcases Qw with h6|h6
   all_goals
    simp only[h6,Int.reduceBEq,auw,atL,getD_set_ne _ _ _ _ _ hne];exact⟨⟨by omega,by omega⟩,by omega,⟨by omega,by omega⟩,by omega,⟨by omega,by omega⟩,by omega,⟨by omega,by omega⟩,by omega,trivial,next _ ⟨by simp[hl],fin⟩⟩
  .have h6:(Sp.nodeAt q n).1≠6:=λh=>Qw (.inl h);have h7:(Sp.nodeAt q n).1≠7:=λh=>Qw (.inr h);have fin:iK q n out=Sp.negated q:=by rw[Xe h5 h6 h7]at hJ;exact hJ
   simp only[arn.2 h5,arn.2 h6,arn.2 h7,atL];exact⟨rfl,next _ ⟨hl,fin⟩⟩
 .obtain⟨out,⟨⟩⟩:=s;obtain⟨hl,hJ⟩:=hJ;dsimp only;refine dH (by omega) ?_;have hJ:out=Sp.negated q:=hJ;rw[hJ]
end Go.Proofs.Tryz
namespace Go.Proofs.Tryz
open Go Go.Fw Go.IntWalk Sp
def aeK(q:List bM)(neg:Bool)(i:Nat):Option Sp.Bytes:=bif yZ (Sp.nodeAt q i)&&((Sp.negated q).getD i (false,())).1==neg then some (Sp.nodeAt q i).2.2.2.1 else none
def CP(q:List bM)(neg:Bool)(n:Nat):List Sp.Bytes:=(List.range n).filterMap (aeK q neg)
theorem xC(q:List bM)(neg:Bool):CP q neg (Sp.negated q).length=eU q neg:=rfl
theorem ac9{q:List bM}{neg:Bool}{n:Nat}(h1:yZ (Sp.nodeAt q n)=true)(h2:((Sp.negated q).getD n (false,())).1=neg):CP q neg (n+1)=CP q neg n++[(Sp.nodeAt q n).2.2.2.1]:=by
 unfold CP;rw[auV,List.filterMap_append];congr 1;show List.filterMap _ [n]=_;rw[List.filterMap_cons];have:aeK q neg n=some (Sp.nodeAt q n).2.2.2.1:=by unfold aeK;rw[h1,h2];simp
 rw[this];rfl
theorem Ob{q:List bM}{neg:Bool}{n:Nat}(h:¬(yZ (Sp.nodeAt q n)=true/\((Sp.negated q).getD n (false,())).1=neg)):CP q neg (n+1)=CP q neg n:=by
 unfold CP;rw[auV,List.filterMap_append];have:aeK q neg n=none:=by
  unfold aeK;have:(yZ (Sp.nodeAt q n)&&((Sp.negated q).getD n (false,())).1==neg)=false:=by rw[atn];intro h';rw[ark,arA]at h';exact h h'
  rw[this];rfl
 rw[List.filterMap_cons,this];simp
theorem xE(q:List bM)(neg:Bool)(n:Nat):(CP q neg n).length<=n:=by have:=List.length_filterMap_le (aeK q neg) (List.range n);rw[List.length_range]at this;exact this
theorem xG(q:List bM):(Sp.negated q).length<=q.length:=by
 cases h:bF q with
 |true=>rw[aiE h];exact arF _
 |false=>unfold Sp.negated;rw[h];exact ar0 _
theorem JS:OK uw.e:=by
 refine XA.ok mixed (aA [(DR,.eff (IZ qH) Bd),Bq.e,uS.e] ⟨⟨VH,TQ⟩,aaz,SG,trivial⟩) aaL (λ⟨q,neg,_⟩ hp=>⟨((((eU q neg).map λs=>(s,()),()),())),⟨by show((eU q neg).map _).length<=1000;rw[arB];have:=xE q neg (Sp.negated q).length;have:=xG q;have hp:q.length<=1000:=hp;rw[xC]at*;omega,λs=>by show(s,())∈(eU q neg).map _↔_;simp⟩⟩) (by kernel_rfl) (show∀q negated,uw.goal (Yz q negated) (q,negated,())from ?_);intro q neg hin hp;dsimp only[uw]at hp ⊢;have hp:q.length<=1000:=hp;have hnl:=xG q;refine⟨hp,?_⟩;refine eP (λi(x:Sp.LS)=>(((),i,()),x,())) (λy=>y.1.2.1) (λ_ _=>rfl) (Sp.negated q).length (by omega) (λn l=>l=(CP q neg n).map λs=>(s,())) rfl (λI μ n l hn hJ next=>?_) λI μ l hJ=>?_
 .subst hJ;have hl:=xE q neg n;dsimp only;refine dG (by omega) ⟨⟨by omega,by omega⟩,⟨by omega,by omega⟩,trivial,af (λh1=>af (λh2=>⟨⟨by omega,by omega⟩,?_,rfl,next _ ?_⟩) λh2=>⟨rfl,next _ ?_⟩) λh1=>⟨rfl,next _ ?_⟩⟩
  .rw[bW];simp only[arq,arw,arB];omega
  .rw[ac9 (show yZ (Sp.nodeAt q n)=true from h1) (arA.1 h2),asJ];rfl
  .rw[Ob λh=>by have h2:=arn.1 h2;exact h2 h.2]
  .rw[Ob λh=>by have h1:yZ (Sp.nodeAt q n)=false:=h1;rw[h1]at h;cases h.1]
 .subst hJ;have hl:=xE q neg (Sp.negated q).length;rw[xC]at hl ⊢;dsimp only;refine dH (by omega) ⟨by rw[arB];omega,?_⟩;rintro⟨⟨r,⟨⟩⟩,⟨⟩⟩ ⟨h1,h2⟩;have h1:r.length<=((eU q neg).map λs=>(s,())).length:=h1;rw[arB]at h1;refine⟨by show r.length<=1000;omega,λs=>?_⟩;have:=h2 (s,());show(s,())∈r↔_;rw[this];simp
theorem RH:OK uT.e:=by refine XA.ok mixed (aA [uw.e] ⟨JS,trivial⟩) H0 (λ⟨q,_⟩ hp=>⟨((((eU q false).map λs=>(s,()),()),())),⟨by show((eU q false).map _).length<=1000;rw[arB];have:=xE q false (Sp.negated q).length;have:=xG q;have hp:q.length<=1000:=hp;rw[xC]at*;omega,λs=>by show(s,())∈(eU q false).map _↔_;simp⟩⟩) (by kernel_rfl) (show∀q,uT.goal (SL q) (q,())from ?_);intro q hin hp;dsimp only[uT]at hp ⊢;exact⟨hp,λr hr=>hr⟩
theorem RG:OK uU.e:=by refine XA.ok mixed (aA [uw.e] ⟨JS,trivial⟩) H0 (λ⟨q,_⟩ hp=>⟨((((eU q true).map λs=>(s,()),()),())),⟨by show((eU q true).map _).length<=1000;rw[arB];have:=xE q true (Sp.negated q).length;have:=xG q;have hp:q.length<=1000:=hp;rw[xC]at*;omega,λs=>by show(s,())∈(eU q true).map _↔_;simp⟩⟩) (by kernel_rfl) (show∀q,uU.goal (SN q) (q,())from ?_);intro q hin hp;dsimp only[uU]at hp ⊢;exact⟨hp,λr hr=>hr⟩
theorem ajm{l:Sp.LS}{s:Sp.Bytes}{m:Nat}(hm:m<=l.length)(h1:∀i,i<m->Op.bytesLess (l.getD i ([],())).1 s=true)(h2:m<l.length->Op.bytesLess (l.getD m ([],())).1 s=false):
 ER l s=bif decide (m<l.length)&&(l.getD m ([],())).1==s then l else l.take m++[(s,())]++l.drop m:=by
 obtain⟨e1,_⟩:=L8 (d:=(([]:List UInt8),())) l m hm (p:=λx=>Op.bytesLess x.1 s) h1 h2;unfold ER;rw[e1];have:(l.take m).length=m:=by rw[aro];omega
 rw[this]
theorem ML{l:Sp.LS}{s:Sp.Bytes}(x:Sp.Bytes×Unit):x∈ER l s↔x=(s,())\/x∈l:=by
 unfold ER;dsimp only;generalize (l.takeWhile λx=>Op.bytesLess x.1 s).length=n;cases h:decide (n<l.length)&&(l.getD n ([],())).1==s with
 |true=>
  rw[ark,arA]at h;refine⟨.inr,λhx=>?_⟩;rcases hx with rfl|hx
  .have:=getD_mem (d:=(([]:List UInt8),())) (fP h.1);rw[show l.getD n ([],())=(s,())from atO h.2 rfl]at this;exact this
  .exact hx
 |false=>
  show x∈l.take n++[(s,())]++l.drop n↔_;rw[arW,arW,asq]
  conv=>rhs;rw[← atF n l,arW]
  constructor
  .rintro((h|h)|h)
   .exact .inr (.inl h)
   .exact .inl h
   .exact .inr (.inr h)
  .rintro(h|h|h)
   .exact .inl (.inr h)
   .exact .inl (.inl h)
   .exact .inr h
theorem amG(l:Sp.LS)(s:Sp.Bytes):(ER l s).length<=l.length+1:=by
 unfold ER;dsimp only;generalize (l.takeWhile λx=>Op.bytesLess x.1 s).length=n;cases decide (n<l.length)&&(l.getD n ([],())).1==s with
 |true=>exact Nat.le_succ _
 |false=>show(l.take n++[(s,())]++l.drop n).length<=_;simp;omega
theorem aeL:OK ED.e:=by
 refine PA.ok mixed (aA [] trivial) agb (by kernel_rfl) (show∀list s,ED.goal (aeM list s) (list,s,())from ?_);intro l s hin hp;dsimp only[ED]at hp ⊢;have hp:l.length<=1000:=hp;have fin:∀m:Nat,m<=l.length->ER l s=l.take m++[(s,())]++l.drop m->((0:Int)<=m/\(m:Int)<=l.length)/\0+(List.drop 0 (List.take m l)).length<=big/\(List.drop 0 (List.take m l)).length+[(s,())].length<=big/\((0:Int)<=m/\(m:Int)<=l.length)/\
  (List.drop 0 (List.take m l)++[(s,())]).length+(List.drop m (List.take l.length l)).length<=big/\(List.drop 0 (List.take m l)++[(s,())]++List.drop m (List.take l.length l),())=(ER l s,()):=by
  intro m hm h;refine⟨⟨by omega,by omega⟩,?_,?_,⟨by omega,by omega⟩,?_,?_⟩
  .rw[bW];simp only[arY,aro];omega
  .rw[bW];simp only[arY,aro,arq,arw];omega
  .rw[bW];simp only[arv,arY,aro,arq,arw];omega
  .rw[h,arZ,as4]
 refine iJ l.length (by omega) (λn=>∀i,i<n->Op.bytesLess (l.getD i ([],())).1 s=true) (λi hi=>by omega) (λI μ n hn hJ next=>?_) λI μ hJ=>?_
 .dsimp only;refine dG (by omega) ⟨⟨by omega,by omega⟩,af (λh=>⟨rfl,next (dV (f:=λi=>Op.bytesLess (l.getD i ([],())).1 s) hJ h)⟩) λh=>dG (by omega) ⟨⟨by omega,by omega⟩,?_⟩⟩;have e:=ajm (Nat.le_of_lt hn) hJ λ_=>h;rw[aru hn,aug]at e;refine af (λh2=>?_) λh2=>fin n (Nat.le_of_lt hn) ?_
  .rw[show((l.getD n ([],())).1==s)=true from h2]at e;rw[e];rfl
  .rw[show((l.getD n ([],())).1==s)=false from h2]at e;exact e
 .dsimp only;refine dH (by omega) (dH (by omega) (fin l.length (arF _) ?_));have e:=ajm (arF _) hJ λh=>by omega
  rw[arx (by omega)]at e;exact e
theorem alQ(x:bM):yZ x=(decide (8<=x.1)&&decide (x.1<=9)):=by unfold yZ;rw[arR];simp;omega
theorem MQ:OK wB.e:=by
 refine XA.ok mixed (aA [ED.e,jv.e,uQ.e] ⟨aeL,kT,SI,trivial⟩) ada (λ⟨q,neg,_⟩ hp=>⟨((((eU q neg).map λs=>(s,()),()),())),⟨by show((eU q neg).map _).length<=1000;rw[arB];have:=xE q neg (Sp.negated q).length;have:=xG q;have hp:q.length<=1000:=hp;rw[xC]at*;omega,λs=>by show(s,())∈(eU q neg).map _↔_;simp⟩⟩) (by kernel_rfl) (show∀q under,wB.goal (aaM q under) (q,under,())from ?_);intro q neg hin hp;dsimp only[wB]at hp ⊢;have hp:q.length<=1000:=hp;have hnl:=xG q;refine⟨hp,?_⟩;refine eP (λi(x:Sp.LS)=>((x,i,()),())) (λy=>y.1.2.1) (λ_ _=>rfl) (Sp.negated q).length (by omega) (λn l=>l.length<=n/\∀s,(s,())∈l↔s∈CP q neg n) ⟨arF _,λs=>by simp[CP]⟩ (λI μ n l hn hJ next=>?_) λI μ l hJ=>?_
 .obtain⟨hl,hJ⟩:=hJ;dsimp only;have hnm:=alQ (Sp.nodeAt q n);refine dG (by omega) ⟨⟨by omega,by omega⟩,trivial,af (λh1=>⟨⟨by omega,by omega⟩,af (λh2=>⟨⟨by omega,by omega⟩,by omega,rfl,next _ ?_⟩) λh2=>⟨rfl,next _ ⟨by omega,?_⟩⟩⟩) λh1=>⟨rfl,next _ ⟨by omega,?_⟩⟩⟩
  .have h1:(decide (8<=(Sp.nodeAt q n).1)&&decide ((Sp.nodeAt q n).1<=9))=true:=h1;rw[ac9 (hnm.trans h1) (arA.1 h2)];refine⟨arM (amG _ _) (by omega),λs=>?_⟩;rw[ML,arW,asq,hJ,Prod.mk.injEq];constructor
   .rintro(⟨h,_⟩|h)
    .exact .inr h
    .exact .inl h
   .rintro(h|h)
    .exact .inr h
    .exact .inl ⟨h,rfl⟩
  .rw[Ob λh=>by have h2:=arn.1 h2;exact h2 h.2];exact hJ
  .rw[Ob λh=>by have h1:(decide (8<=(Sp.nodeAt q n).1)&&decide ((Sp.nodeAt q n).1<=9))=false:=h1;rw[hnm,h1]at h;cases h.1];exact hJ
 .obtain⟨hl,hJ⟩:=hJ;rw[xC]at hJ;dsimp only;exact dH (by omega) ⟨by rw[bW];omega,by show l.length<=1000;omega,hJ⟩
theorem SQ:OK uV.e:=by refine XA.ok mixed (aA [wB.e] ⟨MQ,trivial⟩) H0 (λ⟨q,_⟩ hp=>⟨((((eU q false).map λs=>(s,()),()),())),⟨by show((eU q false).map _).length<=1000;rw[arB];have:=xE q false (Sp.negated q).length;have:=xG q;have hp:q.length<=1000:=hp;rw[xC]at*;omega,λs=>by show(s,())∈(eU q false).map _↔_;simp⟩⟩) (by kernel_rfl) (show∀q,uV.goal (SS q) (q,())from ?_);intro q hin hp;dsimp only[uV]at hp ⊢;exact⟨hp,λr hr=>hr⟩
theorem SX:OK uX.e:=by refine XA.ok mixed (aA [wB.e] ⟨MQ,trivial⟩) H0 (λ⟨q,_⟩ hp=>⟨((((eU q true).map λs=>(s,()),()),())),⟨by show((eU q true).map _).length<=1000;rw[arB];have:=xE q true (Sp.negated q).length;have:=xG q;have hp:q.length<=1000:=hp;rw[xC]at*;omega,λs=>by show(s,())∈(eU q true).map _↔_;simp⟩⟩) (by kernel_rfl) (show∀q,uX.goal (SY q) (q,())from ?_);intro q hin hp;dsimp only[uX]at hp ⊢;exact⟨hp,λr hr=>hr⟩
end Go.Proofs.Tryz
