import Derived.Test.YtncbcelpbmlgdaaGreatDoorV1
import Derived.Test.YtncbcelpbmlgdaaGreatDoorSp
import Derived.Test.YtncbcelpbmlgdaaGreatDoorV2
import Derived.Test.YtncbcelpbmlgdaaGreatDoorFwC
namespace Go.Proofs.Tryz
open Go Go.Fw Go.IntWalk Sp
theorem amn(x y:Int)(m:Nat)(hm:m<9223372036854775807)(hy:(BitVec.ofInt 64 y).toNat=m):0<=bitsOf .and .i64 x y/\bitsOf .and .i64 x y<=m:=by
 have h:(BitVec.ofInt 64 x&&&BitVec.ofInt 64 y).toNat<=m:=by rw[BitVec.toNat_and,hy];exact Nat.and_le_right
 show 0<=IntKind.i64.wrap ((BitVec.ofInt 64 x&&&BitVec.ofInt 64 y).toNat:Int)/\IntKind.i64.wrap ((BitVec.ofInt 64 x&&&BitVec.ofInt 64 y).toNat:Int)<=m;generalize (BitVec.ofInt 64 x&&&BitVec.ofInt 64 y).toNat=z at h ⊢;rw[eF _ aaV];omega
theorem amo(x:Int):0<=bitsOf .and .i64 x 255/\bitsOf .and .i64 x 255<=255:=amn x 255 255 aaV abV
theorem CJ:OK rF.e:=by
 refine QA.ok mixed (aB [] trivial) afV (λ⟨_,⟨⟩⟩ _=>⟨([],0,0,()),rfl⟩) aa1 (show∀code,rF.goal (adF code) (code,())from ?_);intro code hin hp;dsimp only[rF]at hp ⊢;have hp:code.length<=1048576:=hp;refine⟨λy=>∃n:Nat,y.1.2.1=n/\n<=code.length,λy=>((code.length:Int)-y.1.2.1).toNat,⟨0,rfl,aaV⟩,?_⟩;rintro⟨⟨h,_,⟨⟩⟩,⟨⟩⟩ ⟨n,rfl,hn⟩;dsimp only;refine af (λhc=>?_) λhc=>?_
 .simp only[auP]at hc;cases decide ((n:Int)<4000)with
  |false=>exact rfl
  |true=>
   have e:IntKind.i64.wrap ((n:Int)+1)=((n+1:Nat):Int):=eF _ aaV;refine⟨?_,?_,?_,?_⟩
   .exact⟨aaV,hc⟩
   .exact rfl
   .exact⟨n+1,e,aaV⟩
   show((code.length:Int)-IntKind.i64.wrap ((n:Int)+1)).toNat<((code.length:Int)-n).toNat;rw[e];omega
 .exact rfl
theorem Nr:OK yD.e:=by
 refine XA.ok mixed (aB [] trivial) H0 (λ_ _=>⟨(((0:Int),()),(([],0,0,()),())),⟨abV,abV,abV⟩⟩) aa1 (show∀c0 c1 c2,yD.goal (abx c0 c1 c2) ((c0,c1,c2,()),())from ?_);intro b i h hin hp;dsimp only[yD]at hp ⊢;have hp:0<=i:=hp;refine⟨abV,abV,af (λhc=>?_) λhc=>?_⟩<;>simp only[auP,avi]at hc
 .have hl:b.length<=maxLen:=hin.1.1.1;rw[maxLen_eq]at hl;refine⟨⟨hp,hc⟩,?_,amo _⟩;show 0<=IntKind.i64.wrap (i+1);rw[eF _ aaV];omega
 .exact⟨hp,amo _⟩
theorem tmod_lt{a n:Int}(ha:0<=a)(hn:0<n):0<=a.tmod n/\a.tmod n<n:=⟨aw8 n ha,axI a hn⟩
theorem dA:OK bU.e:=by
 refine XA.ok mixed (aB [yD.e] ⟨Nr,trivial⟩) H0 (λ⟨_,n,⟨⟩⟩ _=>⟨(((0:Int),()),(([],0,0,()),())),⟨avt _,avt _,λh=>h,λ_=>rfl⟩⟩) aa1 (show∀c0 c1 c2 n,bU.goal (ZQ c0 c1 c2 n) ((c0,c1,c2,()),n,())from ?_);intro b i h n hin hp;dsimp only[bU]at hp ⊢;have hp:0<=i:=hp;refine af (λhc=>?_) λhc=>?_<;>simp only[auP,avi]at hc
 .exact⟨hp,avt _,λh=>aaV,λ_=>rfl⟩
 .refine af (λhc2=>?_) λhc2=>?_
  .refine⟨hp,?_⟩;rintro⟨⟨x,⟨⟩⟩,⟨b',i',h',⟨⟩⟩,⟨⟩⟩ ⟨h1,h2,h3⟩;dsimp only at h1 h2 h3 ⊢;have:=tmod_lt h2 (show 0<n from aaV);exact⟨aaV,h1,this.1,λ_=>this.2,λh=>aaV⟩
  .refine⟨hp,?_⟩;rintro⟨⟨x1,⟨⟩⟩,⟨b1,i1,g1,⟨⟩⟩,⟨⟩⟩ ⟨h1,h2,h3⟩;refine⟨h1,?_⟩;rintro⟨⟨x2,⟨⟩⟩,⟨b2,i2,g2,⟨⟩⟩,⟨⟩⟩ ⟨k1,k2,k3⟩;refine⟨k1,?_⟩;rintro⟨⟨x3,⟨⟩⟩,⟨b3,i3,g3,⟨⟩⟩,⟨⟩⟩ ⟨l1,l2,l3⟩;refine⟨l1,?_⟩;rintro⟨⟨x4,⟨⟩⟩,⟨b4,i4,g4,⟨⟩⟩,⟨⟩⟩ ⟨m1,m2,m3⟩;dsimp only at*;rw[eF (x1*16777216) aaV,eF (x2*65536) aaV,eF (x3*256) aaV,eF (x1*16777216+x2*65536) aaV,eF (x1*16777216+x2*65536+x3*256) aaV,eF (x1*16777216+x2*65536+x3*256+x4) aaV];have:=tmod_lt (a:=x1*16777216+x2*65536+x3*256+x4) (n:=n) aaV aaV;exact⟨aaV,m1,this.1,λ_=>this.2,λh=>aaV⟩
theorem F6:OK qi.e:=by refine XA.ok mixed (aB [bU.e] ⟨dA,trivial⟩) H0 (λ_ _=>⟨((false,()),(([],0,0,()),())),avt _⟩) aa1 (show∀c0 c1 c2 n,qi.goal (aby c0 c1 c2 n) ((c0,c1,c2,()),n,())from ?_);intro b i h n hin hp;dsimp only[qi]at hp ⊢;refine⟨hp,?_⟩;rintro⟨⟨x,⟨⟩⟩,⟨b',i',h',⟨⟩⟩,⟨⟩⟩ ⟨h1,_⟩;exact h1
theorem kT:OK jh.e:=by refine XA.ok mixed (aB [bU.e] ⟨dA,trivial⟩) H0 (λ⟨_,l,⟨⟩⟩⟨_,hl⟩=>(match l,hl with|x::_,_=>⟨((x.1,()),(([],0,0,()),())),⟨avt _,auO⟩⟩)) aa1 (show∀c0 c1 c2 list,jh.goal (abz c0 c1 c2 list) ((c0,c1,c2,()),list,())from ?_);intro b i h l hin hp;dsimp only[jh]at hp ⊢;obtain⟨hp,hl⟩:=hp;have hpos:0<l.length:=aw7.2 hl;refine⟨hp,?_⟩;rintro⟨⟨x,⟨⟩⟩,⟨b',i',h',⟨⟩⟩,⟨⟩⟩ ⟨h1,h2,h3,_⟩;have h3:x<(l.length:Int):=h3 aaV;refine⟨⟨h2,h3⟩,h1,?_⟩;exact getD_mem (by dsimp only at h2;omega)
theorem qQ:OK kG.e:=by refine XA.ok mixed (aB [bU.e] ⟨dA,trivial⟩) H0 (λ⟨_,l,⟨⟩⟩⟨_,hl⟩=>(match l,hl with|x::_,_=>⟨((x.1,()),(([],0,0,()),())),⟨avt _,auO⟩⟩)) aa1 (show∀c0 c1 c2 list,kG.goal (VX c0 c1 c2 list) ((c0,c1,c2,()),list,())from ?_);intro b i h l hin hp;dsimp only[kG]at hp ⊢;obtain⟨hp,hl⟩:=hp;have hpos:0<l.length:=aw7.2 hl;refine⟨hp,?_⟩;rintro⟨⟨x,⟨⟩⟩,⟨b',i',h',⟨⟩⟩,⟨⟩⟩ ⟨h1,h2,h3,_⟩;have h3:x<(l.length:Int):=h3 aaV;refine⟨⟨h2,h3⟩,h1,?_⟩;exact getD_mem (by dsimp only at h2;omega)
theorem KY:OK vV.e:=by refine XA.ok mixed (aB [] trivial) abA (λ_ _=>⟨((Sp.usual,()),()),rfl⟩) aa1 (show vV.goal (ZR) (())from ?_);intro hin hp;dsimp only[vV]at hp ⊢;exact rfl
theorem Ns:OK yE.e:=by refine XA.ok mixed (aB [jh.e] ⟨kT,trivial⟩) H0 (λ_ _=>⟨(([],()),(([],0,0,()),())),⟨abV,abV⟩⟩) aa1 (show∀c0 c1 c2,yE.goal (abB c0 c1 c2) ((c0,c1,c2,()),())from ?_);intro b i h hin hp;dsimp only[yE]at hp ⊢;refine⟨⟨hp,abZ⟩,?_⟩;rintro⟨⟨x,⟨⟩⟩,⟨b',i',h',⟨⟩⟩,⟨⟩⟩ ⟨h1,h2⟩;refine⟨h1,?_⟩;exact(show∀y∈_,List.length y.1<=1 from abV) _ h2
theorem VY:Sp.usual.length=4:=rfl
theorem adG:OK D5.e:=by
 refine XA.ok mixed (aB [jh.e,yE.e,bU.e,vV.e] ⟨kT,Ns,dA,KY,trivial⟩) afW (λ_ _=>⟨(([],()),(([],0,0,()),())),⟨abV,abV⟩⟩) aa1 (show∀c0 c1 c2,D5.goal (adH c0 c1 c2) ((c0,c1,c2,()),())from ?_);intro b i h hin hp;dsimp only[D5]at hp ⊢;have hp:0<=i:=hp;refine⟨trivial,?_⟩;rintro⟨⟨_,⟨⟩⟩,⟨⟩⟩ rfl;dsimp only
 repeat' first
  |exact trivial
  |refine af (λ_=>?_) λ_=>?_
  |refine And.intro ?_ ?_
  |(intro r hr;simp only[]at hr)
  |intro r hr
 all_goals first
  |omega
  |(dsimp only at*;omega)
  |exact hr
  |(simp only[auD,ne_eq]at*;omega)
  |(simp only[avb,auN,auB,auE,auI,VY];omega)
  |(rw[iC];simp only[avb,auN,auB,auE,auI,VY];omega)
  |(simp only[avb,auN,auB,auE,auI,VY]at*;omega)
  |exact(show∀y∈_,List.length y.1<=10 from abV) _ hr.2
  |(simp;done)
  |skip
theorem zU:OK oI.e:=by refine PA.ok mixed (aB [] trivial) H0 aa1 (show∀n,oI.goal (ZT n) (n,())from ?_);intro n hin hp;dsimp only[oI]at hp ⊢;exact rfl
theorem qf:OK jL.e:=by refine PA.ok mixed (aB [] trivial) H0 aa1 (show∀w,jL.goal (Uo w) (w,())from ?_);intro n hin hp;dsimp only[jL]at hp ⊢;exact rfl
theorem ZU:OK A8.e:=by
 refine XA.ok mixed (aB [jL.e,jh.e,oI.e,bU.e] ⟨qf,kT,zU,dA,trivial⟩) H0 (λ_ _=>⟨((((0:Int),(0:Int),([]:List UInt8),()),()),(([],0,0,()),())),⟨abV,abV⟩⟩) aa1 (show∀c0 c1 c2,A8.goal (ZV c0 c1 c2) ((c0,c1,c2,()),())from ?_);intro b i h hin hp;dsimp only[A8]at hp ⊢;have hp:0<=i:=hp
 repeat' first
  |exact trivial
  |refine af (λ_=>?_) λ_=>?_
  |refine And.intro ?_ ?_
  |(intro r hr;simp only[]at hr)
  |intro r hr
 all_goals first
  |omega
  |(dsimp only at*;omega)
  |exact hr
  |(simp only[auD,ne_eq]at*;omega)
  |(simp only[avb,auN,auB,auE,auI];omega)
  |(rw[iC];simp only[avb,auN,auB,auE,auI];omega)
  |(simp only[avb,auN,auB,auE,auI]at*;omega)
  |exact(show∀y∈_,List.length y.1<=10 from abV) _ hr.2
  |(simp;done)
  |skip
theorem PX:OK Ae.e:=by
 refine XA.ok mixed (aB [jh.e,kG.e,bU.e,A8.e] ⟨kT,qQ,dA,ZU,trivial⟩) H0 (λ_ _=>⟨((((0:Int),(0:Int),([]:List UInt8),()),()),(([],0,0,()),())),⟨abV,abV⟩⟩) aa1 (show∀c0 c1 c2,Ae.goal (adI c0 c1 c2) ((c0,c1,c2,()),())from ?_);intro b i h hin hp;dsimp only[Ae]at hp ⊢;have hp:0<=i:=hp
 repeat' first
  |exact trivial
  |refine af (λ_=>?_) λ_=>?_
  |refine And.intro ?_ ?_
  |(intro r hr;simp only[]at hr)
  |intro r hr
 all_goals first
  |omega
  |(dsimp only at*;omega)
  |exact hr
  |(simp only[auD,ne_eq]at*;omega)
  |(simp only[avb,auN,auB,auE,auI];omega)
  |(rw[iC];simp only[avb,auN,auB,auE,auI];omega)
  |(simp only[avb,auN,auB,auE,auI]at*;omega)
  |exact(show∀y∈_,List.length y.1<=10 from abV) _ hr.2
  |(simp;done)
  |skip
theorem jX:OK iU.e:=by
 refine PA.ok mixed (aB [] trivial) H0 aa1 (show∀Uh least most,iU.goal (afX Uh least most) (Uh,least,most,())from ?_);intro x a b hin hp;dsimp only[iU]at hp ⊢;refine af (λh=>?_) λh=>?_
 .have h:=fE h;show(decide (x<=b),())=(decide (a<=x)&&decide (x<=b),());rw[auS (show a<=x from h)];rfl
 .have h:=fV h;show(false,())=(decide (a<=x)&&decide (x<=b),());rw[auU (show ¬a<=x from h)];rfl
theorem kE:OK ji.e:=by
 refine PA.ok mixed (aB [] trivial) H0 aa1 (show∀n low high,ji.goal (adJ n low high) (n,low,high,())from ?_);intro x a b hin hp;dsimp only[ji]at hp ⊢;refine af (λh=>?_) λh=>?_
 .show(decide (x<=b),())=(decide (a<=x)&&decide (x<=b),());rw[h];rfl
 .show(false,())=(decide (a<=x)&&decide (x<=b),());rw[h];rfl
theorem JK{s:List UInt8}{n:Nat}(hlt:n<s.length)(hl:Sp.lower s=true):97<=(s.getD n 0).toNat/\(s.getD n 0).toNat<=122:=by have:=auY.1 hl _ (getD_mem (d:=0) hlt);simpa using this
theorem Nu:OK yF.e:=by
 refine PA.ok mixed (aB [iU.e] ⟨jX,trivial⟩) adK aa1 (show∀s most,yF.goal (abC s most) (s,most,())from ?_);intro s most hin hp;dsimp only[yF]at hp ⊢;have hlen:s.length<=maxLen:=hin.1;rw[maxLen_eq]at hlen;refine⟨λy=>∃n:Nat,y.1.1=n/\n<=s.length/\Sp.lower (s.take n)=true,λy=>((s.length:Int)-y.1.1).toNat,⟨0,rfl,aaV,rfl⟩,?_⟩;rintro⟨⟨_,⟨⟩⟩,⟨⟩⟩ ⟨n,rfl,hn,hJ⟩;dsimp only;refine af (λh=>?_) λh=>?_<;>simp only[auP,avi]at h
 .have hlt:n<s.length:=aaV;rw[eF _ aaV,auW];refine⟨⟨aaV,aaV⟩,af (λh2=>?_) λh2=>⟨⟨aaV,aaV⟩,af (λh3=>?_) λh3=>?_⟩⟩<;>simp only[auP,avi]at*
  .cases hl:Sp.lower s with
   |false=>rfl
   |true=>have:=JK hlt hl;omega
  .cases hl:Sp.lower s with
   |false=>rfl
   |true=>have:=JK hlt hl;omega
  .refine⟨rfl,⟨n+1,abZ,aaV,?_⟩,afb⟩;rw[Sp.take_succ' s n 0 hlt];unfold Sp.lower at hJ ⊢;rw[axd,hJ];simp only[avM,axS,awS,awI,auC,auP];omega
 .have hge:n=s.length:=aaV;rw[hge,avQ]at hJ;rw[hJ];exact⟨trivial,rfl⟩
theorem zh:OK lK.e:=by refine PA.ok mixed (aB [yF.e] ⟨Nu,trivial⟩) H0 aa1 (show∀s,lK.goal (PY s) (s,())from ?_);intro s hin hp;dsimp only[lK]at hp ⊢;exact⟨trivial,rfl⟩
theorem sO:OK kK.e:=by
 refine PA.ok mixed (aB [lK.e,iU.e] ⟨zh,jX,trivial⟩) H0 aa1 (show∀v0 v1 v2,kK.goal (Ro v0 v1 v2) ((v0,v1,v2,()),())from ?_);intro k n s hin hp;dsimp only[kK]at hp ⊢;refine af (λh=>?_) λh=>af (λh2=>⟨trivial,af (λh3=>?_) λh3=>?_⟩) λh2=>af (λh3=>⟨trivial,af (λh4=>?_) λh4=>?_⟩) λh3=>?_
 .have e:k=0:=acs;subst e;exact congrArg (·,()) (ave.2 (by simp[bI]))
 .have e:k=1:=ah9;subst e;exact congrArg (·,()) (ave.2 (by simp only[auC,auP]at h3;simp[bI,h3]))
 .have e:k=1:=ah9;subst e;exact congrArg (·,()) (ave.2 (by simp only[bI,h3];simp))
 .have e:k=2:=apR;subst e;exact congrArg (·,()) (ave.2 (by simp[bI,h4]))
 .have e:k=2:=apR;subst e;exact congrArg (·,()) (ave.2 (by simp[bI,h4]))
 .have e1:k≠0:=acs;have e2:k≠1:=ah9;have e3:k≠2:=apR;exact congrArg (·,()) (ave.2 (by simp[bI,e1,e2,e3]))
theorem vI:OK ku.e:=by refine PA.ok mixed (aB [yF.e] ⟨Nu,trivial⟩) H0 aa1 (show∀s,ku.goal (Mc s) (s,())from ?_);intro s hin hp;dsimp only[ku]at hp ⊢;exact⟨trivial,rfl⟩
theorem X9:OK zF.e:=by
 refine PA.ok mixed (aB [] trivial) ZW aa1 (show∀s name,zF.goal (Ya s name) (s,name,())from ?_);intro s name hin hp;dsimp only[zF]at hp ⊢;have hlen:s.length<=maxLen:=hin.1.1;rw[maxLen_eq]at hlen;refine kW s.length hlen (λn=>∀i,i<n->(s.getD i ([],0,())).1≠name) (λi hi=>aaV) (λI μ n hn hJ next=>?_) λI μ hJ=>?_
 .dsimp only;refine eX aaV ⟨⟨aaV,aaV⟩,af (λh=>⟨⟨aaV,aaV⟩,?_⟩) λh=>⟨rfl,next λi hi=>?_⟩⟩
  .exact congrArg (·,()) (VZ s n hn hJ (by simpa only[auW,au5]using h)).symm
  .rcases au2 i n with h'|h'
   .exact hJ i h'
   .have:i=n:=aaV;subst this;have h2:((s.getD i ([],0,())).1==name)=false:=h;exactλe=>by rw[e]at h2;simp at h2
 .dsimp only;exact eG aaV (congrArg (·,()) (Om s hJ).symm)
theorem ET:OK oJ.e:=by
 refine PA.ok mixed (aB [iU.e,ku.e] ⟨jX,vI,trivial⟩) Rq aa1 (show∀s,oJ.goal (PZ s) (s,())from ?_);intro s hin hp;dsimp only[oJ]at hp ⊢;have hlen:s.length<=maxLen:=hin.1.1;rw[maxLen_eq]at hlen;refine kW s.length hlen (λn=>∀i,i<n->jC s i=true) (λi hi=>aaV) (λI μ n hn hJ next=>?_) λI μ hJ=>?_
 .dsimp only;have no:jC s n=false->(false,())=(dY s,()):=λh=>by rw[Y0 hn h]
  refine eX aaV ⟨⟨aaV,aaV⟩,trivial,af (λh2=>no ?_) λh2=>⟨⟨aaV,aaV⟩,trivial,af (λh3=>no ?_) λh3=>af (λh4=>?_) λh4=>⟨rfl,next (dR hJ ?_)⟩⟩⟩
  .have h2:dm (Sp.fieldAt s n).1=false:=iZ h2;unfold jC;rw[h2];rfl
  .have h2:dm (Sp.fieldAt s n).1=true:=fB h2;have h3:(decide (1<=(Sp.fieldAt s n).2.1)&&decide ((Sp.fieldAt s n).2.1<=2))=false:=iZ h3;unfold jC;rw[h2,h3];rfl
  .have h2:dm (Sp.fieldAt s n).1=true:=fB h2;have h3:(decide (1<=(Sp.fieldAt s n).2.1)&&decide ((Sp.fieldAt s n).2.1<=2))=true:=fB h3;have h4:0<n:=amV;rw[zi h4 aaV];refine⟨⟨aaV,aaV⟩,⟨aaV,aaV⟩,af (λh5=>no ?_) λh5=>⟨rfl,next (dR hJ ?_)⟩⟩
   .have h5:Op.bytesLess (Sp.fieldAt s (n-1)).1 (Sp.fieldAt s n).1=false:=iZ h5;unfold jC;rw[h2,h3,h5,auS h4];rfl
   .have h5:Op.bytesLess (Sp.fieldAt s (n-1)).1 (Sp.fieldAt s n).1=true:=fB h5;unfold jC;rw[h2,h3,h5,auS h4];rfl
  .have h2:dm (Sp.fieldAt s n).1=true:=fB h2;have h3:(decide (1<=(Sp.fieldAt s n).2.1)&&decide ((Sp.fieldAt s n).2.1<=2))=true:=fB h3;have h4:¬0<n:=amv;unfold jC;rw[h2,h3,auU h4];rfl
 .dsimp only;refine eG aaV (congrArg (·,()) ?_);unfold dY;rw[ni hJ];rfl
theorem P5:OK rZ.e:=by
 refine PA.ok mixed (aB [zF.e,kK.e] ⟨X9,sO,trivial⟩) H0 aa1 (show∀s name v0 v1 v2,rZ.goal (P6 s name v0 v1 v2) (s,name,(v0,v1,v2,()),())from ?_);intro fs s k n w hin hp;dsimp only[rZ]at hp ⊢;refine⟨trivial,af (λh=>af (λh2=>⟨trivial,?_⟩) λh2=>?_) λh=>?_⟩
 .exact congrArg (·,()) (ave.2 (by simp only[bne_iff_ne,ne_eq]at h2;simp[iV,h,h2]))
 .exact congrArg (·,()) (ave.2 (by simp at h2;simp[iV,h2]))
 .exact congrArg (·,()) (ave.2 (by simp[iV,h]))
theorem GU:OK qI.e:=by
 refine PA.ok mixed (aB [iU.e,oJ.e,rZ.e] ⟨jX,ET,P5,trivial⟩) V3 aa1 (show∀s f0 f1 f2 f3 f4,qI.goal (Ur s f0 f1 f2 f3 f4) (s,(f0,f1,f2,f3,f4,()),())from ?_);intro fs f0 f1 f2 f3 f4 hin hp;dsimp only[qI]at hp ⊢;have hlen:f4.length<=maxLen:=hin.2.1.2.2.2.2.1.1;rw[maxLen_eq]at hlen;refine kW f4.length hlen (λn=>∀i,i<n->jI fs f4 i=true) (λi hi=>aaV) (λI μ n hn hJ next=>?_) λI μ hJ=>?_
 .dsimp only;have no:jI fs f4 n=false->(false,())=(dB fs (f0,f1,f2,f3,f4,()),()):=λh=>by rw[afa (f:=(f0,f1,f2,f3,f4,())) hn h]
  refine eX aaV ⟨⟨aaV,aaV⟩,⟨aaV,aaV⟩,trivial,af (λh2=>no ?_) λh2=>af (λh4=>?_) λh4=>⟨rfl,next (dR hJ ?_)⟩⟩
  .have h2:iV fs (bP f4 n).1 (bP f4 n).2.1 (bP f4 n).2.2.1 (bP f4 n).2.2.2.1=false:=iZ h2;unfold jI;rw[h2];rfl
  .have h2:iV fs (bP f4 n).1 (bP f4 n).2.1 (bP f4 n).2.2.1 (bP f4 n).2.2.2.1=true:=fB h2;have h4:0<n:=amV;rw[zi h4 aaV];refine⟨⟨aaV,aaV⟩,⟨aaV,aaV⟩,af (λh5=>no ?_) λh5=>⟨rfl,next (dR hJ ?_)⟩⟩
   .have h5:Op.bytesLess (bP f4 (n-1)).1 (bP f4 n).1=false:=iZ h5;unfold jI;rw[h2,h5,auS h4];rfl
   .have h5:Op.bytesLess (bP f4 (n-1)).1 (bP f4 n).1=true:=fB h5;unfold jI;rw[h2,h5,auS h4];rfl
  .have h2:iV fs (bP f4 n).1 (bP f4 n).2.1 (bP f4 n).2.2.1 (bP f4 n).2.2.2.1=true:=fB h2;have h4:¬0<n:=amv;unfold jI;rw[h2,auU h4];rfl
 .dsimp only;have ha:kC fs f4=true:=ni hJ;refine eG aaV ⟨trivial,af (λh1=>⟨trivial,af (λh2=>⟨trivial,af (λh3=>⟨trivial,?_⟩) λh3=>?_⟩) λh2=>?_⟩) λh1=>?_⟩
  .refine congrArg (·,()) ?_;unfold dB;rw[ha,h1,h2,h3];rfl
  .refine congrArg (·,()) ?_;unfold dB;rw[ha,h1,h2,h3];rfl
  .refine congrArg (·,()) ?_;unfold dB;rw[ha,h1,h2];rfl
  .refine congrArg (·,()) ?_;unfold dB;rw[ha,h1];rfl
theorem zV:OK mQ.e:=by
 refine PA.ok mixed (aB [iU.e,oJ.e,qI.e] ⟨jX,ET,GU,trivial⟩) Us aa1 (show∀s0 s1 s2,mQ.goal (Rt s0 s1 s2) ((s0,s1,s2,()),())from ?_);intro s0 s1 s2 hin hp;dsimp only[mQ]at hp ⊢;have hlen:s1.length<=maxLen:=hin.1.2.1.1;rw[maxLen_eq]at hlen;refine kW s1.length hlen (λn=>∀i,i<n->lF (s0,s1,s2,()) i=true) (λi hi=>aaV) (λI μ n hn hJ next=>?_) λI μ hJ=>?_
 .dsimp only;have no:lF (s0,s1,s2,()) n=false->(false,())=(bT (s0,s1,s2,()),()):=λh=>by rw[abD (s:=(s0,s1,s2,())) hn h]
  refine eX aaV ⟨⟨aaV,aaV⟩,trivial,af (λh2=>no ?_) λh2=>⟨⟨aaV,aaV⟩,af (λh3=>no ?_) λh3=>af (λh4=>?_) λh4=>⟨rfl,next (dR hJ ?_)⟩⟩⟩
  .have h2:dB s0 (Sp.fileAt s1 n)=false:=iZ h2;show(dB s0 (Sp.fileAt s1 n)&&_&&_)=false;rw[h2];rfl
  .have h2:dB s0 (Sp.fileAt s1 n)=true:=fB h2;have h3:¬(Sp.fileAt s1 n).1<s2:=by have h3:(Sp.fileAt s1 n).1>=s2:=fE h3;omega
   show(dB s0 (Sp.fileAt s1 n)&&decide ((Sp.fileAt s1 n).1<s2)&&_)=false;rw[h2,auU h3];rfl
  .have h2:dB s0 (Sp.fileAt s1 n)=true:=fB h2;have h3:(Sp.fileAt s1 n).1<s2:=alJ;have h4:0<n:=amV;rw[zi h4 aaV];refine⟨⟨aaV,aaV⟩,⟨aaV,aaV⟩,af (λh5=>no ?_) λh5=>⟨rfl,next (dR hJ ?_)⟩⟩
   .have h5:¬(Sp.fileAt s1 (n-1)).1<(Sp.fileAt s1 n).1:=by have h5:(Sp.fileAt s1 (n-1)).1>=(Sp.fileAt s1 n).1:=fE h5;omega
    show(dB s0 (Sp.fileAt s1 n)&&decide ((Sp.fileAt s1 n).1<s2)&&!(decide (0<n)&&!decide ((Sp.fileAt s1 (n-1)).1<(Sp.fileAt s1 n).1)))=false;rw[h2,auS h3,auS h4,auU h5];rfl
   .have h5:(Sp.fileAt s1 (n-1)).1<(Sp.fileAt s1 n).1:=by have h5:¬(Sp.fileAt s1 (n-1)).1>=(Sp.fileAt s1 n).1:=fV h5;omega
    show(dB s0 (Sp.fileAt s1 n)&&decide ((Sp.fileAt s1 n).1<s2)&&!(decide (0<n)&&!decide ((Sp.fileAt s1 (n-1)).1<(Sp.fileAt s1 n).1)))=true;rw[h2,auS h3,auS h4,auS h5];rfl
  .have h2:dB s0 (Sp.fileAt s1 n)=true:=fB h2;have h3:(Sp.fileAt s1 n).1<s2:=alJ;have h4:¬0<n:=amv;show(dB s0 (Sp.fileAt s1 n)&&decide ((Sp.fileAt s1 n).1<s2)&&!(decide (0<n)&&!decide ((Sp.fileAt s1 (n-1)).1<(Sp.fileAt s1 n).1)))=true;rw[h2,auS h3,auU h4];rfl
 .dsimp only;have ha:jd s1.length (lF (s0,s1,s2,()))=true:=ni hJ;refine eG aaV ⟨trivial,af (λh1=>af (λh2=>⟨trivial,?_⟩) λh2=>?_) λh1=>?_⟩
  .refine congrArg (·,()) ?_;show _=(jd s1.length (lF (s0,s1,s2,()))&&dY s0&&decide ((s1.length:Int)<=12)&&(decide (1<=s2)&&decide (s2<=61)));rw[ha,h1,h2];rfl
  .refine congrArg (·,()) ?_;show _=(jd s1.length (lF (s0,s1,s2,()))&&dY s0&&decide ((s1.length:Int)<=12)&&(decide (1<=s2)&&decide (s2<=61)));rw[ha,h1,h2];rfl
  .refine congrArg (·,()) ?_;show _=(jd s1.length (lF (s0,s1,s2,()))&&dY s0&&decide ((s1.length:Int)<=12)&&(decide (1<=s2)&&decide (s2<=61)));rw[ha,h1];rfl
theorem V4:OK xR.e:=by
 refine PA.ok mixed (aB [] trivial) Yb aa1 (show∀a b,xR.goal (V5 a b) (a,b,())from ?_);intro a b hin hp;dsimp only[xR]at hp ⊢;have hlen:a.length<=maxLen:=hin.1.1;rw[maxLen_eq]at hlen;refine af (λh=>?_) λh=>?_
 .have h:(a.length:Int)≠b.length:=acs;exact congrArg (·,()) (auU λe=>h ar2).symm
 .have h:(a.length:Int)=b.length:=acs;exact Hq (K:=λr=>r=(decide (a=b),())) (λx y=>!(x.1==y.1&&(x.2.1==y.2.1&&true))) (λx y=>aqM) _ a b _ hlen aaV (λe=>arM) λe=>arN
theorem Yc:OK zH.e:=by
 refine PA.ok mixed (aB [] trivial) ZX aa1 (show∀a b,zH.goal (Yd a b) (a,b,())from ?_);intro a b hin hp;dsimp only[zH]at hp ⊢;have hlen:a.length<=maxLen:=hin.1.1;rw[maxLen_eq]at hlen;refine af (λh=>?_) λh=>?_
 .have h:(a.length:Int)≠b.length:=acs;exact congrArg (·,()) (auU λe=>h ar2).symm
 .have h:(a.length:Int)=b.length:=acs;exact Hq (K:=λr=>r=(decide (a=b),())) (λx y=>!(x.1==y.1&&(x.2.1==y.2.1&&(x.2.2.1==y.2.2.1&&(x.2.2.2.1==y.2.2.2.1&&true))))) (λx y=>aqM) _ a b _ hlen aaV (λe=>arM) λe=>arN
theorem ZY:OK Ba.e:=by
 refine PA.ok mixed (aB [zH.e] ⟨Yc,trivial⟩) H0 aa1 (show∀a0 a1 a2 a3 a4 b0 b1 b2 b3 b4,Ba.goal (Z4 a0 a1 a2 a3 a4 b0 b1 b2 b3 b4) ((a0,a1,a2,a3,a4,()),(b0,b1,b2,b3,b4,()),())from ?_);intro a0 a1 a2 a3 a4 b0 b1 b2 b3 b4 hin hp;dsimp only[Ba]at hp ⊢;refine af (λh0=>af (λh1=>af (λh2=>af (λh3=>⟨trivial,?_⟩) λh3=>?_) λh2=>?_) λh1=>?_) λh0=>?_
 all_goals refine congrArg (·,()) (ave.2 ?_)
 .simp only[au5]at h0 h1 h2 h3;subst h0 h1 h2 h3;simp
 .have h3:a3≠b3:=apR;simp[h3]
 .have h2:a2≠b2:=ah9;simp[h2]
 .have h1:a1≠b1:=apQ;simp[h1]
 .have h0:a0≠b0:=by simpa using h0
  simp[h0]
theorem Ye:OK zI.e:=by
 refine PA.ok mixed (aB [Ba.e] ⟨ZY,trivial⟩) Z5 aa1 (show∀a b,zI.goal (Yf a b) (a,b,())from ?_);intro a b hin hp;dsimp only[zI]at hp ⊢;have hlen:a.length<=maxLen:=hin.1.1;rw[maxLen_eq]at hlen;refine af (λh=>?_) λh=>?_
 .have h:(a.length:Int)≠b.length:=acs;exact congrArg (·,()) (auU λe=>h ar2).symm
 .have h:(a.length:Int)=b.length:=acs;exact ahA (K:=λr=>r=(decide (a=b),())) (λx y=>!decide ((x.1,x.2.1,x.2.2.1,x.2.2.2.1,x.2.2.2.2.1,())=(y.1,y.2.1,y.2.2.1,y.2.2.2.1,y.2.2.2.2.1,()))) (λx y=>aqM) _ a b _ hlen aaV (λe=>arM) λe=>arN
theorem Jo:OK uh.e:=by
 refine PA.ok mixed (aB [zI.e,xR.e] ⟨Ye,V4,trivial⟩) H0 aa1 (show∀a0 a1 a2 b0 b1 b2,uh.goal (Yg a0 a1 a2 b0 b1 b2) ((a0,a1,a2,()),(b0,b1,b2,()),())from ?_);intro a0 a1 a2 b0 b1 b2 hin hp;dsimp only[uh]at hp ⊢;refine⟨trivial,af (λh0=>⟨trivial,af (λh1=>?_) λh1=>?_⟩) λh0=>?_⟩
 all_goals refine congrArg (·,()) (ave.2 ?_)
 .have h0:=fE h0;have h1:=fE h1;subst h0 h1;simp
 .have h1:=fV h1;simp[h1]
 .have h0:=fV h0;simp[h0]
theorem Nv:OK yG.e:=by refine PA.ok mixed (aB [] trivial) adL aa1 (show∀f0 f1 f2 f3 f4,yG.goal (abE f0 f1 f2 f3 f4) ((f0,f1,f2,f3,f4,()),())from ?_);intro f0 f1 f2 f3 f4 hin hp;dsimp only[yG]at hp ⊢;have hp:f4.length<=1000:=hp;exact⟨amw,rfl⟩
theorem adM:OK D6.e:=by refine PA.ok mixed (aB [ji.e] ⟨kE,trivial⟩) H0 aa1 (show∀n,D6.goal (adN n) (n,())from ?_);intro n hin hp;dsimp only[D6]at hp ⊢;exact⟨trivial,rfl⟩
theorem Z7:OK Bc.e:=by
 refine PA.ok mixed (aB [] trivial) abG aa1 (show∀s0 s1 s2 id,Bc.goal (Z8 s0 s1 s2 id) ((s0,s1,s2,()),id,())from ?_);intro s0 s1 s2 id hin hp;dsimp only[Bc]at hp ⊢;have hlen:s1.length<=maxLen:=hin.1.2.1.1;rw[maxLen_eq]at hlen;refine kW s1.length hlen (λn=>∀i,i<n->(Sp.fileAt s1 i).1≠id) (λi hi=>aaV) (λI μ n hn hJ next=>?_) λI μ hJ=>?_
 .dsimp only;refine eX aaV ⟨⟨aaV,aaV⟩,af (λh=>?_) λh=>⟨rfl,next λi hi=>?_⟩⟩
  .have h:(Sp.fileAt s1 n).1=id:=fE h;exact congrArg (·,()) (Sp.KZ hn hJ h).symm
  .rcases au2 i n with h'|h'
   .exact hJ i h'
   .have:i=n:=aaV;subst this;have h:¬(Sp.fileAt s1 i).1=id:=fV h;exact h
 .dsimp only;exact eG aaV (congrArg (·,()) (abH hJ).symm)
theorem set_self{fs:List aQ}{n:Nat}(hn:n<fs.length):fs.set n (fs.getD n (0,0,false,0,[],()))=fs:=by
 refine aw1 abZ λi h1 h2=>?_;rw[List.getElem_set];split
 .next e=>subst e;rw[auF,auJ hn];rfl
 .rfl
theorem La{s:List aY}(p:aY->Bool){n:Nat}(hn:n<s.length):(s.take (n+1)).filter p=(s.take n).filter p++(if p (bP s n)=true then[bP s n]else[]):=by
 rw[Sp.take_succ' s n ([],0,0,[],()) hn,List.filter_append];congr 1;show List.filter _ [bP s n]=_;by_cases h:p (bP s n)=true
 .rw[List.filter_cons_of_pos h,if_pos h];rfl
 .rw[List.filter_cons_of_neg h,if_neg h];rfl
theorem abI(s:List aY)(p:aY->Bool)(n:Nat):((s.take n).filter p).length<=n:=by have:=axv p (s.take n);rw[auN]at this;omega
theorem ahB(al:List aY)(name:Sp.Bytes)(n:Int)(s:Sp.Bytes):jR al name 0 n s=al.filter (oW name):=rfl
theorem ak4{al:List aY}{name:Sp.Bytes}{k n:Int}{s:Sp.Bytes}(hk:k≠0){l:List aY}(hl:l=al.filter (oW name)){m:Nat}(hm:m<=l.length)
 (h1:∀i,i<m->qo name (bP l i)=true) (h2:m<l.length->qo name (bP l m)=false):
 List.drop 0 (List.take m l)++[(name,k,n,s,())]++List.drop m (List.take l.length l)=jR al name k n s:=by
 obtain⟨e1,e2⟩:=Lc (d:=(([]:List UInt8),(0:Int),(0:Int),([]:List UInt8),())) l m hm h1 h2;unfold jR XJ;rw[auU hk,← hl];show _=l.takeWhile (qo name)++_::l.dropWhile (qo name);rw[e1,e2,avQ,awn,auR];rfl
theorem Nw:OK yH.e:=by
 refine XA.ok mixed (aB [] trivial) adO (λ⟨(i,o,s,l,a,_),name,(k,n,w,_),_⟩ _=>⟨(((i,o,s,l,jR a name k n w,()),()),()),⟨rfl,rfl,rfl,rfl,rfl⟩⟩) aa1 (show∀f0 f1 f2 f3 f4 name v0 v1 v2,yH.goal (abJ f0 f1 f2 f3 f4 name v0 v1 v2) ((f0,f1,f2,f3,f4,()),name,(v0,v1,v2,()),())from ?_);intro f0 f1 f2 f3 f4 name k n s hin hp;dsimp only[yH]at hp ⊢;have hp:f4.length<=1000:=hp;refine fZ (λi(x:List aY)=>(((),i,()),x,())) (λy=>y.1.2.1) (λ_ _=>rfl) f4.length aaV (λm l=>l=(f4.take m).filter (oW name)) abZ (λI μ m l hm hJ next=>?_) λI μ l hJ=>?_
 .subst hJ;have hl:=abI f4 (oW name) m;dsimp only;refine eX aaV ⟨⟨aaV,aaV⟩,af (λh=>⟨⟨aaV,aaV⟩,akg,rfl,next _ ?_⟩) λh=>⟨rfl,next _ ?_⟩⟩
  .rw[La _ hm,if_pos (show oW name (bP f4 m)=true from h)];rfl
  .rw[La _ hm,if_neg (show ¬oW name (bP f4 m)=true fromλh'=>by have h:oW name (bP f4 m)=false:=h;rw[h]at h';cases h'),au7]
 .rw[avQ]at hJ;have hl:l.length<=1000:=by rw[hJ];have:=axv (oW name) f4;omega
  dsimp only;refine eG aaV (af (λh=>?_) λh=>?_)
  .have hk:k≠0:=acs;have fin:∀m:Nat,m<=l.length->(∀i,i<m->qo name (bP l i)=true)->(m<l.length->qo name (bP l m)=false)->
    ((0:Int)<=m/\(m:Int)<=l.length)/\0+(List.drop 0 (List.take m l)).length<=big/\(List.drop 0 (List.take m l)).length+[(name,k,n,s,())].length<=big/\((0:Int)<=m/\(m:Int)<=l.length)/\
    (List.drop 0 (List.take m l)++[(name,k,n,s,())]).length+(List.drop m (List.take l.length l)).length<=big/\
    (f0=f0/\f1=f1/\f2=f2/\f3=f3/\List.drop 0 (List.take m l)++[(name,k,n,s,())]++List.drop m (List.take l.length l)=jR f4 name k n s):=by
    intro m hm h1 h2;refine⟨⟨aaV,aaV⟩,?_,?_,⟨aaV,aaV⟩,?_,rfl,rfl,rfl,rfl,ak4 hk hJ hm h1 h2⟩
    all_goals
     rw[iC];simp only[auB,au9,auN,auE,auI];omega
   refine kW l.length aaV (λm=>∀i,i<m->qo name (bP l i)=true) (λi hi=>aaV) (λI μ m hm hJ2 next=>?_) λI μ hJ2=>?_
   .dsimp only;refine eX aaV ⟨⟨aaV,aaV⟩,hm,af (λh2=>⟨rfl,next (dR (f:=λi=>qo name (bP l i)) hJ2 h2)⟩) λh2=>?_⟩;exact fin m aaV hJ2 λ_=>h2
   .dsimp only;exact eG aaV (fin l.length (auH _) hJ2 λh'=>aaV)
  .have hk:k=0:=acs;subst hk;exact⟨rfl,rfl,rfl,rfl,by rw[ahB];exact hJ⟩
theorem Z9:OK Bd.e:=by refine XA.ok mixed (aB [] trivial) abK (λ⟨s,_⟩ _=>⟨(((s,[],1,()),()),()),⟨rfl,rfl,rfl⟩⟩) aa1 (show∀s,Bd.goal (aac s) (s,())from ?_);intro s hin hp;dsimp only[Bd]at hp ⊢;have hp:s.length<=1000:=hp;exact⟨amw,rfl,rfl,rfl⟩
theorem Ny:OK yI.e:=by
 refine XA.ok mixed (aB [yG.e] ⟨Nv,trivial⟩) adP (λ⟨(a,l,nx,_),_⟩ _=>⟨(((a,l,nx,()),()),()),rfl⟩) aa1 (show∀s0 s1 s2,yI.goal (abL s0 s1 s2) ((s0,s1,s2,()),())from ?_);intro s0 s1 s2 hin hp;dsimp only[yI]at hp ⊢;obtain⟨h0,h1,h2⟩:s0.length<=1000/\s1.length<=1000/\∀f∈s1,vX f:=hp;refine⟨amw,?_⟩;refine fZ (λi(x:List aQ)=>((i,()),((),(),s2,()),x,())) (λy=>y.1.1) (λ_ _=>rfl) s1.length aaV (λn l=>l=s1.take n) abZ (λI μ n l hn hJ next=>?_) λI μ l hJ=>?_
 .subst hJ;have hl:(s1.take n).length<=n:=ah8;dsimp only;refine eX aaV ⟨⟨aaV,aaV⟩,h2 _ (getD_mem (d:=((0:Int),(0:Int),false,(0:Int),[],())) hn),akg,rfl,next _ ?_⟩;exact(Sp.take_succ' s1 n (0,0,false,0,[],()) hn).symm
 .subst hJ;dsimp only;refine eG aaV ?_;rw[avQ]
theorem II:OK rO.e:=by
 refine XA.ok mixed (aB [qI.e,mQ.e,yG.e,yI.e] ⟨GU,zV,Nv,Ny,trivial⟩) Yh (λ⟨s,f,_⟩ _=>⟨((((bQ s f).1.1,(bQ s f).1.2.1,(bQ s f).1.2.2.1,()),(bQ s f).2.1,(bQ s f).2.2,()),()),⟨rfl,rfl,rfl,rfl,rfl⟩⟩) aa1 (show∀s0 s1 s2 f0 f1 f2 f3 f4,rO.goal (V6 s0 s1 s2 f0 f1 f2 f3 f4) ((s0,s1,s2,()),(f0,f1,f2,f3,f4,()),())from ?_);intro s0 s1 s2 f0 f1 f2 f3 f4 hin hp;dsimp only[rO]at hp ⊢;refine⟨hp.1,?_⟩;rintro⟨⟨⟨a,l,nx,⟨⟩⟩,⟨⟩⟩,⟨⟩⟩ e;obtain⟨rfl,rfl,rfl⟩:a=s0/\l=s1/\nx=s2:=by simpa using e
 have hs:l.length<=1000:=hp.1.2.1;have no:¬(bT (a,l,nx,())=true/\l.length<12/\dB a (nx,f1,f2,f3,f4,())=true)->bQ (a,l,nx,()) (f0,f1,f2,f3,f4,())=((a,l,nx,()),0,false):=λh=>by
  rcases nS (a,l,nx,()) (f0,f1,f2,f3,f4,())with⟨e,_⟩|⟨h1,h2,h3,_⟩
  .exact e
  .exact(h ⟨h1,h2,h3⟩).elim
 refine⟨hp.2,trivial,af (λh1=>?_) λh1=>af (λh2=>?_) λh2=>⟨trivial,af (λh3=>?_) λh3=>?_⟩⟩
 .have:=no λh=>by have h1:=iZ h1;have:=h.1;rw[show bT (a,l,nx,())=false from h1]at this;cases this
  dsimp only;rw[this];exact⟨rfl,rfl,rfl,rfl,rfl⟩
 .have:=no λh=>by have h2:(l.length:Int)>=12:=fE h2;omega
  dsimp only;rw[this];exact⟨rfl,rfl,rfl,rfl,rfl⟩
 .have:=no λh=>by have h3:=iZ h3;have:=h.2.2;rw[show dB a (nx,f1,f2,f3,f4,())=false from h3]at this;cases this
  dsimp only;rw[this];exact⟨rfl,rfl,rfl,rfl,rfl⟩
 .have g1:bT (a,l,nx,())=true:=fB h1;have g2:l.length<12:=by have h2:¬(l.length:Int)>=12:=fV h2;omega
  have g3:dB a (nx,f1,f2,f3,f4,())=true:=fB h3;rcases nS (a,l,nx,()) (f0,f1,f2,f3,f4,())with⟨_,e⟩|⟨_,_,_,e⟩
  .exact(e ⟨g1,g2,g3⟩).elim
  .have hnx:=(oG.1 g1).2.2.2;have w:IntKind.i64.wrap (nx+1)=nx+1:=eF _ (by have h5:nx<=61:=hnx.2;have h6:1<=nx:=hnx.1;omega);refine⟨akg,?_⟩;dsimp only;rw[e,w];exact⟨rfl,rfl,rfl,rfl,rfl⟩
theorem V7:OK xU.e:=by
 refine XA.ok mixed (aB [mQ.e,Bc.e,yI.e] ⟨zV,Z7,Ny,trivial⟩) Yi (λ⟨s,id,_⟩ _=>⟨((((eU s id).1.1,(eU s id).1.2.1,(eU s id).1.2.2.1,()),(eU s id).2,()),()),⟨rfl,rfl,rfl,rfl⟩⟩) aa1 (show∀s0 s1 s2 id,xU.goal (V8 s0 s1 s2 id) ((s0,s1,s2,()),id,())from ?_);intro s0 s1 s2 id hin hp;dsimp only[xU]at hp ⊢;refine⟨hp,?_⟩;rintro⟨⟨⟨a,l,nx,⟨⟩⟩,⟨⟩⟩,⟨⟩⟩ e;obtain⟨rfl,rfl,rfl⟩:a=s0/\l=s1/\nx=s2:=by simpa using e
 have hs:l.length<=1000:=hp.2.1;have no:¬(bT (a,l,nx,())=true/\0<=Sp.place l id)->eU (a,l,nx,()) id=((a,l,nx,()),false):=λh=>by
  rcases uG (a,l,nx,()) id with⟨e,_⟩|⟨n,hn,h1,h2,_⟩
  .exact e
  .exact(h ⟨h2,by have h1:Sp.place l id=n:=h1;omega⟩).elim
 refine⟨trivial,trivial,af (λh1=>?_) λh1=>af (λh2=>?_) λh2=>?_⟩
 .have:=no λh=>by have h1:=iZ h1;have:=h.1;rw[show bT (a,l,nx,())=false from h1]at this;cases this
  dsimp only;rw[this];exact⟨rfl,rfl,rfl,rfl⟩
 .have:=no λh=>by have h2:Sp.place l id<0:=fE h2;omega
  dsimp only;rw[this];exact⟨rfl,rfl,rfl,rfl⟩
 .have g1:bT (a,l,nx,())=true:=fB h1;have g2:0<=Sp.place l id:=by have h2:¬Sp.place l id<0:=fV h2;omega
  rcases uG (a,l,nx,()) id with⟨_,e⟩|⟨n,hn,hpl,_,e⟩
  .exact(e ⟨g1,g2⟩).elim
  .have hn:n<l.length:=hn;have hpl:Sp.place l id=n:=hpl;have w:IntKind.i64.wrap ((n:Int)+1)=((n+1:Nat):Int):=eF _ aaV;dsimp only;rw[hpl,e,w,auW,auW,awn,avQ,iC];refine⟨⟨aaV,aaV⟩,ah8,⟨aaV,aaV⟩,by rw[auN,au9];omega,rfl,?_,rfl,rfl⟩;exact(List.eraseIdx_eq_take_drop_succ ..).symm
def XK(L:List (List aY))(name:Sp.Bytes)(vals:List (Int×Int×Sp.Bytes)):List (List aY):=L++L.flatMap λa=>vals.map λv=>jR a name v.1 v.2.1 v.2.2
theorem tC{L:List (List aY)}{name:Sp.Bytes}{vals:List (Int×Int×Sp.Bytes)}{a:List aY}(h:a∈L):a∈XK L name vals:=avp _ h
theorem Nz{L:List (List aY)}{name:Sp.Bytes}{vals:List (Int×Int×Sp.Bytes)}{a:List aY}(h:a∈L){k n:Int}{s:Sp.Bytes}(hv:(k,n,s)∈vals):jR a name k n s∈XK L name vals:=
 avJ _ (axq.2 ⟨a,h,avO.2 ⟨(k,n,s),hv,rfl⟩⟩)
def ints:List (Int×Int×Sp.Bytes):=[(1,0,[]),(1,1,[]),(1,2,[]),(1,3,[])]
def names:List (Int×Int×Sp.Bytes):=[(2,0,[105,110,107]),(2,0,[115,101,97])]
def tags:List (Int×Int×Sp.Bytes):=[(2,0,[114,101,100]),(2,0,[98,108,117,101])]
def abM:List (List aY):=XK [[]] [97] ints
def abN:List (List aY):=XK abM [98] ints
def abO:List (List aY):=XK abN [110] names
def abP:List (List aY):=XK abO [116] tags
theorem anD:(abP.all λa=>kC Sp.usual a&&decide (a.length<=4))=true:=aa1
theorem NC{a:List aY}(h:a∈abP):kC Sp.usual a=true/\a.length<=4:=by have:=auY.1 anD a h;simpa using this
theorem aph{a:List aY}(h:a∈abM):a.length<=4:=(NC (tC (tC (tC h)))).2
theorem apj{a:List aY}(h:a∈abN):a.length<=4:=(NC (tC (tC h))).2
theorem apk{a:List aY}(h:a∈abO):a.length<=4:=(NC (tC h)).2
theorem ahC{x:Int}(h0:0<=x)(h1:x<4):((1:Int),x,([]:Sp.Bytes))∈ints:=by rcases(show x=0\/x=1\/x=2\/x=3 from aaV)with h|h|h|h<;>subst h<;>simp[ints]
theorem amq{w:Sp.Bytes}(h:(w,())∈[(([105,110,107]:Sp.Bytes),()),([115,101,97],())]):((2:Int),(0:Int),w)∈names:=by simp only[auQ,Prod.mk.injEq,axR,axT,or_false]at h;rcases h with h|h<;>subst h<;>simp[names]
theorem anE{w:Sp.Bytes}(h:(w,())∈[(([114,101,100]:Sp.Bytes),()),([98,108,117,101],())]):((2:Int),(0:Int),w)∈tags:=by simp only[auQ,Prod.mk.injEq,axR,axT,or_false]at h;rcases h with h|h<;>subst h<;>simp[tags]
def Head(id:Int)(f:Int×Int×Bool×Int×Unit×Unit):Prop:=f.1=id/\0<=f.2.1/\f.2.1<=2/\0<=f.2.2.2.1/\f.2.2.2.1<=6
theorem F7:OK tK.e:=by
 refine XA.ok mixed (aB [jL.e,jh.e,yH.e,oI.e,qi.e,bU.e] ⟨qf,kT,Nw,zU,F6,dA,trivial⟩) adQ (λ⟨_,id,_⟩ _=>⟨(((id,0,false,0,[],()),()),(([],0,0,()),())),⟨ap9,rfl,ap9,ap9,ap9,ap9,rfl,ap9⟩⟩) aa1 (show∀c0 c1 c2 id,tK.goal (abQ c0 c1 c2 id) ((c0,c1,c2,()),id,())from ?_);intro b i h id hin hp;dsimp only[tK]at hp ⊢;have hp:0<=i:=hp;refine⟨hp,?_⟩;rintro⟨⟨x0,⟨⟩⟩,⟨b0,i0,g0,⟨⟩⟩,⟨⟩⟩ ⟨p0,q0,q1,_⟩;refine⟨p0,?_⟩;rintro⟨⟨x1,⟨⟩⟩,⟨b1,i1,g1,⟨⟩⟩,⟨⟩⟩ p1;have q1:x0<3:=q1 abV;have q0:0<=x0:=q0;refine⟨λy=>0<=y.2.1.2.1/\Head id y.2.2.1,⟨p1,?_⟩,?_⟩
 .rintro⟨⟨x3,⟨⟩⟩,⟨b3,i3,g3,⟨⟩⟩,⟨⟩⟩ p3;refine af (λ_=>⟨p3,?_⟩) λ_=>⟨rfl,p3,rfl,q0,(show x0<=2 from aaV),avt _,(show(0:Int)<=6 from abV)⟩;rintro⟨⟨x4,⟨⟩⟩,⟨b4,i4,g4,⟨⟩⟩,⟨⟩⟩ ⟨p4,q4,q5,_⟩;have q5:x4<7:=q5 abV;exact⟨rfl,p4,rfl,q0,(show x0<=2 from aaV),q4,(show x4<=6 from aaV)⟩
 rintro⟨⟨⟩,⟨b5,i5,g5,⟨⟩⟩,f5,⟨⟩⟩ ⟨p5,H5⟩;refine⟨λy=>0<=y.2.1.2.1/\Head id y.2.2.1/\y.2.2.2.1∈abM,⟨p5,?_⟩,?_⟩
 .rintro⟨⟨x7,⟨⟩⟩,⟨b7,i7,g7,⟨⟩⟩,⟨⟩⟩ p7;refine af (λ_=>⟨p7,?_⟩) λ_=>⟨rfl,p7,H5,tC auO⟩;rintro⟨⟨x8,⟨⟩⟩,⟨b8,i8,g8,⟨⟩⟩,⟨⟩⟩ ⟨p8,q8,q9,_⟩;refine⟨trivial,(show(0:Nat)<=1000 from abV),?_⟩;rintro⟨⟨⟨d,o,s,l,a,⟨⟩⟩,⟨⟩⟩,⟨⟩⟩ ⟨e1,e2,e3,e4,e5⟩;refine⟨rfl,p8,?_,?_⟩
  .exact⟨(show d=id from(show d=f5.1 from e1).trans H5.1),by rw[show o=f5.2.1 from e2];exact H5.2.1,by rw[show o=f5.2.1 from e2];exact H5.2.2.1,by rw[show l=f5.2.2.2.1 from e4];exact H5.2.2.2.1,by rw[show l=f5.2.2.2.1 from e4];exact H5.2.2.2.2⟩
  .have e5:a=jR [] [97] 1 x8 []:=e5;show a∈abM;rw[e5];exact Nz auO (ahC q8 (q9 abV))
 rintro⟨⟨⟩,⟨b11,i11,g11,⟨⟩⟩,f11,a11,⟨⟩⟩ ⟨p11,H11,m11⟩;refine⟨λy=>0<=y.2.1.2.1/\Head id y.2.2.1/\y.2.2.2.1∈abN,⟨p11,?_⟩,?_⟩
 .rintro⟨⟨x7,⟨⟩⟩,⟨b7,i7,g7,⟨⟩⟩,⟨⟩⟩ p7;refine af (λ_=>⟨p7,?_⟩) λ_=>⟨rfl,p7,H11,tC m11⟩;rintro⟨⟨x8,⟨⟩⟩,⟨b8,i8,g8,⟨⟩⟩,⟨⟩⟩ ⟨p8,q8,q9,_⟩;refine⟨trivial,auK (aph m11) abV,?_⟩;rintro⟨⟨⟨d,o,s,l,a,⟨⟩⟩,⟨⟩⟩,⟨⟩⟩ ⟨e1,e2,e3,e4,e5⟩;refine⟨rfl,p8,?_,?_⟩
  .exact⟨(show d=id from(show d=f11.1 from e1).trans H11.1),by rw[show o=f11.2.1 from e2];exact H11.2.1,by rw[show o=f11.2.1 from e2];exact H11.2.2.1,by rw[show l=f11.2.2.2.1 from e4];exact H11.2.2.2.1,by rw[show l=f11.2.2.2.1 from e4];exact H11.2.2.2.2⟩
  .have e5:a=jR a11 [98] 1 x8 []:=e5;show a∈abN;rw[e5];exact Nz m11 (ahC q8 (q9 abV))
 rintro⟨⟨⟩,⟨b17,i17,g17,⟨⟩⟩,f17,a17,⟨⟩⟩ ⟨p17,H17,m17⟩;refine⟨λy=>0<=y.2.1.2.1/\Head id y.2.2.1/\y.2.2.2.1∈abO,⟨p17,?_⟩,?_⟩
 .rintro⟨⟨x7,⟨⟩⟩,⟨b7,i7,g7,⟨⟩⟩,⟨⟩⟩ p7;refine af (λ_=>⟨⟨p7,abZ⟩,?_⟩) λ_=>⟨rfl,p7,H17,tC m17⟩;rintro⟨⟨x8,⟨⟩⟩,⟨b8,i8,g8,⟨⟩⟩,⟨⟩⟩ ⟨p8,q8⟩;refine⟨trivial,auK (apj m17) abV,?_⟩;rintro⟨⟨⟨d,o,s,l,a,⟨⟩⟩,⟨⟩⟩,⟨⟩⟩ ⟨e1,e2,e3,e4,e5⟩;refine⟨rfl,p8,?_,?_⟩
  .exact⟨(show d=id from(show d=f17.1 from e1).trans H17.1),by rw[show o=f17.2.1 from e2];exact H17.2.1,by rw[show o=f17.2.1 from e2];exact H17.2.2.1,by rw[show l=f17.2.2.2.1 from e4];exact H17.2.2.2.1,by rw[show l=f17.2.2.2.1 from e4];exact H17.2.2.2.2⟩
  .have e5:a=jR a17 [110] 2 0 x8:=e5;show a∈abO;rw[e5];exact Nz m17 (amq q8)
 rintro⟨⟨⟩,⟨b23,i23,g23,⟨⟩⟩,f23,a23,⟨⟩⟩ ⟨p23,H23,m23⟩;refine⟨λy=>0<=y.2.1.2.1/\Head id y.2.2.1/\y.2.2.2.1∈abP,⟨p23,?_⟩,?_⟩
 .rintro⟨⟨x7,⟨⟩⟩,⟨b7,i7,g7,⟨⟩⟩,⟨⟩⟩ p7;refine af (λ_=>⟨⟨p7,abZ⟩,?_⟩) λ_=>⟨rfl,p7,H23,tC m23⟩;rintro⟨⟨x8,⟨⟩⟩,⟨b8,i8,g8,⟨⟩⟩,⟨⟩⟩ ⟨p8,q8⟩;refine⟨trivial,auK (apk m23) abV,?_⟩;rintro⟨⟨⟨d,o,s,l,a,⟨⟩⟩,⟨⟩⟩,⟨⟩⟩ ⟨e1,e2,e3,e4,e5⟩;refine⟨rfl,p8,?_,?_⟩
  .exact⟨(show d=id from(show d=f23.1 from e1).trans H23.1),by rw[show o=f23.2.1 from e2];exact H23.2.1,by rw[show o=f23.2.1 from e2];exact H23.2.2.1,by rw[show l=f23.2.2.2.1 from e4];exact H23.2.2.2.1,by rw[show l=f23.2.2.2.1 from e4];exact H23.2.2.2.2⟩
  .have e5:a=jR a23 [116] 2 0 x8:=e5;show a∈abP;rw[e5];exact Nz m23 (anE q8)
 rintro⟨⟨⟩,⟨b29,i29,g29,⟨⟩⟩,f29,a29,⟨⟩⟩ ⟨p29,H29,m29⟩;have hm:=NC m29;exact⟨p29,H29.1,H29.2.1,H29.2.2.1,H29.2.2.2.1,H29.2.2.2.2,hm.1,hm.2⟩
theorem ai7(al:List aY)(name:Sp.Bytes)(k n:Int)(s:Sp.Bytes):(jR al name k n s).length<=al.length+1:=by
 have hf:=axv (oW name) al;unfold jR;cases decide (k=0)with
 |true=>show(al.filter _).length<=_;omega
 |false=>show(XJ _ _).length<=_;unfold XJ;have:=congrArg List.length (List.takeWhile_append_dropWhile (p:=qo name) (l:=al.filter (oW name)));rw[auB]at this;rw[auB,auE];show((al.filter (oW name)).takeWhile (qo name)).length+(((al.filter (oW name)).dropWhile (qo name)).length+1)<=_;omega
theorem adR:OK D7.e:=by
 refine XA.ok mixed (aB [yH.e,jL.e,Ae.e,yE.e,kG.e,tK.e,bU.e] ⟨Nw,qf,PX,Ns,qQ,F7,dA,trivial⟩) afY (λ_ _=>⟨(((0,0,false,0,[],()),()),(([],0,0,()),())),⟨abV,abV⟩⟩) aa1 (show∀c0 c1 c2,D7.goal (adS c0 c1 c2) ((c0,c1,c2,()),())from ?_);intro b i h hin hp;dsimp only[D7]at hp ⊢;have hp:0<=i:=hp;refine⟨hp,?_⟩;rintro⟨⟨x0,⟨⟩⟩,⟨b0,i0,g0,⟨⟩⟩,⟨⟩⟩ ⟨p0,_⟩;refine⟨p0,?_⟩;rintro⟨⟨⟨d,o,s,l,a,⟨⟩⟩,⟨⟩⟩,⟨b1,i1,g1,⟨⟩⟩,⟨⟩⟩ ⟨p1,_,_,_,_,_,_,ha⟩;have ha:a.length<=4:=ha;refine⟨p1,?_⟩;rintro⟨⟨x2,⟨⟩⟩,⟨b2,i2,g2,⟨⟩⟩,⟨⟩⟩ ⟨p2,_⟩;refine af (λ_=>⟨⟨p2,abZ⟩,?_⟩) λ_=>af (λ_=>⟨⟨p2,abZ⟩,?_⟩) λ_=>af (λ_=>⟨⟨p2,abZ⟩,?_⟩) λ_=>af (λ_=>⟨p2,?_⟩) λ_=>af (λ_=>⟨trivial,(show a.length<=1000 from aaV),?_⟩) λ_=>⟨p2,(show a.length<=10 from aaV)⟩
 .rintro⟨⟨x3,⟨⟩⟩,⟨b3,i3,g3,⟨⟩⟩,⟨⟩⟩ ⟨p3,_⟩;exact⟨p3,(show a.length<=10 from aaV)⟩
 .rintro⟨⟨x3,⟨⟩⟩,⟨b3,i3,g3,⟨⟩⟩,⟨⟩⟩ ⟨p3,_⟩;exact⟨p3,(show a.length<=10 from aaV)⟩
 .rintro⟨⟨x3,⟨⟩⟩,⟨b3,i3,g3,⟨⟩⟩,⟨⟩⟩ ⟨p3,_⟩;exact⟨p3,(show a.length<=10 from aaV)⟩
 .rintro⟨⟨x3,⟨⟩⟩,⟨b3,i3,g3,⟨⟩⟩,⟨⟩⟩ ⟨p3,_⟩;refine⟨p3,?_⟩;rintro⟨⟨⟨k,n,w,⟨⟩⟩,⟨⟩⟩,⟨b4,i4,g4,⟨⟩⟩,⟨⟩⟩ ⟨p4,_⟩;refine⟨(show a.length+1<=big from amw),p4,?_⟩;show(a++[_]).length<=10;rw[auB,auE,auI];omega
 .rintro⟨⟨⟨d',o',s',l',a',⟨⟩⟩,⟨⟩⟩,⟨⟩⟩ ⟨_,_,_,_,e5⟩;refine⟨p2,?_⟩;have e5:a'=jR a [97] 2 0 [114,101,100]:=e5;show a'.length<=10;rw[e5];have:=ai7 a [97] 2 0 [114,101,100];omega
theorem anF:dY Sp.usual=true:=aa1
theorem anG:bT (Sp.usual,[],1,())=true:=aa1
theorem ai8:mY (Sp.usual,[],1,()):=⟨abV,abV,λf hf=>by cases hf⟩
theorem aad{a:List dP}{l:List aQ}{nx:Int}{X:dU}(h1:a=X.1)(h2:l=X.2.1)(h3:nx=X.2.2.1):((a,l,nx,()):dU)=X:=by subst h1 h2 h3;rfl
theorem ahD(s:dU)(f:aQ):(bQ s f).1.1=s.1/\((bQ s f).1.2.1.length:Int)-(bQ s f).1.2.2.1=s.2.1.length-s.2.2.1:=by
 rcases nS s f with⟨e,_⟩|⟨_,_,_,e⟩
 .rw[e];exact⟨rfl,rfl⟩
 .rw[e];refine⟨rfl,?_⟩;show((s.2.1++[(s.2.2.1,f.2)]).length:Int)-(s.2.2.1+1)=_;rw[auB,auE,auI];omega
theorem V9(s:dU)(id:Int):(eU s id).1.1=s.1/\(eU s id).1.2.2.1=s.2.2.1/\s.2.1.length<=(eU s id).1.2.1.length+1:=by
 rcases uG s id with⟨e,_⟩|⟨n,hn,_,_,e⟩
 .rw[e];exact⟨rfl,rfl,Nat.le_succ _⟩
 .rw[e];refine⟨rfl,rfl,?_⟩;show s.2.1.length<=(s.2.1.eraseIdx n).length+1;rw[aw4 hn];omega
structure qE(k:Int)(s:dU):Prop where
 sch:s.1=Sp.usual
 ok:bT s=true
 nx:s.2.2.1<=s.2.1.length+k
 small:mY s
theorem qE.create{k:Int}{s:dU}(h:qE k s){f:aQ}(hf:vX f):qE k (bQ s f).1:=by obtain⟨h1,h2⟩:=ahD s f;exact⟨h1.trans h.sch,adT f h.ok,by have:=h.nx;omega,afZ h.small hf⟩
theorem qE.delete{k:Int}{s:dU}(h:qE k s)(id:Int):qE (k+1) (eU s id).1:=by obtain⟨h1,h2,h3⟩:=V9 s id;exact⟨h1.trans h.sch,adU id h.ok,by have:=h.nx;omega,af0 id h.small⟩
theorem qE.more{k k':Int}{s:dU}(h:qE k s)(hk:k<=k'):qE k' s:=⟨h.sch,h.ok,by have:=h.nx;omega,h.small⟩
theorem qE.grows{s:dU}(h:qE 2 s)(hl:s.2.1.length<12){f:aQ}(ho:0<=f.2.1/\f.2.1<=2)(hk:0<=f.2.2.2.1/\f.2.2.2.1<=6)(ha:kC Sp.usual f.2.2.2.2.1=true):(bQ s f).1.2.1.length=s.2.1.length+1:=by
 have hnx:=(oG.1 h.ok).2.2.2;have h2:=h.nx;have hf:dB s.1 (s.2.2.1,f.2)=true:=by rw[h.sch];show(kC Sp.usual f.2.2.2.2.1&&dY Sp.usual&&(decide (1<=s.2.2.1)&&decide (s.2.2.1<=60))&&(decide (0<=f.2.1)&&decide (f.2.1<=2))&&(decide (0<=f.2.2.2.1)&&decide (f.2.2.2.1<=60)))=true;rw[ha,anF,auS hnx.1,auS aaV,auS ho.1,auS ho.2,auS hk.1,auS aaV];rfl
 rcases nS s f with⟨_,e⟩|⟨_,_,_,e⟩
 .exact(e ⟨h.ok,hl,hf⟩).elim
 .rw[e];show(s.2.1++[_]).length=_;rw[auB];rfl
theorem ahF:bT (Sp.usual,[(1,0,false,0,[],())],2,())=true/\mY (Sp.usual,[(1,0,false,0,[],())],2,()):=⟨aa1,abV,abV,λf hf=>by rw[au0.1 hf];exact auZ _⟩
theorem qE.one{s:dU}(h:qE 1 s){f:aQ}(ho:0<=f.2.1/\f.2.1<=2)(hk:0<=f.2.2.2.1/\f.2.2.2.1<=6)(ha:kC Sp.usual f.2.2.2.2.1=true):0<(bQ s f).1.2.1.length:=by
 by_cases hl:s.2.1.length<12
 .rw[(h.more (show(1:Int)<=2 from abV)).grows hl ho hk ha];omega
 .rcases nS s f with⟨e,_⟩|⟨_,_,_,e⟩
  .rw[e];show 0<s.2.1.length;omega
  .rw[e];show 0<(s.2.1++[_]).length;rw[auB,List.length_singleton];omega
theorem Ld:OK vY.e:=by
 refine XA.ok mixed (aB [xU.e,qi.e,rO.e,tK.e,bU.e,Bd.e,vV.e] ⟨V7,F6,II,F7,dA,Z9,KY,trivial⟩) abR (λ_ _=>⟨(((Sp.usual,[(1,0,false,0,[],())],2,()),()),(([],0,0,()),())),⟨abV,rfl,ahF.1,abV,ahF.2,abV⟩⟩) aa1 (show∀c0 c1 c2,vY.goal (aae c0 c1 c2) ((c0,c1,c2,()),())from ?_);intro b i h hin hp;dsimp only[vY]at hp ⊢;have hp:0<=i:=hp;refine⟨trivial,?_⟩;rintro⟨⟨u,⟨⟩⟩,⟨⟩⟩ hu;have hu:u=Sp.usual:=hu;subst hu;refine⟨(show Sp.usual.length<=1000 from abV),?_⟩;rintro⟨⟨⟨a,l,nx,⟨⟩⟩,⟨⟩⟩,⟨⟩⟩ ⟨e1,e2,e3⟩;have e1:a=Sp.usual:=e1;have e2:l=[]:=e2;have e3:nx=1:=e3;subst e1 e2 e3;refine⟨λy=>0<=y.2.1.2.1/\(0<=y.1.1/\y.1.1<=7)/\qE 1 (y.2.2.2.1,y.2.2.2.2.1,y.2.2.1.2.2.1,())/\(0<y.1.1->0<y.2.2.2.2.1.length),λy=>(8-y.1.1).toNat,⟨hp,⟨(show(0:Int)<=0 from abV),(show(0:Int)<=7 from abV)⟩,⟨rfl,anG,(show(1:Int)<=((0:Nat):Int)+1 from abV),ai8⟩,λh=>absurd h (Int.lt_irrefl 0)⟩,?_⟩;rintro⟨⟨n,⟨⟩⟩,⟨b0,i0,g0,⟨⟩⟩,⟨⟨⟩,⟨⟩,nx,⟨⟩⟩,a,l,⟨⟩⟩ ⟨p0,⟨k0,k1⟩,D,hne⟩;have p0:0<=i0:=p0;have k0:0<=n:=k0;have k1:n<=7:=k1;have D:qE 1 (a,l,nx,()):=D;have hne:0<n->0<l.length:=hne;refine⟨p0,?_⟩;rintro⟨⟨x1,⟨⟩⟩,⟨b1,i1,g1,⟨⟩⟩,⟨⟩⟩ ⟨p1,q0,q1,_⟩;have q1:x1<7:=q1 abV;have q0:0<=x1:=q0;have w:IntKind.i64.wrap (1+x1)=1+x1:=eF _ aaV;dsimp only;rw[w];refine af (λhc=>⟨p1,?_⟩) λhc=>af (λh2=>⟨p1,?_⟩) λh2=>?_
 .have hc:=fE hc;have wn:IntKind.i64.wrap (n+1)=n+1:=eF _ aaV;rw[wn];rintro⟨⟨⟨d,o,s,lk,al,⟨⟩⟩,⟨⟩⟩,⟨b2,i2,g2,⟨⟩⟩,⟨⟩⟩ ⟨p2,_,o1,o2,k3,k4,hat,ha⟩;have hf:vX (d,o,s,lk,al,()):=(show al.length<=1000 from auK ha abV);refine⟨⟨D.small,hf⟩,?_⟩;rintro⟨⟨⟨a3,l3,nx3,⟨⟩⟩,id3,ok3,⟨⟩⟩,⟨⟩⟩ ⟨e1,e2,e3,_⟩;have e:((a3,l3,nx3,()):dU)=(bQ (a,l,nx,()) (d,o,s,lk,al,())).1:=aad e1 e2 e3;refine⟨rfl,⟨p2,⟨(show 0<=n+1 from aaV),(show n+1<=7 from aaV)⟩,?_,λ_=>?_⟩,?_⟩
  .show qE 1 (a3,l3,nx3,());rw[e];exact D.create hf
  .have:=D.one (f:=(d,o,s,lk,al,())) ⟨o1,o2⟩ ⟨k3,k4⟩ hat;rw[← e]at this;exact this
  .show(8-(n+1)).toNat<(8-n).toNat;omega
 .rintro⟨⟨x3,⟨⟩⟩,⟨b3,i3,g3,⟨⟩⟩,⟨⟩⟩ p3;have h2:(l.length:Int)>2:=fE h2;refine af (λ_=>⟨⟨abV,(show(1:Int)<l.length from aaV)⟩,(show 1<l.length from aaV),D.small,?_⟩) λ_=>?_
  .rintro⟨⟨⟨a3,l3,nx3,⟨⟩⟩,ok3,⟨⟩⟩,⟨⟩⟩ ⟨e1,e2,e3,_⟩;have e:=aad e1 e2 e3;have D':=D.delete (List.getD l (Int.toNat 1) (0,0,false,0,[],())).1;have D':qE 2 (a3,l3,nx3,()):=by have e:((a3,l3,nx3,()):dU)=(eU (a,l,nx,()) (List.getD l (Int.toNat 1) (0,0,false,0,[],())).1).1:=e;rw[e];exact D'
   refine⟨p3,D'.sch,D'.ok,D'.nx,D'.small,?_⟩;have:=(V9 (a,l,nx,()) (List.getD l (Int.toNat 1) (0,0,false,0,[],())).1).2.2;have e2:l3=(eU (a,l,nx,()) (List.getD l (Int.toNat 1) (0,0,false,0,[],())).1).1.2.1:=e2;rw[← e2]at this;have this:l.length<=l3.length+1:=this;show 0<l3.length;omega
  .have D':=D.more (show(1:Int)<=2 from abV);exact⟨p3,D'.sch,D'.ok,D'.nx,D'.small,hne (by have:=fV hc;omega)⟩
 .have D':=D.more (show(1:Int)<=2 from abV);exact⟨p1,D'.sch,D'.ok,D'.nx,D'.small,hne (by have:=fV hc;omega)⟩
theorem ai9:OK Jt.e:=by refine PA.ok mixed (aB [] trivial) H0 aa1 (show∀code,Jt.goal (aja code) (code,())from ?_);intro b hin hp;dsimp only[Jt]at hp ⊢;exact rfl
theorem zk:OK lM.e:=by
 refine PA.ok mixed (aB [ji.e] ⟨kE,trivial⟩) Ru aa1 (show∀s,lM.goal (P7 s) (s,())from ?_);intro s hin hp;dsimp only[lM]at hp ⊢;have hlen:s.length<=maxLen:=hin.1;rw[maxLen_eq]at hlen;refine⟨λy=>∃n:Nat,y.1.1=n/\n<=s.length/\Sp.lower (s.take n)=true,λy=>((s.length:Int)-y.1.1).toNat,⟨0,rfl,aaV,rfl⟩,?_⟩;rintro⟨⟨_,⟨⟩⟩,⟨⟩⟩ ⟨n,rfl,hn,hJ⟩;dsimp only;refine af (λh=>?_) λh=>?_<;>simp only[auP,avi]at h
 .have hlt:n<s.length:=aaV;rw[eF _ aaV,auW];refine⟨⟨aaV,aaV⟩,af (λh2=>?_) λh2=>⟨⟨aaV,aaV⟩,af (λh3=>?_) λh3=>?_⟩⟩<;>simp only[auP,avi]at*
  .unfold aS;cases hl:Sp.lower s with
   |false=>rfl
   |true=>have:=JK hlt hl;omega
  .unfold aS;cases hl:Sp.lower s with
   |false=>rfl
   |true=>have:=JK hlt hl;omega
  .refine⟨rfl,⟨n+1,abZ,aaV,?_⟩,afb⟩;rw[Sp.take_succ' s n 0 hlt];unfold Sp.lower at hJ ⊢;rw[axd,hJ];simp only[avM,axS,awS,awI,auC,auP];omega
 .have hge:n=s.length:=aaV;rw[hge,avQ]at hJ;unfold aS;rw[hJ];exact⟨trivial,rfl⟩
theorem sQ:OK kL.e:=by
 refine PA.ok mixed (aB [lM.e,ji.e] ⟨zk,kE,trivial⟩) H0 aa1 (show∀v0 v1 v2,kL.goal (Rw v0 v1 v2) ((v0,v1,v2,()),())from ?_);intro k n s hin hp;dsimp only[kL]at hp ⊢;refine af (λh=>?_) λh=>af (λh2=>⟨trivial,af (λh3=>?_) λh3=>?_⟩) λh2=>af (λh3=>⟨trivial,af (λh4=>?_) λh4=>?_⟩) λh3=>?_
 .have e:k=0:=acs;subst e;exact congrArg (·,()) (ave.2 (by simp[bI]))
 .have e:k=1:=ah9;subst e;exact congrArg (·,()) (ave.2 (by simp only[auC,auP]at h3;simp[bI,h3]))
 .have e:k=1:=ah9;subst e;exact congrArg (·,()) (ave.2 (by simp only[bI,h3];simp))
 .have e:k=2:=apR;subst e;exact congrArg (·,()) (ave.2 (by simp[bI,h4]))
 .have e:k=2:=apR;subst e;exact congrArg (·,()) (ave.2 (by simp[bI,h4]))
 .have e1:k≠0:=acs;have e2:k≠1:=ah9;have e3:k≠2:=apR;exact congrArg (·,()) (ave.2 (by simp[bI,e1,e2,e3]))
theorem vJ:OK kz.e:=by
 refine PA.ok mixed (aB [] trivial) H0 aa1 (show∀s,kz.goal (Md s) (s,())from ?_);intro s hin hp;dsimp only[kz]at hp ⊢;refine af (λh=>?_) λh=>?_
 .have h:(s.length:Int)=1:=fE h
  match s,h with
  |[c],_=>
   refine⟨⟨abV,(by show(0:Int)<1;decide)⟩,af (λh2=>⟨⟨abV,(by show(0:Int)<1;decide)⟩,?_⟩) λh2=>?_⟩
   .have h2:(c.toNat:Int)>=97:=fE h2;refine congrArg (·,()) (ave.2 ?_);simp only[dm,Sp.lower,avM,axS,awS,auC,auP,auE,auI];constructor
    .intro h3;have h3:(c.toNat:Int)<=122:=h3;exact⟨⟨⟨aaV,aaV⟩,abV⟩,abV⟩
    .rintro⟨⟨⟨_,h4⟩,_⟩,_⟩;show(c.toNat:Int)<=122;omega
   .have h2:¬(c.toNat:Int)>=97:=fV h2;refine congrArg (·,()) (ave.2 ?_);simp only[dm,Sp.lower,avM,axS,awS,auC,auP];constructor
    .intro h3;cases h3
    .rintro⟨⟨⟨h4,_⟩,_⟩,_⟩;omega
 .have h:¬(s.length:Int)=1:=fV h;refine congrArg (·,()) (ave.2 ?_);simp only[dm,auC,auP];constructor
  .intro h3;cases h3
  .rintro⟨⟨_,h4⟩,h5⟩;omega
theorem Yj:OK zG.e:=by
 refine PA.ok mixed (aB [] trivial) aaf aa1 (show∀s name,zG.goal (Yk s name) (s,name,())from ?_);intro s name hin hp;dsimp only[zG]at hp ⊢;have hlen:s.length<=maxLen:=hin.1.1;rw[maxLen_eq]at hlen;refine kW s.length hlen (λn=>∀i,i<n->(s.getD i ([],0,())).1≠name) (λi hi=>aaV) (λI μ n hn hJ next=>?_) λI μ hJ=>?_
 .dsimp only;refine eX aaV ⟨⟨aaV,aaV⟩,af (λh=>?_) λh=>⟨rfl,next λi hi=>?_⟩⟩
  .exact congrArg (·,()) (VZ s n hn hJ (by simpa only[auW,au5]using h)).symm
  .rcases au2 i n with h'|h'
   .exact hJ i h'
   .have:i=n:=aaV;subst this;have h2:((s.getD i ([],0,())).1==name)=false:=h;exactλe=>by rw[e]at h2;simp at h2
 .dsimp only;exact eG aaV (congrArg (·,()) (Om s hJ).symm)
theorem ams{k:Int}(h:(k !=1)=false\/(k !=2)=false):(decide (1<=k)&&decide (k<=2))=true:=by have:k=1\/k=2:=h.imp abZ abZ;rcases this with h|h<;>subst h<;>rfl
theorem apl{k:Int}(h1:(k !=1)=true)(h2:(k !=2)=true):(decide (1<=k)&&decide (k<=2))=false:=by
 have h1:k≠1:=apQ;have h2:k≠2:=ah9;rw[awG];by_cases h:k<1
 .left;exact auU aaV
 .right;exact auU aaV
theorem EU:OK oK.e:=by
 refine PA.ok mixed (aB [kz.e] ⟨vJ,trivial⟩) Rx aa1 (show∀s,oK.goal (P8 s) (s,())from ?_);intro s hin hp;dsimp only[oK]at hp ⊢;have hlen:s.length<=maxLen:=hin.1.1;rw[maxLen_eq]at hlen;refine kW s.length hlen (λn=>∀i,i<n->jC s i=true) (λi hi=>aaV) (λI μ n hn hJ next=>?_) λI μ hJ=>?_
 .dsimp only;have no:jC s n=false->(false,())=(dY s,()):=λh=>by rw[Y0 hn h]
  have rest:dm (Sp.fieldAt s n).1=true->(decide (1<=(Sp.fieldAt s n).2.1)&&decide ((Sp.fieldAt s n).2.1<=2))=true->
   bif decide ((n:Int)>0)then
    ((0:Int)<=IntKind.i64.wrap ((n:Int)-1)/\IntKind.i64.wrap ((n:Int)-1)<(s.length:Int))/\
      bif !Op.bytesLess (s.getD (IntKind.i64.wrap ((n:Int)-1)).toNat ([],0,())).fst (s.getD (Int.toNat (n:Int)) ([],0,())).fst then(false,())=(dY s,())
      else NX ((s,s,(s.length:Int),()),()) I μ ((IntKind.i64.wrap ((n:Int)+1),()),()) (((n:Int),()),())
   else NX ((s,s,(s.length:Int),()),()) I μ ((IntKind.i64.wrap ((n:Int)+1),()),()) (((n:Int),()),()):=by
   intro h2 h3;refine af (λh4=>?_) λh4=>⟨rfl,next (dR hJ ?_)⟩
   .have h4:0<n:=amV;rw[zi h4 aaV];refine⟨⟨aaV,aaV⟩,af (λh5=>no ?_) λh5=>⟨rfl,next (dR hJ ?_)⟩⟩
    .have h5:Op.bytesLess (Sp.fieldAt s (n-1)).1 (Sp.fieldAt s n).1=false:=iZ h5;unfold jC;rw[h2,h3,h5,auS h4];rfl
    .have h5:Op.bytesLess (Sp.fieldAt s (n-1)).1 (Sp.fieldAt s n).1=true:=fB h5;unfold jC;rw[h2,h3,h5,auS h4];rfl
   .have h4:¬0<n:=amv;unfold jC;rw[h2,h3,auU h4];rfl
  refine eX aaV ⟨⟨aaV,aaV⟩,trivial,af (λh2=>no ?_) λh2=>af (λh3=>af (λh4=>no ?_) λh4=>?_) λh3=>?_⟩
  .have h2:dm (Sp.fieldAt s n).1=false:=iZ h2;unfold jC;rw[h2];rfl
  .have h2:dm (Sp.fieldAt s n).1=true:=fB h2;have h3:(decide (1<=(Sp.fieldAt s n).2.1)&&decide ((Sp.fieldAt s n).2.1<=2))=false:=apl h3 h4;unfold jC;rw[h2,h3];rfl
  .have h2:dm (Sp.fieldAt s n).1=true:=fB h2;have h3:(decide (1<=(Sp.fieldAt s n).2.1)&&decide ((Sp.fieldAt s n).2.1<=2))=true:=ams (.inr h4);exact rest h2 h3
  .have h2:dm (Sp.fieldAt s n).1=true:=fB h2;have h3:(decide (1<=(Sp.fieldAt s n).2.1)&&decide ((Sp.fieldAt s n).2.1<=2))=true:=ams (.inl h3);exact rest h2 h3
 .dsimp only;refine eG aaV (congrArg (·,()) ?_);unfold dY;rw[ni hJ];rfl
theorem P9:OK su.e:=by
 refine PA.ok mixed (aB [zG.e,kL.e] ⟨Yj,sQ,trivial⟩) H0 aa1 (show∀s name v0 v1 v2,su.goal (Qa s name v0 v1 v2) (s,name,(v0,v1,v2,()),())from ?_);intro fs s k n w hin hp;dsimp only[su]at hp ⊢;refine⟨trivial,af (λh=>af (λh2=>⟨trivial,?_⟩) λh2=>?_) λh=>?_⟩
 .exact congrArg (·,()) (ave.2 (by simp only[bne_iff_ne,ne_eq]at h2;simp[iV,h,h2]))
 .exact congrArg (·,()) (ave.2 (by simp at h2;simp[iV,h2]))
 .exact congrArg (·,()) (ave.2 (by simp[iV,h]))
theorem Ut:OK vW.e:=by
 refine PA.ok mixed (aB [oK.e,D6.e,ji.e,su.e] ⟨EU,adM,kE,P9,trivial⟩) Wh aa1 (show∀s f0 f1 f2 f3 f4,vW.goal (Uu s f0 f1 f2 f3 f4) (s,(f0,f1,f2,f3,f4,()),())from ?_);intro fs f0 f1 f2 f3 f4 hin hp;dsimp only[vW]at hp ⊢;have hlen:f4.length<=maxLen:=hin.2.1.2.2.2.2.1.1;rw[maxLen_eq]at hlen;refine kW f4.length hlen (λn=>∀i,i<n->jI fs f4 i=true) (λi hi=>aaV) (λI μ n hn hJ next=>?_) λI μ hJ=>?_
 .dsimp only;have no:jI fs f4 n=false->(false,())=(dB fs (f0,f1,f2,f3,f4,()),()):=λh=>by rw[afa (f:=(f0,f1,f2,f3,f4,())) hn h]
  refine eX aaV ⟨⟨aaV,aaV⟩,af (λh4=>?_) λh4=>⟨trivial,af (λh2=>no ?_) λh2=>⟨rfl,next (dR hJ ?_)⟩⟩⟩
  .have h4:0<n:=amV;rw[zi h4 aaV];refine⟨⟨aaV,aaV⟩,af (λh5=>no ?_) λh5=>⟨trivial,af (λh2=>no ?_) λh2=>⟨rfl,next (dR hJ ?_)⟩⟩⟩
   .have h5:Op.bytesLess (bP f4 (n-1)).1 (bP f4 n).1=false:=iZ h5;unfold jI;rw[h5,auS h4];exact avP _
   .have h2:iV fs (bP f4 n).1 (bP f4 n).2.1 (bP f4 n).2.2.1 (bP f4 n).2.2.2.1=false:=iZ h2;unfold jI;rw[h2];rfl
   .have h2:iV fs (bP f4 n).1 (bP f4 n).2.1 (bP f4 n).2.2.1 (bP f4 n).2.2.2.1=true:=fB h2;have h5:Op.bytesLess (bP f4 (n-1)).1 (bP f4 n).1=true:=fB h5;unfold jI;rw[h2,h5,auS h4];rfl
  .have h2:iV fs (bP f4 n).1 (bP f4 n).2.1 (bP f4 n).2.2.1 (bP f4 n).2.2.2.1=false:=iZ h2;unfold jI;rw[h2];rfl
  .have h2:iV fs (bP f4 n).1 (bP f4 n).2.1 (bP f4 n).2.2.1 (bP f4 n).2.2.2.1=true:=fB h2;have h4:¬0<n:=amv;unfold jI;rw[h2,auU h4];rfl
 .dsimp only;have ha:kC fs f4=true:=ni hJ;refine eG aaV ⟨trivial,af (λh1=>⟨trivial,af (λh2=>⟨trivial,af (λh3=>⟨trivial,?_⟩) λh3=>?_⟩) λh2=>?_⟩) λh1=>?_⟩
  all_goals refine congrArg (·,()) ?_
  .show dY fs=(kC fs f4&&dY fs&&(decide (1<=f0)&&decide (f0<=60))&&(decide (0<=f1)&&decide (f1<=2))&&(decide (0<=f3)&&decide (f3<=60)));rw[ha,h1,h2,h3];cases dY fs<;>rfl
  .show false=(kC fs f4&&dY fs&&(decide (1<=f0)&&decide (f0<=60))&&(decide (0<=f1)&&decide (f1<=2))&&(decide (0<=f3)&&decide (f3<=60)));rw[h3,avP]
  .show false=(kC fs f4&&dY fs&&(decide (1<=f0)&&decide (f0<=60))&&(decide (0<=f1)&&decide (f1<=2))&&(decide (0<=f3)&&decide (f3<=60)));rw[h2,avP,awx]
  .show false=(kC fs f4&&dY fs&&(decide (1<=f0)&&decide (f0<=60))&&(decide (0<=f1)&&decide (f1<=2))&&(decide (0<=f3)&&decide (f3<=60)));rw[h1,avP,awx,awx]
theorem Ry:OK uN.e:=by
 refine PA.ok mixed (aB [ji.e,oK.e,vW.e] ⟨kE,EU,Ut,trivial⟩) Uw aa1 (show∀s0 s1 s2,uN.goal (Rz s0 s1 s2) ((s0,s1,s2,()),())from ?_);intro s0 s1 s2 hin hp;dsimp only[uN]at hp ⊢;have hlen:s1.length<=maxLen:=hin.1.2.1.1;rw[maxLen_eq]at hlen;refine kW s1.length hlen (λn=>∀i,i<n->lF (s0,s1,s2,()) i=true) (λi hi=>aaV) (λI μ n hn hJ next=>?_) λI μ hJ=>?_
 .dsimp only;have no:lF (s0,s1,s2,()) n=false->(false,())=(bT (s0,s1,s2,()),()):=λh=>by rw[abD (s:=(s0,s1,s2,())) hn h]
  refine eX aaV ⟨⟨aaV,aaV⟩,trivial,af (λh2=>no ?_) λh2=>af (λh3=>no ?_) λh3=>af (λh4=>?_) λh4=>⟨rfl,next (dR hJ ?_)⟩⟩
  .have h2:dB s0 (Sp.fileAt s1 n)=false:=iZ h2;show(dB s0 (Sp.fileAt s1 n)&&_&&_)=false;rw[h2];rfl
  .have h2:dB s0 (Sp.fileAt s1 n)=true:=fB h2;have h3:¬(Sp.fileAt s1 n).1<s2:=by have h3:(Sp.fileAt s1 n).1>=s2:=fE h3;omega
   show(dB s0 (Sp.fileAt s1 n)&&decide ((Sp.fileAt s1 n).1<s2)&&_)=false;rw[h2,auU h3];rfl
  .have h2:dB s0 (Sp.fileAt s1 n)=true:=fB h2;have h3:(Sp.fileAt s1 n).1<s2:=alJ;have h4:0<n:=amV;rw[zi h4 aaV];refine⟨⟨aaV,aaV⟩,af (λh5=>no ?_) λh5=>⟨rfl,next (dR hJ ?_)⟩⟩
   .have h5:¬(Sp.fileAt s1 (n-1)).1<(Sp.fileAt s1 n).1:=by have h5:(Sp.fileAt s1 (n-1)).1>=(Sp.fileAt s1 n).1:=fE h5;omega
    show(dB s0 (Sp.fileAt s1 n)&&decide ((Sp.fileAt s1 n).1<s2)&&!(decide (0<n)&&!decide ((Sp.fileAt s1 (n-1)).1<(Sp.fileAt s1 n).1)))=false;rw[h2,auS h3,auS h4,auU h5];rfl
   .have h5:(Sp.fileAt s1 (n-1)).1<(Sp.fileAt s1 n).1:=by have h5:¬(Sp.fileAt s1 (n-1)).1>=(Sp.fileAt s1 n).1:=fV h5;omega
    show(dB s0 (Sp.fileAt s1 n)&&decide ((Sp.fileAt s1 n).1<s2)&&!(decide (0<n)&&!decide ((Sp.fileAt s1 (n-1)).1<(Sp.fileAt s1 n).1)))=true;rw[h2,auS h3,auS h4,auS h5];rfl
  .have h2:dB s0 (Sp.fileAt s1 n)=true:=fB h2;have h3:(Sp.fileAt s1 n).1<s2:=alJ;have h4:¬0<n:=amv;show(dB s0 (Sp.fileAt s1 n)&&decide ((Sp.fileAt s1 n).1<s2)&&!(decide (0<n)&&!decide ((Sp.fileAt s1 (n-1)).1<(Sp.fileAt s1 n).1)))=true;rw[h2,auS h3,auU h4];rfl
 .dsimp only;have ha:jd s1.length (lF (s0,s1,s2,()))=true:=ni hJ;refine eG aaV ⟨trivial,af (λh1=>af (λh2=>⟨trivial,?_⟩) λh2=>?_) λh1=>?_⟩
  .refine congrArg (·,()) ?_;show _=(jd s1.length (lF (s0,s1,s2,()))&&dY s0&&decide ((s1.length:Int)<=12)&&(decide (1<=s2)&&decide (s2<=61)));rw[ha,h1,h2];rfl
  .refine congrArg (·,()) ?_;show _=(jd s1.length (lF (s0,s1,s2,()))&&dY s0&&decide ((s1.length:Int)<=12)&&(decide (1<=s2)&&decide (s2<=61)));rw[ha,h1,h2];rfl
  .refine congrArg (·,()) ?_;show _=(jd s1.length (lF (s0,s1,s2,()))&&dY s0&&decide ((s1.length:Int)<=12)&&(decide (1<=s2)&&decide (s2<=61)));rw[ha,h1];rfl
end Go.Proofs.Tryz
namespace Go.Proofs.Tryz
open Go Go.Fw Go.IntWalk Sp
theorem Wy:OK xW.e:=by
 refine XA.ok mixed (aB [jh.e] ⟨kT,trivial⟩) H0 (λ_ _=>⟨((([]:List UInt8),()),(([],0,0,()),())),⟨abV,abV⟩⟩) aa1 (show∀c0 c1 c2,xW.goal (WA c0 c1 c2) ((c0,c1,c2,()),())from ?_);intro b i h hin hp;dsimp only[xW]at hp ⊢;have hp:0<=i:=hp
 repeat' first
  |exact trivial
  |refine af (λ_=>?_) λ_=>?_
  |refine And.intro ?_ ?_
  |(intro r hr;simp only[]at hr)
  |intro r hr
 all_goals first
  |omega
  |(dsimp only at*;omega)
  |exact hr
  |(simp only[auD,ne_eq]at*;omega)
  |(simp only[avb,auN,auB,auE,auI];omega)
  |(rw[iC];simp only[avb,auN,auB,auE,auI];omega)
  |(simp only[avb,auN,auB,auE,auI]at*;omega)
  |exact(show∀y∈_,List.length y.1<=10 from abV) _ hr.2
  |(simp;done)
  |skip
theorem NK:OK tN.e:=by
 refine XA.ok mixed (aB [xW.e,jL.e,oI.e,jh.e,bU.e] ⟨Wy,qf,zU,kT,dA,trivial⟩) H0 (λ_ _=>⟨((((0:Int),(0:Int),(0:Int),([]:List UInt8),(0:Int),(0:Int),([]:List UInt8),()),()),(([],0,0,()),())),⟨abV,trivial⟩⟩) aa1 (show∀c0 c1 c2,tN.goal (ab5 c0 c1 c2) ((c0,c1,c2,()),())from ?_);intro b i h hin hp;dsimp only[tN]at hp ⊢;have hp:0<=i:=hp
 repeat' first
  |exact trivial
  |refine af (λ_=>?_) λ_=>?_
  |refine And.intro ?_ ?_
  |(intro r hr;simp only[]at hr)
  |intro r hr
 all_goals first
  |omega
  |(dsimp only at*;omega)
  |exact hr
  |(simp only[auD,ne_eq]at*;omega)
  |(simp only[avb,auN,auB,auE,auI];omega)
  |(rw[iC];simp only[avb,auN,auB,auE,auI];omega)
  |(simp only[avb,auN,auB,auE,auI]at*;omega)
  |exact(show∀y∈_,List.length y.1<=10 from abV) _ hr.2
  |(simp;done)
  |skip
theorem Qg[lJ](Si:jl prog G uZ yJ):jl prog G FY Dl:=by
 refine Qh (aB [(uZ,.eff (Dw oL) yJ),bU.e,tN.e,qi.e] ⟨⟨Si,PU⟩,dA,NK,F6,trivial⟩) (λ⟨_,q,deep,_,_⟩ _=>⟨((q++[(0,0,0,[],0,0,[],())],()),(([],0,0,()),())),⟨abV,abZ,abZ⟩⟩) ?_;intro b i h q deep not hin hp;obtain⟨⟨hp1,hp2,hp3,hp4⟩,hp5⟩:=hp;have hw:IntKind.i64.wrap (deep-1)=deep-1:=eF _ aaV;refine⟨λy=>0<=y.2.1.2.1/\0<deep,?_⟩;dsimp only;rw[hw]
 repeat' first
  |exact trivial
  |refine af (λ_=>?_) λ_=>?_
  |refine And.intro ?_ ?_
  |(intro r hr;simp only[]at hr)
  |intro r hr
 all_goals first
  |omega
  |(dsimp only at*;omega)
  |exact hr
  |(simp only[auD,ne_eq]at*;omega)
  |(simp only[avb,auN,auB,auE,auI];omega)
  |(rw[iC];simp only[avb,auN,auB,auE,auI];omega)
  |(simp only[avb,auN,auB,auE,auI]at*;omega)
  |exact(show∀y∈_,List.length y.1<=10 from abV) _ hr.2
  |(simp;done)
  |skip
theorem ab6:jl prog G adE Zm:=
 ajH (λn=>@Gy ⟨n⟩) (λn=>@sD ⟨n⟩) (by rintro⟨⟨b,i,h,⟨⟩⟩,q,deep,not,⟨⟩⟩ h;exact avE _ h.2) (by rintro _ ⟨⟨b,i,h,⟨⟩⟩,q,deep,not,⟨⟩⟩;rfl) (by rintro⟨⟨b,i,h,⟨⟩⟩,q,deep,not,⟨⟩⟩ h;exact⟨_,h,awl _⟩) (by rintro _ ⟨⟨b,i,h,⟨⟩⟩,q,deep,not,⟨⟩⟩;rfl) λn h=>@Qg ⟨n⟩ h
theorem Gj:jl prog G vw yK:=
 al9 (F:=O1) (F':=Gz) abV ab6 (λa x h=>⟨h.1,h.2.1,h.2.2,(show∀z:Int,0<=z->z<=4->0+2*z.toNat<=900 fromλz _ _=>aaV) _ h.2.1 h.2.2⟩) λa x h=>rfl
theorem UA:OK vZ.e:=by
 refine XA.ok mixed (aB [(vw,.eff (Dw oM) yK),bU.e] ⟨⟨Gj,ES⟩,dA,trivial⟩) WB (λ_ _=>⟨(([(0,0,0,[],0,0,[],())],()),(([],0,0,()),())),⟨abV,abV,abV⟩⟩) aa1 (show∀c0 c1 c2,vZ.goal (UB c0 c1 c2) ((c0,c1,c2,()),())from ?_);intro b i h hin hp;dsimp only[vZ]at hp ⊢;have hp:0<=i:=hp
 repeat' first
  |exact trivial
  |refine af (λ_=>?_) λ_=>?_
  |refine And.intro ?_ ?_
  |(intro r hr;simp only[]at hr)
  |intro r hr
 all_goals first
  |omega
  |(dsimp only at*;omega)
  |exact hr
  |(simp only[auD,ne_eq]at*;omega)
  |(simp only[avb,auN,auB,auE,auI];omega)
  |(rw[iC];simp only[avb,auN,auB,auE,auI];omega)
  |(simp only[avb,auN,auB,auE,auI]at*;omega)
  |exact(show∀y∈_,List.length y.1<=10 from abV) _ hr.2
  |(simp;done)
  |skip
theorem Ak:OK kS.e:=by
 refine XA.ok mixed (aB [(vw,.eff (Dw oM) yK),bU.e] ⟨⟨Gj,ES⟩,dA,trivial⟩) JO (λ_ _=>⟨(([(0,0,0,[],0,0,[],())],()),(([],0,0,()),())),⟨abV,abV,abV⟩⟩) aa1 (show∀c0 c1 c2,kS.goal (Je c0 c1 c2) ((c0,c1,c2,()),())from ?_);intro b i h hin hp;dsimp only[kS]at hp ⊢;have hp:0<=i:=hp
 repeat' first
  |exact trivial
  |refine af (λ_=>?_) λ_=>?_
  |refine And.intro ?_ ?_
  |(intro r hr;simp only[]at hr)
  |intro r hr
 all_goals first
  |omega
  |(dsimp only at*;omega)
  |exact hr
  |(simp only[auD,ne_eq]at*;omega)
  |(simp only[avb,auN,auB,auE,auI];omega)
  |(rw[iC];simp only[avb,auN,auB,auE,auI];omega)
  |(simp only[avb,auN,auB,auE,auI]at*;omega)
  |exact(show∀y∈_,List.length y.1<=10 from abV) _ hr.2
  |(simp;done)
  |skip
theorem aea:OK D9.e:=by
 refine XA.ok mixed (aB [Ae.e,tN.e,jh.e,kG.e,bU.e,vZ.e] ⟨PX,NK,kT,qQ,dA,UA,trivial⟩) af6 (λ_ _=>⟨(([],()),(([],0,0,()),())),⟨abV,abV⟩⟩) aa1 (show∀c0 c1 c2,D9.goal (aeb c0 c1 c2) ((c0,c1,c2,()),())from ?_);intro b i h hin hp;dsimp only[D9]at hp ⊢;have hp:0<=i:=hp
 repeat' first
  |exact trivial
  |refine af (λ_=>?_) λ_=>?_
  |refine And.intro ?_ ?_
  |(intro r hr;simp only[]at hr)
  |intro r hr
 all_goals first
  |omega
  |(dsimp only at*;omega)
  |exact hr
  |(simp only[auD,ne_eq]at*;omega)
  |(simp only[avb,auN,auB,auE,auI];omega)
  |(rw[iC];simp only[avb,auN,auB,auE,auI];omega)
  |(simp only[avb,auN,auB,auE,auI]at*;omega)
  |exact(show∀y∈_,List.length y.1<=10 from abV) _ hr.2
  |(simp;done)
  |skip
theorem zX:eu []:=⟨abZ,λx hx=>aeZ⟩
theorem JM{d:List bf}{x:bf}(h:eu d)(hl:d.length<1000)(hx:x.2.1.length<=1000):eu (d++[x]):=
 ⟨aeV,λy hy=>by rcases au4.1 hy with hy|hy;exact h.2 y hy;rw[au0.1 hy];exact hx⟩
theorem ab7{d:List bf}{x:bf}(n:Nat)(h:eu d)(hx:x.2.1.length<=1000):eu (d.set n x):=
 ⟨by simp;exact h.1,λy hy=>by rcases List.mem_or_eq_of_mem_set hy with hy|hy;exact h.2 y hy;rw[hy];exact hx⟩
theorem ajb{d:List bf}(n:Nat)(h:eu d):eu (d.take n):=
 ⟨by rw[auN];have:=h.1;omega,λy hy=>h.2 y (awd hy)⟩
theorem amJ{d:List bf}(h:eu d){n:Nat}(hn:n<d.length):(d.getD n ([],[],())).2.1.length<=1000:=h.2 _ (getD_mem hn)
theorem NJ:OK yL.e:=by
 refine XA.ok mixed (aB [kS.e,bU.e] ⟨Ak,dA,trivial⟩) aec (λ_ _=>⟨(([([],[],())],()),(([],0,0,()),())),⟨abV,abV,abV,abV,abV⟩⟩) aa1 (show∀c0 c1 c2,yL.goal (ab8 c0 c1 c2) ((c0,c1,c2,()),())from ?_);intro b i h hin hp;dsimp only[yL]at hp ⊢;have hp:0<=i:=hp;refine⟨λy=>0<=y.2.1.2.1/\y.1.2.1=y.2.2.1.length/\y.2.2.1.length<=4/\eu y.2.2.1,λy=>(4-y.1.2.1).toNat,⟨hp,rfl,abZ,zX⟩,?_⟩;rintro⟨⟨_,k,_⟩,⟨b1,i1,h1,_⟩,l,_⟩ ⟨q1,q2,q3,q4⟩;dsimp only at q1 q2 q3 q4 ⊢;refine⟨q1,?_⟩;rintro⟨⟨r,_⟩,⟨b2,i2,h2,_⟩,_⟩ ⟨e1,e2,e3,_⟩;dsimp only at e1 e2 e3 ⊢;have e3:=e3 aaV;rw[eF (1+r) aaV,eF (k+1) aaV];refine af (λhc=>?_) λhc=>?_
 .have hc:=fE hc;refine⟨⟨aaV,arY⟩,arY,e1,?_⟩;rintro⟨⟨x,_⟩,⟨b3,i3,h3,_⟩,_⟩ ⟨g1,g2,g3⟩;dsimp only at g1 g2 g3 ⊢;refine⟨akg,rfl,⟨g1,aeV,aeV,JM q4 aaV afb⟩,aaV⟩
 .have hc:=fV hc;exact⟨e1,aaV,aaV,q4⟩
theorem ad8:OK Ea.e:=by
 refine XA.ok mixed (aB [kS.e,D9.e,jh.e,bU.e,yL.e] ⟨Ak,aea,kT,dA,NJ,trivial⟩) af7 (λ_ _=>⟨(([],()),(([],0,0,()),())),⟨abV,abV,zX⟩⟩) aa1 (show∀c0 c1 c2,Ea.goal (aed c0 c1 c2) ((c0,c1,c2,()),())from ?_);intro b i h hin hp;dsimp only[Ea]at hp ⊢;have hp:0<=i:=hp;refine⟨hp,?_⟩;rintro⟨⟨d,_⟩,⟨b1,i1,h1,_⟩,_⟩ ⟨q1,q2,q3,q4⟩;dsimp only at q1 q2 q3 q4 ⊢;refine⟨q1,?_⟩;rintro⟨⟨r,_⟩,⟨b2,i2,h2,_⟩,_⟩ ⟨e1,e2,e3,_⟩;dsimp only at e1 e2 e3 ⊢;have e3:=e3 aaV;refine⟨e1,?_⟩;rintro⟨⟨s,_⟩,⟨b3,i3,h3,_⟩,_⟩ ⟨f1,f2,f3,_⟩;dsimp only at f1 f2 f3 ⊢;have hn:r.toNat<d.length:=aaV;refine af (λ_=>⟨⟨f1,abZ⟩,?_⟩) λ_=>af (λ_=>⟨f1,?_⟩) λ_=>af (λ_=>?_) λ_=>af (λ_=>?_) λ_=>?_
 .rintro⟨⟨x,_⟩,⟨b4,i4,h4,_⟩,_⟩ ⟨g1,g2⟩;exact⟨⟨e2,e3⟩,hn,g1,aeV,ab7 _ q4 (amJ q4 hn)⟩
 .rintro⟨⟨x,_⟩,⟨b4,i4,h4,_⟩,_⟩ ⟨g1,g2⟩;exact⟨⟨e2,e3⟩,hn,g1,aeV,ab7 _ q4 (by dsimp only at g2 ⊢;omega)⟩
 .refine⟨λy=>0<=y.2.1.2.1/\y.2.2.1.length<=6/\eu y.2.2.1,λy=>6-y.2.2.1.length,⟨f1,afb,q4⟩,?_⟩;rintro⟨_,⟨b4,i4,h4,_⟩,l,_⟩ ⟨g1,g2,g3⟩;dsimp only at g1 g2 g3 ⊢;refine⟨g1,?_⟩;rintro⟨⟨r',_⟩,⟨b5,i5,h5,_⟩,_⟩ ⟨k1,k2,k3,_⟩;dsimp only at k1 k2 k3 ⊢;have k3:=k3 aaV;rw[eF (5+r') aaV];refine af (λhc=>?_) λhc=>?_
  .have hc:=fE hc;refine⟨⟨aaV,arY⟩,k1,?_⟩;rintro⟨⟨x,_⟩,⟨b6,i6,h6,_⟩,_⟩ ⟨m1,m2,m3⟩;dsimp only at m1 m2 m3 ⊢;refine⟨akg,rfl,⟨m1,aeV,JM g3 aaV afb⟩,aeV⟩
  .exact⟨k1,aaV,g3⟩
 .exact⟨f1,abZ,zX⟩
 .exact⟨f1,aaV,q4⟩
end Go.Proofs.Tryz
namespace Go.Proofs.Tryz
open Go Go.Fw Go.IntWalk Sp
theorem JQ(n0 n1 n2:Int)(n3:Sp.Bytes)(n4 n5:Int)(n6:Sp.Bytes)(a:Int):dM (n0,n1,n2,n3,n4,n5,n6,()) a=
 (bif n0==1 then(n1==0&&n2==0)&&(n3==[]&&(n4==0&&(n5==0&&n6==[])))else bif n0==2 then(n1==0&&n2==0)&&(n4==0&&(n5==0&&n6==[]))&&dm n3 else
 bif n0==3 then(n1==0&&n2==0)&&dm n3&&bI n4 n5 n6&&!(n4==0)else bif n0==4 then(n1==0&&n2==0)&&dm n3&&bI n4 n5 n6&&n4==1 else
 bif n0==5 then(decide (0<=n1)&&decide (n1<=a-1)&&decide (0<a))&&n2==0&&(n3==[]&&(n4==0&&(n5==0&&n6==[])))else
 bif n0==6||n0==7 then(decide (0<=n1)&&decide (n1<=a-1)&&decide (0<a))&&(decide (0<=n2)&&decide (n2<=a-1))&&(n3==[]&&(n4==0&&(n5==0&&n6==[])))else
 bif n0==8||n0==9 then(n1==0&&n2==0)&&(n4==0&&(n5==0&&n6==[]))&&aS n3 else false):=rfl
theorem UC:OK wz.e:=by
 refine PA.ok mixed (aB [lM.e,ji.e,kL.e,kz.e] ⟨zk,kE,sQ,vJ,trivial⟩) WC aa1 (show∀n0 n1 n2 n3 n4 n5 n6 at',wz.goal (GX n0 n1 n2 n3 n4 n5 n6 at') ((n0,n1,n2,n3,n4,n5,n6,()),at',())from ?_);intro n0 n1 n2 n3 n4 n5 n6 a hin hp;dsimp only[wz]at hp ⊢;have ha:-9223372036854775808<=a/\a<=9223372036854775807:=hin.2.1;show GX n0 n1 n2 n3 n4 n5 n6 a λr=>r=(dM (n0,n1,n2,n3,n4,n5,n6,()) a,());rw[JQ];have w:0<a->IntKind.i64.wrap (a-1)=a-1:=λh=>eF _ aaV;refine af (λ_=>?_) λ_=>af (λ_=>af (λ_=>⟨trivial,?_⟩) λ_=>?_) λ_=>⟨λy=>y=((n0==3||n0==4,()),()),?_,?_⟩
 .first|(simp_all;done)|(simp_all;grind)
 .first|(simp_all;done)|(simp_all;grind)
 .first|(simp_all;done)|(simp_all;grind)
 .refine af (λ_=>⟨rfl,?_⟩) λ_=>⟨rfl,?_⟩<;>first|(simp_all;done)|(simp_all;grind)
 .rintro _ rfl;refine af (λ_=>?_) λ_=>af (λ_=>af (λ_=>af (λh=>⟨trivial,?_⟩) λ_=>?_) λ_=>?_) λ_=>⟨λy=>y=((n0==6||n0==7,()),()),?_,?_⟩
  .refine af (λ_=>⟨trivial,af (λ_=>⟨trivial,af (λ_=>af (λ_=>af (λ_=>?_) λ_=>?_) λ_=>?_) λ_=>?_⟩) λ_=>?_⟩) λ_=>?_
   all_goals first|(simp_all;done)|(simp_all;grind)
  .rw[w (fE h)]
   first|(simp_all;done)|(simp_all;grind)
  .first|(simp_all;done)|(simp_all;grind)
  .first|(simp_all;done)|(simp_all;grind)
  .refine af (λ_=>⟨rfl,?_⟩) λ_=>⟨rfl,?_⟩<;>first|(simp_all;done)|(simp_all;grind)
  .rintro _ rfl;refine af (λ_=>af (λ_=>af (λh=>⟨trivial,?_⟩) λ_=>?_) λ_=>?_) λ_=>?_
   .rw[w (fE h)];refine af (λ_=>⟨trivial,?_⟩) λ_=>?_<;>first|(simp_all;done)|(simp_all;grind)
   .first|(simp_all;done)|(simp_all;grind)
   .first|(simp_all;done)|(simp_all;grind)
   .refine af (λ_=>af (λ_=>af (λ_=>⟨trivial,?_⟩) λ_=>?_) λ_=>?_) λ_=>af (λ_=>af (λ_=>⟨trivial,?_⟩) λ_=>?_) λ_=>?_
    all_goals first|(simp_all;done)|(simp_all;grind)
theorem UD:OK wu.e:=by
 refine PA.ok mixed (aB [lK.e,kK.e,ku.e,iU.e] ⟨zh,sO,vI,jX,trivial⟩) WE aa1 (show∀n0 n1 n2 n3 n4 n5 n6 at',wu.goal (GY n0 n1 n2 n3 n4 n5 n6 at') ((n0,n1,n2,n3,n4,n5,n6,()),at',())from ?_);intro n0 n1 n2 n3 n4 n5 n6 a hin hp;dsimp only[wu]at hp ⊢;have ha:-9223372036854775808<=a/\a<=9223372036854775807:=hin.2.1;show GY n0 n1 n2 n3 n4 n5 n6 a λr=>r=(dM (n0,n1,n2,n3,n4,n5,n6,()) a,());rw[JQ];have w:0<a->IntKind.i64.wrap (a-1)=a-1:=λh=>eF _ aaV;refine⟨λy=>y=((decide (0<=n1)&&decide (n1<=a-1)&&decide (0<a),()),()),⟨trivial,?_⟩,?_⟩
 .by_cases h:0<a
  .dsimp only;rw[w h];refine af (λ_=>⟨rfl,?_⟩) λ_=>⟨rfl,?_⟩<;>first|(simp_all;done)|(simp_all;grind)
  .dsimp only;refine af (λ_=>⟨rfl,?_⟩) λ_=>⟨rfl,?_⟩<;>first|(simp_all;done)|(simp_all;grind)
 .rintro _ rfl;refine⟨λy=>y=(((decide (0<=n1)&&decide (n1<=a-1)&&decide (0<a))&&(decide (0<=n2)&&decide (n2<=a-1)),()),()),?_,?_⟩
  .refine af (λh=>⟨trivial,rfl,?_⟩) λh=>⟨rfl,?_⟩
   .have h:(decide (0<=n1)&&decide (n1<=a-1)&&decide (0<a))=true:=h;have h2:0<a:=by simp at h;omega
    rw[w h2,h,awI]
   .have h:(decide (0<=n1)&&decide (n1<=a-1)&&decide (0<a))=false:=h;rw[h,awx]
  .rintro _ rfl;dsimp only;generalize (decide (0<=n1)&&decide (n1<=a-1)&&decide (0<a))=kids;generalize (decide (0<=n2)&&decide (n2<=a-1))=two
   repeat' first
    |exact trivial
    |refine af (λ_=>?_) λ_=>?_
    |refine And.intro trivial ?_
   all_goals first|(simp_all;done)|(simp_all;grind)
end Go.Proofs.Tryz
namespace Go.Proofs.Tryz
open Go Go.Fw Go.IntWalk Sp
theorem abT:OK Cc.e:=by
 refine PA.ok mixed (aB [] trivial) aee aa1 (show∀a b,Cc.goal (ab9 a b) (a,b,())from ?_);intro a b hin hp;dsimp only[Cc]at hp ⊢;have hlen:a.length<=maxLen:=hin.1.1;rw[maxLen_eq]at hlen;refine af (λh=>?_) λh=>?_
 .have h:(a.length:Int)≠b.length:=acs;exact congrArg (·,()) (auU λe=>h ar2).symm
 .have h:(a.length:Int)=b.length:=acs;exact Hq (K:=λr=>r=(decide (a=b),())) (λx y=>x.1 !=y.1) (λx y=>aqM) _ a b _ hlen aaV (λe=>arM) λe=>arN
theorem Yl:OK zJ.e:=by
 refine PA.ok mixed (aB [] trivial) aap aa1 (show∀a b,zJ.goal (Ym a b) (a,b,())from ?_);intro a b hin hp;dsimp only[zJ]at hp ⊢;have hlen:a.length<=maxLen:=hin.1.1;rw[maxLen_eq]at hlen;refine af (λh=>?_) λh=>?_
 .have h:(a.length:Int)≠b.length:=acs;exact congrArg (·,()) (auU λe=>h ar2).symm
 .have h:(a.length:Int)=b.length:=acs;exact Hq (K:=λr=>r=(decide (a=b),())) (λx y=>!(x.1==y.1&&(x.2.1==y.2.1&&(x.2.2.1==y.2.2.1&&(x.2.2.2.1==y.2.2.2.1&&(x.2.2.2.2.1==y.2.2.2.2.1&&(x.2.2.2.2.2.1==y.2.2.2.2.2.1&&(x.2.2.2.2.2.2.1==y.2.2.2.2.2.2.1&&true)))))))) (λx y=>aqM) _ a b _ hlen aaV (λe=>arM) λe=>arN
theorem acd:OK Ce.e:=by
 refine PA.ok mixed (aB [zJ.e] ⟨Yl,trivial⟩) H0 aa1 (show∀a0 a1 b0 b1,Ce.goal (ace a0 a1 b0 b1) ((a0,a1,()),(b0,b1,()),())from ?_);intro a0 a1 b0 b1 hin hp;dsimp only[Ce]at hp ⊢;refine af (λh0=>⟨trivial,?_⟩) λh0=>?_
 all_goals refine congrArg (·,()) (ave.2 ?_)
 .simp only[au5]at h0;subst h0;simp
 .have h0:a0≠b0:=by simpa using h0
  simp[h0]
theorem aaq:OK Bh.e:=by
 refine PA.ok mixed (aB [Ce.e] ⟨acd,trivial⟩) acf aa1 (show∀a b,Bh.goal (aar a b) (a,b,())from ?_);intro a b hin hp;dsimp only[Bh]at hp ⊢;have hlen:a.length<=maxLen:=hin.1.1;rw[maxLen_eq]at hlen;refine af (λh=>?_) λh=>?_
 .have h:(a.length:Int)≠b.length:=acs;exact congrArg (·,()) (auU λe=>h ar2).symm
 .have h:(a.length:Int)=b.length:=acs;exact ahA (K:=λr=>r=(decide (a=b),())) (λx y=>!decide ((x.1,x.2.1,())=(y.1,y.2.1,()))) (λx y=>aqM) _ a b _ hlen aaV (λe=>arM) λe=>arN
theorem RU:OK uX.e:=by
 refine PA.ok mixed (aB [Bh.e,uh.e] ⟨aaq,Jo,trivial⟩) H0 aa1 (show∀a0 a1 a2 a3 b0 b1 b2 b3,uX.goal (Sj a0 a1 a2 a3 b0 b1 b2 b3) ((a0,a1,a2,a3,()),(b0,b1,b2,b3,()),())from ?_);intro a0 a1 a2 a3 b0 b1 b2 b3 hin hp;dsimp only[uX]at hp ⊢;refine⟨trivial,af (λh0=>⟨trivial,?_⟩) λh0=>?_⟩
 all_goals refine congrArg (·,()) (ave.2 ?_)
 .have h0:=fE h0;simp only[Prod.mk.injEq]at h0;simp[h0]
 .have h0:=fV h0;simp only[Prod.mk.injEq]at h0;simp only[auP,Prod.mk.injEq,av7,false_iff];exactλh=>h0 ⟨h.1,h.2.1,h.2.2.1,trivial⟩
theorem aas:OK Bf.e:=by refine PA.ok mixed (aB [] trivial) H0 aa1 (show∀n0 n1 n2 n3 n4 n5 n6,Bf.goal (aat n0 n1 n2 n3 n4 n5 n6) ((n0,n1,n2,n3,n4,n5,n6,()),())from ?_);intro n0 n1 n2 n3 n4 n5 n6 hin hp;dsimp only[Bf]at hp ⊢;exact af (λh=>ar7) λh=>ar7
theorem Hr{d:List bf}(h:eu d){n:Nat}(hn:n<d.length):(d.getD n ([],[],())).2.1.length<=1000:=h.2 _ (getD_mem hn)
end Go.Proofs.Tryz
