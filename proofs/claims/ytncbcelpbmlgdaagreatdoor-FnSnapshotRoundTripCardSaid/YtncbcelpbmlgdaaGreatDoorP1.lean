import Derived.Test.YtncbcelpbmlgdaaGreatDoorV1
import Derived.Test.YtncbcelpbmlgdaaGreatDoorSp
import Derived.Test.YtncbcelpbmlgdaaGreatDoorV2
import Derived.Test.YtncbcelpbmlgdaaGreatDoorFwC
namespace Go.Proofs.Tryz
open Go Go.Fw Go.IntWalk Sp
theorem amz(x y:Int)(m:Nat)(hm:m<9223372036854775807)(hy:(BitVec.ofInt 64 y).toNat=m):0<=bitsOf .and .i64 x y/\bitsOf .and .i64 x y<=m:=by
 have h:(BitVec.ofInt 64 x&&&BitVec.ofInt 64 y).toNat<=m:=by rw[BitVec.toNat_and,hy];exact Nat.and_le_right
 show 0<=IntKind.i64.wrap ((BitVec.ofInt 64 x&&&BitVec.ofInt 64 y).toNat:Int)/\IntKind.i64.wrap ((BitVec.ofInt 64 x&&&BitVec.ofInt 64 y).toNat:Int)<=m;generalize (BitVec.ofInt 64 x&&&BitVec.ofInt 64 y).toNat=z at h ⊢;rw[fE _ (by omega)];omega
theorem amA(x:Int):0<=bitsOf .and .i64 x 255/\bitsOf .and .i64 x 255<=255:=amz x 255 255 (by omega) (by decide)
theorem zD:OK pY.e:=by
 refine QA.ok mixed (aA [] trivial) aga (λ⟨_,⟨⟩⟩ _=>⟨([],0,0,()),rfl⟩) (by kernel_rfl) (show∀code,pY.goal (ad1 code) (code,())from ?_);intro code hin hp;dsimp only[pY]at hp ⊢;have hp:code.length<=1048576:=hp;refine⟨λy=>∃n:Nat,y.1.2.1=n/\n<=code.length,λy=>((code.length:Int)-y.1.2.1).toNat,⟨0,rfl,by omega⟩,?_⟩;rintro⟨⟨h,_,⟨⟩⟩,⟨⟩⟩ ⟨n,rfl,hn⟩;dsimp only;refine af (λhc=>?_) λhc=>?_
 .simp only[au1]at hc;cases decide ((n:Int)<4000)with
  |false=>exact rfl
  |true=>
   have e:IntKind.i64.wrap ((n:Int)+1)=((n+1:Nat):Int):=fE _ (by omega);refine⟨?_,?_,?_,?_⟩
   .exact⟨by omega,hc⟩
   .exact rfl
   .exact⟨n+1,e,by omega⟩
   show((code.length:Int)-IntKind.i64.wrap ((n:Int)+1)).toNat<((code.length:Int)-n).toNat;rw[e];omega
 .exact rfl
theorem abZ:OK Df.e:=by
 refine XA.ok mixed (aA [] trivial) H0 (λ_ _=>⟨(((0:Int),()),(([],0,0,()),())),⟨by decide,by decide,by decide⟩⟩) (by kernel_rfl) (show∀c0 c1 c2,Df.goal (ab1 c0 c1 c2) ((c0,c1,c2,()),())from ?_);intro b i h hin hp;dsimp only[Df]at hp ⊢;have hp:0<=i:=hp;refine⟨by decide,by decide,af (λhc=>?_) λhc=>?_⟩<;>simp only[au1,avt]at hc
 .have hl:b.length<=maxLen:=hin.1.1.1;rw[maxLen_eq]at hl;refine⟨⟨hp,hc⟩,?_,amA _⟩;show 0<=IntKind.i64.wrap (i+1);rw[fE _ (by omega)];omega
 .exact⟨hp,amA _⟩
theorem tmod_lt{a n:Int}(ha:0<=a)(hn:0<n):0<=a.tmod n/\a.tmod n<n:=⟨ax5 n ha,Int.tmod_lt_of_pos a hn⟩
theorem dw:OK bQ.e:=by
 refine XA.ok mixed (aA [Df.e] ⟨abZ,trivial⟩) H0 (λ⟨_,n,⟨⟩⟩ _=>⟨(((0:Int),()),(([],0,0,()),())),⟨avI _,avI _,λh=>h,λ_=>rfl⟩⟩) (by kernel_rfl) (show∀c0 c1 c2 n,bQ.goal (aap c0 c1 c2 n) ((c0,c1,c2,()),n,())from ?_);intro b i h n hin hp;dsimp only[bQ]at hp ⊢;have hp:0<=i:=hp;refine af (λhc=>?_) λhc=>?_<;>simp only[au1,avt]at hc
 .exact⟨hp,avI _,λh=>(by omega),λ_=>rfl⟩
 .refine af (λhc2=>?_) λhc2=>?_
  .refine⟨hp,?_⟩;rintro⟨⟨x,⟨⟩⟩,⟨b',i',h',⟨⟩⟩,⟨⟩⟩ ⟨h1,h2,h3⟩;dsimp only at h1 h2 h3 ⊢;have:=tmod_lt h2 (show 0<n by omega);exact⟨by omega,h1,this.1,λ_=>this.2,λh=>(by omega)⟩
  .refine⟨hp,?_⟩;rintro⟨⟨x1,⟨⟩⟩,⟨b1,i1,g1,⟨⟩⟩,⟨⟩⟩ ⟨h1,h2,h3⟩;refine⟨h1,?_⟩;rintro⟨⟨x2,⟨⟩⟩,⟨b2,i2,g2,⟨⟩⟩,⟨⟩⟩ ⟨k1,k2,k3⟩;refine⟨k1,?_⟩;rintro⟨⟨x3,⟨⟩⟩,⟨b3,i3,g3,⟨⟩⟩,⟨⟩⟩ ⟨l1,l2,l3⟩;refine⟨l1,?_⟩;rintro⟨⟨x4,⟨⟩⟩,⟨b4,i4,g4,⟨⟩⟩,⟨⟩⟩ ⟨m1,m2,m3⟩;dsimp only at*;rw[fE (x1*16777216) (by omega),fE (x2*65536) (by omega),fE (x3*256) (by omega),fE (x1*16777216+x2*65536) (by omega),fE (x1*16777216+x2*65536+x3*256) (by omega),fE (x1*16777216+x2*65536+x3*256+x4) (by omega)];have:=tmod_lt (a:=x1*16777216+x2*65536+x3*256+x4) (n:=n) (by omega) (by omega);exact⟨by omega,m1,this.1,λ_=>this.2,λh=>(by omega)⟩
theorem Cb:OK nZ.e:=by refine XA.ok mixed (aA [bQ.e] ⟨dw,trivial⟩) H0 (λ_ _=>⟨((false,()),(([],0,0,()),())),avI _⟩) (by kernel_rfl) (show∀c0 c1 c2 n,nZ.goal (ab2 c0 c1 c2 n) ((c0,c1,c2,()),n,())from ?_);intro b i h n hin hp;dsimp only[nZ]at hp ⊢;refine⟨hp,?_⟩;rintro⟨⟨x,⟨⟩⟩,⟨b',i',h',⟨⟩⟩,⟨⟩⟩ ⟨h1,_⟩;exact h1
theorem jM:OK iV.e:=by refine XA.ok mixed (aA [bQ.e] ⟨dw,trivial⟩) H0 (λ⟨_,l,⟨⟩⟩⟨_,hl⟩=>(match l,hl with|x::_,_=>⟨((x.1,()),(([],0,0,()),())),⟨avI _,au0⟩⟩)) (by kernel_rfl) (show∀c0 c1 c2 list,iV.goal (ab3 c0 c1 c2 list) ((c0,c1,c2,()),list,())from ?_);intro b i h l hin hp;dsimp only[iV]at hp ⊢;obtain⟨hp,hl⟩:=hp;have hpos:0<l.length:=axK.2 hl;refine⟨hp,?_⟩;rintro⟨⟨x,⟨⟩⟩,⟨b',i',h',⟨⟩⟩,⟨⟩⟩ ⟨h1,h2,h3,_⟩;have h3:x<(l.length:Int):=h3 (by omega);refine⟨⟨h2,h3⟩,h1,?_⟩;exact getD_mem (by dsimp only at h2;omega)
theorem rU:OK kD.e:=by refine XA.ok mixed (aA [bQ.e] ⟨dw,trivial⟩) H0 (λ⟨_,l,⟨⟩⟩⟨_,hl⟩=>(match l,hl with|x::_,_=>⟨((x.1,()),(([],0,0,()),())),⟨avI _,au0⟩⟩)) (by kernel_rfl) (show∀c0 c1 c2 list,kD.goal (WO c0 c1 c2 list) ((c0,c1,c2,()),list,())from ?_);intro b i h l hin hp;dsimp only[kD]at hp ⊢;obtain⟨hp,hl⟩:=hp;have hpos:0<l.length:=axK.2 hl;refine⟨hp,?_⟩;rintro⟨⟨x,⟨⟩⟩,⟨b',i',h',⟨⟩⟩,⟨⟩⟩ ⟨h1,h2,h3,_⟩;have h3:x<(l.length:Int):=h3 (by omega);refine⟨⟨h2,h3⟩,h1,?_⟩;exact getD_mem (by dsimp only at h2;omega)
theorem MK:OK wS.e:=by refine XA.ok mixed (aA [] trivial) ab4 (λ_ _=>⟨((Sp.usual,()),()),rfl⟩) (by kernel_rfl) (show wS.goal (aaq) (())from ?_);intro hin hp;dsimp only[wS]at hp ⊢;exact rfl
theorem Cc:OK qC.e:=by refine XA.ok mixed (aA [iV.e] ⟨jM,trivial⟩) H0 (λ_ _=>⟨(([],()),(([],0,0,()),())),⟨by decide,by decide⟩⟩) (by kernel_rfl) (show∀c0 c1 c2,qC.goal (ab5 c0 c1 c2) ((c0,c1,c2,()),())from ?_);intro b i h hin hp;dsimp only[qC]at hp ⊢;refine⟨⟨hp,by simp⟩,?_⟩;rintro⟨⟨x,⟨⟩⟩,⟨b',i',h',⟨⟩⟩,⟨⟩⟩ ⟨h1,h2⟩;refine⟨h1,?_⟩;exact(show∀y∈_,List.length y.1<=1 from by decide) _ h2
theorem WQ:Sp.usual.length=4:=rfl
theorem ad2:OK Em.e:=by
 refine XA.ok mixed (aA [iV.e,qC.e,bQ.e,wS.e] ⟨jM,Cc,dw,MK,trivial⟩) agb (λ_ _=>⟨(([],()),(([],0,0,()),())),⟨by decide,by decide⟩⟩) (by kernel_rfl) (show∀c0 c1 c2,Em.goal (ad3 c0 c1 c2) ((c0,c1,c2,()),())from ?_);intro b i h hin hp;dsimp only[Em]at hp ⊢;have hp:0<=i:=hp;refine⟨trivial,?_⟩;rintro⟨⟨_,⟨⟩⟩,⟨⟩⟩ rfl;dsimp only
 repeat' first
  |exact trivial
  |refine af (λ_=>?_) λ_=>?_
  |refine And.intro ?_ ?_
  |(intro r hr;simp only[]at hr)
  |intro r hr
 all_goals first
  |omega
  |(dsimp only at*;omega)
  |exact hr
  |(simp only[auP,ne_eq]at*;omega)
  |(simp only[avn,auY,auN,auQ,auW,WQ];omega)
  |(rw[iF];simp only[avn,auY,auN,auQ,auW,WQ];omega)
  |(simp only[avn,auY,auN,auQ,auW,WQ]at*;omega)
  |exact(show∀y∈_,List.length y.1<=10 from by decide) _ hr.2
  |(simp;done)
  |skip
theorem Aq:OK oZ.e:=by refine PA.ok mixed (aA [] trivial) H0 (by kernel_rfl) (show∀n,oZ.goal (aar n) (n,())from ?_);intro n hin hp;dsimp only[oZ]at hp ⊢;exact rfl
theorem mZ:OK jk.e:=by refine PA.ok mixed (aA [] trivial) H0 (by kernel_rfl) (show∀w,jk.goal (U3 w) (w,())from ?_);intro n hin hp;dsimp only[jk]at hp ⊢;exact rfl
theorem aas:OK BJ.e:=by
 refine XA.ok mixed (aA [jk.e,iV.e,oZ.e,bQ.e] ⟨mZ,jM,Aq,dw,trivial⟩) H0 (λ_ _=>⟨((((0:Int),(0:Int),([]:List UInt8),()),()),(([],0,0,()),())),⟨by decide,by decide⟩⟩) (by kernel_rfl) (show∀c0 c1 c2,BJ.goal (aat c0 c1 c2) ((c0,c1,c2,()),())from ?_);intro b i h hin hp;dsimp only[BJ]at hp ⊢;have hp:0<=i:=hp
 repeat' first
  |exact trivial
  |refine af (λ_=>?_) λ_=>?_
  |refine And.intro ?_ ?_
  |(intro r hr;simp only[]at hr)
  |intro r hr
 all_goals first
  |omega
  |(dsimp only at*;omega)
  |exact hr
  |(simp only[auP,ne_eq]at*;omega)
  |(simp only[avn,auY,auN,auQ,auW];omega)
  |(rw[iF];simp only[avn,auY,auN,auQ,auW];omega)
  |(simp only[avn,auY,auN,auQ,auW]at*;omega)
  |exact(show∀y∈_,List.length y.1<=10 from by decide) _ hr.2
  |(simp;done)
  |skip
theorem Ib:OK wK.e:=by
 refine XA.ok mixed (aA [iV.e,kD.e,bQ.e,BJ.e] ⟨jM,rU,dw,aas,trivial⟩) H0 (λ_ _=>⟨((((0:Int),(0:Int),([]:List UInt8),()),()),(([],0,0,()),())),⟨by decide,by decide⟩⟩) (by kernel_rfl) (show∀c0 c1 c2,wK.goal (ad4 c0 c1 c2) ((c0,c1,c2,()),())from ?_);intro b i h hin hp;dsimp only[wK]at hp ⊢;have hp:0<=i:=hp
 repeat' first
  |exact trivial
  |refine af (λ_=>?_) λ_=>?_
  |refine And.intro ?_ ?_
  |(intro r hr;simp only[]at hr)
  |intro r hr
 all_goals first
  |omega
  |(dsimp only at*;omega)
  |exact hr
  |(simp only[auP,ne_eq]at*;omega)
  |(simp only[avn,auY,auN,auQ,auW];omega)
  |(rw[iF];simp only[avn,auY,auN,auQ,auW];omega)
  |(simp only[avn,auY,auN,auQ,auW]at*;omega)
  |exact(show∀y∈_,List.length y.1<=10 from by decide) _ hr.2
  |(simp;done)
  |skip
theorem lD:OK jl.e:=by
 refine PA.ok mixed (aA [] trivial) H0 (by kernel_rfl) (show∀UX least most,jl.goal (agc UX least most) (UX,least,most,())from ?_);intro x a b hin hp;dsimp only[jl]at hp ⊢;refine af (λh=>?_) λh=>?_
 .have h:=fH h;show(decide (x<=b),())=(decide (a<=x)&&decide (x<=b),());rw[au2 (show a<=x from h)];rfl
 .have h:=fV h;show(false,())=(decide (a<=x)&&decide (x<=b),());rw[au6 (show ¬a<=x from h)];rfl
theorem lT:OK jE.e:=by
 refine PA.ok mixed (aA [] trivial) H0 (by kernel_rfl) (show∀n low high,jE.goal (ad5 n low high) (n,low,high,())from ?_);intro x a b hin hp;dsimp only[jE]at hp ⊢;refine af (λh=>?_) λh=>?_
 .show(decide (x<=b),())=(decide (a<=x)&&decide (x<=b),());rw[h];rfl
 .show(false,())=(decide (a<=x)&&decide (x<=b),());rw[h];rfl
theorem KE{s:List UInt8}{n:Nat}(hlt:n<s.length)(hl:Sp.lower s=true):97<=(s.getD n 0).toNat/\(s.getD n 0).toNat<=122:=by have:=au9.1 hl _ (getD_mem (d:=0) hlt);simpa using this
theorem Oo:OK yS.e:=by
 refine PA.ok mixed (aA [jl.e] ⟨lD,trivial⟩) ad6 (by kernel_rfl) (show∀s most,yS.goal (ab6 s most) (s,most,())from ?_);intro s most hin hp;dsimp only[yS]at hp ⊢;have hlen:s.length<=maxLen:=hin.1;rw[maxLen_eq]at hlen;refine⟨λy=>∃n:Nat,y.1.1=n/\n<=s.length/\Sp.lower (s.take n)=true,λy=>((s.length:Int)-y.1.1).toNat,⟨0,rfl,by omega,rfl⟩,?_⟩;rintro⟨⟨_,⟨⟩⟩,⟨⟩⟩ ⟨n,rfl,hn,hJ⟩;dsimp only;refine af (λh=>?_) λh=>?_<;>simp only[au1,avt]at h
 .have hlt:n<s.length:=by omega
  rw[fE _ (by omega),ava];refine⟨⟨by omega,by omega⟩,af (λh2=>?_) λh2=>⟨⟨by omega,by omega⟩,af (λh3=>?_) λh3=>?_⟩⟩<;>simp only[au1,avt]at*
  .cases hl:Sp.lower s with
   |false=>rfl
   |true=>have:=KE hlt hl;omega
  .cases hl:Sp.lower s with
   |false=>rfl
   |true=>have:=KE hlt hl;omega
  .refine⟨rfl,⟨n+1,by simp,by omega,?_⟩,by dsimp only;omega⟩;rw[Sp.take_succ' s n 0 hlt];unfold Sp.lower at hJ ⊢;rw[axn,hJ];simp only[avS,ax0,aw4,awJ,auO,au1];omega
 .have hge:n=s.length:=by omega
  rw[hge,av7]at hJ;rw[hJ];exact⟨trivial,rfl⟩
theorem zF:OK lH.e:=by refine PA.ok mixed (aA [yS.e] ⟨Oo,trivial⟩) H0 (by kernel_rfl) (show∀s,lH.goal (Qz s) (s,())from ?_);intro s hin hp;dsimp only[lH]at hp ⊢;exact⟨trivial,rfl⟩
theorem um:OK kG.e:=by
 refine PA.ok mixed (aA [lH.e,jl.e] ⟨zF,lD,trivial⟩) H0 (by kernel_rfl) (show∀v0 v1 v2,kG.goal (SA v0 v1 v2) ((v0,v1,v2,()),())from ?_);intro k n s hin hp;dsimp only[kG]at hp ⊢;refine af (λh=>?_) λh=>af (λh2=>⟨trivial,af (λh3=>?_) λh3=>?_⟩) λh2=>af (λh3=>⟨trivial,af (λh4=>?_) λh4=>?_⟩) λh3=>?_
 .have e:k=0:=by simpa using h
  subst e;exact congrArg (·,()) (avp.2 (by simp[bF]))
 .have e:k=1:=by simpa using h2
  subst e;exact congrArg (·,()) (avp.2 (by simp only[auO,au1]at h3;simp[bF,h3]))
 .have e:k=1:=by simpa using h2
  subst e;exact congrArg (·,()) (avp.2 (by simp only[bF,h3];simp))
 .have e:k=2:=by simpa using h3
  subst e;exact congrArg (·,()) (avp.2 (by simp[bF,h4]))
 .have e:k=2:=by simpa using h3
  subst e;exact congrArg (·,()) (avp.2 (by simp[bF,h4]))
 .have e1:k≠0:=by simpa using h
  have e2:k≠1:=by simpa using h2
  have e3:k≠2:=by simpa using h3
  exact congrArg (·,()) (avp.2 (by simp[bF,e1,e2,e3]))
theorem wH:OK jY.e:=by refine PA.ok mixed (aA [yS.e] ⟨Oo,trivial⟩) H0 (by kernel_rfl) (show∀s,jY.goal (Nz s) (s,())from ?_);intro s hin hp;dsimp only[jY]at hp ⊢;exact⟨trivial,rfl⟩
theorem Yx:OK zX.e:=by
 refine PA.ok mixed (aA [] trivial) aau (by kernel_rfl) (show∀s name,zX.goal (Yy s name) (s,name,())from ?_);intro s name hin hp;dsimp only[zX]at hp ⊢;have hlen:s.length<=maxLen:=hin.1.1;rw[maxLen_eq]at hlen;refine kS s.length hlen (λn=>∀i,i<n->(s.getD i ([],0,())).1≠name) (λi hi=>by omega) (λI μ n hn hJ next=>?_) λI μ hJ=>?_
 .dsimp only;refine fP (by omega) ⟨⟨by omega,by omega⟩,af (λh=>⟨⟨by omega,by omega⟩,?_⟩) λh=>⟨rfl,next λi hi=>?_⟩⟩
  .exact congrArg (·,()) (WR s n hn hJ (by simpa only[ava,avj]using h)).symm
  .rcases avb i n with h'|h'
   .exact hJ i h'
   .have:i=n:=by omega
    subst this;have h2:((s.getD i ([],0,())).1==name)=false:=h;exactλe=>by rw[e]at h2;simp at h2
 .dsimp only;exact fQ (by omega) (congrArg (·,()) (O8 s hJ).symm)
theorem Fh:OK o5.e:=by
 refine PA.ok mixed (aA [jl.e,jY.e] ⟨lD,wH,trivial⟩) SB (by kernel_rfl) (show∀s,o5.goal (QB s) (s,())from ?_);intro s hin hp;dsimp only[o5]at hp ⊢;have hlen:s.length<=maxLen:=hin.1.1;rw[maxLen_eq]at hlen;refine kS s.length hlen (λn=>∀i,i<n->jC s i=true) (λi hi=>by omega) (λI μ n hn hJ next=>?_) λI μ hJ=>?_
 .dsimp only;have no:jC s n=false->(false,())=(eF s,()):=λh=>by rw[Zr hn h]
  refine fP (by omega) ⟨⟨by omega,by omega⟩,trivial,af (λh2=>no ?_) λh2=>⟨⟨by omega,by omega⟩,trivial,af (λh3=>no ?_) λh3=>af (λh4=>?_) λh4=>⟨rfl,next (dW hJ ?_)⟩⟩⟩
  .have h2:dB (Sp.fieldAt s n).1=false:=jP h2;unfold jC;rw[h2];rfl
  .have h2:dB (Sp.fieldAt s n).1=true:=gI h2;have h3:(decide (1<=(Sp.fieldAt s n).2.1)&&decide ((Sp.fieldAt s n).2.1<=2))=false:=jP h3;unfold jC;rw[h2,h3];rfl
  .have h2:dB (Sp.fieldAt s n).1=true:=gI h2;have h3:(decide (1<=(Sp.fieldAt s n).2.1)&&decide ((Sp.fieldAt s n).2.1<=2))=true:=gI h3;have h4:0<n:=by have:=fH h4;omega
   rw[zG h4 (by omega)];refine⟨⟨by omega,by omega⟩,⟨by omega,by omega⟩,af (λh5=>no ?_) λh5=>⟨rfl,next (dW hJ ?_)⟩⟩
   .have h5:Op.bytesLess (Sp.fieldAt s (n-1)).1 (Sp.fieldAt s n).1=false:=jP h5;unfold jC;rw[h2,h3,h5,au2 h4];rfl
   .have h5:Op.bytesLess (Sp.fieldAt s (n-1)).1 (Sp.fieldAt s n).1=true:=gI h5;unfold jC;rw[h2,h3,h5,au2 h4];rfl
  .have h2:dB (Sp.fieldAt s n).1=true:=gI h2;have h3:(decide (1<=(Sp.fieldAt s n).2.1)&&decide ((Sp.fieldAt s n).2.1<=2))=true:=gI h3;have h4:¬0<n:=by have:=fV h4;omega
   unfold jC;rw[h2,h3,au6 h4];rfl
 .dsimp only;refine fQ (by omega) (congrArg (·,()) ?_);unfold eF;rw[nD hJ];rfl
theorem QC:OK tN.e:=by
 refine PA.ok mixed (aA [zX.e,kG.e] ⟨Yx,um,trivial⟩) H0 (by kernel_rfl) (show∀s name v0 v1 v2,tN.goal (QD s name v0 v1 v2) (s,name,(v0,v1,v2,()),())from ?_);intro fs s k n w hin hp;dsimp only[tN]at hp ⊢;refine⟨trivial,af (λh=>af (λh2=>⟨trivial,?_⟩) λh2=>?_) λh=>?_⟩
 .exact congrArg (·,()) (avp.2 (by simp only[bne_iff_ne,ne_eq]at h2;simp[iK,h,h2]))
 .exact congrArg (·,()) (avp.2 (by simp at h2;simp[iK,h2]))
 .exact congrArg (·,()) (avp.2 (by simp[iK,h]))
theorem He:OK rF.e:=by
 refine PA.ok mixed (aA [jl.e,o5.e,tN.e] ⟨lD,Fh,QC,trivial⟩) WS (by kernel_rfl) (show∀s f0 f1 f2 f3 f4,rF.goal (U4 s f0 f1 f2 f3 f4) (s,(f0,f1,f2,f3,f4,()),())from ?_);intro fs f0 f1 f2 f3 f4 hin hp;dsimp only[rF]at hp ⊢;have hlen:f4.length<=maxLen:=hin.2.1.2.2.2.2.1.1;rw[maxLen_eq]at hlen;refine kS f4.length hlen (λn=>∀i,i<n->jJ fs f4 i=true) (λi hi=>by omega) (λI μ n hn hJ next=>?_) λI μ hJ=>?_
 .dsimp only;have no:jJ fs f4 n=false->(false,())=(dG fs (f0,f1,f2,f3,f4,()),()):=λh=>by rw[afr (f:=(f0,f1,f2,f3,f4,())) hn h]
  refine fP (by omega) ⟨⟨by omega,by omega⟩,⟨by omega,by omega⟩,trivial,af (λh2=>no ?_) λh2=>af (λh4=>?_) λh4=>⟨rfl,next (dW hJ ?_)⟩⟩
  .have h2:iK fs (bW f4 n).1 (bW f4 n).2.1 (bW f4 n).2.2.1 (bW f4 n).2.2.2.1=false:=jP h2;unfold jJ;rw[h2];rfl
  .have h2:iK fs (bW f4 n).1 (bW f4 n).2.1 (bW f4 n).2.2.1 (bW f4 n).2.2.2.1=true:=gI h2;have h4:0<n:=by have:=fH h4;omega
   rw[zG h4 (by omega)];refine⟨⟨by omega,by omega⟩,⟨by omega,by omega⟩,af (λh5=>no ?_) λh5=>⟨rfl,next (dW hJ ?_)⟩⟩
   .have h5:Op.bytesLess (bW f4 (n-1)).1 (bW f4 n).1=false:=jP h5;unfold jJ;rw[h2,h5,au2 h4];rfl
   .have h5:Op.bytesLess (bW f4 (n-1)).1 (bW f4 n).1=true:=gI h5;unfold jJ;rw[h2,h5,au2 h4];rfl
  .have h2:iK fs (bW f4 n).1 (bW f4 n).2.1 (bW f4 n).2.2.1 (bW f4 n).2.2.2.1=true:=gI h2;have h4:¬0<n:=by have:=fV h4;omega
   unfold jJ;rw[h2,au6 h4];rfl
 .dsimp only;have ha:ji fs f4=true:=nD hJ;refine fQ (by omega) ⟨trivial,af (λh1=>⟨trivial,af (λh2=>⟨trivial,af (λh3=>⟨trivial,?_⟩) λh3=>?_⟩) λh2=>?_⟩) λh1=>?_⟩
  .refine congrArg (·,()) ?_;unfold dG;rw[ha,h1,h2,h3];rfl
  .refine congrArg (·,()) ?_;unfold dG;rw[ha,h1,h2,h3];rfl
  .refine congrArg (·,()) ?_;unfold dG;rw[ha,h1,h2];rfl
  .refine congrArg (·,()) ?_;unfold dG;rw[ha,h1];rfl
theorem Ar:OK mX.e:=by
 refine PA.ok mixed (aA [jl.e,o5.e,rF.e] ⟨lD,Fh,He,trivial⟩) U5 (by kernel_rfl) (show∀s0 s1 s2,mX.goal (SC s0 s1 s2) ((s0,s1,s2,()),())from ?_);intro s0 s1 s2 hin hp;dsimp only[mX]at hp ⊢;have hlen:s1.length<=maxLen:=hin.1.2.1.1;rw[maxLen_eq]at hlen;refine kS s1.length hlen (λn=>∀i,i<n->lg (s0,s1,s2,()) i=true) (λi hi=>by omega) (λI μ n hn hJ next=>?_) λI μ hJ=>?_
 .dsimp only;have no:lg (s0,s1,s2,()) n=false->(false,())=(bM (s0,s1,s2,()),()):=λh=>by rw[ab7 (s:=(s0,s1,s2,())) hn h]
  refine fP (by omega) ⟨⟨by omega,by omega⟩,trivial,af (λh2=>no ?_) λh2=>⟨⟨by omega,by omega⟩,af (λh3=>no ?_) λh3=>af (λh4=>?_) λh4=>⟨rfl,next (dW hJ ?_)⟩⟩⟩
  .have h2:dG s0 (Sp.fileAt s1 n)=false:=jP h2;show(dG s0 (Sp.fileAt s1 n)&&_&&_)=false;rw[h2];rfl
  .have h2:dG s0 (Sp.fileAt s1 n)=true:=gI h2;have h3:¬(Sp.fileAt s1 n).1<s2:=by have h3:(Sp.fileAt s1 n).1>=s2:=fH h3;omega
   show(dG s0 (Sp.fileAt s1 n)&&decide ((Sp.fileAt s1 n).1<s2)&&_)=false;rw[h2,au6 h3];rfl
  .have h2:dG s0 (Sp.fileAt s1 n)=true:=gI h2;have h3:(Sp.fileAt s1 n).1<s2:=by have h3:¬(Sp.fileAt s1 n).1>=s2:=fV h3;omega
   have h4:0<n:=by have:=fH h4;omega
   rw[zG h4 (by omega)];refine⟨⟨by omega,by omega⟩,⟨by omega,by omega⟩,af (λh5=>no ?_) λh5=>⟨rfl,next (dW hJ ?_)⟩⟩
   .have h5:¬(Sp.fileAt s1 (n-1)).1<(Sp.fileAt s1 n).1:=by have h5:(Sp.fileAt s1 (n-1)).1>=(Sp.fileAt s1 n).1:=fH h5;omega
    show(dG s0 (Sp.fileAt s1 n)&&decide ((Sp.fileAt s1 n).1<s2)&&!(decide (0<n)&&!decide ((Sp.fileAt s1 (n-1)).1<(Sp.fileAt s1 n).1)))=false;rw[h2,au2 h3,au2 h4,au6 h5];rfl
   .have h5:(Sp.fileAt s1 (n-1)).1<(Sp.fileAt s1 n).1:=by have h5:¬(Sp.fileAt s1 (n-1)).1>=(Sp.fileAt s1 n).1:=fV h5;omega
    show(dG s0 (Sp.fileAt s1 n)&&decide ((Sp.fileAt s1 n).1<s2)&&!(decide (0<n)&&!decide ((Sp.fileAt s1 (n-1)).1<(Sp.fileAt s1 n).1)))=true;rw[h2,au2 h3,au2 h4,au2 h5];rfl
  .have h2:dG s0 (Sp.fileAt s1 n)=true:=gI h2;have h3:(Sp.fileAt s1 n).1<s2:=by have h3:¬(Sp.fileAt s1 n).1>=s2:=fV h3;omega
   have h4:¬0<n:=by have:=fV h4;omega
   show(dG s0 (Sp.fileAt s1 n)&&decide ((Sp.fileAt s1 n).1<s2)&&!(decide (0<n)&&!decide ((Sp.fileAt s1 (n-1)).1<(Sp.fileAt s1 n).1)))=true;rw[h2,au2 h3,au6 h4];rfl
 .dsimp only;have ha:jd s1.length (lg (s0,s1,s2,()))=true:=nD hJ;refine fQ (by omega) ⟨trivial,af (λh1=>af (λh2=>⟨trivial,?_⟩) λh2=>?_) λh1=>?_⟩
  .refine congrArg (·,()) ?_;show _=(jd s1.length (lg (s0,s1,s2,()))&&eF s0&&decide ((s1.length:Int)<=12)&&(decide (1<=s2)&&decide (s2<=61)));rw[ha,h1,h2];rfl
  .refine congrArg (·,()) ?_;show _=(jd s1.length (lg (s0,s1,s2,()))&&eF s0&&decide ((s1.length:Int)<=12)&&(decide (1<=s2)&&decide (s2<=61)));rw[ha,h1,h2];rfl
  .refine congrArg (·,()) ?_;show _=(jd s1.length (lg (s0,s1,s2,()))&&eF s0&&decide ((s1.length:Int)<=12)&&(decide (1<=s2)&&decide (s2<=61)));rw[ha,h1];rfl
theorem WT:OK yF.e:=by
 refine PA.ok mixed (aA [] trivial) Yz (by kernel_rfl) (show∀a b,yF.goal (WU a b) (a,b,())from ?_);intro a b hin hp;dsimp only[yF]at hp ⊢;have hlen:a.length<=maxLen:=hin.1.1;rw[maxLen_eq]at hlen;refine af (λh=>?_) λh=>?_
 .have h:(a.length:Int)≠b.length:=by simpa using h
  exact congrArg (·,()) (au6 λe=>h (by rw[e])).symm
 .have h:(a.length:Int)=b.length:=by simpa using h
  exact Fj (K:=λr=>r=(decide (a=b),())) (λx y=>!(x.1==y.1&&(x.2.1==y.2.1&&true))) (λx y=>by simp[awn]) _ a b _ hlen (by omega) (λe=>by rw[au6 e]) λe=>by rw[au2 e]
theorem YA:OK zZ.e:=by
 refine PA.ok mixed (aA [] trivial) aav (by kernel_rfl) (show∀a b,zZ.goal (YB a b) (a,b,())from ?_);intro a b hin hp;dsimp only[zZ]at hp ⊢;have hlen:a.length<=maxLen:=hin.1.1;rw[maxLen_eq]at hlen;refine af (λh=>?_) λh=>?_
 .have h:(a.length:Int)≠b.length:=by simpa using h
  exact congrArg (·,()) (au6 λe=>h (by rw[e])).symm
 .have h:(a.length:Int)=b.length:=by simpa using h
  exact Fj (K:=λr=>r=(decide (a=b),())) (λx y=>!(x.1==y.1&&(x.2.1==y.2.1&&(x.2.2.1==y.2.2.1&&(x.2.2.2.1==y.2.2.2.1&&true))))) (λx y=>by simp[awn]) _ a b _ hlen (by omega) (λe=>by rw[au6 e]) λe=>by rw[au2 e]
theorem aaw:OK BK.e:=by
 refine PA.ok mixed (aA [zZ.e] ⟨YA,trivial⟩) H0 (by kernel_rfl) (show∀a0 a1 a2 a3 a4 b0 b1 b2 b3 b4,BK.goal (aax a0 a1 a2 a3 a4 b0 b1 b2 b3 b4) ((a0,a1,a2,a3,a4,()),(b0,b1,b2,b3,b4,()),())from ?_);intro a0 a1 a2 a3 a4 b0 b1 b2 b3 b4 hin hp;dsimp only[BK]at hp ⊢;refine af (λh0=>af (λh1=>af (λh2=>af (λh3=>⟨trivial,?_⟩) λh3=>?_) λh2=>?_) λh1=>?_) λh0=>?_
 all_goals refine congrArg (·,()) (avp.2 ?_)
 .simp only[avj]at h0 h1 h2 h3;subst h0 h1 h2 h3;simp
 .have h3:a3≠b3:=by simpa using h3
  simp[h3]
 .have h2:a2≠b2:=by simpa using h2
  simp[h2]
 .have h1:a1≠b1:=by simpa using h1
  simp[h1]
 .have h0:a0≠b0:=by simpa using h0
  simp[h0]
theorem YC:OK Aa.e:=by
 refine PA.ok mixed (aA [BK.e] ⟨aaw,trivial⟩) aay (by kernel_rfl) (show∀a b,Aa.goal (YD a b) (a,b,())from ?_);intro a b hin hp;dsimp only[Aa]at hp ⊢;have hlen:a.length<=maxLen:=hin.1.1;rw[maxLen_eq]at hlen;refine af (λh=>?_) λh=>?_
 .have h:(a.length:Int)≠b.length:=by simpa using h
  exact congrArg (·,()) (au6 λe=>h (by rw[e])).symm
 .have h:(a.length:Int)=b.length:=by simpa using h
  exact aaz (K:=λr=>r=(decide (a=b),())) (λx y=>!decide ((x.1,x.2.1,x.2.2.1,x.2.2.2.1,x.2.2.2.2.1,())=(y.1,y.2.1,y.2.2.1,y.2.2.2.1,y.2.2.2.2.1,()))) (λx y=>by simp[awn]) _ a b _ hlen (by omega) (λe=>by rw[au6 e]) λe=>by rw[au2 e]
theorem JX:OK uU.e:=by
 refine PA.ok mixed (aA [Aa.e,yF.e] ⟨YC,WT,trivial⟩) H0 (by kernel_rfl) (show∀a0 a1 a2 b0 b1 b2,uU.goal (YE a0 a1 a2 b0 b1 b2) ((a0,a1,a2,()),(b0,b1,b2,()),())from ?_);intro a0 a1 a2 b0 b1 b2 hin hp;dsimp only[uU]at hp ⊢;refine⟨trivial,af (λh0=>⟨trivial,af (λh1=>?_) λh1=>?_⟩) λh0=>?_⟩
 all_goals refine congrArg (·,()) (avp.2 ?_)
 .have h0:=fH h0;have h1:=fH h1;subst h0 h1;simp
 .have h1:=fV h1;simp[h1]
 .have h0:=fV h0;simp[h0]
theorem Oq:OK yT.e:=by refine PA.ok mixed (aA [] trivial) ad7 (by kernel_rfl) (show∀f0 f1 f2 f3 f4,yT.goal (ab8 f0 f1 f2 f3 f4) ((f0,f1,f2,f3,f4,()),())from ?_);intro f0 f1 f2 f3 f4 hin hp;dsimp only[yT]at hp ⊢;have hp:f4.length<=1000:=hp;exact⟨by rw[iF];omega,rfl⟩
theorem ad8:OK En.e:=by refine PA.ok mixed (aA [jE.e] ⟨lT,trivial⟩) H0 (by kernel_rfl) (show∀n,En.goal (ad9 n) (n,())from ?_);intro n hin hp;dsimp only[En]at hp ⊢;exact⟨trivial,rfl⟩
theorem aaA:OK BL.e:=by
 refine PA.ok mixed (aA [] trivial) ab9 (by kernel_rfl) (show∀s0 s1 s2 id,BL.goal (aaB s0 s1 s2 id) ((s0,s1,s2,()),id,())from ?_);intro s0 s1 s2 id hin hp;dsimp only[BL]at hp ⊢;have hlen:s1.length<=maxLen:=hin.1.2.1.1;rw[maxLen_eq]at hlen;refine kS s1.length hlen (λn=>∀i,i<n->(Sp.fileAt s1 i).1≠id) (λi hi=>by omega) (λI μ n hn hJ next=>?_) λI μ hJ=>?_
 .dsimp only;refine fP (by omega) ⟨⟨by omega,by omega⟩,af (λh=>?_) λh=>⟨rfl,next λi hi=>?_⟩⟩
  .have h:(Sp.fileAt s1 n).1=id:=fH h;exact congrArg (·,()) (Sp.ML hn hJ h).symm
  .rcases avb i n with h'|h'
   .exact hJ i h'
   .have:i=n:=by omega
    subst this;have h:¬(Sp.fileAt s1 i).1=id:=fV h;exact h
 .dsimp only;exact fQ (by omega) (congrArg (·,()) (acd hJ).symm)
theorem set_self{fs:List aS}{n:Nat}(hn:n<fs.length):fs.set n (fs.getD n (0,0,false,0,[],()))=fs:=by
 refine axe (by simp) λi h1 h2=>?_;rw[List.getElem_set];split
 .next e=>subst e;rw[auS,auX hn];rfl
 .rfl
theorem MN{s:List aW}(p:aW->Bool){n:Nat}(hn:n<s.length):(s.take (n+1)).filter p=(s.take n).filter p++(if p (bW s n)=true then[bW s n]else[]):=by
 rw[Sp.take_succ' s n ([],0,0,[],()) hn,List.filter_append];congr 1;show List.filter _ [bW s n]=_;by_cases h:p (bW s n)=true
 .rw[List.filter_cons_of_pos h,if_pos h];rfl
 .rw[List.filter_cons_of_neg h,if_neg h];rfl
theorem ace(s:List aW)(p:aW->Bool)(n:Nat):((s.take n).filter p).length<=n:=by have:=axC p (s.take n);rw[auY]at this;omega
theorem ahQ(al:List aW)(name:Sp.Bytes)(n:Int)(s:Sp.Bytes):jb al name 0 n s=al.filter (nU name):=rfl
theorem alf{al:List aW}{name:Sp.Bytes}{k n:Int}{s:Sp.Bytes}(hk:k≠0){l:List aW}(hl:l=al.filter (nU name)){m:Nat}(hm:m<=l.length)
 (h1:∀i,i<m->qI name (bW l i)=true) (h2:m<l.length->qI name (bW l m)=false):
 List.drop 0 (List.take m l)++[(name,k,n,s,())]++List.drop m (List.take l.length l)=jb al name k n s:=by
 obtain⟨e1,e2⟩:=MO (d:=(([]:List UInt8),(0:Int),(0:Int),([]:List UInt8),())) l m hm h1 h2;unfold jb Lh;rw[au6 hk,← hl];show _=l.takeWhile (qI name)++_::l.dropWhile (qI name);rw[e1,e2,av7,awL,au4];rfl
theorem Gn:OK uM.e:=by
 refine XA.ok mixed (aA [] trivial) aea (λ⟨(i,o,s,l,a,_),name,(k,n,w,_),_⟩ _=>⟨(((i,o,s,l,jb a name k n w,()),()),()),⟨rfl,rfl,rfl,rfl,rfl⟩⟩) (by kernel_rfl) (show∀f0 f1 f2 f3 f4 name v0 v1 v2,uM.goal (acf f0 f1 f2 f3 f4 name v0 v1 v2) ((f0,f1,f2,f3,f4,()),name,(v0,v1,v2,()),())from ?_);intro f0 f1 f2 f3 f4 name k n s hin hp;dsimp only[uM]at hp ⊢;have hp:f4.length<=1000:=hp;refine iy (λi(x:List aW)=>(((),i,()),x,())) (λy=>y.1.2.1) (λ_ _=>rfl) f4.length (by omega) (λm l=>l=(f4.take m).filter (nU name)) (by simp) (λI μ m l hm hJ next=>?_) λI μ l hJ=>?_
 .subst hJ;have hl:=ace f4 (nU name) m;dsimp only;refine fP (by omega) ⟨⟨by omega,by omega⟩,af (λh=>⟨⟨by omega,by omega⟩,by rw[iF];simp only[auQ,auW];omega,rfl,next _ ?_⟩) λh=>⟨rfl,next _ ?_⟩⟩
  .rw[MN _ hm,if_pos (show nU name (bW f4 m)=true from h)];rfl
  .rw[MN _ hm,if_neg (show ¬nU name (bW f4 m)=true fromλh'=>by have h:nU name (bW f4 m)=false:=h;rw[h]at h';cases h'),avi]
 .rw[av7]at hJ;have hl:l.length<=1000:=by rw[hJ];have:=axC (nU name) f4;omega
  dsimp only;refine fQ (by omega) (af (λh=>?_) λh=>?_)
  .have hk:k≠0:=by simpa using h
   have fin:∀m:Nat,m<=l.length->(∀i,i<m->qI name (bW l i)=true)->(m<l.length->qI name (bW l m)=false)->
    ((0:Int)<=m/\(m:Int)<=l.length)/\0+(List.drop 0 (List.take m l)).length<=big/\(List.drop 0 (List.take m l)).length+[(name,k,n,s,())].length<=big/\((0:Int)<=m/\(m:Int)<=l.length)/\
    (List.drop 0 (List.take m l)++[(name,k,n,s,())]).length+(List.drop m (List.take l.length l)).length<=big/\
    (f0=f0/\f1=f1/\f2=f2/\f3=f3/\List.drop 0 (List.take m l)++[(name,k,n,s,())]++List.drop m (List.take l.length l)=jb f4 name k n s):=by
    intro m hm h1 h2;refine⟨⟨by omega,by omega⟩,?_,?_,⟨by omega,by omega⟩,?_,rfl,rfl,rfl,rfl,alf hk hJ hm h1 h2⟩
    all_goals
     rw[iF];simp only[auN,avl,auY,auQ,auW];omega
   refine kS l.length (by omega) (λm=>∀i,i<m->qI name (bW l i)=true) (λi hi=>by omega) (λI μ m hm hJ2 next=>?_) λI μ hJ2=>?_
   .dsimp only;refine fP (by omega) ⟨⟨by omega,by omega⟩,hm,af (λh2=>⟨rfl,next (dW (f:=λi=>qI name (bW l i)) hJ2 h2)⟩) λh2=>?_⟩;exact fin m (by omega) hJ2 λ_=>h2
   .dsimp only;exact fQ (by omega) (fin l.length (auT _) hJ2 λh'=>by omega)
  .have hk:k=0:=by simpa using h
   subst hk;exact⟨rfl,rfl,rfl,rfl,by rw[ahQ];exact hJ⟩
theorem aaC:OK BM.e:=by refine XA.ok mixed (aA [] trivial) acg (λ⟨s,_⟩ _=>⟨(((s,[],1,()),()),()),⟨rfl,rfl,rfl⟩⟩) (by kernel_rfl) (show∀s,BM.goal (aaD s) (s,())from ?_);intro s hin hp;dsimp only[BM]at hp ⊢;have hp:s.length<=1000:=hp;exact⟨by rw[iF];omega,rfl,rfl,rfl⟩
theorem Ot:OK yU.e:=by
 refine XA.ok mixed (aA [yT.e] ⟨Oq,trivial⟩) aeb (λ⟨(a,l,nx,_),_⟩ _=>⟨(((a,l,nx,()),()),()),rfl⟩) (by kernel_rfl) (show∀s0 s1 s2,yU.goal (ach s0 s1 s2) ((s0,s1,s2,()),())from ?_);intro s0 s1 s2 hin hp;dsimp only[yU]at hp ⊢;obtain⟨h0,h1,h2⟩:s0.length<=1000/\s1.length<=1000/\∀f∈s1,wV f:=hp;refine⟨by rw[iF];omega,?_⟩;refine iy (λi(x:List aS)=>((i,()),((),(),s2,()),x,())) (λy=>y.1.1) (λ_ _=>rfl) s1.length (by omega) (λn l=>l=s1.take n) (by simp) (λI μ n l hn hJ next=>?_) λI μ l hJ=>?_
 .subst hJ;have hl:(s1.take n).length<=n:=by rw[auY];omega
  dsimp only;refine fP (by omega) ⟨⟨by omega,by omega⟩,h2 _ (getD_mem (d:=((0:Int),(0:Int),false,(0:Int),[],())) hn),by rw[iF];simp only[auQ,auW];omega,rfl,next _ ?_⟩;exact(Sp.take_succ' s1 n (0,0,false,0,[],()) hn).symm
 .subst hJ;dsimp only;refine fQ (by omega) ?_;rw[av7]
theorem I8:OK sW.e:=by
 refine XA.ok mixed (aA [rF.e,mX.e,yT.e,yU.e] ⟨He,Ar,Oq,Ot,trivial⟩) YF (λ⟨s,f,_⟩ _=>⟨((((bY s f).1.1,(bY s f).1.2.1,(bY s f).1.2.2.1,()),(bY s f).2.1,(bY s f).2.2,()),()),⟨rfl,rfl,rfl,rfl,rfl⟩⟩) (by kernel_rfl) (show∀s0 s1 s2 f0 f1 f2 f3 f4,sW.goal (WV s0 s1 s2 f0 f1 f2 f3 f4) ((s0,s1,s2,()),(f0,f1,f2,f3,f4,()),())from ?_);intro s0 s1 s2 f0 f1 f2 f3 f4 hin hp;dsimp only[sW]at hp ⊢;refine⟨hp.1,?_⟩;rintro⟨⟨⟨a,l,nx,⟨⟩⟩,⟨⟩⟩,⟨⟩⟩ e;obtain⟨rfl,rfl,rfl⟩:a=s0/\l=s1/\nx=s2:=by simpa using e
 have hs:l.length<=1000:=hp.1.2.1;have no:¬(bM (a,l,nx,())=true/\l.length<12/\dG a (nx,f1,f2,f3,f4,())=true)->bY (a,l,nx,()) (f0,f1,f2,f3,f4,())=((a,l,nx,()),0,false):=λh=>by
  rcases nV (a,l,nx,()) (f0,f1,f2,f3,f4,())with⟨e,_⟩|⟨h1,h2,h3,_⟩
  .exact e
  .exact(h ⟨h1,h2,h3⟩).elim
 refine⟨hp.2,trivial,af (λh1=>?_) λh1=>af (λh2=>?_) λh2=>⟨trivial,af (λh3=>?_) λh3=>?_⟩⟩
 .have:=no λh=>by have h1:=jP h1;have:=h.1;rw[show bM (a,l,nx,())=false from h1]at this;cases this
  dsimp only;rw[this];exact⟨rfl,rfl,rfl,rfl,rfl⟩
 .have:=no λh=>by have h2:(l.length:Int)>=12:=fH h2;omega
  dsimp only;rw[this];exact⟨rfl,rfl,rfl,rfl,rfl⟩
 .have:=no λh=>by have h3:=jP h3;have:=h.2.2;rw[show dG a (nx,f1,f2,f3,f4,())=false from h3]at this;cases this
  dsimp only;rw[this];exact⟨rfl,rfl,rfl,rfl,rfl⟩
 .have g1:bM (a,l,nx,())=true:=gI h1;have g2:l.length<12:=by have h2:¬(l.length:Int)>=12:=fV h2;omega
  have g3:dG a (nx,f1,f2,f3,f4,())=true:=gI h3;rcases nV (a,l,nx,()) (f0,f1,f2,f3,f4,())with⟨_,e⟩|⟨_,_,_,e⟩
  .exact(e ⟨g1,g2,g3⟩).elim
  .have hnx:=(oU.1 g1).2.2.2;have w:IntKind.i64.wrap (nx+1)=nx+1:=fE _ (by have h5:nx<=61:=hnx.2;have h6:1<=nx:=hnx.1;omega);refine⟨by rw[iF];simp only[auQ,auW];omega,?_⟩;dsimp only;rw[e,w];exact⟨rfl,rfl,rfl,rfl,rfl⟩
theorem WW:OK yG.e:=by
 refine XA.ok mixed (aA [mX.e,BL.e,yU.e] ⟨Ar,aaA,Ot,trivial⟩) YG (λ⟨s,id,_⟩ _=>⟨((((fA s id).1.1,(fA s id).1.2.1,(fA s id).1.2.2.1,()),(fA s id).2,()),()),⟨rfl,rfl,rfl,rfl⟩⟩) (by kernel_rfl) (show∀s0 s1 s2 id,yG.goal (WX s0 s1 s2 id) ((s0,s1,s2,()),id,())from ?_);intro s0 s1 s2 id hin hp;dsimp only[yG]at hp ⊢;refine⟨hp,?_⟩;rintro⟨⟨⟨a,l,nx,⟨⟩⟩,⟨⟩⟩,⟨⟩⟩ e;obtain⟨rfl,rfl,rfl⟩:a=s0/\l=s1/\nx=s2:=by simpa using e
 have hs:l.length<=1000:=hp.2.1;have no:¬(bM (a,l,nx,())=true/\0<=Sp.place l id)->fA (a,l,nx,()) id=((a,l,nx,()),false):=λh=>by
  rcases vF (a,l,nx,()) id with⟨e,_⟩|⟨n,hn,h1,h2,_⟩
  .exact e
  .exact(h ⟨h2,by have h1:Sp.place l id=n:=h1;omega⟩).elim
 refine⟨trivial,trivial,af (λh1=>?_) λh1=>af (λh2=>?_) λh2=>?_⟩
 .have:=no λh=>by have h1:=jP h1;have:=h.1;rw[show bM (a,l,nx,())=false from h1]at this;cases this
  dsimp only;rw[this];exact⟨rfl,rfl,rfl,rfl⟩
 .have:=no λh=>by have h2:Sp.place l id<0:=fH h2;omega
  dsimp only;rw[this];exact⟨rfl,rfl,rfl,rfl⟩
 .have g1:bM (a,l,nx,())=true:=gI h1;have g2:0<=Sp.place l id:=by have h2:¬Sp.place l id<0:=fV h2;omega
  rcases vF (a,l,nx,()) id with⟨_,e⟩|⟨n,hn,hpl,_,e⟩
  .exact(e ⟨g1,g2⟩).elim
  .have hn:n<l.length:=hn;have hpl:Sp.place l id=n:=hpl;have w:IntKind.i64.wrap ((n:Int)+1)=((n+1:Nat):Int):=fE _ (by omega);dsimp only;rw[hpl,e,w,ava,ava,awL,av7,iF];refine⟨⟨by omega,by omega⟩,by rw[auY];omega,⟨by omega,by omega⟩,by rw[auY,avl];omega,rfl,?_,rfl,rfl⟩;exact(List.eraseIdx_eq_take_drop_succ ..).symm
def Ye(L:List (List aW))(name:Sp.Bytes)(vals:List (Int×Int×Sp.Bytes)):List (List aW):=L++L.flatMap λa=>vals.map λv=>jb a name v.1 v.2.1 v.2.2
theorem uH{L:List (List aW)}{name:Sp.Bytes}{vals:List (Int×Int×Sp.Bytes)}{a:List aW}(h:a∈L):a∈Ye L name vals:=avC _ h
theorem Ou{L:List (List aW)}{name:Sp.Bytes}{vals:List (Int×Int×Sp.Bytes)}{a:List aW}(h:a∈L){k n:Int}{s:Sp.Bytes}(hv:(k,n,s)∈vals):jb a name k n s∈Ye L name vals:=
 avV _ (axy.2 ⟨a,h,av1.2 ⟨(k,n,s),hv,rfl⟩⟩)
def ints:List (Int×Int×Sp.Bytes):=[(1,0,[]),(1,1,[]),(1,2,[]),(1,3,[])]
def names:List (Int×Int×Sp.Bytes):=[(2,0,[105,110,107]),(2,0,[115,101,97])]
def tags:List (Int×Int×Sp.Bytes):=[(2,0,[114,101,100]),(2,0,[98,108,117,101])]
def aci:List (List aW):=Ye [[]] [97] ints
def acj:List (List aW):=Ye aci [98] ints
def ack:List (List aW):=Ye acj [110] names
def acn:List (List aW):=Ye ack [116] tags
theorem anI:(acn.all λa=>ji Sp.usual a&&decide (a.length<=4))=true:=by kernel_rfl
theorem Ov{a:List aW}(h:a∈acn):ji Sp.usual a=true/\a.length<=4:=by have:=au9.1 anI a h;simpa using this
theorem apo{a:List aW}(h:a∈aci):a.length<=4:=(Ov (uH (uH (uH h)))).2
theorem apq{a:List aW}(h:a∈acj):a.length<=4:=(Ov (uH (uH h))).2
theorem apr{a:List aW}(h:a∈ack):a.length<=4:=(Ov (uH h)).2
theorem ahR{x:Int}(h0:0<=x)(h1:x<4):((1:Int),x,([]:Sp.Bytes))∈ints:=by rcases(show x=0\/x=1\/x=2\/x=3 by omega)with h|h|h|h<;>subst h<;>simp[ints]
theorem amB{w:Sp.Bytes}(h:(w,())∈[(([105,110,107]:Sp.Bytes),()),([115,101,97],())]):((2:Int),(0:Int),w)∈names:=by simp only[au3,Prod.mk.injEq,axO,ax1,or_false]at h;rcases h with h|h<;>subst h<;>simp[names]
theorem anJ{w:Sp.Bytes}(h:(w,())∈[(([114,101,100]:Sp.Bytes),()),([98,108,117,101],())]):((2:Int),(0:Int),w)∈tags:=by simp only[au3,Prod.mk.injEq,axO,ax1,or_false]at h;rcases h with h|h<;>subst h<;>simp[tags]
def Head(id:Int)(f:Int×Int×Bool×Int×Unit×Unit):Prop:=f.1=id/\0<=f.2.1/\f.2.1<=2/\0<=f.2.2.2.1/\f.2.2.2.1<=6
theorem Ce:OK qE.e:=by
 refine XA.ok mixed (aA [jk.e,iV.e,uM.e,oZ.e,nZ.e,bQ.e] ⟨mZ,jM,Gn,Aq,Cb,dw,trivial⟩) aec (λ⟨_,id,_⟩ _=>⟨(((id,0,false,0,[],()),()),(([],0,0,()),())),⟨by dsimp only;decide,rfl,by dsimp only;decide,by dsimp only;decide,by dsimp only;decide,by dsimp only;decide,rfl,by dsimp only;decide⟩⟩) (by kernel_rfl) (show∀c0 c1 c2 id,qE.goal (aco c0 c1 c2 id) ((c0,c1,c2,()),id,())from ?_);intro b i h id hin hp;dsimp only[qE]at hp ⊢;have hp:0<=i:=hp;refine⟨hp,?_⟩;rintro⟨⟨x0,⟨⟩⟩,⟨b0,i0,g0,⟨⟩⟩,⟨⟩⟩ ⟨p0,q0,q1,_⟩;refine⟨p0,?_⟩;rintro⟨⟨x1,⟨⟩⟩,⟨b1,i1,g1,⟨⟩⟩,⟨⟩⟩ p1;have q1:x0<3:=q1 (by decide);have q0:0<=x0:=q0;refine⟨λy=>0<=y.2.1.2.1/\Head id y.2.2.1,⟨p1,?_⟩,?_⟩
 .rintro⟨⟨x3,⟨⟩⟩,⟨b3,i3,g3,⟨⟩⟩,⟨⟩⟩ p3;refine af (λ_=>⟨p3,?_⟩) λ_=>⟨rfl,p3,rfl,q0,(show x0<=2 by omega),avI _,(show(0:Int)<=6 by decide)⟩;rintro⟨⟨x4,⟨⟩⟩,⟨b4,i4,g4,⟨⟩⟩,⟨⟩⟩ ⟨p4,q4,q5,_⟩;have q5:x4<7:=q5 (by decide);exact⟨rfl,p4,rfl,q0,(show x0<=2 by omega),q4,(show x4<=6 by omega)⟩
 rintro⟨⟨⟩,⟨b5,i5,g5,⟨⟩⟩,f5,⟨⟩⟩ ⟨p5,H5⟩;refine⟨λy=>0<=y.2.1.2.1/\Head id y.2.2.1/\y.2.2.2.1∈aci,⟨p5,?_⟩,?_⟩
 .rintro⟨⟨x7,⟨⟩⟩,⟨b7,i7,g7,⟨⟩⟩,⟨⟩⟩ p7;refine af (λ_=>⟨p7,?_⟩) λ_=>⟨rfl,p7,H5,uH au0⟩;rintro⟨⟨x8,⟨⟩⟩,⟨b8,i8,g8,⟨⟩⟩,⟨⟩⟩ ⟨p8,q8,q9,_⟩;refine⟨trivial,(show(0:Nat)<=1000 by decide),?_⟩;rintro⟨⟨⟨d,o,s,l,a,⟨⟩⟩,⟨⟩⟩,⟨⟩⟩ ⟨e1,e2,e3,e4,e5⟩;refine⟨rfl,p8,?_,?_⟩
  .exact⟨(show d=id from(show d=f5.1 from e1).trans H5.1),by rw[show o=f5.2.1 from e2];exact H5.2.1,by rw[show o=f5.2.1 from e2];exact H5.2.2.1,by rw[show l=f5.2.2.2.1 from e4];exact H5.2.2.2.1,by rw[show l=f5.2.2.2.1 from e4];exact H5.2.2.2.2⟩
  .have e5:a=jb [] [97] 1 x8 []:=e5;show a∈aci;rw[e5];exact Ou au0 (ahR q8 (q9 (by decide)))
 rintro⟨⟨⟩,⟨b11,i11,g11,⟨⟩⟩,f11,a11,⟨⟩⟩ ⟨p11,H11,m11⟩;refine⟨λy=>0<=y.2.1.2.1/\Head id y.2.2.1/\y.2.2.2.1∈acj,⟨p11,?_⟩,?_⟩
 .rintro⟨⟨x7,⟨⟩⟩,⟨b7,i7,g7,⟨⟩⟩,⟨⟩⟩ p7;refine af (λ_=>⟨p7,?_⟩) λ_=>⟨rfl,p7,H11,uH m11⟩;rintro⟨⟨x8,⟨⟩⟩,⟨b8,i8,g8,⟨⟩⟩,⟨⟩⟩ ⟨p8,q8,q9,_⟩;refine⟨trivial,auU (apo m11) (by decide),?_⟩;rintro⟨⟨⟨d,o,s,l,a,⟨⟩⟩,⟨⟩⟩,⟨⟩⟩ ⟨e1,e2,e3,e4,e5⟩;refine⟨rfl,p8,?_,?_⟩
  .exact⟨(show d=id from(show d=f11.1 from e1).trans H11.1),by rw[show o=f11.2.1 from e2];exact H11.2.1,by rw[show o=f11.2.1 from e2];exact H11.2.2.1,by rw[show l=f11.2.2.2.1 from e4];exact H11.2.2.2.1,by rw[show l=f11.2.2.2.1 from e4];exact H11.2.2.2.2⟩
  .have e5:a=jb a11 [98] 1 x8 []:=e5;show a∈acj;rw[e5];exact Ou m11 (ahR q8 (q9 (by decide)))
 rintro⟨⟨⟩,⟨b17,i17,g17,⟨⟩⟩,f17,a17,⟨⟩⟩ ⟨p17,H17,m17⟩;refine⟨λy=>0<=y.2.1.2.1/\Head id y.2.2.1/\y.2.2.2.1∈ack,⟨p17,?_⟩,?_⟩
 .rintro⟨⟨x7,⟨⟩⟩,⟨b7,i7,g7,⟨⟩⟩,⟨⟩⟩ p7;refine af (λ_=>⟨⟨p7,by simp⟩,?_⟩) λ_=>⟨rfl,p7,H17,uH m17⟩;rintro⟨⟨x8,⟨⟩⟩,⟨b8,i8,g8,⟨⟩⟩,⟨⟩⟩ ⟨p8,q8⟩;refine⟨trivial,auU (apq m17) (by decide),?_⟩;rintro⟨⟨⟨d,o,s,l,a,⟨⟩⟩,⟨⟩⟩,⟨⟩⟩ ⟨e1,e2,e3,e4,e5⟩;refine⟨rfl,p8,?_,?_⟩
  .exact⟨(show d=id from(show d=f17.1 from e1).trans H17.1),by rw[show o=f17.2.1 from e2];exact H17.2.1,by rw[show o=f17.2.1 from e2];exact H17.2.2.1,by rw[show l=f17.2.2.2.1 from e4];exact H17.2.2.2.1,by rw[show l=f17.2.2.2.1 from e4];exact H17.2.2.2.2⟩
  .have e5:a=jb a17 [110] 2 0 x8:=e5;show a∈ack;rw[e5];exact Ou m17 (amB q8)
 rintro⟨⟨⟩,⟨b23,i23,g23,⟨⟩⟩,f23,a23,⟨⟩⟩ ⟨p23,H23,m23⟩;refine⟨λy=>0<=y.2.1.2.1/\Head id y.2.2.1/\y.2.2.2.1∈acn,⟨p23,?_⟩,?_⟩
 .rintro⟨⟨x7,⟨⟩⟩,⟨b7,i7,g7,⟨⟩⟩,⟨⟩⟩ p7;refine af (λ_=>⟨⟨p7,by simp⟩,?_⟩) λ_=>⟨rfl,p7,H23,uH m23⟩;rintro⟨⟨x8,⟨⟩⟩,⟨b8,i8,g8,⟨⟩⟩,⟨⟩⟩ ⟨p8,q8⟩;refine⟨trivial,auU (apr m23) (by decide),?_⟩;rintro⟨⟨⟨d,o,s,l,a,⟨⟩⟩,⟨⟩⟩,⟨⟩⟩ ⟨e1,e2,e3,e4,e5⟩;refine⟨rfl,p8,?_,?_⟩
  .exact⟨(show d=id from(show d=f23.1 from e1).trans H23.1),by rw[show o=f23.2.1 from e2];exact H23.2.1,by rw[show o=f23.2.1 from e2];exact H23.2.2.1,by rw[show l=f23.2.2.2.1 from e4];exact H23.2.2.2.1,by rw[show l=f23.2.2.2.1 from e4];exact H23.2.2.2.2⟩
  .have e5:a=jb a23 [116] 2 0 x8:=e5;show a∈acn;rw[e5];exact Ou m23 (anJ q8)
 rintro⟨⟨⟩,⟨b29,i29,g29,⟨⟩⟩,f29,a29,⟨⟩⟩ ⟨p29,H29,m29⟩;have hm:=Ov m29;exact⟨p29,H29.1,H29.2.1,H29.2.2.1,H29.2.2.2.1,H29.2.2.2.2,hm.1,hm.2⟩
theorem Zt(al:List aW)(name:Sp.Bytes)(k n:Int)(s:Sp.Bytes):(jb al name k n s).length<=al.length+1:=by
 have hf:=axC (nU name) al;unfold jb;cases decide (k=0)with
 |true=>show(al.filter _).length<=_;omega
 |false=>show(Lh _ _).length<=_;unfold Lh;have:=congrArg List.length (List.takeWhile_append_dropWhile (p:=qI name) (l:=al.filter (nU name)));rw[auN]at this;rw[auN,auQ];show((al.filter (nU name)).takeWhile (qI name)).length+(((al.filter (nU name)).dropWhile (qI name)).length+1)<=_;omega
theorem aed:OK Eo.e:=by
 refine XA.ok mixed (aA [uM.e,jk.e,wK.e,qC.e,kD.e,qE.e,bQ.e] ⟨Gn,mZ,Ib,Cc,rU,Ce,dw,trivial⟩) agd (λ_ _=>⟨(((0,0,false,0,[],()),()),(([],0,0,()),())),⟨by decide,by decide⟩⟩) (by kernel_rfl) (show∀c0 c1 c2,Eo.goal (aee c0 c1 c2) ((c0,c1,c2,()),())from ?_);intro b i h hin hp;dsimp only[Eo]at hp ⊢;have hp:0<=i:=hp;refine⟨hp,?_⟩;rintro⟨⟨x0,⟨⟩⟩,⟨b0,i0,g0,⟨⟩⟩,⟨⟩⟩ ⟨p0,_⟩;refine⟨p0,?_⟩;rintro⟨⟨⟨d,o,s,l,a,⟨⟩⟩,⟨⟩⟩,⟨b1,i1,g1,⟨⟩⟩,⟨⟩⟩ ⟨p1,_,_,_,_,_,_,ha⟩;have ha:a.length<=4:=ha;refine⟨p1,?_⟩;rintro⟨⟨x2,⟨⟩⟩,⟨b2,i2,g2,⟨⟩⟩,⟨⟩⟩ ⟨p2,_⟩;refine af (λ_=>⟨⟨p2,by simp⟩,?_⟩) λ_=>af (λ_=>⟨⟨p2,by simp⟩,?_⟩) λ_=>af (λ_=>⟨⟨p2,by simp⟩,?_⟩) λ_=>af (λ_=>⟨p2,?_⟩) λ_=>af (λ_=>⟨trivial,(show a.length<=1000 by omega),?_⟩) λ_=>⟨p2,(show a.length<=10 by omega)⟩
 .rintro⟨⟨x3,⟨⟩⟩,⟨b3,i3,g3,⟨⟩⟩,⟨⟩⟩ ⟨p3,_⟩;exact⟨p3,(show a.length<=10 by omega)⟩
 .rintro⟨⟨x3,⟨⟩⟩,⟨b3,i3,g3,⟨⟩⟩,⟨⟩⟩ ⟨p3,_⟩;exact⟨p3,(show a.length<=10 by omega)⟩
 .rintro⟨⟨x3,⟨⟩⟩,⟨b3,i3,g3,⟨⟩⟩,⟨⟩⟩ ⟨p3,_⟩;exact⟨p3,(show a.length<=10 by omega)⟩
 .rintro⟨⟨x3,⟨⟩⟩,⟨b3,i3,g3,⟨⟩⟩,⟨⟩⟩ ⟨p3,_⟩;refine⟨p3,?_⟩;rintro⟨⟨⟨k,n,w,⟨⟩⟩,⟨⟩⟩,⟨b4,i4,g4,⟨⟩⟩,⟨⟩⟩ ⟨p4,_⟩;refine⟨(show a.length+1<=big by rw[iF];omega),p4,?_⟩;show(a++[_]).length<=10;rw[auN,auQ,auW];omega
 .rintro⟨⟨⟨d',o',s',l',a',⟨⟩⟩,⟨⟩⟩,⟨⟩⟩ ⟨_,_,_,_,e5⟩;refine⟨p2,?_⟩;have e5:a'=jb a [97] 2 0 [114,101,100]:=e5;show a'.length<=10;rw[e5];have:=Zt a [97] 2 0 [114,101,100];omega
theorem anK:eF Sp.usual=true:=by kernel_rfl
theorem anL:bM (Sp.usual,[],1,())=true:=by kernel_rfl
theorem ajg:lZ (Sp.usual,[],1,()):=⟨by decide,by decide,λf hf=>by cases hf⟩
theorem aaE{a:List dR}{l:List aS}{nx:Int}{X:dZ}(h1:a=X.1)(h2:l=X.2.1)(h3:nx=X.2.2.1):((a,l,nx,()):dZ)=X:=by subst h1 h2 h3;rfl
theorem ahS(s:dZ)(f:aS):(bY s f).1.1=s.1/\((bY s f).1.2.1.length:Int)-(bY s f).1.2.2.1=s.2.1.length-s.2.2.1:=by
 rcases nV s f with⟨e,_⟩|⟨_,_,_,e⟩
 .rw[e];exact⟨rfl,rfl⟩
 .rw[e];refine⟨rfl,?_⟩;show((s.2.1++[(s.2.2.1,f.2)]).length:Int)-(s.2.2.1+1)=_;rw[auN,auQ,auW];omega
theorem WY(s:dZ)(id:Int):(fA s id).1.1=s.1/\(fA s id).1.2.2.1=s.2.2.1/\s.2.1.length<=(fA s id).1.2.1.length+1:=by
 rcases vF s id with⟨e,_⟩|⟨n,hn,_,_,e⟩
 .rw[e];exact⟨rfl,rfl,Nat.le_succ _⟩
 .rw[e];refine⟨rfl,rfl,?_⟩;show s.2.1.length<=(s.2.1.eraseIdx n).length+1;rw[axh hn];omega
structure qW(k:Int)(s:dZ):Prop where
 sch:s.1=Sp.usual
 ok:bM s=true
 nx:s.2.2.1<=s.2.1.length+k
 small:lZ s
theorem qW.create{k:Int}{s:dZ}(h:qW k s){f:aS}(hf:wV f):qW k (bY s f).1:=by obtain⟨h1,h2⟩:=ahS s f;exact⟨h1.trans h.sch,aef f h.ok,by have:=h.nx;omega,agf h.small hf⟩
theorem qW.delete{k:Int}{s:dZ}(h:qW k s)(id:Int):qW (k+1) (fA s id).1:=by obtain⟨h1,h2,h3⟩:=WY s id;exact⟨h1.trans h.sch,aeg id h.ok,by have:=h.nx;omega,agh id h.small⟩
theorem qW.more{k k':Int}{s:dZ}(h:qW k s)(hk:k<=k'):qW k' s:=⟨h.sch,h.ok,by have:=h.nx;omega,h.small⟩
theorem qW.grows{s:dZ}(h:qW 2 s)(hl:s.2.1.length<12){f:aS}(ho:0<=f.2.1/\f.2.1<=2)(hk:0<=f.2.2.2.1/\f.2.2.2.1<=6)(ha:ji Sp.usual f.2.2.2.2.1=true):(bY s f).1.2.1.length=s.2.1.length+1:=by
 have hnx:=(oU.1 h.ok).2.2.2;have h2:=h.nx;have hf:dG s.1 (s.2.2.1,f.2)=true:=by rw[h.sch];show(ji Sp.usual f.2.2.2.2.1&&eF Sp.usual&&(decide (1<=s.2.2.1)&&decide (s.2.2.1<=60))&&(decide (0<=f.2.1)&&decide (f.2.1<=2))&&(decide (0<=f.2.2.2.1)&&decide (f.2.2.2.1<=60)))=true;rw[ha,anK,au2 hnx.1,au2 (by omega),au2 ho.1,au2 ho.2,au2 hk.1,au2 (by omega)];rfl
 rcases nV s f with⟨_,e⟩|⟨_,_,_,e⟩
 .exact(e ⟨h.ok,hl,hf⟩).elim
 .rw[e];show(s.2.1++[_]).length=_;rw[auN];rfl
theorem ahU:bM (Sp.usual,[(1,0,false,0,[],())],2,())=true/\lZ (Sp.usual,[(1,0,false,0,[],())],2,()):=⟨by kernel_rfl,by decide,by decide,λf hf=>by rw[avg.1 hf];exact avc _⟩
theorem qW.one{s:dZ}(h:qW 1 s){f:aS}(ho:0<=f.2.1/\f.2.1<=2)(hk:0<=f.2.2.2.1/\f.2.2.2.1<=6)(ha:ji Sp.usual f.2.2.2.2.1=true):0<(bY s f).1.2.1.length:=by
 by_cases hl:s.2.1.length<12
 .rw[(h.more (show(1:Int)<=2 by decide)).grows hl ho hk ha];omega
 .rcases nV s f with⟨e,_⟩|⟨_,_,_,e⟩
  .rw[e];show 0<s.2.1.length;omega
  .rw[e];show 0<(s.2.1++[_]).length;rw[auN,List.length_singleton];omega
theorem EM:OK rX.e:=by
 refine XA.ok mixed (aA [yG.e,nZ.e,sW.e,qE.e,bQ.e,BM.e,wS.e] ⟨WW,Cb,I8,Ce,dw,aaC,MK,trivial⟩) acp (λ_ _=>⟨(((Sp.usual,[(1,0,false,0,[],())],2,()),()),(([],0,0,()),())),⟨by decide,rfl,ahU.1,by decide,ahU.2,by decide⟩⟩) (by kernel_rfl) (show∀c0 c1 c2,rX.goal (aaF c0 c1 c2) ((c0,c1,c2,()),())from ?_);intro b i h hin hp;dsimp only[rX]at hp ⊢;have hp:0<=i:=hp;refine⟨trivial,?_⟩;rintro⟨⟨u,⟨⟩⟩,⟨⟩⟩ hu;have hu:u=Sp.usual:=hu;subst hu;refine⟨(show Sp.usual.length<=1000 by decide),?_⟩;rintro⟨⟨⟨a,l,nx,⟨⟩⟩,⟨⟩⟩,⟨⟩⟩ ⟨e1,e2,e3⟩;have e1:a=Sp.usual:=e1;have e2:l=[]:=e2;have e3:nx=1:=e3;subst e1 e2 e3;refine⟨λy=>0<=y.2.1.2.1/\(0<=y.1.1/\y.1.1<=7)/\qW 1 (y.2.2.2.1,y.2.2.2.2.1,y.2.2.1.2.2.1,())/\(0<y.1.1->0<y.2.2.2.2.1.length),λy=>(8-y.1.1).toNat,⟨hp,⟨(show(0:Int)<=0 by decide),(show(0:Int)<=7 by decide)⟩,⟨rfl,anL,(show(1:Int)<=((0:Nat):Int)+1 by decide),ajg⟩,λh=>absurd h (Int.lt_irrefl 0)⟩,?_⟩;rintro⟨⟨n,⟨⟩⟩,⟨b0,i0,g0,⟨⟩⟩,⟨⟨⟩,⟨⟩,nx,⟨⟩⟩,a,l,⟨⟩⟩ ⟨p0,⟨k0,k1⟩,D,hne⟩;have p0:0<=i0:=p0;have k0:0<=n:=k0;have k1:n<=7:=k1;have D:qW 1 (a,l,nx,()):=D;have hne:0<n->0<l.length:=hne;refine⟨p0,?_⟩;rintro⟨⟨x1,⟨⟩⟩,⟨b1,i1,g1,⟨⟩⟩,⟨⟩⟩ ⟨p1,q0,q1,_⟩;have q1:x1<7:=q1 (by decide);have q0:0<=x1:=q0;have w:IntKind.i64.wrap (1+x1)=1+x1:=fE _ (by omega);dsimp only;rw[w];refine af (λhc=>⟨p1,?_⟩) λhc=>af (λh2=>⟨p1,?_⟩) λh2=>?_
 .have hc:=fH hc;have wn:IntKind.i64.wrap (n+1)=n+1:=fE _ (by omega);rw[wn];rintro⟨⟨⟨d,o,s,lk,al,⟨⟩⟩,⟨⟩⟩,⟨b2,i2,g2,⟨⟩⟩,⟨⟩⟩ ⟨p2,_,o1,o2,k3,k4,hat,ha⟩;have hf:wV (d,o,s,lk,al,()):=(show al.length<=1000 from auU ha (by decide));refine⟨⟨D.small,hf⟩,?_⟩;rintro⟨⟨⟨a3,l3,nx3,⟨⟩⟩,id3,ok3,⟨⟩⟩,⟨⟩⟩ ⟨e1,e2,e3,_⟩;have e:((a3,l3,nx3,()):dZ)=(bY (a,l,nx,()) (d,o,s,lk,al,())).1:=aaE e1 e2 e3;refine⟨rfl,⟨p2,⟨(show 0<=n+1 by omega),(show n+1<=7 by omega)⟩,?_,λ_=>?_⟩,?_⟩
  .show qW 1 (a3,l3,nx3,());rw[e];exact D.create hf
  .have:=D.one (f:=(d,o,s,lk,al,())) ⟨o1,o2⟩ ⟨k3,k4⟩ hat;rw[← e]at this;exact this
  .show(8-(n+1)).toNat<(8-n).toNat;omega
 .rintro⟨⟨x3,⟨⟩⟩,⟨b3,i3,g3,⟨⟩⟩,⟨⟩⟩ p3;have h2:(l.length:Int)>2:=fH h2;refine af (λ_=>⟨⟨by decide,(show(1:Int)<l.length by omega)⟩,(show 1<l.length by omega),D.small,?_⟩) λ_=>?_
  .rintro⟨⟨⟨a3,l3,nx3,⟨⟩⟩,ok3,⟨⟩⟩,⟨⟩⟩ ⟨e1,e2,e3,_⟩;have e:=aaE e1 e2 e3;have D':=D.delete (List.getD l (Int.toNat 1) (0,0,false,0,[],())).1;have D':qW 2 (a3,l3,nx3,()):=by have e:((a3,l3,nx3,()):dZ)=(fA (a,l,nx,()) (List.getD l (Int.toNat 1) (0,0,false,0,[],())).1).1:=e;rw[e];exact D'
   refine⟨p3,D'.sch,D'.ok,D'.nx,D'.small,?_⟩;have:=(WY (a,l,nx,()) (List.getD l (Int.toNat 1) (0,0,false,0,[],())).1).2.2;have e2:l3=(fA (a,l,nx,()) (List.getD l (Int.toNat 1) (0,0,false,0,[],())).1).1.2.1:=e2;rw[← e2]at this;have this:l.length<=l3.length+1:=this;show 0<l3.length;omega
  .have D':=D.more (show(1:Int)<=2 by decide);exact⟨p3,D'.sch,D'.ok,D'.nx,D'.small,hne (by have:=fV hc;omega)⟩
 .have D':=D.more (show(1:Int)<=2 by decide);exact⟨p1,D'.sch,D'.ok,D'.nx,D'.small,hne (by have:=fV hc;omega)⟩
theorem ajh:OK J6.e:=by refine PA.ok mixed (aA [] trivial) H0 (by kernel_rfl) (show∀code,J6.goal (aji code) (code,())from ?_);intro b hin hp;dsimp only[J6]at hp ⊢;exact rfl
theorem zH:OK lI.e:=by
 refine PA.ok mixed (aA [jE.e] ⟨lT,trivial⟩) SE (by kernel_rfl) (show∀s,lI.goal (QE s) (s,())from ?_);intro s hin hp;dsimp only[lI]at hp ⊢;have hlen:s.length<=maxLen:=hin.1;rw[maxLen_eq]at hlen;refine⟨λy=>∃n:Nat,y.1.1=n/\n<=s.length/\Sp.lower (s.take n)=true,λy=>((s.length:Int)-y.1.1).toNat,⟨0,rfl,by omega,rfl⟩,?_⟩;rintro⟨⟨_,⟨⟩⟩,⟨⟩⟩ ⟨n,rfl,hn,hJ⟩;dsimp only;refine af (λh=>?_) λh=>?_<;>simp only[au1,avt]at h
 .have hlt:n<s.length:=by omega
  rw[fE _ (by omega),ava];refine⟨⟨by omega,by omega⟩,af (λh2=>?_) λh2=>⟨⟨by omega,by omega⟩,af (λh3=>?_) λh3=>?_⟩⟩<;>simp only[au1,avt]at*
  .unfold aT;cases hl:Sp.lower s with
   |false=>rfl
   |true=>have:=KE hlt hl;omega
  .unfold aT;cases hl:Sp.lower s with
   |false=>rfl
   |true=>have:=KE hlt hl;omega
  .refine⟨rfl,⟨n+1,by simp,by omega,?_⟩,by dsimp only;omega⟩;rw[Sp.take_succ' s n 0 hlt];unfold Sp.lower at hJ ⊢;rw[axn,hJ];simp only[avS,ax0,aw4,awJ,auO,au1];omega
 .have hge:n=s.length:=by omega
  rw[hge,av7]at hJ;unfold aT;rw[hJ];exact⟨trivial,rfl⟩
theorem uo:OK kH.e:=by
 refine PA.ok mixed (aA [lI.e,jE.e] ⟨zH,lT,trivial⟩) H0 (by kernel_rfl) (show∀v0 v1 v2,kH.goal (SG v0 v1 v2) ((v0,v1,v2,()),())from ?_);intro k n s hin hp;dsimp only[kH]at hp ⊢;refine af (λh=>?_) λh=>af (λh2=>⟨trivial,af (λh3=>?_) λh3=>?_⟩) λh2=>af (λh3=>⟨trivial,af (λh4=>?_) λh4=>?_⟩) λh3=>?_
 .have e:k=0:=by simpa using h
  subst e;exact congrArg (·,()) (avp.2 (by simp[bF]))
 .have e:k=1:=by simpa using h2
  subst e;exact congrArg (·,()) (avp.2 (by simp only[auO,au1]at h3;simp[bF,h3]))
 .have e:k=1:=by simpa using h2
  subst e;exact congrArg (·,()) (avp.2 (by simp only[bF,h3];simp))
 .have e:k=2:=by simpa using h3
  subst e;exact congrArg (·,()) (avp.2 (by simp[bF,h4]))
 .have e:k=2:=by simpa using h3
  subst e;exact congrArg (·,()) (avp.2 (by simp[bF,h4]))
 .have e1:k≠0:=by simpa using h
  have e2:k≠1:=by simpa using h2
  have e3:k≠2:=by simpa using h3
  exact congrArg (·,()) (avp.2 (by simp[bF,e1,e2,e3]))
theorem wI:OK jZ.e:=by
 refine PA.ok mixed (aA [] trivial) H0 (by kernel_rfl) (show∀s,jZ.goal (NC s) (s,())from ?_);intro s hin hp;dsimp only[jZ]at hp ⊢;refine af (λh=>?_) λh=>?_
 .have h:(s.length:Int)=1:=fH h
  match s,h with
  |[c],_=>
   refine⟨⟨by decide,(by show(0:Int)<1;decide)⟩,af (λh2=>⟨⟨by decide,(by show(0:Int)<1;decide)⟩,?_⟩) λh2=>?_⟩
   .have h2:(c.toNat:Int)>=97:=fH h2;refine congrArg (·,()) (avp.2 ?_);simp only[dB,Sp.lower,avS,ax0,aw4,auO,au1,auQ,auW];constructor
    .intro h3;have h3:(c.toNat:Int)<=122:=h3;exact⟨⟨⟨by omega,by omega⟩,by decide⟩,by decide⟩
    .rintro⟨⟨⟨_,h4⟩,_⟩,_⟩;show(c.toNat:Int)<=122;omega
   .have h2:¬(c.toNat:Int)>=97:=fV h2;refine congrArg (·,()) (avp.2 ?_);simp only[dB,Sp.lower,avS,ax0,aw4,auO,au1];constructor
    .intro h3;cases h3
    .rintro⟨⟨⟨h4,_⟩,_⟩,_⟩;omega
 .have h:¬(s.length:Int)=1:=fV h;refine congrArg (·,()) (avp.2 ?_);simp only[dB,auO,au1];constructor
  .intro h3;cases h3
  .rintro⟨⟨_,h4⟩,h5⟩;omega
theorem YH:OK zY.e:=by
 refine PA.ok mixed (aA [] trivial) aaG (by kernel_rfl) (show∀s name,zY.goal (YI s name) (s,name,())from ?_);intro s name hin hp;dsimp only[zY]at hp ⊢;have hlen:s.length<=maxLen:=hin.1.1;rw[maxLen_eq]at hlen;refine kS s.length hlen (λn=>∀i,i<n->(s.getD i ([],0,())).1≠name) (λi hi=>by omega) (λI μ n hn hJ next=>?_) λI μ hJ=>?_
 .dsimp only;refine fP (by omega) ⟨⟨by omega,by omega⟩,af (λh=>?_) λh=>⟨rfl,next λi hi=>?_⟩⟩
  .exact congrArg (·,()) (WR s n hn hJ (by simpa only[ava,avj]using h)).symm
  .rcases avb i n with h'|h'
   .exact hJ i h'
   .have:i=n:=by omega
    subst this;have h2:((s.getD i ([],0,())).1==name)=false:=h;exactλe=>by rw[e]at h2;simp at h2
 .dsimp only;exact fQ (by omega) (congrArg (·,()) (O8 s hJ).symm)
theorem amD{k:Int}(h:(k !=1)=false\/(k !=2)=false):(decide (1<=k)&&decide (k<=2))=true:=by have:k=1\/k=2:=h.imp (by simp) (by simp);rcases this with h|h<;>subst h<;>rfl
theorem aps{k:Int}(h1:(k !=1)=true)(h2:(k !=2)=true):(decide (1<=k)&&decide (k<=2))=false:=by
 have h1:k≠1:=by simpa using h1
 have h2:k≠2:=by simpa using h2
 rw[awT];by_cases h:k<1
 .left;exact au6 (by omega)
 .right;exact au6 (by omega)
theorem Fp:OK o6.e:=by
 refine PA.ok mixed (aA [jZ.e] ⟨wI,trivial⟩) SH (by kernel_rfl) (show∀s,o6.goal (QF s) (s,())from ?_);intro s hin hp;dsimp only[o6]at hp ⊢;have hlen:s.length<=maxLen:=hin.1.1;rw[maxLen_eq]at hlen;refine kS s.length hlen (λn=>∀i,i<n->jC s i=true) (λi hi=>by omega) (λI μ n hn hJ next=>?_) λI μ hJ=>?_
 .dsimp only;have no:jC s n=false->(false,())=(eF s,()):=λh=>by rw[Zr hn h]
  have rest:dB (Sp.fieldAt s n).1=true->(decide (1<=(Sp.fieldAt s n).2.1)&&decide ((Sp.fieldAt s n).2.1<=2))=true->
   bif decide ((n:Int)>0)then
    ((0:Int)<=IntKind.i64.wrap ((n:Int)-1)/\IntKind.i64.wrap ((n:Int)-1)<(s.length:Int))/\
      bif !Op.bytesLess (s.getD (IntKind.i64.wrap ((n:Int)-1)).toNat ([],0,())).fst (s.getD (Int.toNat (n:Int)) ([],0,())).fst then(false,())=(eF s,())
      else NX ((s,s,(s.length:Int),()),()) I μ ((IntKind.i64.wrap ((n:Int)+1),()),()) (((n:Int),()),())
   else NX ((s,s,(s.length:Int),()),()) I μ ((IntKind.i64.wrap ((n:Int)+1),()),()) (((n:Int),()),()):=by
   intro h2 h3;refine af (λh4=>?_) λh4=>⟨rfl,next (dW hJ ?_)⟩
   .have h4:0<n:=by have:=fH h4;omega
    rw[zG h4 (by omega)];refine⟨⟨by omega,by omega⟩,af (λh5=>no ?_) λh5=>⟨rfl,next (dW hJ ?_)⟩⟩
    .have h5:Op.bytesLess (Sp.fieldAt s (n-1)).1 (Sp.fieldAt s n).1=false:=jP h5;unfold jC;rw[h2,h3,h5,au2 h4];rfl
    .have h5:Op.bytesLess (Sp.fieldAt s (n-1)).1 (Sp.fieldAt s n).1=true:=gI h5;unfold jC;rw[h2,h3,h5,au2 h4];rfl
   .have h4:¬0<n:=by have:=fV h4;omega
    unfold jC;rw[h2,h3,au6 h4];rfl
  refine fP (by omega) ⟨⟨by omega,by omega⟩,trivial,af (λh2=>no ?_) λh2=>af (λh3=>af (λh4=>no ?_) λh4=>?_) λh3=>?_⟩
  .have h2:dB (Sp.fieldAt s n).1=false:=jP h2;unfold jC;rw[h2];rfl
  .have h2:dB (Sp.fieldAt s n).1=true:=gI h2;have h3:(decide (1<=(Sp.fieldAt s n).2.1)&&decide ((Sp.fieldAt s n).2.1<=2))=false:=aps h3 h4;unfold jC;rw[h2,h3];rfl
  .have h2:dB (Sp.fieldAt s n).1=true:=gI h2;have h3:(decide (1<=(Sp.fieldAt s n).2.1)&&decide ((Sp.fieldAt s n).2.1<=2))=true:=amD (.inr h4);exact rest h2 h3
  .have h2:dB (Sp.fieldAt s n).1=true:=gI h2;have h3:(decide (1<=(Sp.fieldAt s n).2.1)&&decide ((Sp.fieldAt s n).2.1<=2))=true:=amD (.inl h3);exact rest h2 h3
 .dsimp only;refine fQ (by omega) (congrArg (·,()) ?_);unfold eF;rw[nD hJ];rfl
theorem QG:OK tV.e:=by
 refine PA.ok mixed (aA [zY.e,kH.e] ⟨YH,uo,trivial⟩) H0 (by kernel_rfl) (show∀s name v0 v1 v2,tV.goal (QI s name v0 v1 v2) (s,name,(v0,v1,v2,()),())from ?_);intro fs s k n w hin hp;dsimp only[tV]at hp ⊢;refine⟨trivial,af (λh=>af (λh2=>⟨trivial,?_⟩) λh2=>?_) λh=>?_⟩
 .exact congrArg (·,()) (avp.2 (by simp only[bne_iff_ne,ne_eq]at h2;simp[iK,h,h2]))
 .exact congrArg (·,()) (avp.2 (by simp at h2;simp[iK,h2]))
 .exact congrArg (·,()) (avp.2 (by simp[iK,h]))
theorem U6:OK wU.e:=by
 refine PA.ok mixed (aA [o6.e,En.e,jE.e,tV.e] ⟨Fp,ad8,lT,QG,trivial⟩) WZ (by kernel_rfl) (show∀s f0 f1 f2 f3 f4,wU.goal (U7 s f0 f1 f2 f3 f4) (s,(f0,f1,f2,f3,f4,()),())from ?_);intro fs f0 f1 f2 f3 f4 hin hp;dsimp only[wU]at hp ⊢;have hlen:f4.length<=maxLen:=hin.2.1.2.2.2.2.1.1;rw[maxLen_eq]at hlen;refine kS f4.length hlen (λn=>∀i,i<n->jJ fs f4 i=true) (λi hi=>by omega) (λI μ n hn hJ next=>?_) λI μ hJ=>?_
 .dsimp only;have no:jJ fs f4 n=false->(false,())=(dG fs (f0,f1,f2,f3,f4,()),()):=λh=>by rw[afr (f:=(f0,f1,f2,f3,f4,())) hn h]
  refine fP (by omega) ⟨⟨by omega,by omega⟩,af (λh4=>?_) λh4=>⟨trivial,af (λh2=>no ?_) λh2=>⟨rfl,next (dW hJ ?_)⟩⟩⟩
  .have h4:0<n:=by have:=fH h4;omega
   rw[zG h4 (by omega)];refine⟨⟨by omega,by omega⟩,af (λh5=>no ?_) λh5=>⟨trivial,af (λh2=>no ?_) λh2=>⟨rfl,next (dW hJ ?_)⟩⟩⟩
   .have h5:Op.bytesLess (bW f4 (n-1)).1 (bW f4 n).1=false:=jP h5;unfold jJ;rw[h5,au2 h4];exact awN _
   .have h2:iK fs (bW f4 n).1 (bW f4 n).2.1 (bW f4 n).2.2.1 (bW f4 n).2.2.2.1=false:=jP h2;unfold jJ;rw[h2];rfl
   .have h2:iK fs (bW f4 n).1 (bW f4 n).2.1 (bW f4 n).2.2.1 (bW f4 n).2.2.2.1=true:=gI h2;have h5:Op.bytesLess (bW f4 (n-1)).1 (bW f4 n).1=true:=gI h5;unfold jJ;rw[h2,h5,au2 h4];rfl
  .have h2:iK fs (bW f4 n).1 (bW f4 n).2.1 (bW f4 n).2.2.1 (bW f4 n).2.2.2.1=false:=jP h2;unfold jJ;rw[h2];rfl
  .have h2:iK fs (bW f4 n).1 (bW f4 n).2.1 (bW f4 n).2.2.1 (bW f4 n).2.2.2.1=true:=gI h2;have h4:¬0<n:=by have:=fV h4;omega
   unfold jJ;rw[h2,au6 h4];rfl
 .dsimp only;have ha:ji fs f4=true:=nD hJ;refine fQ (by omega) ⟨trivial,af (λh1=>⟨trivial,af (λh2=>⟨trivial,af (λh3=>⟨trivial,?_⟩) λh3=>?_⟩) λh2=>?_⟩) λh1=>?_⟩
  all_goals refine congrArg (·,()) ?_
  .show eF fs=(ji fs f4&&eF fs&&(decide (1<=f0)&&decide (f0<=60))&&(decide (0<=f1)&&decide (f1<=2))&&(decide (0<=f3)&&decide (f3<=60)));rw[ha,h1,h2,h3];cases eF fs<;>rfl
  .show false=(ji fs f4&&eF fs&&(decide (1<=f0)&&decide (f0<=60))&&(decide (0<=f1)&&decide (f1<=2))&&(decide (0<=f3)&&decide (f3<=60)));rw[h3,awN]
  .show false=(ji fs f4&&eF fs&&(decide (1<=f0)&&decide (f0<=60))&&(decide (0<=f1)&&decide (f1<=2))&&(decide (0<=f3)&&decide (f3<=60)));rw[h2,awN,awY]
  .show false=(ji fs f4&&eF fs&&(decide (1<=f0)&&decide (f0<=60))&&(decide (0<=f1)&&decide (f1<=2))&&(decide (0<=f3)&&decide (f3<=60)));rw[h1,awN,awY,awY]
theorem SI:OK vM.e:=by
 refine PA.ok mixed (aA [jE.e,o6.e,wU.e] ⟨lT,Fp,U6,trivial⟩) U8 (by kernel_rfl) (show∀s0 s1 s2,vM.goal (SK s0 s1 s2) ((s0,s1,s2,()),())from ?_);intro s0 s1 s2 hin hp;dsimp only[vM]at hp ⊢;have hlen:s1.length<=maxLen:=hin.1.2.1.1;rw[maxLen_eq]at hlen;refine kS s1.length hlen (λn=>∀i,i<n->lg (s0,s1,s2,()) i=true) (λi hi=>by omega) (λI μ n hn hJ next=>?_) λI μ hJ=>?_
 .dsimp only;have no:lg (s0,s1,s2,()) n=false->(false,())=(bM (s0,s1,s2,()),()):=λh=>by rw[ab7 (s:=(s0,s1,s2,())) hn h]
  refine fP (by omega) ⟨⟨by omega,by omega⟩,trivial,af (λh2=>no ?_) λh2=>af (λh3=>no ?_) λh3=>af (λh4=>?_) λh4=>⟨rfl,next (dW hJ ?_)⟩⟩
  .have h2:dG s0 (Sp.fileAt s1 n)=false:=jP h2;show(dG s0 (Sp.fileAt s1 n)&&_&&_)=false;rw[h2];rfl
  .have h2:dG s0 (Sp.fileAt s1 n)=true:=gI h2;have h3:¬(Sp.fileAt s1 n).1<s2:=by have h3:(Sp.fileAt s1 n).1>=s2:=fH h3;omega
   show(dG s0 (Sp.fileAt s1 n)&&decide ((Sp.fileAt s1 n).1<s2)&&_)=false;rw[h2,au6 h3];rfl
  .have h2:dG s0 (Sp.fileAt s1 n)=true:=gI h2;have h3:(Sp.fileAt s1 n).1<s2:=by have h3:¬(Sp.fileAt s1 n).1>=s2:=fV h3;omega
   have h4:0<n:=by have:=fH h4;omega
   rw[zG h4 (by omega)];refine⟨⟨by omega,by omega⟩,af (λh5=>no ?_) λh5=>⟨rfl,next (dW hJ ?_)⟩⟩
   .have h5:¬(Sp.fileAt s1 (n-1)).1<(Sp.fileAt s1 n).1:=by have h5:(Sp.fileAt s1 (n-1)).1>=(Sp.fileAt s1 n).1:=fH h5;omega
    show(dG s0 (Sp.fileAt s1 n)&&decide ((Sp.fileAt s1 n).1<s2)&&!(decide (0<n)&&!decide ((Sp.fileAt s1 (n-1)).1<(Sp.fileAt s1 n).1)))=false;rw[h2,au2 h3,au2 h4,au6 h5];rfl
   .have h5:(Sp.fileAt s1 (n-1)).1<(Sp.fileAt s1 n).1:=by have h5:¬(Sp.fileAt s1 (n-1)).1>=(Sp.fileAt s1 n).1:=fV h5;omega
    show(dG s0 (Sp.fileAt s1 n)&&decide ((Sp.fileAt s1 n).1<s2)&&!(decide (0<n)&&!decide ((Sp.fileAt s1 (n-1)).1<(Sp.fileAt s1 n).1)))=true;rw[h2,au2 h3,au2 h4,au2 h5];rfl
  .have h2:dG s0 (Sp.fileAt s1 n)=true:=gI h2;have h3:(Sp.fileAt s1 n).1<s2:=by have h3:¬(Sp.fileAt s1 n).1>=s2:=fV h3;omega
   have h4:¬0<n:=by have:=fV h4;omega
   show(dG s0 (Sp.fileAt s1 n)&&decide ((Sp.fileAt s1 n).1<s2)&&!(decide (0<n)&&!decide ((Sp.fileAt s1 (n-1)).1<(Sp.fileAt s1 n).1)))=true;rw[h2,au2 h3,au6 h4];rfl
 .dsimp only;have ha:jd s1.length (lg (s0,s1,s2,()))=true:=nD hJ;refine fQ (by omega) ⟨trivial,af (λh1=>af (λh2=>⟨trivial,?_⟩) λh2=>?_) λh1=>?_⟩
  .refine congrArg (·,()) ?_;show _=(jd s1.length (lg (s0,s1,s2,()))&&eF s0&&decide ((s1.length:Int)<=12)&&(decide (1<=s2)&&decide (s2<=61)));rw[ha,h1,h2];rfl
  .refine congrArg (·,()) ?_;show _=(jd s1.length (lg (s0,s1,s2,()))&&eF s0&&decide ((s1.length:Int)<=12)&&(decide (1<=s2)&&decide (s2<=61)));rw[ha,h1,h2];rfl
  .refine congrArg (·,()) ?_;show _=(jd s1.length (lg (s0,s1,s2,()))&&eF s0&&decide ((s1.length:Int)<=12)&&(decide (1<=s2)&&decide (s2<=61)));rw[ha,h1];rfl
end Go.Proofs.Tryz
namespace Go.Proofs.Tryz
open Go Go.Fw Go.IntWalk Sp
theorem Xi:OK yH.e:=by
 refine XA.ok mixed (aA [iV.e] ⟨jM,trivial⟩) H0 (λ_ _=>⟨((([]:List UInt8),()),(([],0,0,()),())),⟨by decide,by decide⟩⟩) (by kernel_rfl) (show∀c0 c1 c2,yH.goal (Xj c0 c1 c2) ((c0,c1,c2,()),())from ?_);intro b i h hin hp;dsimp only[yH]at hp ⊢;have hp:0<=i:=hp
 repeat' first
  |exact trivial
  |refine af (λ_=>?_) λ_=>?_
  |refine And.intro ?_ ?_
  |(intro r hr;simp only[]at hr)
  |intro r hr
 all_goals first
  |omega
  |(dsimp only at*;omega)
  |exact hr
  |(simp only[auP,ne_eq]at*;omega)
  |(simp only[avn,auY,auN,auQ,auW];omega)
  |(rw[iF];simp only[avn,auY,auN,auQ,auW];omega)
  |(simp only[avn,auY,auN,auQ,auW]at*;omega)
  |exact(show∀y∈_,List.length y.1<=10 from by decide) _ hr.2
  |(simp;done)
  |skip
theorem OC:OK uN.e:=by
 refine XA.ok mixed (aA [yH.e,jk.e,oZ.e,iV.e,bQ.e] ⟨Xi,mZ,Aq,jM,dw,trivial⟩) H0 (λ_ _=>⟨((((0:Int),(0:Int),(0:Int),([]:List UInt8),(0:Int),(0:Int),([]:List UInt8),()),()),(([],0,0,()),())),⟨by decide,trivial⟩⟩) (by kernel_rfl) (show∀c0 c1 c2,uN.goal (acF c0 c1 c2) ((c0,c1,c2,()),())from ?_);intro b i h hin hp;dsimp only[uN]at hp ⊢;have hp:0<=i:=hp
 repeat' first
  |exact trivial
  |refine af (λ_=>?_) λ_=>?_
  |refine And.intro ?_ ?_
  |(intro r hr;simp only[]at hr)
  |intro r hr
 all_goals first
  |omega
  |(dsimp only at*;omega)
  |exact hr
  |(simp only[auP,ne_eq]at*;omega)
  |(simp only[avn,auY,auN,auQ,auW];omega)
  |(rw[iF];simp only[avn,auY,auN,auQ,auW];omega)
  |(simp only[avn,auY,auN,auQ,auW]at*;omega)
  |exact(show∀y∈_,List.length y.1<=10 from by decide) _ hr.2
  |(simp;done)
  |skip
theorem QO[lG](Tz:jm prog G vZ yV):jm prog G Gj DL:=by
 refine QS (aA [(vZ,.eff (DX o7) yV),bQ.e,uN.e,nZ.e] ⟨⟨Tz,Qw⟩,dw,OC,Cb,trivial⟩) (λ⟨_,q,deep,_,_⟩ _=>⟨((q++[(0,0,0,[],0,0,[],())],()),(([],0,0,()),())),⟨by decide,by simp,by simp⟩⟩) ?_;intro b i h q deep not hin hp;obtain⟨⟨hp1,hp2,hp3,hp4⟩,hp5⟩:=hp;have hw:IntKind.i64.wrap (deep-1)=deep-1:=fE _ (by omega);refine⟨λy=>0<=y.2.1.2.1/\0<deep,?_⟩;dsimp only;rw[hw]
 repeat' first
  |exact trivial
  |refine af (λ_=>?_) λ_=>?_
  |refine And.intro ?_ ?_
  |(intro r hr;simp only[]at hr)
  |intro r hr
 all_goals first
  |omega
  |(dsimp only at*;omega)
  |exact hr
  |(simp only[auP,ne_eq]at*;omega)
  |(simp only[avn,auY,auN,auQ,auW];omega)
  |(rw[iF];simp only[avn,auY,auN,auQ,auW];omega)
  |(simp only[avn,auY,auN,auQ,auW]at*;omega)
  |exact(show∀y∈_,List.length y.1<=10 from by decide) _ hr.2
  |(simp;done)
  |skip
theorem acG:jm prog G adZ ZN:=
 ajR (λn=>@GX ⟨n⟩) (λn=>@tX ⟨n⟩) (by rintro⟨⟨b,i,h,⟨⟩⟩,q,deep,not,⟨⟩⟩ h;exact avR _ h.2) (by rintro _ ⟨⟨b,i,h,⟨⟩⟩,q,deep,not,⟨⟩⟩;rfl) (by rintro⟨⟨b,i,h,⟨⟩⟩,q,deep,not,⟨⟩⟩ h;exact⟨_,h,awx _⟩) (by rintro _ ⟨⟨b,i,h,⟨⟩⟩,q,deep,not,⟨⟩⟩;rfl) λn h=>@QO ⟨n⟩ h
theorem Gw:jm prog G wz yX:=
 amj (F:=PW) (F':=GY) (by decide) acG (λa x h=>⟨h.1,h.2.1,h.2.2,(show∀z:Int,0<=z->z<=4->0+2*z.toNat<=900 fromλz _ _=>by omega) _ h.2.1 h.2.2⟩) λa x h=>rfl
theorem Vg:OK wW.e:=by
 refine XA.ok mixed (aA [(wz,.eff (DX o8) yX),bQ.e] ⟨⟨Gw,Fg⟩,dw,trivial⟩) Xk (λ_ _=>⟨(([(0,0,0,[],0,0,[],())],()),(([],0,0,()),())),⟨by decide,by decide,by decide⟩⟩) (by kernel_rfl) (show∀c0 c1 c2,wW.goal (Vh c0 c1 c2) ((c0,c1,c2,()),())from ?_);intro b i h hin hp;dsimp only[wW]at hp ⊢;have hp:0<=i:=hp
 repeat' first
  |exact trivial
  |refine af (λ_=>?_) λ_=>?_
  |refine And.intro ?_ ?_
  |(intro r hr;simp only[]at hr)
  |intro r hr
 all_goals first
  |omega
  |(dsimp only at*;omega)
  |exact hr
  |(simp only[auP,ne_eq]at*;omega)
  |(simp only[avn,auY,auN,auQ,auW];omega)
  |(rw[iF];simp only[avn,auY,auN,auQ,auW];omega)
  |(simp only[avn,auY,auN,auQ,auW]at*;omega)
  |exact(show∀y∈_,List.length y.1<=10 from by decide) _ hr.2
  |(simp;done)
  |skip
theorem A8:OK kP.e:=by
 refine XA.ok mixed (aA [(wz,.eff (DX o8) yX),bQ.e] ⟨⟨Gw,Fg⟩,dw,trivial⟩) KN (λ_ _=>⟨(([(0,0,0,[],0,0,[],())],()),(([],0,0,()),())),⟨by decide,by decide,by decide⟩⟩) (by kernel_rfl) (show∀c0 c1 c2,kP.goal (JF c0 c1 c2) ((c0,c1,c2,()),())from ?_);intro b i h hin hp;dsimp only[kP]at hp ⊢;have hp:0<=i:=hp
 repeat' first
  |exact trivial
  |refine af (λ_=>?_) λ_=>?_
  |refine And.intro ?_ ?_
  |(intro r hr;simp only[]at hr)
  |intro r hr
 all_goals first
  |omega
  |(dsimp only at*;omega)
  |exact hr
  |(simp only[auP,ne_eq]at*;omega)
  |(simp only[avn,auY,auN,auQ,auW];omega)
  |(rw[iF];simp only[avn,auY,auN,auQ,auW];omega)
  |(simp only[avn,auY,auN,auQ,auW]at*;omega)
  |exact(show∀y∈_,List.length y.1<=10 from by decide) _ hr.2
  |(simp;done)
  |skip
theorem aev:OK Es.e:=by
 refine XA.ok mixed (aA [wK.e,uN.e,iV.e,kD.e,bQ.e,wW.e] ⟨Ib,OC,jM,rU,dw,Vg,trivial⟩) agp (λ_ _=>⟨(([],()),(([],0,0,()),())),⟨by decide,by decide⟩⟩) (by kernel_rfl) (show∀c0 c1 c2,Es.goal (aew c0 c1 c2) ((c0,c1,c2,()),())from ?_);intro b i h hin hp;dsimp only[Es]at hp ⊢;have hp:0<=i:=hp
 repeat' first
  |exact trivial
  |refine af (λ_=>?_) λ_=>?_
  |refine And.intro ?_ ?_
  |(intro r hr;simp only[]at hr)
  |intro r hr
 all_goals first
  |omega
  |(dsimp only at*;omega)
  |exact hr
  |(simp only[auP,ne_eq]at*;omega)
  |(simp only[avn,auY,auN,auQ,auW];omega)
  |(rw[iF];simp only[avn,auY,auN,auQ,auW];omega)
  |(simp only[avn,auY,auN,auQ,auW]at*;omega)
  |exact(show∀y∈_,List.length y.1<=10 from by decide) _ hr.2
  |(simp;done)
  |skip
theorem Az:eu []:=⟨by simp,λx hx=>by cases hx⟩
theorem KF{d:List bD}{x:bD}(h:eu d)(hl:d.length<1000)(hx:x.2.1.length<=1000):eu (d++[x]):=
 ⟨by simp;omega,λy hy=>by rcases avf.1 hy with hy|hy;exact h.2 y hy;rw[avg.1 hy];exact hx⟩
theorem acH{d:List bD}{x:bD}(n:Nat)(h:eu d)(hx:x.2.1.length<=1000):eu (d.set n x):=
 ⟨by simp;exact h.1,λy hy=>by rcases axY hy with hy|hy;exact h.2 y hy;rw[hy];exact hx⟩
theorem ajj{d:List bD}(n:Nat)(h:eu d):eu (d.take n):=
 ⟨by rw[auY];have:=h.1;omega,λy hy=>h.2 y (awq hy)⟩
theorem amR{d:List bD}(h:eu d){n:Nat}(hn:n<d.length):(d.getD n ([],[],())).2.1.length<=1000:=h.2 _ (getD_mem hn)
theorem OB:OK yY.e:=by
 refine XA.ok mixed (aA [kP.e,bQ.e] ⟨A8,dw,trivial⟩) aex (λ_ _=>⟨(([([],[],())],()),(([],0,0,()),())),⟨by decide,by decide,by decide,by decide,by decide⟩⟩) (by kernel_rfl) (show∀c0 c1 c2,yY.goal (acI c0 c1 c2) ((c0,c1,c2,()),())from ?_);intro b i h hin hp;dsimp only[yY]at hp ⊢;have hp:0<=i:=hp;refine⟨λy=>0<=y.2.1.2.1/\y.1.2.1=y.2.2.1.length/\y.2.2.1.length<=4/\eu y.2.2.1,λy=>(4-y.1.2.1).toNat,⟨hp,rfl,by simp,Az⟩,?_⟩;rintro⟨⟨_,k,_⟩,⟨b1,i1,h1,_⟩,l,_⟩ ⟨q1,q2,q3,q4⟩;dsimp only at q1 q2 q3 q4 ⊢;refine⟨q1,?_⟩;rintro⟨⟨r,_⟩,⟨b2,i2,h2,_⟩,_⟩ ⟨e1,e2,e3,_⟩;dsimp only at e1 e2 e3 ⊢;have e3:=e3 (by omega);rw[fE (1+r) (by omega),fE (k+1) (by omega)];refine af (λhc=>?_) λhc=>?_
 .have hc:=fH hc;refine⟨⟨by omega,by simp only[auQ,auW];omega⟩,by simp only[auQ,auW];omega,e1,?_⟩;rintro⟨⟨x,_⟩,⟨b3,i3,h3,_⟩,_⟩ ⟨g1,g2,g3⟩;dsimp only at g1 g2 g3 ⊢;refine⟨by rw[iF];simp only[auQ,auW];omega,rfl,⟨g1,by simp;omega,by simp;omega,KF q4 (by omega) (by dsimp only;omega)⟩,by omega⟩
 .have hc:=fV hc;exact⟨e1,by omega,by omega,q4⟩
theorem aes:OK Et.e:=by
 refine XA.ok mixed (aA [kP.e,Es.e,iV.e,bQ.e,yY.e] ⟨A8,aev,jM,dw,OB,trivial⟩) agq (λ_ _=>⟨(([],()),(([],0,0,()),())),⟨by decide,by decide,Az⟩⟩) (by kernel_rfl) (show∀c0 c1 c2,Et.goal (aey c0 c1 c2) ((c0,c1,c2,()),())from ?_);intro b i h hin hp;dsimp only[Et]at hp ⊢;have hp:0<=i:=hp;refine⟨hp,?_⟩;rintro⟨⟨d,_⟩,⟨b1,i1,h1,_⟩,_⟩ ⟨q1,q2,q3,q4⟩;dsimp only at q1 q2 q3 q4 ⊢;refine⟨q1,?_⟩;rintro⟨⟨r,_⟩,⟨b2,i2,h2,_⟩,_⟩ ⟨e1,e2,e3,_⟩;dsimp only at e1 e2 e3 ⊢;have e3:=e3 (by omega);refine⟨e1,?_⟩;rintro⟨⟨s,_⟩,⟨b3,i3,h3,_⟩,_⟩ ⟨f1,f2,f3,_⟩;dsimp only at f1 f2 f3 ⊢;have hn:r.toNat<d.length:=by omega
 refine af (λ_=>⟨⟨f1,by simp⟩,?_⟩) λ_=>af (λ_=>⟨f1,?_⟩) λ_=>af (λ_=>?_) λ_=>af (λ_=>?_) λ_=>?_
 .rintro⟨⟨x,_⟩,⟨b4,i4,h4,_⟩,_⟩ ⟨g1,g2⟩;exact⟨⟨e2,e3⟩,hn,g1,by simp;omega,acH _ q4 (amR q4 hn)⟩
 .rintro⟨⟨x,_⟩,⟨b4,i4,h4,_⟩,_⟩ ⟨g1,g2⟩;exact⟨⟨e2,e3⟩,hn,g1,by simp;omega,acH _ q4 (by dsimp only at g2 ⊢;omega)⟩
 .refine⟨λy=>0<=y.2.1.2.1/\y.2.2.1.length<=6/\eu y.2.2.1,λy=>6-y.2.2.1.length,⟨f1,by dsimp only;omega,q4⟩,?_⟩;rintro⟨_,⟨b4,i4,h4,_⟩,l,_⟩ ⟨g1,g2,g3⟩;dsimp only at g1 g2 g3 ⊢;refine⟨g1,?_⟩;rintro⟨⟨r',_⟩,⟨b5,i5,h5,_⟩,_⟩ ⟨k1,k2,k3,_⟩;dsimp only at k1 k2 k3 ⊢;have k3:=k3 (by omega);rw[fE (5+r') (by omega)];refine af (λhc=>?_) λhc=>?_
  .have hc:=fH hc;refine⟨⟨by omega,by simp only[auQ,auW];omega⟩,k1,?_⟩;rintro⟨⟨x,_⟩,⟨b6,i6,h6,_⟩,_⟩ ⟨m1,m2,m3⟩;dsimp only at m1 m2 m3 ⊢;refine⟨by rw[iF];simp only[auQ,auW];omega,rfl,⟨m1,by simp;omega,KF g3 (by omega) (by dsimp only;omega)⟩,by simp;omega⟩
  .exact⟨k1,by omega,g3⟩
 .exact⟨f1,by simp,Az⟩
 .exact⟨f1,by omega,q4⟩
end Go.Proofs.Tryz
namespace Go.Proofs.Tryz
open Go Go.Fw Go.IntWalk Sp
theorem KO(n0 n1 n2:Int)(n3:Sp.Bytes)(n4 n5:Int)(n6:Sp.Bytes)(a:Int):dO (n0,n1,n2,n3,n4,n5,n6,()) a=
 (bif n0==1 then(n1==0&&n2==0)&&(n3==[]&&(n4==0&&(n5==0&&n6==[])))else bif n0==2 then(n1==0&&n2==0)&&(n4==0&&(n5==0&&n6==[]))&&dB n3 else
 bif n0==3 then(n1==0&&n2==0)&&dB n3&&bF n4 n5 n6&&!(n4==0)else bif n0==4 then(n1==0&&n2==0)&&dB n3&&bF n4 n5 n6&&n4==1 else
 bif n0==5 then(decide (0<=n1)&&decide (n1<=a-1)&&decide (0<a))&&n2==0&&(n3==[]&&(n4==0&&(n5==0&&n6==[])))else
 bif n0==6||n0==7 then(decide (0<=n1)&&decide (n1<=a-1)&&decide (0<a))&&(decide (0<=n2)&&decide (n2<=a-1))&&(n3==[]&&(n4==0&&(n5==0&&n6==[])))else
 bif n0==8||n0==9 then(n1==0&&n2==0)&&(n4==0&&(n5==0&&n6==[]))&&aT n3 else false):=rfl
theorem Vj:OK wY.e:=by
 refine PA.ok mixed (aA [lI.e,jE.e,kH.e,jZ.e] ⟨zH,lT,uo,wI,trivial⟩) Xl (by kernel_rfl) (show∀n0 n1 n2 n3 n4 n5 n6 at',wY.goal (Ho n0 n1 n2 n3 n4 n5 n6 at') ((n0,n1,n2,n3,n4,n5,n6,()),at',())from ?_);intro n0 n1 n2 n3 n4 n5 n6 a hin hp;dsimp only[wY]at hp ⊢;have ha:-9223372036854775808<=a/\a<=9223372036854775807:=hin.2.1;show Ho n0 n1 n2 n3 n4 n5 n6 a λr=>r=(dO (n0,n1,n2,n3,n4,n5,n6,()) a,());rw[KO];have w:0<a->IntKind.i64.wrap (a-1)=a-1:=λh=>fE _ (by omega);refine af (λ_=>?_) λ_=>af (λ_=>af (λ_=>⟨trivial,?_⟩) λ_=>?_) λ_=>⟨λy=>y=((n0==3||n0==4,()),()),?_,?_⟩
 .first|(simp_all;done)|(simp_all;grind)
 .first|(simp_all;done)|(simp_all;grind)
 .first|(simp_all;done)|(simp_all;grind)
 .refine af (λ_=>⟨rfl,?_⟩) λ_=>⟨rfl,?_⟩<;>first|(simp_all;done)|(simp_all;grind)
 .rintro _ rfl;refine af (λ_=>?_) λ_=>af (λ_=>af (λ_=>af (λh=>⟨trivial,?_⟩) λ_=>?_) λ_=>?_) λ_=>⟨λy=>y=((n0==6||n0==7,()),()),?_,?_⟩
  .refine af (λ_=>⟨trivial,af (λ_=>⟨trivial,af (λ_=>af (λ_=>af (λ_=>?_) λ_=>?_) λ_=>?_) λ_=>?_⟩) λ_=>?_⟩) λ_=>?_
   all_goals first|(simp_all;done)|(simp_all;grind)
  .rw[w (fH h)]
   first|(simp_all;done)|(simp_all;grind)
  .first|(simp_all;done)|(simp_all;grind)
  .first|(simp_all;done)|(simp_all;grind)
  .refine af (λ_=>⟨rfl,?_⟩) λ_=>⟨rfl,?_⟩<;>first|(simp_all;done)|(simp_all;grind)
  .rintro _ rfl;refine af (λ_=>af (λ_=>af (λh=>⟨trivial,?_⟩) λ_=>?_) λ_=>?_) λ_=>?_
   .rw[w (fH h)];refine af (λ_=>⟨trivial,?_⟩) λ_=>?_<;>first|(simp_all;done)|(simp_all;grind)
   .first|(simp_all;done)|(simp_all;grind)
   .first|(simp_all;done)|(simp_all;grind)
   .refine af (λ_=>af (λ_=>af (λ_=>⟨trivial,?_⟩) λ_=>?_) λ_=>?_) λ_=>af (λ_=>af (λ_=>⟨trivial,?_⟩) λ_=>?_) λ_=>?_
    all_goals first|(simp_all;done)|(simp_all;grind)
theorem Vk:OK wX.e:=by
 refine PA.ok mixed (aA [lH.e,kG.e,jY.e,jl.e] ⟨zF,um,wH,lD,trivial⟩) Xm (by kernel_rfl) (show∀n0 n1 n2 n3 n4 n5 n6 at',wX.goal (Hq n0 n1 n2 n3 n4 n5 n6 at') ((n0,n1,n2,n3,n4,n5,n6,()),at',())from ?_);intro n0 n1 n2 n3 n4 n5 n6 a hin hp;dsimp only[wX]at hp ⊢;have ha:-9223372036854775808<=a/\a<=9223372036854775807:=hin.2.1;show Hq n0 n1 n2 n3 n4 n5 n6 a λr=>r=(dO (n0,n1,n2,n3,n4,n5,n6,()) a,());rw[KO];have w:0<a->IntKind.i64.wrap (a-1)=a-1:=λh=>fE _ (by omega);refine⟨λy=>y=((decide (0<=n1)&&decide (n1<=a-1)&&decide (0<a),()),()),⟨trivial,?_⟩,?_⟩
 .by_cases h:0<a
  .dsimp only;rw[w h];refine af (λ_=>⟨rfl,?_⟩) λ_=>⟨rfl,?_⟩<;>first|(simp_all;done)|(simp_all;grind)
  .dsimp only;refine af (λ_=>⟨rfl,?_⟩) λ_=>⟨rfl,?_⟩<;>first|(simp_all;done)|(simp_all;grind)
 .rintro _ rfl;refine⟨λy=>y=(((decide (0<=n1)&&decide (n1<=a-1)&&decide (0<a))&&(decide (0<=n2)&&decide (n2<=a-1)),()),()),?_,?_⟩
  .refine af (λh=>⟨trivial,rfl,?_⟩) λh=>⟨rfl,?_⟩
   .have h:(decide (0<=n1)&&decide (n1<=a-1)&&decide (0<a))=true:=h;have h2:0<a:=by simp at h;omega
    rw[w h2,h,awJ]
   .have h:(decide (0<=n1)&&decide (n1<=a-1)&&decide (0<a))=false:=h;rw[h,awY]
  .rintro _ rfl;dsimp only;generalize (decide (0<=n1)&&decide (n1<=a-1)&&decide (0<a))=kids;generalize (decide (0<=n2)&&decide (n2<=a-1))=two
   repeat' first
    |exact trivial
    |refine af (λ_=>?_) λ_=>?_
    |refine And.intro trivial ?_
   all_goals first|(simp_all;done)|(simp_all;grind)
end Go.Proofs.Tryz
namespace Go.Proofs.Tryz
open Go Go.Fw Go.IntWalk Sp
theorem acs:OK Dh.e:=by
 refine PA.ok mixed (aA [] trivial) aez (by kernel_rfl) (show∀a b,Dh.goal (acJ a b) (a,b,())from ?_);intro a b hin hp;dsimp only[Dh]at hp ⊢;have hlen:a.length<=maxLen:=hin.1.1;rw[maxLen_eq]at hlen;refine af (λh=>?_) λh=>?_
 .have h:(a.length:Int)≠b.length:=by simpa using h
  exact congrArg (·,()) (au6 λe=>h (by rw[e])).symm
 .have h:(a.length:Int)=b.length:=by simpa using h
  exact Fj (K:=λr=>r=(decide (a=b),())) (λx y=>x.1 !=y.1) (λx y=>by simp[awn]) _ a b _ hlen (by omega) (λe=>by rw[au6 e]) λe=>by rw[au2 e]
theorem YM:OK Ac.e:=by
 refine PA.ok mixed (aA [] trivial) aaR (by kernel_rfl) (show∀a b,Ac.goal (YN a b) (a,b,())from ?_);intro a b hin hp;dsimp only[Ac]at hp ⊢;have hlen:a.length<=maxLen:=hin.1.1;rw[maxLen_eq]at hlen;refine af (λh=>?_) λh=>?_
 .have h:(a.length:Int)≠b.length:=by simpa using h
  exact congrArg (·,()) (au6 λe=>h (by rw[e])).symm
 .have h:(a.length:Int)=b.length:=by simpa using h
  exact Fj (K:=λr=>r=(decide (a=b),())) (λx y=>!(x.1==y.1&&(x.2.1==y.2.1&&(x.2.2.1==y.2.2.1&&(x.2.2.2.1==y.2.2.2.1&&(x.2.2.2.2.1==y.2.2.2.2.1&&(x.2.2.2.2.2.1==y.2.2.2.2.2.1&&(x.2.2.2.2.2.2.1==y.2.2.2.2.2.2.1&&true)))))))) (λx y=>by simp[awn]) _ a b _ hlen (by omega) (λe=>by rw[au6 e]) λe=>by rw[au2 e]
theorem acK:OK Di.e:=by
 refine PA.ok mixed (aA [Ac.e] ⟨YM,trivial⟩) H0 (by kernel_rfl) (show∀a0 a1 b0 b1,Di.goal (acL a0 a1 b0 b1) ((a0,a1,()),(b0,b1,()),())from ?_);intro a0 a1 b0 b1 hin hp;dsimp only[Di]at hp ⊢;refine af (λh0=>⟨trivial,?_⟩) λh0=>?_
 all_goals refine congrArg (·,()) (avp.2 ?_)
 .simp only[avj]at h0;subst h0;simp
 .have h0:a0≠b0:=by simpa using h0
  simp[h0]
theorem aaS:OK BQ.e:=by
 refine PA.ok mixed (aA [Di.e] ⟨acK,trivial⟩) acM (by kernel_rfl) (show∀a b,BQ.goal (aaT a b) (a,b,())from ?_);intro a b hin hp;dsimp only[BQ]at hp ⊢;have hlen:a.length<=maxLen:=hin.1.1;rw[maxLen_eq]at hlen;refine af (λh=>?_) λh=>?_
 .have h:(a.length:Int)≠b.length:=by simpa using h
  exact congrArg (·,()) (au6 λe=>h (by rw[e])).symm
 .have h:(a.length:Int)=b.length:=by simpa using h
  exact aaz (K:=λr=>r=(decide (a=b),())) (λx y=>!decide ((x.1,x.2.1,())=(y.1,y.2.1,()))) (λx y=>by simp[awn]) _ a b _ hlen (by omega) (λe=>by rw[au6 e]) λe=>by rw[au2 e]
theorem Tq:OK vW.e:=by
 refine PA.ok mixed (aA [BQ.e,uU.e] ⟨aaS,JX,trivial⟩) H0 (by kernel_rfl) (show∀a0 a1 a2 a3 b0 b1 b2 b3,vW.goal (TA a0 a1 a2 a3 b0 b1 b2 b3) ((a0,a1,a2,a3,()),(b0,b1,b2,b3,()),())from ?_);intro a0 a1 a2 a3 b0 b1 b2 b3 hin hp;dsimp only[vW]at hp ⊢;refine⟨trivial,af (λh0=>⟨trivial,?_⟩) λh0=>?_⟩
 all_goals refine congrArg (·,()) (avp.2 ?_)
 .have h0:=fH h0;simp only[Prod.mk.injEq]at h0;simp[h0]
 .have h0:=fV h0;simp only[Prod.mk.injEq]at h0;simp only[au1,Prod.mk.injEq,awe,false_iff];exactλh=>h0 ⟨h.1,h.2.1,h.2.2.1,trivial⟩
theorem aaU:OK BO.e:=by refine PA.ok mixed (aA [] trivial) H0 (by kernel_rfl) (show∀n0 n1 n2 n3 n4 n5 n6,BO.goal (aaV n0 n1 n2 n3 n4 n5 n6) ((n0,n1,n2,n3,n4,n5,n6,()),())from ?_);intro n0 n1 n2 n3 n4 n5 n6 hin hp;dsimp only[BO]at hp ⊢;exact af (λh=>by rw[h];rfl) λh=>by rw[h];rfl
theorem Ic{d:List bD}(h:eu d){n:Nat}(hn:n<d.length):(d.getD n ([],[],())).2.1.length<=1000:=h.2 _ (getD_mem hn)
end Go.Proofs.Tryz
