import Derived.Test.YtncbcelpbmlgdaaGreatDoorV1
import Derived.Test.YtncbcelpbmlgdaaGreatDoorSp
import Derived.Test.YtncbcelpbmlgdaaGreatDoorV2
import Derived.Test.YtncbcelpbmlgdaaGreatDoorFwC
import Derived.Test.YtncbcelpbmlgdaaGreatDoorL1
namespace Go.Proofs.Tryz
open Go Go.Fw Go.IntWalk Sp
theorem ahE(x y:Int)(m:Nat)(hm:m<9223372036854775807)(hy:(BitVec.ofInt 64 y).toNat=m):0<=bitsOf .and .i64 x y/\bitsOf .and .i64 x y<=m:=by
 have h:(BitVec.ofInt 64 x&&&BitVec.ofInt 64 y).toNat<=m:=by rw[BitVec.toNat_and,hy];exact Nat.and_le_right
 show 0<=IntKind.i64.wrap ((BitVec.ofInt 64 x&&&BitVec.ofInt 64 y).toNat:Int)/\IntKind.i64.wrap ((BitVec.ofInt 64 x&&&BitVec.ofInt 64 y).toNat:Int)<=m;generalize (BitVec.ofInt 64 x&&&BitVec.ofInt 64 y).toNat=z at h ⊢;rw[fJ _ (by omega)];omega
theorem ahF(x:Int):0<=bitsOf .and .i64 x 255/\bitsOf .and .i64 x 255<=255:=ahE x 255 255 (by omega) (by decide)
theorem Zm:OK Ag.e:=by
 refine QA.ok mixed (aO [] trivial) abh (λ⟨_,⟨⟩⟩ _=>⟨([],0,0,()),rfl⟩) (by kernel_rfl) (show∀code,Ag.goal (Zn code) (code,())from ?_);intro code hin hp;dsimp only[Ag]at hp ⊢;have hp:code.length<=1048576:=hp;refine⟨λy=>∃n:Nat,y.1.2.1=n/\n<=code.length,λy=>((code.length:Int)-y.1.2.1).toNat,⟨0,rfl,by omega⟩,?_⟩;rintro⟨⟨h,_,⟨⟩⟩,⟨⟩⟩ ⟨n,rfl,hn⟩;dsimp only;refine af (λhc=>?_) λhc=>?_
 .simp only[aoS]at hc;cases decide ((n:Int)<4000)with
  |false=>exact rfl
  |true=>
   have e:IntKind.i64.wrap ((n:Int)+1)=((n+1:Nat):Int):=fJ _ (by omega);refine⟨?_,?_,?_,?_⟩
   .exact⟨by omega,hc⟩
   .exact rfl
   .exact⟨n+1,e,by omega⟩
   show((code.length:Int)-IntKind.i64.wrap ((n:Int)+1)).toNat<((code.length:Int)-n).toNat;rw[e];omega
 .exact rfl
theorem XR:OK yU.e:=by
 refine XA.ok mixed (aO [] trivial) H0 (λ_ _=>⟨(((0:Int),()),(([],0,0,()),())),⟨by decide,by decide,by decide⟩⟩) (by kernel_rfl) (show∀c0 c1 c2,yU.goal (XT c0 c1 c2) ((c0,c1,c2,()),())from ?_);intro b i h hin hp;dsimp only[yU]at hp ⊢;have hp:0<=i:=hp;refine⟨by decide,by decide,af (λhc=>?_) λhc=>?_⟩<;>simp only[aoS,aps]at hc
 .have hl:b.length<=maxLen:=hin.1.1.1;rw[maxLen_eq]at hl;refine⟨⟨hp,hc⟩,?_,ahF _⟩;show 0<=IntKind.i64.wrap (i+1);rw[fJ _ (by omega)];omega
 .exact⟨hp,ahF _⟩
theorem tmod_lt{a n:Int}(ha:0<=a)(hn:0<n):0<=a.tmod n/\a.tmod n<n:=⟨aru n ha,arH a hn⟩
theorem VP:OK xR.e:=by
 refine XA.ok mixed (aO [yU.e] ⟨XR,trivial⟩) H0 (λ⟨_,n,⟨⟩⟩ _=>⟨(((0:Int),()),(([],0,0,()),())),⟨apM _,apM _,λh=>h,λ_=>rfl⟩⟩) (by kernel_rfl) (show∀c0 c1 c2 n,xR.goal (VQ c0 c1 c2 n) ((c0,c1,c2,()),n,())from ?_);intro b i h n hin hp;dsimp only[xR]at hp ⊢;have hp:0<=i:=hp;refine af (λhc=>?_) λhc=>?_<;>simp only[aoS,aps]at hc
 .exact⟨hp,apM _,λh=>(by omega),λ_=>rfl⟩
 .refine af (λhc2=>?_) λhc2=>?_
  .refine⟨hp,?_⟩;rintro⟨⟨x,⟨⟩⟩,⟨b',i',h',⟨⟩⟩,⟨⟩⟩ ⟨h1,h2,h3⟩;dsimp only at h1 h2 h3 ⊢;have:=tmod_lt h2 (show 0<n by omega);exact⟨by omega,h1,this.1,λ_=>this.2,λh=>(by omega)⟩
  .refine⟨hp,?_⟩;rintro⟨⟨x1,⟨⟩⟩,⟨b1,i1,g1,⟨⟩⟩,⟨⟩⟩ ⟨h1,h2,h3⟩;refine⟨h1,?_⟩;rintro⟨⟨x2,⟨⟩⟩,⟨b2,i2,g2,⟨⟩⟩,⟨⟩⟩ ⟨k1,k2,k3⟩;refine⟨k1,?_⟩;rintro⟨⟨x3,⟨⟩⟩,⟨b3,i3,g3,⟨⟩⟩,⟨⟩⟩ ⟨l1,l2,l3⟩;refine⟨l1,?_⟩;rintro⟨⟨x4,⟨⟩⟩,⟨b4,i4,g4,⟨⟩⟩,⟨⟩⟩ ⟨m1,m2,m3⟩;dsimp only at*;rw[fJ (x1*16777216) (by omega),fJ (x2*65536) (by omega),fJ (x3*256) (by omega),fJ (x1*16777216+x2*65536) (by omega),fJ (x1*16777216+x2*65536+x3*256) (by omega),fJ (x1*16777216+x2*65536+x3*256+x4) (by omega)];have:=tmod_lt (a:=x1*16777216+x2*65536+x3*256+x4) (n:=n) (by omega) (by omega);exact⟨by omega,m1,this.1,λ_=>this.2,λh=>(by omega)⟩
theorem VR:OK xU.e:=by refine XA.ok mixed (aO [] trivial) XU (λ_ _=>⟨((Sp.usual,()),()),rfl⟩) (by kernel_rfl) (show xU.goal (VS) (())from ?_);intro hin hp;dsimp only[xU]at hp ⊢;exact rfl
theorem VT:OK xW.e:=by refine PA.ok mixed (aO [] trivial) H0 (by kernel_rfl) (show∀n,xW.goal (VU n) (n,())from ?_);intro n hin hp;dsimp only[xW]at hp ⊢;exact rfl
theorem kz:OK jc.e:=by
 refine PA.ok mixed (aO [] trivial) H0 (by kernel_rfl) (show∀OU least most,jc.goal (abj OU least most) (OU,least,most,())from ?_);intro x a b hin hp;dsimp only[jc]at hp ⊢;refine af (λh=>?_) λh=>?_
 .have h:=fV h;show(decide (x<=b),())=(decide (a<=x)&&decide (x<=b),());rw[aoZ (show a<=x from h)];rfl
 .have h:=gK h;show(false,())=(decide (a<=x)&&decide (x<=b),());rw[ao1 (show ¬a<=x from h)];rfl
theorem jB:OK iL.e:=by
 refine PA.ok mixed (aO [] trivial) H0 (by kernel_rfl) (show∀n low high,iL.goal (Zo n low high) (n,low,high,())from ?_);intro x a b hin hp;dsimp only[iL]at hp ⊢;refine af (λh=>?_) λh=>?_
 .show(decide (x<=b),())=(decide (a<=x)&&decide (x<=b),());rw[h];rfl
 .show(false,())=(decide (a<=x)&&decide (x<=b),());rw[h];rfl
theorem FN{s:List UInt8}{n:Nat}(hlt:n<s.length)(hl:Sp.lower s=true):97<=(s.getD n 0).toNat/\(s.getD n 0).toNat<=122:=by have:=ao4.1 hl _ (getD_mem (d:=0) hlt);simpa using this
theorem I4:OK uT.e:=by
 refine PA.ok mixed (aO [jc.e] ⟨kz,trivial⟩) Zp (by kernel_rfl) (show∀s most,uT.goal (XV s most) (s,most,())from ?_);intro s most hin hp;dsimp only[uT]at hp ⊢;have hlen:s.length<=maxLen:=hin.1;rw[maxLen_eq]at hlen;refine⟨λy=>∃n:Nat,y.1.1=n/\n<=s.length/\Sp.lower (s.take n)=true,λy=>((s.length:Int)-y.1.1).toNat,⟨0,rfl,by omega,rfl⟩,?_⟩;rintro⟨⟨_,⟨⟩⟩,⟨⟩⟩ ⟨n,rfl,hn,hJ⟩;dsimp only;refine af (λh=>?_) λh=>?_<;>simp only[aoS,aps]at h
 .have hlt:n<s.length:=by omega
  rw[fJ _ (by omega),ao6];refine⟨⟨by omega,by omega⟩,af (λh2=>?_) λh2=>⟨⟨by omega,by omega⟩,af (λh3=>?_) λh3=>?_⟩⟩<;>simp only[aoS,aps]at*
  .cases hl:Sp.lower s with
   |false=>rfl
   |true=>have:=FN hlt hl;omega
  .cases hl:Sp.lower s with
   |false=>rfl
   |true=>have:=FN hlt hl;omega
  .refine⟨rfl,⟨n+1,by simp,by omega,?_⟩,by dsimp only;omega⟩;rw[Sp.take_succ' s n 0 hlt];unfold Sp.lower at hJ ⊢;rw[ara,hJ];simp only[apS,arQ,aqP,aqC,aoJ,aoS];omega
 .have hge:n=s.length:=by omega
  rw[hge,ap3]at hJ;rw[hJ];exact⟨trivial,rfl⟩
theorem vJ:OK kE.e:=by refine PA.ok mixed (aO [uT.e] ⟨I4,trivial⟩) H0 (by kernel_rfl) (show∀s,kE.goal (KX s) (s,())from ?_);intro s hin hp;dsimp only[kE]at hp ⊢;exact⟨trivial,rfl⟩
theorem wP:OK lq.e:=by
 refine PA.ok mixed (aO [kE.e,jc.e] ⟨vJ,kz,trivial⟩) H0 (by kernel_rfl) (show∀v0 v1 v2,lq.goal (MW v0 v1 v2) ((v0,v1,v2,()),())from ?_);intro k n s hin hp;dsimp only[lq]at hp ⊢;refine af (λh=>?_) λh=>af (λh2=>⟨trivial,af (λh3=>?_) λh3=>?_⟩) λh2=>af (λh3=>⟨trivial,af (λh4=>?_) λh4=>?_⟩) λh3=>?_
 .have e:k=0:=by simpa using h
  subst e;exact congrArg (·,()) (apn.2 (by simp[bn]))
 .have e:k=1:=by simpa using h2
  subst e;exact congrArg (·,()) (apn.2 (by simp only[aoJ,aoS]at h3;simp[bn,h3]))
 .have e:k=1:=by simpa using h2
  subst e;exact congrArg (·,()) (apn.2 (by simp only[bn,h3];simp))
 .have e:k=2:=by simpa using h3
  subst e;exact congrArg (·,()) (apn.2 (by simp[bn,h4]))
 .have e:k=2:=by simpa using h3
  subst e;exact congrArg (·,()) (apn.2 (by simp[bn,h4]))
 .have e1:k≠0:=by simpa using h
  have e2:k≠1:=by simpa using h2
  have e3:k≠2:=by simpa using h3
  exact congrArg (·,()) (apn.2 (by simp[bn,e1,e2,e3]))
theorem rE:OK jw.e:=by refine PA.ok mixed (aO [uT.e] ⟨I4,trivial⟩) H0 (by kernel_rfl) (show∀s,jw.goal (Ic s) (s,())from ?_);intro s hin hp;dsimp only[jw]at hp ⊢;exact⟨trivial,rfl⟩
theorem TS:OK vZ.e:=by
 refine PA.ok mixed (aO [] trivial) VW (by kernel_rfl) (show∀s name,vZ.goal (TT s name) (s,name,())from ?_);intro s name hin hp;dsimp only[vZ]at hp ⊢;have hlen:s.length<=maxLen:=hin.1.1;rw[maxLen_eq]at hlen;refine kK s.length hlen (λn=>∀i,i<n->(s.getD i ([],0,())).1≠name) (λi hi=>by omega) (λI μ n hn hJ next=>?_) λI μ hJ=>?_
 .dsimp only;refine eX (by omega) ⟨⟨by omega,by omega⟩,af (λh=>⟨⟨by omega,by omega⟩,?_⟩) λh=>⟨rfl,next λi hi=>?_⟩⟩
  .exact congrArg (·,()) (QW s n hn hJ (by simpa only[ao6,apf]using h)).symm
  .rcases apa i n with h'|h'
   .exact hJ i h'
   .have:i=n:=by omega
    subst this;have h2:((s.getD i ([],0,())).1==name)=false:=h;exactλe=>by rw[e]at h2;simp at h2
 .dsimp only;exact eY (by omega) (congrArg (·,()) (JF s hJ).symm)
theorem Bh:OK mX.e:=by
 refine PA.ok mixed (aO [jc.e,jw.e] ⟨kz,rE,trivial⟩) MX (by kernel_rfl) (show∀s,mX.goal (KY s) (s,())from ?_);intro s hin hp;dsimp only[mX]at hp ⊢;have hlen:s.length<=maxLen:=hin.1.1;rw[maxLen_eq]at hlen;refine kK s.length hlen (λn=>∀i,i<n->iY s i=true) (λi hi=>by omega) (λI μ n hn hJ next=>?_) λI μ hJ=>?_
 .dsimp only;have no:iY s n=false->(false,())=(dP s,()):=λh=>by rw[U3 hn h]
  refine eX (by omega) ⟨⟨by omega,by omega⟩,trivial,af (λh2=>no ?_) λh2=>⟨⟨by omega,by omega⟩,trivial,af (λh3=>no ?_) λh3=>af (λh4=>?_) λh4=>⟨rfl,next (dK hJ ?_)⟩⟩⟩
  .have h2:bZ (Sp.fieldAt s n).1=false:=iW h2;unfold iY;rw[h2];rfl
  .have h2:bZ (Sp.fieldAt s n).1=true:=fC h2;have h3:(decide (1<=(Sp.fieldAt s n).2.1)&&decide ((Sp.fieldAt s n).2.1<=2))=false:=iW h3;unfold iY;rw[h2,h3];rfl
  .have h2:bZ (Sp.fieldAt s n).1=true:=fC h2;have h3:(decide (1<=(Sp.fieldAt s n).2.1)&&decide ((Sp.fieldAt s n).2.1<=2))=true:=fC h3;have h4:0<n:=by have:=fV h4;omega
   rw[xE h4 (by omega)];refine⟨⟨by omega,by omega⟩,⟨by omega,by omega⟩,af (λh5=>no ?_) λh5=>⟨rfl,next (dK hJ ?_)⟩⟩
   .have h5:Op.bytesLess (Sp.fieldAt s (n-1)).1 (Sp.fieldAt s n).1=false:=iW h5;unfold iY;rw[h2,h3,h5,aoZ h4];rfl
   .have h5:Op.bytesLess (Sp.fieldAt s (n-1)).1 (Sp.fieldAt s n).1=true:=fC h5;unfold iY;rw[h2,h3,h5,aoZ h4];rfl
  .have h2:bZ (Sp.fieldAt s n).1=true:=fC h2;have h3:(decide (1<=(Sp.fieldAt s n).2.1)&&decide ((Sp.fieldAt s n).2.1<=2))=true:=fC h3;have h4:¬0<n:=by have:=gK h4;omega
   unfold iY;rw[h2,h3,ao1 h4];rfl
 .dsimp only;refine eY (by omega) (congrArg (·,()) ?_);unfold dP;rw[lI hJ];rfl
theorem KZ:OK pR.e:=by
 refine PA.ok mixed (aO [vZ.e,lq.e] ⟨TS,wP,trivial⟩) H0 (by kernel_rfl) (show∀s name v0 v1 v2,pR.goal (La s name v0 v1 v2) (s,name,(v0,v1,v2,()),())from ?_);intro fs s k n w hin hp;dsimp only[pR]at hp ⊢;refine⟨trivial,af (λh=>af (λh2=>⟨trivial,?_⟩) λh2=>?_) λh=>?_⟩
 .exact congrArg (·,()) (apn.2 (by simp only[bne_iff_ne,ne_eq]at h2;simp[iy,h,h2]))
 .exact congrArg (·,()) (apn.2 (by simp at h2;simp[iy,h2]))
 .exact congrArg (·,()) (apn.2 (by simp[iy,h]))
theorem Dp:OK oG.e:=by
 refine PA.ok mixed (aO [jc.e,mX.e,pR.e] ⟨kz,Bh,KZ,trivial⟩) QX (by kernel_rfl) (show∀s f0 f1 f2 f3 f4,oG.goal (O1 s f0 f1 f2 f3 f4) (s,(f0,f1,f2,f3,f4,()),())from ?_);intro fs f0 f1 f2 f3 f4 hin hp;dsimp only[oG]at hp ⊢;have hlen:f4.length<=maxLen:=hin.2.1.2.2.2.2.1.1;rw[maxLen_eq]at hlen;refine kK f4.length hlen (λn=>∀i,i<n->jf fs f4 i=true) (λi hi=>by omega) (λI μ n hn hJ next=>?_) λI μ hJ=>?_
 .dsimp only;have no:jf fs f4 n=false->(false,())=(cZ fs (f0,f1,f2,f3,f4,()),()):=λh=>by rw[aaB (f:=(f0,f1,f2,f3,f4,())) hn h]
  refine eX (by omega) ⟨⟨by omega,by omega⟩,⟨by omega,by omega⟩,trivial,af (λh2=>no ?_) λh2=>af (λh4=>?_) λh4=>⟨rfl,next (dK hJ ?_)⟩⟩
  .have h2:iy fs (bG f4 n).1 (bG f4 n).2.1 (bG f4 n).2.2.1 (bG f4 n).2.2.2.1=false:=iW h2;unfold jf;rw[h2];rfl
  .have h2:iy fs (bG f4 n).1 (bG f4 n).2.1 (bG f4 n).2.2.1 (bG f4 n).2.2.2.1=true:=fC h2;have h4:0<n:=by have:=fV h4;omega
   rw[xE h4 (by omega)];refine⟨⟨by omega,by omega⟩,⟨by omega,by omega⟩,af (λh5=>no ?_) λh5=>⟨rfl,next (dK hJ ?_)⟩⟩
   .have h5:Op.bytesLess (bG f4 (n-1)).1 (bG f4 n).1=false:=iW h5;unfold jf;rw[h2,h5,aoZ h4];rfl
   .have h5:Op.bytesLess (bG f4 (n-1)).1 (bG f4 n).1=true:=fC h5;unfold jf;rw[h2,h5,aoZ h4];rfl
  .have h2:iy fs (bG f4 n).1 (bG f4 n).2.1 (bG f4 n).2.2.1 (bG f4 n).2.2.2.1=true:=fC h2;have h4:¬0<n:=by have:=gK h4;omega
   unfold jf;rw[h2,ao1 h4];rfl
 .dsimp only;have ha:nY fs f4=true:=lI hJ;refine eY (by omega) ⟨trivial,af (λh1=>⟨trivial,af (λh2=>⟨trivial,af (λh3=>⟨trivial,?_⟩) λh3=>?_⟩) λh2=>?_⟩) λh1=>?_⟩
  .refine congrArg (·,()) ?_;unfold cZ;rw[ha,h1,h2,h3];rfl
  .refine congrArg (·,()) ?_;unfold cZ;rw[ha,h1,h2,h3];rfl
  .refine congrArg (·,()) ?_;unfold cZ;rw[ha,h1,h2];rfl
  .refine congrArg (·,()) ?_;unfold cZ;rw[ha,h1];rfl
theorem CQ:OK nV.e:=by
 refine PA.ok mixed (aO [jc.e,mX.e,oG.e] ⟨kz,Bh,Dp,trivial⟩) O3 (by kernel_rfl) (show∀s0 s1 s2,nV.goal (MZ s0 s1 s2) ((s0,s1,s2,()),())from ?_);intro s0 s1 s2 hin hp;dsimp only[nV]at hp ⊢;have hlen:s1.length<=maxLen:=hin.1.2.1.1;rw[maxLen_eq]at hlen;refine kK s1.length hlen (λn=>∀i,i<n->jX (s0,s1,s2,()) i=true) (λi hi=>by omega) (λI μ n hn hJ next=>?_) λI μ hJ=>?_
 .dsimp only;have no:jX (s0,s1,s2,()) n=false->(false,())=(eF (s0,s1,s2,()),()):=λh=>by rw[XW (s:=(s0,s1,s2,())) hn h]
  refine eX (by omega) ⟨⟨by omega,by omega⟩,trivial,af (λh2=>no ?_) λh2=>⟨⟨by omega,by omega⟩,af (λh3=>no ?_) λh3=>af (λh4=>?_) λh4=>⟨rfl,next (dK hJ ?_)⟩⟩⟩
  .have h2:cZ s0 (Sp.fileAt s1 n)=false:=iW h2;show(cZ s0 (Sp.fileAt s1 n)&&_&&_)=false;rw[h2];rfl
  .have h2:cZ s0 (Sp.fileAt s1 n)=true:=fC h2;have h3:¬(Sp.fileAt s1 n).1<s2:=by have h3:(Sp.fileAt s1 n).1>=s2:=fV h3;omega
   show(cZ s0 (Sp.fileAt s1 n)&&decide ((Sp.fileAt s1 n).1<s2)&&_)=false;rw[h2,ao1 h3];rfl
  .have h2:cZ s0 (Sp.fileAt s1 n)=true:=fC h2;have h3:(Sp.fileAt s1 n).1<s2:=by have h3:¬(Sp.fileAt s1 n).1>=s2:=gK h3;omega
   have h4:0<n:=by have:=fV h4;omega
   rw[xE h4 (by omega)];refine⟨⟨by omega,by omega⟩,⟨by omega,by omega⟩,af (λh5=>no ?_) λh5=>⟨rfl,next (dK hJ ?_)⟩⟩
   .have h5:¬(Sp.fileAt s1 (n-1)).1<(Sp.fileAt s1 n).1:=by have h5:(Sp.fileAt s1 (n-1)).1>=(Sp.fileAt s1 n).1:=fV h5;omega
    show(cZ s0 (Sp.fileAt s1 n)&&decide ((Sp.fileAt s1 n).1<s2)&&!(decide (0<n)&&!decide ((Sp.fileAt s1 (n-1)).1<(Sp.fileAt s1 n).1)))=false;rw[h2,aoZ h3,aoZ h4,ao1 h5];rfl
   .have h5:(Sp.fileAt s1 (n-1)).1<(Sp.fileAt s1 n).1:=by have h5:¬(Sp.fileAt s1 (n-1)).1>=(Sp.fileAt s1 n).1:=gK h5;omega
    show(cZ s0 (Sp.fileAt s1 n)&&decide ((Sp.fileAt s1 n).1<s2)&&!(decide (0<n)&&!decide ((Sp.fileAt s1 (n-1)).1<(Sp.fileAt s1 n).1)))=true;rw[h2,aoZ h3,aoZ h4,aoZ h5];rfl
  .have h2:cZ s0 (Sp.fileAt s1 n)=true:=fC h2;have h3:(Sp.fileAt s1 n).1<s2:=by have h3:¬(Sp.fileAt s1 n).1>=s2:=gK h3;omega
   have h4:¬0<n:=by have:=gK h4;omega
   show(cZ s0 (Sp.fileAt s1 n)&&decide ((Sp.fileAt s1 n).1<s2)&&!(decide (0<n)&&!decide ((Sp.fileAt s1 (n-1)).1<(Sp.fileAt s1 n).1)))=true;rw[h2,aoZ h3,ao1 h4];rfl
 .dsimp only;have ha:iI s1.length (jX (s0,s1,s2,()))=true:=lI hJ;refine eY (by omega) ⟨trivial,af (λh1=>af (λh2=>⟨trivial,?_⟩) λh2=>?_) λh1=>?_⟩
  .refine congrArg (·,()) ?_;show _=(iI s1.length (jX (s0,s1,s2,()))&&dP s0&&decide ((s1.length:Int)<=12)&&(decide (1<=s2)&&decide (s2<=61)));rw[ha,h1,h2];rfl
  .refine congrArg (·,()) ?_;show _=(iI s1.length (jX (s0,s1,s2,()))&&dP s0&&decide ((s1.length:Int)<=12)&&(decide (1<=s2)&&decide (s2<=61)));rw[ha,h1,h2];rfl
  .refine congrArg (·,()) ?_;show _=(iI s1.length (jX (s0,s1,s2,()))&&dP s0&&decide ((s1.length:Int)<=12)&&(decide (1<=s2)&&decide (s2<=61)));rw[ha,h1];rfl
theorem QY:OK uq.e:=by
 refine PA.ok mixed (aO [] trivial) TU (by kernel_rfl) (show∀a b,uq.goal (QZ a b) (a,b,())from ?_);intro a b hin hp;dsimp only[uq]at hp ⊢;have hlen:a.length<=maxLen:=hin.1.1;rw[maxLen_eq]at hlen;refine af (λh=>?_) λh=>?_
 .have h:(a.length:Int)≠b.length:=by simpa using h
  exact congrArg (·,()) (ao1 λe=>h (by rw[e])).symm
 .have h:(a.length:Int)=b.length:=by simpa using h
  exact Lc (K:=λr=>r=(decide (a=b),())) (λx y=>!(x.1==y.1&&(x.2.1==y.2.1&&true))) (λx y=>by simp[aqW]) _ a b _ hlen (by omega) (λe=>by rw[ao1 e]) λe=>by rw[aoZ e]
theorem TV:OK wu.e:=by
 refine PA.ok mixed (aO [] trivial) VX (by kernel_rfl) (show∀a b,wu.goal (TW a b) (a,b,())from ?_);intro a b hin hp;dsimp only[wu]at hp ⊢;have hlen:a.length<=maxLen:=hin.1.1;rw[maxLen_eq]at hlen;refine af (λh=>?_) λh=>?_
 .have h:(a.length:Int)≠b.length:=by simpa using h
  exact congrArg (·,()) (ao1 λe=>h (by rw[e])).symm
 .have h:(a.length:Int)=b.length:=by simpa using h
  exact Lc (K:=λr=>r=(decide (a=b),())) (λx y=>!(x.1==y.1&&(x.2.1==y.2.1&&(x.2.2.1==y.2.2.1&&(x.2.2.2.1==y.2.2.2.1&&true))))) (λx y=>by simp[aqW]) _ a b _ hlen (by omega) (λe=>by rw[ao1 e]) λe=>by rw[aoZ e]
theorem VY:OK xX.e:=by
 refine PA.ok mixed (aO [wu.e] ⟨TV,trivial⟩) H0 (by kernel_rfl) (show∀a0 a1 a2 a3 a4 b0 b1 b2 b3 b4,xX.goal (VZ a0 a1 a2 a3 a4 b0 b1 b2 b3 b4) ((a0,a1,a2,a3,a4,()),(b0,b1,b2,b3,b4,()),())from ?_);intro a0 a1 a2 a3 a4 b0 b1 b2 b3 b4 hin hp;dsimp only[xX]at hp ⊢;refine af (λh0=>af (λh1=>af (λh2=>af (λh3=>⟨trivial,?_⟩) λh3=>?_) λh2=>?_) λh1=>?_) λh0=>?_
 all_goals refine congrArg (·,()) (apn.2 ?_)
 .simp only[apf]at h0 h1 h2 h3;subst h0 h1 h2 h3;simp
 .have h3:a3≠b3:=by simpa using h3
  simp[h3]
 .have h2:a2≠b2:=by simpa using h2
  simp[h2]
 .have h1:a1≠b1:=by simpa using h1
  simp[h1]
 .have h0:a0≠b0:=by simpa using h0
  simp[h0]
theorem TY:OK wz.e:=by
 refine PA.ok mixed (aO [xX.e] ⟨VY,trivial⟩) V3 (by kernel_rfl) (show∀a b,wz.goal (Ua a b) (a,b,())from ?_);intro a b hin hp;dsimp only[wz]at hp ⊢;have hlen:a.length<=maxLen:=hin.1.1;rw[maxLen_eq]at hlen;refine af (λh=>?_) λh=>?_
 .have h:(a.length:Int)≠b.length:=by simpa using h
  exact congrArg (·,()) (ao1 λe=>h (by rw[e])).symm
 .have h:(a.length:Int)=b.length:=by simpa using h
  exact acY (K:=λr=>r=(decide (a=b),())) (λx y=>!decide ((x.1,x.2.1,x.2.2.1,x.2.2.2.1,x.2.2.2.2.1,())=(y.1,y.2.1,y.2.2.1,y.2.2.2.1,y.2.2.2.2.1,()))) (λx y=>by simp[aqW]) _ a b _ hlen (by omega) (λe=>by rw[ao1 e]) λe=>by rw[aoZ e]
theorem Ub:OK wB.e:=by
 refine PA.ok mixed (aO [wz.e,uq.e] ⟨TY,QY,trivial⟩) H0 (by kernel_rfl) (show∀a0 a1 a2 b0 b1 b2,wB.goal (Uc a0 a1 a2 b0 b1 b2) ((a0,a1,a2,()),(b0,b1,b2,()),())from ?_);intro a0 a1 a2 b0 b1 b2 hin hp;dsimp only[wB]at hp ⊢;refine⟨trivial,af (λh0=>⟨trivial,af (λh1=>?_) λh1=>?_⟩) λh0=>?_⟩
 all_goals refine congrArg (·,()) (apn.2 ?_)
 .have h0:=fV h0;have h1:=fV h1;subst h0 h1;simp
 .have h1:=gK h1;simp[h1]
 .have h0:=gK h0;simp[h0]
theorem I5:OK uU.e:=by refine PA.ok mixed (aO [] trivial) Zq (by kernel_rfl) (show∀f0 f1 f2 f3 f4,uU.goal (XY f0 f1 f2 f3 f4) ((f0,f1,f2,f3,f4,()),())from ?_);intro f0 f1 f2 f3 f4 hin hp;dsimp only[uU]at hp ⊢;have hp:f4.length<=1000:=hp;exact⟨by rw[mP];omega,rfl⟩
theorem Zr:OK Ah.e:=by refine PA.ok mixed (aO [iL.e] ⟨jB,trivial⟩) H0 (by kernel_rfl) (show∀n,Ah.goal (Zt n) (n,())from ?_);intro n hin hp;dsimp only[Ah]at hp ⊢;exact⟨trivial,rfl⟩
theorem set_self{fs:List aT}{n:Nat}(hn:n<fs.length):fs.set n (fs.getD n (0,0,false,0,[],()))=fs:=by
 refine aq1 (by simp) λi h1 h2=>?_;rw[List.getElem_set];split
 .next e=>subst e;rw[aoN,aoQ hn];rfl
 .rfl
theorem G6{s:List bT}(p:bT->Bool){n:Nat}(hn:n<s.length):(s.take (n+1)).filter p=(s.take n).filter p++(if p (bG s n)=true then[bG s n]else[]):=by
 rw[Sp.take_succ' s n ([],0,0,[],()) hn,List.filter_append];congr 1;show List.filter _ [bG s n]=_;by_cases h:p (bG s n)=true
 .rw[List.filter_cons_of_pos h,if_pos h];rfl
 .rw[List.filter_cons_of_neg h,if_neg h];rfl
theorem XZ(s:List bT)(p:bT->Bool)(n:Nat):((s.take n).filter p).length<=n:=by have:=arq p (s.take n);rw[ao2]at this;omega
theorem acZ(al:List bT)(name:Sp.Bytes)(n:Int)(s:Sp.Bytes):oO al name 0 n s=al.filter (nH name):=rfl
theorem agj{al:List bT}{name:Sp.Bytes}{k n:Int}{s:Sp.Bytes}(hk:k≠0){l:List bT}(hl:l=al.filter (nH name)){m:Nat}(hm:m<=l.length)
 (h1:∀i,i<m->nZ name (bG l i)=true) (h2:m<l.length->nZ name (bG l m)=false):
 List.drop 0 (List.take m l)++[(name,k,n,s,())]++List.drop m (List.take l.length l)=oO al name k n s:=by
 obtain⟨e1,e2⟩:=G7 (d:=(([]:List UInt8),(0:Int),(0:Int),([]:List UInt8),())) l m hm h1 h2;unfold oO Tq;rw[ao1 hk,← hl];show _=l.takeWhile (nZ name)++_::l.dropWhile (nZ name);rw[e1,e2,ap3,aqG,aoX];rfl
theorem X0:OK yV.e:=by
 refine XA.ok mixed (aO [] trivial) Zu (λ⟨(i,o,s,l,a,_),name,(k,n,w,_),_⟩ _=>⟨(((i,o,s,l,oO a name k n w,()),()),()),⟨rfl,rfl,rfl,rfl,rfl⟩⟩) (by kernel_rfl) (show∀f0 f1 f2 f3 f4 name v0 v1 v2,yV.goal (X3 f0 f1 f2 f3 f4 name v0 v1 v2) ((f0,f1,f2,f3,f4,()),name,(v0,v1,v2,()),())from ?_);intro f0 f1 f2 f3 f4 name k n s hin hp;dsimp only[yV]at hp ⊢;have hp:f4.length<=1000:=hp;refine fZ (λi(x:List bT)=>(((),i,()),x,())) (λy=>y.1.2.1) (λ_ _=>rfl) f4.length (by omega) (λm l=>l=(f4.take m).filter (nH name)) (by simp) (λI μ m l hm hJ next=>?_) λI μ l hJ=>?_
 .subst hJ;have hl:=XZ f4 (nH name) m;dsimp only;refine eX (by omega) ⟨⟨by omega,by omega⟩,af (λh=>⟨⟨by omega,by omega⟩,by rw[mP];simp only[aoO,ao5];omega,rfl,next _ ?_⟩) λh=>⟨rfl,next _ ?_⟩⟩
  .rw[G6 _ hm,if_pos (show nH name (bG f4 m)=true from h)];rfl
  .rw[G6 _ hm,if_neg (show ¬nH name (bG f4 m)=true fromλh'=>by have h:nH name (bG f4 m)=false:=h;rw[h]at h';cases h'),ape]
 .rw[ap3]at hJ;have hl:l.length<=1000:=by rw[hJ];have:=arq (nH name) f4;omega
  dsimp only;refine eY (by omega) (af (λh=>?_) λh=>?_)
  .have hk:k≠0:=by simpa using h
   have fin:∀m:Nat,m<=l.length->(∀i,i<m->nZ name (bG l i)=true)->(m<l.length->nZ name (bG l m)=false)->
    ((0:Int)<=m/\(m:Int)<=l.length)/\0+(List.drop 0 (List.take m l)).length<=big/\(List.drop 0 (List.take m l)).length+[(name,k,n,s,())].length<=big/\((0:Int)<=m/\(m:Int)<=l.length)/\
    (List.drop 0 (List.take m l)++[(name,k,n,s,())]).length+(List.drop m (List.take l.length l)).length<=big/\
    (f0=f0/\f1=f1/\f2=f2/\f3=f3/\List.drop 0 (List.take m l)++[(name,k,n,s,())]++List.drop m (List.take l.length l)=oO f4 name k n s):=by
    intro m hm h1 h2;refine⟨⟨by omega,by omega⟩,?_,?_,⟨by omega,by omega⟩,?_,rfl,rfl,rfl,rfl,agj hk hJ hm h1 h2⟩
    all_goals
     rw[mP];simp only[aoK,apj,ao2,aoO,ao5];omega
   refine kK l.length (by omega) (λm=>∀i,i<m->nZ name (bG l i)=true) (λi hi=>by omega) (λI μ m hm hJ2 next=>?_) λI μ hJ2=>?_
   .dsimp only;refine eX (by omega) ⟨⟨by omega,by omega⟩,hm,af (λh2=>⟨rfl,next (dK (f:=λi=>nZ name (bG l i)) hJ2 h2)⟩) λh2=>?_⟩;exact fin m (by omega) hJ2 λ_=>h2
   .dsimp only;exact eY (by omega) (fin l.length (aoP _) hJ2 λh'=>by omega)
  .have hk:k=0:=by simpa using h
   subst hk;exact⟨rfl,rfl,rfl,rfl,by rw[acZ];exact hJ⟩
theorem V4:OK xY.e:=by refine XA.ok mixed (aO [] trivial) X4 (λ⟨s,_⟩ _=>⟨(((s,[],1,()),()),()),⟨rfl,rfl,rfl⟩⟩) (by kernel_rfl) (show∀s,xY.goal (V5 s) (s,())from ?_);intro s hin hp;dsimp only[xY]at hp ⊢;have hp:s.length<=1000:=hp;exact⟨by rw[mP];omega,rfl,rfl,rfl⟩
theorem X5:OK yX.e:=by
 refine XA.ok mixed (aO [uU.e] ⟨I5,trivial⟩) Zv (λ⟨(a,l,nx,_),_⟩ _=>⟨(((a,l,nx,()),()),()),rfl⟩) (by kernel_rfl) (show∀s0 s1 s2,yX.goal (X6 s0 s1 s2) ((s0,s1,s2,()),())from ?_);intro s0 s1 s2 hin hp;dsimp only[yX]at hp ⊢;obtain⟨h0,h1,h2⟩:s0.length<=1000/\s1.length<=1000/\∀f∈s1,Gj f:=hp;refine⟨by rw[mP];omega,?_⟩;refine fZ (λi(x:List aT)=>((i,()),((),(),s2,()),x,())) (λy=>y.1.1) (λ_ _=>rfl) s1.length (by omega) (λn l=>l=s1.take n) (by simp) (λI μ n l hn hJ next=>?_) λI μ l hJ=>?_
 .subst hJ;have hl:(s1.take n).length<=n:=by rw[ao2];omega
  dsimp only;refine eX (by omega) ⟨⟨by omega,by omega⟩,h2 _ (getD_mem (d:=((0:Int),(0:Int),false,(0:Int),[],())) hn),by rw[mP];simp only[aoO,ao5];omega,rfl,next _ ?_⟩;exact(Sp.take_succ' s1 n (0,0,false,0,[],()) hn).symm
 .subst hJ;dsimp only;refine eY (by omega) ?_;rw[ap3]
theorem Q5:OK uw.e:=by
 refine XA.ok mixed (aO [oG.e,nV.e,uU.e,yX.e] ⟨Dp,CQ,I5,X5,trivial⟩) Ud (λ⟨s,f,_⟩ _=>⟨((((dV s f).1.1,(dV s f).1.2.1,(dV s f).1.2.2.1,()),(dV s f).2.1,(dV s f).2.2,()),()),⟨rfl,rfl,rfl,rfl,rfl⟩⟩) (by kernel_rfl) (show∀s0 s1 s2 f0 f1 f2 f3 f4,uw.goal (Q7 s0 s1 s2 f0 f1 f2 f3 f4) ((s0,s1,s2,()),(f0,f1,f2,f3,f4,()),())from ?_);intro s0 s1 s2 f0 f1 f2 f3 f4 hin hp;dsimp only[uw]at hp ⊢;refine⟨hp.1,?_⟩;rintro⟨⟨⟨a,l,nx,⟨⟩⟩,⟨⟩⟩,⟨⟩⟩ e;obtain⟨rfl,rfl,rfl⟩:a=s0/\l=s1/\nx=s2:=by simpa using e
 have hs:l.length<=1000:=hp.1.2.1;have no:¬(eF (a,l,nx,())=true/\l.length<12/\cZ a (nx,f1,f2,f3,f4,())=true)->dV (a,l,nx,()) (f0,f1,f2,f3,f4,())=((a,l,nx,()),0,false):=λh=>by
  rcases qI (a,l,nx,()) (f0,f1,f2,f3,f4,())with⟨e,_⟩|⟨h1,h2,h3,_⟩
  .exact e
  .exact(h ⟨h1,h2,h3⟩).elim
 refine⟨hp.2,trivial,af (λh1=>?_) λh1=>af (λh2=>?_) λh2=>⟨trivial,af (λh3=>?_) λh3=>?_⟩⟩
 .have:=no λh=>by have h1:=iW h1;have:=h.1;rw[show eF (a,l,nx,())=false from h1]at this;cases this
  dsimp only;rw[this];exact⟨rfl,rfl,rfl,rfl,rfl⟩
 .have:=no λh=>by have h2:(l.length:Int)>=12:=fV h2;omega
  dsimp only;rw[this];exact⟨rfl,rfl,rfl,rfl,rfl⟩
 .have:=no λh=>by have h3:=iW h3;have:=h.2.2;rw[show cZ a (nx,f1,f2,f3,f4,())=false from h3]at this;cases this
  dsimp only;rw[this];exact⟨rfl,rfl,rfl,rfl,rfl⟩
 .have g1:eF (a,l,nx,())=true:=fC h1;have g2:l.length<12:=by have h2:¬(l.length:Int)>=12:=gK h2;omega
  have g3:cZ a (nx,f1,f2,f3,f4,())=true:=fC h3;rcases qI (a,l,nx,()) (f0,f1,f2,f3,f4,())with⟨_,e⟩|⟨_,_,_,e⟩
  .exact(e ⟨g1,g2,g3⟩).elim
  .have hnx:=(uf.1 g1).2.2.2;have w:IntKind.i64.wrap (nx+1)=nx+1:=fJ _ (by have h5:nx<=61:=hnx.2;have h6:1<=nx:=hnx.1;omega);refine⟨by rw[mP];simp only[aoO,ao5];omega,?_⟩;dsimp only;rw[e,w];exact⟨rfl,rfl,rfl,rfl,rfl⟩
def names:List (Int×Int×Sp.Bytes):=[(2,0,[105,110,107]),(2,0,[115,101,97])]
theorem aeo(al:List bT)(name:Sp.Bytes)(k n:Int)(s:Sp.Bytes):(oO al name k n s).length<=al.length+1:=by
 have hf:=arq (nH name) al;unfold oO;cases decide (k=0)with
 |true=>show(al.filter _).length<=_;omega
 |false=>show(Tq _ _).length<=_;unfold Tq;have:=congrArg List.length (List.takeWhile_append_dropWhile (p:=nZ name) (l:=al.filter (nH name)));rw[aoK]at this;rw[aoK,aoO];show((al.filter (nH name)).takeWhile (nZ name)).length+(((al.filter (nH name)).dropWhile (nZ name)).length+1)<=_;omega
theorem aiV:dP Sp.usual=true:=by kernel_rfl
theorem aiW{a:List dH}{l:List aT}{nx:Int}{X:gI}(h1:a=X.1)(h2:l=X.2.1)(h3:nx=X.2.2.1):((a,l,nx,()):gI)=X:=by subst h1 h2 h3;rfl
structure Na(k:Int)(s:gI):Prop where
 sch:s.1=Sp.usual
 ok:eF s=true
 nx:s.2.2.1<=s.2.1.length+k
 small:J8 s
theorem Na.more{k k':Int}{s:gI}(h:Na k s)(hk:k<=k'):Na k' s:=⟨h.sch,h.ok,by have:=h.nx;omega,h.small⟩
theorem Na.grows{s:gI}(h:Na 2 s)(hl:s.2.1.length<12){f:aT}(ho:0<=f.2.1/\f.2.1<=2)(hk:0<=f.2.2.2.1/\f.2.2.2.1<=6)(ha:nY Sp.usual f.2.2.2.2.1=true):(dV s f).1.2.1.length=s.2.1.length+1:=by
 have hnx:=(uf.1 h.ok).2.2.2;have h2:=h.nx;have hf:cZ s.1 (s.2.2.1,f.2)=true:=by rw[h.sch];show(nY Sp.usual f.2.2.2.2.1&&dP Sp.usual&&(decide (1<=s.2.2.1)&&decide (s.2.2.1<=60))&&(decide (0<=f.2.1)&&decide (f.2.1<=2))&&(decide (0<=f.2.2.2.1)&&decide (f.2.2.2.1<=60)))=true;rw[ha,aiV,aoZ hnx.1,aoZ (by omega),aoZ ho.1,aoZ ho.2,aoZ hk.1,aoZ (by omega)];rfl
 rcases qI s f with⟨_,e⟩|⟨_,_,_,e⟩
 .exact(e ⟨h.ok,hl,hf⟩).elim
 .rw[e];show(s.2.1++[_]).length=_;rw[aoK];rfl
theorem Na.one{s:gI}(h:Na 1 s){f:aT}(ho:0<=f.2.1/\f.2.1<=2)(hk:0<=f.2.2.2.1/\f.2.2.2.1<=6)(ha:nY Sp.usual f.2.2.2.2.1=true):0<(dV s f).1.2.1.length:=by
 by_cases hl:s.2.1.length<12
 .rw[(h.more (show(1:Int)<=2 by decide)).grows hl ho hk ha];omega
 .rcases qI s f with⟨e,_⟩|⟨_,_,_,e⟩
  .rw[e];show 0<s.2.1.length;omega
  .rw[e];show 0<(s.2.1++[_]).length;rw[aoK,List.length_singleton];omega
theorem aep:OK Fg.e:=by refine PA.ok mixed (aO [] trivial) H0 (by kernel_rfl) (show∀code,Fg.goal (aer code) (code,())from ?_);intro b hin hp;dsimp only[Fg]at hp ⊢;exact rfl
theorem vK:OK kF.e:=by
 refine PA.ok mixed (aO [iL.e] ⟨jB,trivial⟩) Nb (by kernel_rfl) (show∀s,kF.goal (Ld s) (s,())from ?_);intro s hin hp;dsimp only[kF]at hp ⊢;have hlen:s.length<=maxLen:=hin.1;rw[maxLen_eq]at hlen;refine⟨λy=>∃n:Nat,y.1.1=n/\n<=s.length/\Sp.lower (s.take n)=true,λy=>((s.length:Int)-y.1.1).toNat,⟨0,rfl,by omega,rfl⟩,?_⟩;rintro⟨⟨_,⟨⟩⟩,⟨⟩⟩ ⟨n,rfl,hn,hJ⟩;dsimp only;refine af (λh=>?_) λh=>?_<;>simp only[aoS,aps]at h
 .have hlt:n<s.length:=by omega
  rw[fJ _ (by omega),ao6];refine⟨⟨by omega,by omega⟩,af (λh2=>?_) λh2=>⟨⟨by omega,by omega⟩,af (λh3=>?_) λh3=>?_⟩⟩<;>simp only[aoS,aps]at*
  .unfold aS;cases hl:Sp.lower s with
   |false=>rfl
   |true=>have:=FN hlt hl;omega
  .unfold aS;cases hl:Sp.lower s with
   |false=>rfl
   |true=>have:=FN hlt hl;omega
  .refine⟨rfl,⟨n+1,by simp,by omega,?_⟩,by dsimp only;omega⟩;rw[Sp.take_succ' s n 0 hlt];unfold Sp.lower at hJ ⊢;rw[ara,hJ];simp only[apS,arQ,aqP,aqC,aoJ,aoS];omega
 .have hge:n=s.length:=by omega
  rw[hge,ap3]at hJ;unfold aS;rw[hJ];exact⟨trivial,rfl⟩
theorem qg:OK jD.e:=by
 refine PA.ok mixed (aO [kF.e,iL.e] ⟨vK,jB,trivial⟩) H0 (by kernel_rfl) (show∀v0 v1 v2,jD.goal (Nc v0 v1 v2) ((v0,v1,v2,()),())from ?_);intro k n s hin hp;dsimp only[jD]at hp ⊢;refine af (λh=>?_) λh=>af (λh2=>⟨trivial,af (λh3=>?_) λh3=>?_⟩) λh2=>af (λh3=>⟨trivial,af (λh4=>?_) λh4=>?_⟩) λh3=>?_
 .have e:k=0:=by simpa using h
  subst e;exact congrArg (·,()) (apn.2 (by simp[bn]))
 .have e:k=1:=by simpa using h2
  subst e;exact congrArg (·,()) (apn.2 (by simp only[aoJ,aoS]at h3;simp[bn,h3]))
 .have e:k=1:=by simpa using h2
  subst e;exact congrArg (·,()) (apn.2 (by simp only[bn,h3];simp))
 .have e:k=2:=by simpa using h3
  subst e;exact congrArg (·,()) (apn.2 (by simp[bn,h4]))
 .have e:k=2:=by simpa using h3
  subst e;exact congrArg (·,()) (apn.2 (by simp[bn,h4]))
 .have e1:k≠0:=by simpa using h
  have e2:k≠1:=by simpa using h2
  have e3:k≠2:=by simpa using h3
  exact congrArg (·,()) (apn.2 (by simp[bn,e1,e2,e3]))
theorem rF:OK jy.e:=by
 refine PA.ok mixed (aO [] trivial) H0 (by kernel_rfl) (show∀s,jy.goal (Ie s) (s,())from ?_);intro s hin hp;dsimp only[jy]at hp ⊢;refine af (λh=>?_) λh=>?_
 .have h:(s.length:Int)=1:=fV h
  match s,h with
  |[c],_=>
   refine⟨⟨by decide,(by show(0:Int)<1;decide)⟩,af (λh2=>⟨⟨by decide,(by show(0:Int)<1;decide)⟩,?_⟩) λh2=>?_⟩
   .have h2:(c.toNat:Int)>=97:=fV h2;refine congrArg (·,()) (apn.2 ?_);simp only[bZ,Sp.lower,apS,arQ,aqP,aoJ,aoS,aoO,ao5];constructor
    .intro h3;have h3:(c.toNat:Int)<=122:=h3;exact⟨⟨⟨by omega,by omega⟩,by decide⟩,by decide⟩
    .rintro⟨⟨⟨_,h4⟩,_⟩,_⟩;show(c.toNat:Int)<=122;omega
   .have h2:¬(c.toNat:Int)>=97:=gK h2;refine congrArg (·,()) (apn.2 ?_);simp only[bZ,Sp.lower,apS,arQ,aqP,aoJ,aoS];constructor
    .intro h3;cases h3
    .rintro⟨⟨⟨h4,_⟩,_⟩,_⟩;omega
 .have h:¬(s.length:Int)=1:=gK h;refine congrArg (·,()) (apn.2 ?_);simp only[bZ,aoJ,aoS];constructor
  .intro h3;cases h3
  .rintro⟨⟨_,h4⟩,h5⟩;omega
theorem Ue:OK wo.e:=by
 refine PA.ok mixed (aO [] trivial) V6 (by kernel_rfl) (show∀s name,wo.goal (Uf s name) (s,name,())from ?_);intro s name hin hp;dsimp only[wo]at hp ⊢;have hlen:s.length<=maxLen:=hin.1.1;rw[maxLen_eq]at hlen;refine kK s.length hlen (λn=>∀i,i<n->(s.getD i ([],0,())).1≠name) (λi hi=>by omega) (λI μ n hn hJ next=>?_) λI μ hJ=>?_
 .dsimp only;refine eX (by omega) ⟨⟨by omega,by omega⟩,af (λh=>?_) λh=>⟨rfl,next λi hi=>?_⟩⟩
  .exact congrArg (·,()) (QW s n hn hJ (by simpa only[ao6,apf]using h)).symm
  .rcases apa i n with h'|h'
   .exact hJ i h'
   .have:i=n:=by omega
    subst this;have h2:((s.getD i ([],0,())).1==name)=false:=h;exactλe=>by rw[e]at h2;simp at h2
 .dsimp only;exact eY (by omega) (congrArg (·,()) (JF s hJ).symm)
theorem ahG{k:Int}(h:(k !=1)=false\/(k !=2)=false):(decide (1<=k)&&decide (k<=2))=true:=by have:k=1\/k=2:=h.imp (by simp) (by simp);rcases this with h|h<;>subst h<;>rfl
theorem akp{k:Int}(h1:(k !=1)=true)(h2:(k !=2)=true):(decide (1<=k)&&decide (k<=2))=false:=by
 have h1:k≠1:=by simpa using h1
 have h2:k≠2:=by simpa using h2
 rw[aqA];by_cases h:k<1
 .left;exact ao1 (by omega)
 .right;exact ao1 (by omega)
theorem Bj:OK mY.e:=by
 refine PA.ok mixed (aO [jy.e] ⟨rF,trivial⟩) Nh (by kernel_rfl) (show∀s,mY.goal (Le s) (s,())from ?_);intro s hin hp;dsimp only[mY]at hp ⊢;have hlen:s.length<=maxLen:=hin.1.1;rw[maxLen_eq]at hlen;refine kK s.length hlen (λn=>∀i,i<n->iY s i=true) (λi hi=>by omega) (λI μ n hn hJ next=>?_) λI μ hJ=>?_
 .dsimp only;have no:iY s n=false->(false,())=(dP s,()):=λh=>by rw[U3 hn h]
  have rest:bZ (Sp.fieldAt s n).1=true->(decide (1<=(Sp.fieldAt s n).2.1)&&decide ((Sp.fieldAt s n).2.1<=2))=true->
   bif decide ((n:Int)>0)then
    ((0:Int)<=IntKind.i64.wrap ((n:Int)-1)/\IntKind.i64.wrap ((n:Int)-1)<(s.length:Int))/\
      bif !Op.bytesLess (s.getD (IntKind.i64.wrap ((n:Int)-1)).toNat ([],0,())).fst (s.getD (Int.toNat (n:Int)) ([],0,())).fst then(false,())=(dP s,())
      else NX ((s,s,(s.length:Int),()),()) I μ ((IntKind.i64.wrap ((n:Int)+1),()),()) (((n:Int),()),())
   else NX ((s,s,(s.length:Int),()),()) I μ ((IntKind.i64.wrap ((n:Int)+1),()),()) (((n:Int),()),()):=by
   intro h2 h3;refine af (λh4=>?_) λh4=>⟨rfl,next (dK hJ ?_)⟩
   .have h4:0<n:=by have:=fV h4;omega
    rw[xE h4 (by omega)];refine⟨⟨by omega,by omega⟩,af (λh5=>no ?_) λh5=>⟨rfl,next (dK hJ ?_)⟩⟩
    .have h5:Op.bytesLess (Sp.fieldAt s (n-1)).1 (Sp.fieldAt s n).1=false:=iW h5;unfold iY;rw[h2,h3,h5,aoZ h4];rfl
    .have h5:Op.bytesLess (Sp.fieldAt s (n-1)).1 (Sp.fieldAt s n).1=true:=fC h5;unfold iY;rw[h2,h3,h5,aoZ h4];rfl
   .have h4:¬0<n:=by have:=gK h4;omega
    unfold iY;rw[h2,h3,ao1 h4];rfl
  refine eX (by omega) ⟨⟨by omega,by omega⟩,trivial,af (λh2=>no ?_) λh2=>af (λh3=>af (λh4=>no ?_) λh4=>?_) λh3=>?_⟩
  .have h2:bZ (Sp.fieldAt s n).1=false:=iW h2;unfold iY;rw[h2];rfl
  .have h2:bZ (Sp.fieldAt s n).1=true:=fC h2;have h3:(decide (1<=(Sp.fieldAt s n).2.1)&&decide ((Sp.fieldAt s n).2.1<=2))=false:=akp h3 h4;unfold iY;rw[h2,h3];rfl
  .have h2:bZ (Sp.fieldAt s n).1=true:=fC h2;have h3:(decide (1<=(Sp.fieldAt s n).2.1)&&decide ((Sp.fieldAt s n).2.1<=2))=true:=ahG (.inr h4);exact rest h2 h3
  .have h2:bZ (Sp.fieldAt s n).1=true:=fC h2;have h3:(decide (1<=(Sp.fieldAt s n).2.1)&&decide ((Sp.fieldAt s n).2.1<=2))=true:=ahG (.inl h3);exact rest h2 h3
 .dsimp only;refine eY (by omega) (congrArg (·,()) ?_);unfold dP;rw[lI hJ];rfl
theorem Lh:OK pU.e:=by
 refine PA.ok mixed (aO [wo.e,jD.e] ⟨Ue,qg,trivial⟩) H0 (by kernel_rfl) (show∀s name v0 v1 v2,pU.goal (Lj s name v0 v1 v2) (s,name,(v0,v1,v2,()),())from ?_);intro fs s k n w hin hp;dsimp only[pU]at hp ⊢;refine⟨trivial,af (λh=>af (λh2=>⟨trivial,?_⟩) λh2=>?_) λh=>?_⟩
 .exact congrArg (·,()) (apn.2 (by simp only[bne_iff_ne,ne_eq]at h2;simp[iy,h,h2]))
 .exact congrArg (·,()) (apn.2 (by simp at h2;simp[iy,h2]))
 .exact congrArg (·,()) (apn.2 (by simp[iy,h]))
theorem O4:OK rU.e:=by
 refine PA.ok mixed (aO [mY.e,Ah.e,iL.e,pU.e] ⟨Bj,Zr,jB,Lh,trivial⟩) Q8 (by kernel_rfl) (show∀s f0 f1 f2 f3 f4,rU.goal (O5 s f0 f1 f2 f3 f4) (s,(f0,f1,f2,f3,f4,()),())from ?_);intro fs f0 f1 f2 f3 f4 hin hp;dsimp only[rU]at hp ⊢;have hlen:f4.length<=maxLen:=hin.2.1.2.2.2.2.1.1;rw[maxLen_eq]at hlen;refine kK f4.length hlen (λn=>∀i,i<n->jf fs f4 i=true) (λi hi=>by omega) (λI μ n hn hJ next=>?_) λI μ hJ=>?_
 .dsimp only;have no:jf fs f4 n=false->(false,())=(cZ fs (f0,f1,f2,f3,f4,()),()):=λh=>by rw[aaB (f:=(f0,f1,f2,f3,f4,())) hn h]
  refine eX (by omega) ⟨⟨by omega,by omega⟩,af (λh4=>?_) λh4=>⟨trivial,af (λh2=>no ?_) λh2=>⟨rfl,next (dK hJ ?_)⟩⟩⟩
  .have h4:0<n:=by have:=fV h4;omega
   rw[xE h4 (by omega)];refine⟨⟨by omega,by omega⟩,af (λh5=>no ?_) λh5=>⟨trivial,af (λh2=>no ?_) λh2=>⟨rfl,next (dK hJ ?_)⟩⟩⟩
   .have h5:Op.bytesLess (bG f4 (n-1)).1 (bG f4 n).1=false:=iW h5;unfold jf;rw[h5,aoZ h4];exact aqd _
   .have h2:iy fs (bG f4 n).1 (bG f4 n).2.1 (bG f4 n).2.2.1 (bG f4 n).2.2.2.1=false:=iW h2;unfold jf;rw[h2];rfl
   .have h2:iy fs (bG f4 n).1 (bG f4 n).2.1 (bG f4 n).2.2.1 (bG f4 n).2.2.2.1=true:=fC h2;have h5:Op.bytesLess (bG f4 (n-1)).1 (bG f4 n).1=true:=fC h5;unfold jf;rw[h2,h5,aoZ h4];rfl
  .have h2:iy fs (bG f4 n).1 (bG f4 n).2.1 (bG f4 n).2.2.1 (bG f4 n).2.2.2.1=false:=iW h2;unfold jf;rw[h2];rfl
  .have h2:iy fs (bG f4 n).1 (bG f4 n).2.1 (bG f4 n).2.2.1 (bG f4 n).2.2.2.1=true:=fC h2;have h4:¬0<n:=by have:=gK h4;omega
   unfold jf;rw[h2,ao1 h4];rfl
 .dsimp only;have ha:nY fs f4=true:=lI hJ;refine eY (by omega) ⟨trivial,af (λh1=>⟨trivial,af (λh2=>⟨trivial,af (λh3=>⟨trivial,?_⟩) λh3=>?_⟩) λh2=>?_⟩) λh1=>?_⟩
  all_goals refine congrArg (·,()) ?_
  .show dP fs=(nY fs f4&&dP fs&&(decide (1<=f0)&&decide (f0<=60))&&(decide (0<=f1)&&decide (f1<=2))&&(decide (0<=f3)&&decide (f3<=60)));rw[ha,h1,h2,h3];cases dP fs<;>rfl
  .show false=(nY fs f4&&dP fs&&(decide (1<=f0)&&decide (f0<=60))&&(decide (0<=f1)&&decide (f1<=2))&&(decide (0<=f3)&&decide (f3<=60)));rw[h3,aqd]
  .show false=(nY fs f4&&dP fs&&(decide (1<=f0)&&decide (f0<=60))&&(decide (0<=f1)&&decide (f1<=2))&&(decide (0<=f3)&&decide (f3<=60)));rw[h2,aqd,aqI]
  .show false=(nY fs f4&&dP fs&&(decide (1<=f0)&&decide (f0<=60))&&(decide (0<=f1)&&decide (f1<=2))&&(decide (0<=f3)&&decide (f3<=60)));rw[h1,aqd,aqI,aqI]
theorem Nj:OK qL.e:=by
 refine PA.ok mixed (aO [iL.e,mY.e,rU.e] ⟨jB,Bj,O4,trivial⟩) O6 (by kernel_rfl) (show∀s0 s1 s2,qL.goal (Nk s0 s1 s2) ((s0,s1,s2,()),())from ?_);intro s0 s1 s2 hin hp;dsimp only[qL]at hp ⊢;have hlen:s1.length<=maxLen:=hin.1.2.1.1;rw[maxLen_eq]at hlen;refine kK s1.length hlen (λn=>∀i,i<n->jX (s0,s1,s2,()) i=true) (λi hi=>by omega) (λI μ n hn hJ next=>?_) λI μ hJ=>?_
 .dsimp only;have no:jX (s0,s1,s2,()) n=false->(false,())=(eF (s0,s1,s2,()),()):=λh=>by rw[XW (s:=(s0,s1,s2,())) hn h]
  refine eX (by omega) ⟨⟨by omega,by omega⟩,trivial,af (λh2=>no ?_) λh2=>af (λh3=>no ?_) λh3=>af (λh4=>?_) λh4=>⟨rfl,next (dK hJ ?_)⟩⟩
  .have h2:cZ s0 (Sp.fileAt s1 n)=false:=iW h2;show(cZ s0 (Sp.fileAt s1 n)&&_&&_)=false;rw[h2];rfl
  .have h2:cZ s0 (Sp.fileAt s1 n)=true:=fC h2;have h3:¬(Sp.fileAt s1 n).1<s2:=by have h3:(Sp.fileAt s1 n).1>=s2:=fV h3;omega
   show(cZ s0 (Sp.fileAt s1 n)&&decide ((Sp.fileAt s1 n).1<s2)&&_)=false;rw[h2,ao1 h3];rfl
  .have h2:cZ s0 (Sp.fileAt s1 n)=true:=fC h2;have h3:(Sp.fileAt s1 n).1<s2:=by have h3:¬(Sp.fileAt s1 n).1>=s2:=gK h3;omega
   have h4:0<n:=by have:=fV h4;omega
   rw[xE h4 (by omega)];refine⟨⟨by omega,by omega⟩,af (λh5=>no ?_) λh5=>⟨rfl,next (dK hJ ?_)⟩⟩
   .have h5:¬(Sp.fileAt s1 (n-1)).1<(Sp.fileAt s1 n).1:=by have h5:(Sp.fileAt s1 (n-1)).1>=(Sp.fileAt s1 n).1:=fV h5;omega
    show(cZ s0 (Sp.fileAt s1 n)&&decide ((Sp.fileAt s1 n).1<s2)&&!(decide (0<n)&&!decide ((Sp.fileAt s1 (n-1)).1<(Sp.fileAt s1 n).1)))=false;rw[h2,aoZ h3,aoZ h4,ao1 h5];rfl
   .have h5:(Sp.fileAt s1 (n-1)).1<(Sp.fileAt s1 n).1:=by have h5:¬(Sp.fileAt s1 (n-1)).1>=(Sp.fileAt s1 n).1:=gK h5;omega
    show(cZ s0 (Sp.fileAt s1 n)&&decide ((Sp.fileAt s1 n).1<s2)&&!(decide (0<n)&&!decide ((Sp.fileAt s1 (n-1)).1<(Sp.fileAt s1 n).1)))=true;rw[h2,aoZ h3,aoZ h4,aoZ h5];rfl
  .have h2:cZ s0 (Sp.fileAt s1 n)=true:=fC h2;have h3:(Sp.fileAt s1 n).1<s2:=by have h3:¬(Sp.fileAt s1 n).1>=s2:=gK h3;omega
   have h4:¬0<n:=by have:=gK h4;omega
   show(cZ s0 (Sp.fileAt s1 n)&&decide ((Sp.fileAt s1 n).1<s2)&&!(decide (0<n)&&!decide ((Sp.fileAt s1 (n-1)).1<(Sp.fileAt s1 n).1)))=true;rw[h2,aoZ h3,ao1 h4];rfl
 .dsimp only;have ha:iI s1.length (jX (s0,s1,s2,()))=true:=lI hJ;refine eY (by omega) ⟨trivial,af (λh1=>af (λh2=>⟨trivial,?_⟩) λh2=>?_) λh1=>?_⟩
  .refine congrArg (·,()) ?_;show _=(iI s1.length (jX (s0,s1,s2,()))&&dP s0&&decide ((s1.length:Int)<=12)&&(decide (1<=s2)&&decide (s2<=61)));rw[ha,h1,h2];rfl
  .refine congrArg (·,()) ?_;show _=(iI s1.length (jX (s0,s1,s2,()))&&dP s0&&decide ((s1.length:Int)<=12)&&(decide (1<=s2)&&decide (s2<=61)));rw[ha,h1,h2];rfl
  .refine congrArg (·,()) ?_;show _=(iI s1.length (jX (s0,s1,s2,()))&&dP s0&&decide ((s1.length:Int)<=12)&&(decide (1<=s2)&&decide (s2<=61)));rw[ha,h1];rfl
end Go.Proofs.Tryz
namespace Go.Proofs.Tryz
open Go Go.Fw Go.IntWalk Sp
theorem FT(n0 n1 n2:Int)(n3:Sp.Bytes)(n4 n5:Int)(n6:Sp.Bytes)(a:Int):dM (n0,n1,n2,n3,n4,n5,n6,()) a=
 (bif n0==1 then(n1==0&&n2==0)&&(n3==[]&&(n4==0&&(n5==0&&n6==[])))else bif n0==2 then(n1==0&&n2==0)&&(n4==0&&(n5==0&&n6==[]))&&bZ n3 else
 bif n0==3 then(n1==0&&n2==0)&&bZ n3&&bn n4 n5 n6&&!(n4==0)else bif n0==4 then(n1==0&&n2==0)&&bZ n3&&bn n4 n5 n6&&n4==1 else
 bif n0==5 then(decide (0<=n1)&&decide (n1<=a-1)&&decide (0<a))&&n2==0&&(n3==[]&&(n4==0&&(n5==0&&n6==[])))else
 bif n0==6||n0==7 then(decide (0<=n1)&&decide (n1<=a-1)&&decide (0<a))&&(decide (0<=n2)&&decide (n2<=a-1))&&(n3==[]&&(n4==0&&(n5==0&&n6==[])))else
 bif n0==8||n0==9 then(n1==0&&n2==0)&&(n4==0&&(n5==0&&n6==[]))&&aS n3 else false):=rfl
theorem Pj:OK rW.e:=by
 refine PA.ok mixed (aO [kF.e,iL.e,jD.e,jy.e] ⟨vK,jB,qg,rF,trivial⟩) Rn (by kernel_rfl) (show∀n0 n1 n2 n3 n4 n5 n6 at',rW.goal (Dq n0 n1 n2 n3 n4 n5 n6 at') ((n0,n1,n2,n3,n4,n5,n6,()),at',())from ?_);intro n0 n1 n2 n3 n4 n5 n6 a hin hp;dsimp only[rW]at hp ⊢;have ha:-9223372036854775808<=a/\a<=9223372036854775807:=hin.2.1;show Dq n0 n1 n2 n3 n4 n5 n6 a λr=>r=(dM (n0,n1,n2,n3,n4,n5,n6,()) a,());rw[FT];have w:0<a->IntKind.i64.wrap (a-1)=a-1:=λh=>fJ _ (by omega);refine af (λ_=>?_) λ_=>af (λ_=>af (λ_=>⟨trivial,?_⟩) λ_=>?_) λ_=>⟨λy=>y=((n0==3||n0==4,()),()),?_,?_⟩
 .first|(simp_all;done)|(simp_all;grind)
 .first|(simp_all;done)|(simp_all;grind)
 .first|(simp_all;done)|(simp_all;grind)
 .refine af (λ_=>⟨rfl,?_⟩) λ_=>⟨rfl,?_⟩<;>first|(simp_all;done)|(simp_all;grind)
 .rintro _ rfl;refine af (λ_=>?_) λ_=>af (λ_=>af (λ_=>af (λh=>⟨trivial,?_⟩) λ_=>?_) λ_=>?_) λ_=>⟨λy=>y=((n0==6||n0==7,()),()),?_,?_⟩
  .refine af (λ_=>⟨trivial,af (λ_=>⟨trivial,af (λ_=>af (λ_=>af (λ_=>?_) λ_=>?_) λ_=>?_) λ_=>?_⟩) λ_=>?_⟩) λ_=>?_
   all_goals first|(simp_all;done)|(simp_all;grind)
  .rw[w (fV h)]
   first|(simp_all;done)|(simp_all;grind)
  .first|(simp_all;done)|(simp_all;grind)
  .first|(simp_all;done)|(simp_all;grind)
  .refine af (λ_=>⟨rfl,?_⟩) λ_=>⟨rfl,?_⟩<;>first|(simp_all;done)|(simp_all;grind)
  .rintro _ rfl;refine af (λ_=>af (λ_=>af (λh=>⟨trivial,?_⟩) λ_=>?_) λ_=>?_) λ_=>?_
   .rw[w (fV h)];refine af (λ_=>⟨trivial,?_⟩) λ_=>?_<;>first|(simp_all;done)|(simp_all;grind)
   .first|(simp_all;done)|(simp_all;grind)
   .first|(simp_all;done)|(simp_all;grind)
   .refine af (λ_=>af (λ_=>af (λ_=>⟨trivial,?_⟩) λ_=>?_) λ_=>?_) λ_=>af (λ_=>af (λ_=>⟨trivial,?_⟩) λ_=>?_) λ_=>?_
    all_goals first|(simp_all;done)|(simp_all;grind)
theorem Pm:OK rV.e:=by
 refine PA.ok mixed (aO [kE.e,lq.e,jw.e,jc.e] ⟨vJ,wP,rE,kz,trivial⟩) Ro (by kernel_rfl) (show∀n0 n1 n2 n3 n4 n5 n6 at',rV.goal (Dt n0 n1 n2 n3 n4 n5 n6 at') ((n0,n1,n2,n3,n4,n5,n6,()),at',())from ?_);intro n0 n1 n2 n3 n4 n5 n6 a hin hp;dsimp only[rV]at hp ⊢;have ha:-9223372036854775808<=a/\a<=9223372036854775807:=hin.2.1;show Dt n0 n1 n2 n3 n4 n5 n6 a λr=>r=(dM (n0,n1,n2,n3,n4,n5,n6,()) a,());rw[FT];have w:0<a->IntKind.i64.wrap (a-1)=a-1:=λh=>fJ _ (by omega);refine⟨λy=>y=((decide (0<=n1)&&decide (n1<=a-1)&&decide (0<a),()),()),⟨trivial,?_⟩,?_⟩
 .by_cases h:0<a
  .dsimp only;rw[w h];refine af (λ_=>⟨rfl,?_⟩) λ_=>⟨rfl,?_⟩<;>first|(simp_all;done)|(simp_all;grind)
  .dsimp only;refine af (λ_=>⟨rfl,?_⟩) λ_=>⟨rfl,?_⟩<;>first|(simp_all;done)|(simp_all;grind)
 .rintro _ rfl;refine⟨λy=>y=(((decide (0<=n1)&&decide (n1<=a-1)&&decide (0<a))&&(decide (0<=n2)&&decide (n2<=a-1)),()),()),?_,?_⟩
  .refine af (λh=>⟨trivial,rfl,?_⟩) λh=>⟨rfl,?_⟩
   .have h:(decide (0<=n1)&&decide (n1<=a-1)&&decide (0<a))=true:=h;have h2:0<a:=by simp at h;omega
    rw[w h2,h,aqC]
   .have h:(decide (0<=n1)&&decide (n1<=a-1)&&decide (0<a))=false:=h;rw[h,aqI]
  .rintro _ rfl;dsimp only;generalize (decide (0<=n1)&&decide (n1<=a-1)&&decide (0<a))=kids;generalize (decide (0<=n2)&&decide (n2<=a-1))=two
   repeat' first
    |exact trivial
    |refine af (λ_=>?_) λ_=>?_
    |refine And.intro trivial ?_
   all_goals first|(simp_all;done)|(simp_all;grind)
end Go.Proofs.Tryz
namespace Go.Proofs.Tryz
open Go Go.Fw Go.IntWalk Sp
theorem X8:OK yY.e:=by
 refine PA.ok mixed (aO [] trivial) ZB (by kernel_rfl) (show∀a b,yY.goal (Ya a b) (a,b,())from ?_);intro a b hin hp;dsimp only[yY]at hp ⊢;have hlen:a.length<=maxLen:=hin.1.1;rw[maxLen_eq]at hlen;refine af (λh=>?_) λh=>?_
 .have h:(a.length:Int)≠b.length:=by simpa using h
  exact congrArg (·,()) (ao1 λe=>h (by rw[e])).symm
 .have h:(a.length:Int)=b.length:=by simpa using h
  exact Lc (K:=λr=>r=(decide (a=b),())) (λx y=>x.1 !=y.1) (λx y=>by simp[aqW]) _ a b _ hlen (by omega) (λe=>by rw[ao1 e]) λe=>by rw[aoZ e]
theorem Ui:OK wE.e:=by
 refine PA.ok mixed (aO [] trivial) Ws (by kernel_rfl) (show∀a b,wE.goal (Uj a b) (a,b,())from ?_);intro a b hin hp;dsimp only[wE]at hp ⊢;have hlen:a.length<=maxLen:=hin.1.1;rw[maxLen_eq]at hlen;refine af (λh=>?_) λh=>?_
 .have h:(a.length:Int)≠b.length:=by simpa using h
  exact congrArg (·,()) (ao1 λe=>h (by rw[e])).symm
 .have h:(a.length:Int)=b.length:=by simpa using h
  exact Lc (K:=λr=>r=(decide (a=b),())) (λx y=>!(x.1==y.1&&(x.2.1==y.2.1&&(x.2.2.1==y.2.2.1&&(x.2.2.2.1==y.2.2.2.1&&(x.2.2.2.2.1==y.2.2.2.2.1&&(x.2.2.2.2.2.1==y.2.2.2.2.2.1&&(x.2.2.2.2.2.2.1==y.2.2.2.2.2.2.1&&true)))))))) (λx y=>by simp[aqW]) _ a b _ hlen (by omega) (λe=>by rw[ao1 e]) λe=>by rw[aoZ e]
theorem Yb:OK yZ.e:=by
 refine PA.ok mixed (aO [wE.e] ⟨Ui,trivial⟩) H0 (by kernel_rfl) (show∀a0 a1 b0 b1,yZ.goal (Yc a0 a1 b0 b1) ((a0,a1,()),(b0,b1,()),())from ?_);intro a0 a1 b0 b1 hin hp;dsimp only[yZ]at hp ⊢;refine af (λh0=>⟨trivial,?_⟩) λh0=>?_
 all_goals refine congrArg (·,()) (apn.2 ?_)
 .simp only[apf]at h0;subst h0;simp
 .have h0:a0≠b0:=by simpa using h0
  simp[h0]
theorem Wu:OK yg.e:=by
 refine PA.ok mixed (aO [yZ.e] ⟨Yb,trivial⟩) Yd (by kernel_rfl) (show∀a b,yg.goal (Wv a b) (a,b,())from ?_);intro a b hin hp;dsimp only[yg]at hp ⊢;have hlen:a.length<=maxLen:=hin.1.1;rw[maxLen_eq]at hlen;refine af (λh=>?_) λh=>?_
 .have h:(a.length:Int)≠b.length:=by simpa using h
  exact congrArg (·,()) (ao1 λe=>h (by rw[e])).symm
 .have h:(a.length:Int)=b.length:=by simpa using h
  exact acY (K:=λr=>r=(decide (a=b),())) (λx y=>!decide ((x.1,x.2.1,())=(y.1,y.2.1,()))) (λx y=>by simp[aqW]) _ a b _ hlen (by omega) (λe=>by rw[ao1 e]) λe=>by rw[aoZ e]
theorem Nz:OK qW.e:=by
 refine PA.ok mixed (aO [yg.e,wB.e] ⟨Wu,Ub,trivial⟩) H0 (by kernel_rfl) (show∀a0 a1 a2 a3 b0 b1 b2 b3,qW.goal (NC a0 a1 a2 a3 b0 b1 b2 b3) ((a0,a1,a2,a3,()),(b0,b1,b2,b3,()),())from ?_);intro a0 a1 a2 a3 b0 b1 b2 b3 hin hp;dsimp only[qW]at hp ⊢;refine⟨trivial,af (λh0=>⟨trivial,?_⟩) λh0=>?_⟩
 all_goals refine congrArg (·,()) (apn.2 ?_)
 .have h0:=fV h0;simp only[Prod.mk.injEq]at h0;simp[h0]
 .have h0:=gK h0;simp only[Prod.mk.injEq]at h0;simp only[aoS,Prod.mk.injEq,ap9,false_iff];exactλh=>h0 ⟨h.1,h.2.1,h.2.2.1,trivial⟩
theorem Wx:OK xZ.e:=by refine PA.ok mixed (aO [] trivial) H0 (by kernel_rfl) (show∀n0 n1 n2 n3 n4 n5 n6,xZ.goal (Wy n0 n1 n2 n3 n4 n5 n6) ((n0,n1,n2,n3,n4,n5,n6,()),())from ?_);intro n0 n1 n2 n3 n4 n5 n6 hin hp;dsimp only[xZ]at hp ⊢;exact af (λh=>by rw[h];rfl) λh=>by rw[h];rfl
theorem DJ{d:List bf}(h:jR d){n:Nat}(hn:n<d.length):(d.getD n ([],[],())).2.1.length<=1000:=h.2 _ (getD_mem hn)
end Go.Proofs.Tryz
namespace Go.Proofs.Tryz
open Go Go.Fw Go.IntWalk Sp
theorem ND(a:Int)(x:ax):(Sp.refsOf a x:Int)=(if(x.1=6\/x.1=7\/x.1=5)/\x.2.1=a then 1 else 0)+(if(x.1=6\/x.1=7)/\x.2.2.1=a then 1 else 0):=by unfold Sp.refsOf iw;by_cases h6:x.1=6<;>by_cases h7:x.1=7<;>by_cases h5:x.1=5<;>by_cases hl:x.2.1=a<;>by_cases hr:x.2.2.1=a<;>simp[cond_eq_ite,h6,h7,h5,hl,hr]
theorem akx(a:Int)(x:ax):Sp.refsOf a x<=2:=by have:=ND a x;split at this<;>split at this<;>omega
def lJ(q:List ax)(a:Int)(n:Nat):Nat:=((q.take n).map (Sp.refsOf a)).sum
theorem JK(q:List ax)(a:Int){n:Nat}(hn:n<q.length):lJ q a (n+1)=lJ q a n+Sp.refsOf a (Sp.nodeAt q n):=by unfold lJ;rw[Sp.take_succ' q n (0,0,0,[],0,0,[],()) hn];simp only[apG,aqt,ao3,arA,apI,List.sum_nil,aqa];rfl
theorem Rq(q:List ax)(a:Int):∀n,n<=q.length->lJ q a n<=2*n
 |0,_=>by simp[lJ]
 |n+1,h=>by rw[JK q a (by omega)];have:=Rq q a n (by omega);have:=akx a (Sp.nodeAt q n);omega
theorem Ye(q:List ax)(a:Int):lJ q a q.length=fK q a:=by unfold lJ fK;rw[ap3]
theorem Ii:OK oq.e:=by
 refine PA.ok mixed (aO [] trivial) JL (by kernel_rfl) (show∀q at',oq.goal (Ij q at') (q,at',())from ?_);intro q a hin hp;dsimp only[oq]at hp ⊢;have hp:q.length<=2000000:=hp;refine fZ (λi(c:Int)=>((c,i,()),())) (λy=>y.1.2.1) (λ_ _=>rfl) q.length (by omega) (λn c=>c=(lJ q a n:Int)) rfl (λI μ n c hn hJ next=>?_) λI μ c hJ=>?_
 .subst hJ;have hs:=JK q a hn;have hb:=Rq q a n (by omega);have hr:=ND a (Sp.nodeAt q n);dsimp only;rw[ao6];have e:q.getD n (0,0,0,[],0,0,[],())=Sp.nodeAt q n:=rfl;rw[e];have w1:IntKind.i64.wrap ((lJ q a n:Int)+1)=(lJ q a n:Int)+1:=fJ _ (by omega);have w2:IntKind.i64.wrap ((lJ q a n:Int)+1+1)=(lJ q a n:Int)+1+1:=fJ _ (by omega);refine eX (by omega) ⟨⟨by omega,by omega⟩,af (λh6=>⟨λy=>y=(((lJ q a n:Int)+(if(Sp.nodeAt q n).2.1=a then 1 else 0),()),()),⟨⟨by omega,by omega⟩,af (λhl=>⟨rfl,?_⟩) λhl=>⟨rfl,?_⟩⟩,?_⟩) λh6=>⟨⟨by omega,by omega⟩,λy=>y=(((lJ q a n:Int)+(if((Sp.nodeAt q n).1=7\/(Sp.nodeAt q n).1=5)/\(Sp.nodeAt q n).2.1=a then 1 else 0),()),()),?_,?_⟩⟩
  .simp only[apf]at hl;rw[w1,if_pos hl]
  .simp only[aoL]at hl;rw[if_neg hl,aqX]
  .rintro _ rfl;simp only[apf]at h6;refine⟨⟨by omega,by omega⟩,af (λhrr=>⟨rfl,next _ ?_⟩) λhrr=>⟨rfl,next _ ?_⟩⟩
   all_goals
    dsimp only;simp only[apf,aoL,ne_eq]at hrr;by_cases hl:(Sp.nodeAt q n).2.1=a<;>simp[h6,hl,hrr]at hr<;>simp only[hl,if_true,aqY,aqX,w1,w2]<;>omega
  .simp only[aoL,ne_eq]at h6;refine af (λh7=>⟨⟨by omega,by omega⟩,af (λhl=>⟨rfl,?_⟩) λhl=>⟨rfl,?_⟩⟩) λh7=>⟨⟨by omega,by omega⟩,af (λh5=>⟨⟨by omega,by omega⟩,af (λhl=>⟨rfl,?_⟩) λhl=>⟨rfl,?_⟩⟩) λh5=>⟨rfl,?_⟩⟩
   all_goals simp_all
  .rintro _ rfl;simp only[aoL,ne_eq]at h6;refine af (λh7=>⟨⟨by omega,by omega⟩,af (λhrr=>⟨rfl,next _ ?_⟩) λhrr=>⟨rfl,next _ ?_⟩⟩) λh7=>⟨rfl,next _ ?_⟩
   .simp only[apf]at h7 hrr;by_cases hl:(Sp.nodeAt q n).2.1=a<;>simp[h6,h7,hl,hrr]at hr<;>simp only[h7,hl,true_or,and_self,and_false,if_true,aqY,aqX,w1,w2]<;>omega
   .simp only[apf,aoL,ne_eq]at h7 hrr;by_cases hl:(Sp.nodeAt q n).2.1=a<;>simp[h6,h7,hl,hrr]at hr<;>simp only[h7,hl,true_or,and_self,and_false,if_true,aqY,aqX,w1,w2]<;>omega
   .simp only[aoL,ne_eq]at h7;dsimp only;by_cases h5:(Sp.nodeAt q n).1=5<;>by_cases hl:(Sp.nodeAt q n).2.1=a<;>simp[h6,h7,h5,hl]at hr<;>simp[h7,h5,hl]<;>omega
 .dsimp only;refine eY (by omega) ?_;rw[hJ,Ye]
theorem Ik:OK ou.e:=by
 refine PA.ok mixed (aO [] trivial) JM (by kernel_rfl) (show∀q at',ou.goal (Il q at') (q,at',())from ?_);intro q a hin hp;dsimp only[ou]at hp ⊢;have hp:q.length<=2000000:=hp;refine fZ (λi(c:Int)=>((c,i,()),())) (λy=>y.1.2.1) (λ_ _=>rfl) q.length (by omega) (λn c=>c=(lJ q a n:Int)) rfl (λI μ n c hn hJ next=>?_) λI μ c hJ=>?_
 .subst hJ;have hs:=JK q a hn;have hb:=Rq q a n (by omega);have hr:=ND a (Sp.nodeAt q n);dsimp only;rw[ao6];have e:q.getD n (0,0,0,[],0,0,[],())=Sp.nodeAt q n:=rfl;rw[e];have w1:IntKind.i64.wrap ((lJ q a n:Int)+1)=(lJ q a n:Int)+1:=fJ _ (by omega);have w2:IntKind.i64.wrap ((lJ q a n:Int)+1+1)=(lJ q a n:Int)+1+1:=fJ _ (by omega);refine eX (by omega) ⟨⟨by omega,by omega⟩,af (λh6=>⟨λy=>y=(((lJ q a n:Int)+(if(Sp.nodeAt q n).2.1=a then 1 else 0),()),()),af (λhl=>⟨rfl,?_⟩) λhl=>⟨rfl,?_⟩,?_⟩) λh6=>⟨λy=>y=(((lJ q a n:Int)+(if((Sp.nodeAt q n).1=7\/(Sp.nodeAt q n).1=5)/\(Sp.nodeAt q n).2.1=a then 1 else 0),()),()),?_,?_⟩⟩
  .simp only[apf]at hl;rw[w1,if_pos hl]
  .simp only[aoL]at hl;rw[if_neg hl,aqX]
  .rintro _ rfl;simp only[apf]at h6;refine af (λhrr=>⟨rfl,next _ ?_⟩) λhrr=>⟨rfl,next _ ?_⟩
   all_goals
    dsimp only;simp only[apf,aoL,ne_eq]at hrr;by_cases hl:(Sp.nodeAt q n).2.1=a<;>simp[h6,hl,hrr]at hr<;>simp only[hl,if_true,aqY,aqX,w1,w2]<;>omega
  .simp only[aoL,ne_eq]at h6;refine af (λhl=>af (λh7=>⟨rfl,?_⟩) λh7=>af (λh5=>⟨rfl,?_⟩) λh5=>⟨rfl,?_⟩) λhl=>⟨rfl,?_⟩
   all_goals simp_all
  .rintro _ rfl;simp only[aoL,ne_eq]at h6;refine af (λhrr=>af (λh7=>⟨rfl,next _ ?_⟩) λh7=>⟨rfl,next _ ?_⟩) λhrr=>⟨rfl,next _ ?_⟩
   .simp only[apf]at h7 hrr;by_cases hl:(Sp.nodeAt q n).2.1=a<;>simp[h6,h7,hl,hrr]at hr<;>simp only[h7,hl,true_or,and_self,and_false,if_true,aqY,aqX,w1,w2]<;>omega
   .simp only[aoL,ne_eq]at h7;dsimp only;by_cases h5:(Sp.nodeAt q n).1=5<;>by_cases hl:(Sp.nodeAt q n).2.1=a<;>simp[h6,h7,h5,hl]at hr<;>simp[h7,h5,hl]<;>omega
   .simp only[aoL,ne_eq]at hrr;dsimp only;by_cases h7:(Sp.nodeAt q n).1=7<;>by_cases h5:(Sp.nodeAt q n).1=5<;>by_cases hl:(Sp.nodeAt q n).2.1=a<;>simp[h6,h7,h5,hl,hrr]at hr<;>simp[h7,h5,hl]<;>omega
 .dsimp only;refine eY (by omega) ?_;rw[hJ,Ye]
theorem Yf{q:List ax}{n:Nat}(hn:n<q.length)(h:jI q n=false):ay q=false:=by unfold ay;rw[wZ hn h];rfl
theorem wQ:OK lC.e:=by
 refine PA.ok mixed (aO [jc.e,oq.e,rV.e] ⟨kz,Ii,Pm,trivial⟩) Pn (by kernel_rfl) (show∀q,lC.goal (NG q) (q,())from ?_);intro q hin hp;dsimp only[lC]at hp ⊢;have hp:q.length<=2000000:=hp;refine kK q.length (by omega) (λn=>∀i,i<n->jI q i=true) (λi hi=>by omega) (λI μ n hn hJ next=>?_) λI μ hJ=>?_
 .dsimp only;have no:jI q n=false->(false,())=(ay q,()):=λh=>by rw[Yf hn h]
  rw[xE (show 0<q.length by omega) (by omega)];refine eX (by omega) ⟨⟨by omega,by omega⟩,trivial,af (λh2=>no ?_) λh2=>af (λh3=>⟨hp,af (λh4=>no ?_) λh4=>⟨rfl,next (dK hJ ?_)⟩⟩) λh3=>⟨rfl,next (dK hJ ?_)⟩⟩
  .have h2:dM (Sp.nodeAt q n) n=false:=iW h2;unfold jI;rw[h2];rfl
  .have h2:dM (Sp.nodeAt q n) n=true:=fC h2;have h4:(fK q n:Int)≠1:=by simpa using h4
   have h3:(n:Int)<(q.length:Int)-1:=by have:=fV h3;omega
   unfold jI;simp only[h3,h2];simp;omega
  .have h2:dM (Sp.nodeAt q n) n=true:=fC h2;have h4:(fK q n:Int)=1:=by simpa using h4
   have h4:fK q n=1:=by omega
   unfold jI;simp[h2,h4]
  .have h2:dM (Sp.nodeAt q n) n=true:=fC h2;have h3:¬(n:Int)<(q.length:Int)-1:=by have:=gK h3;omega
   unfold jI;simp[h2,h3]
 .dsimp only;refine eY (by omega) ⟨trivial,congrArg (·,()) ?_⟩;unfold ay;rw[lI hJ];rfl
theorem qh:OK iG.e:=by
 refine PA.ok mixed (aO [iL.e,ou.e,rW.e] ⟨jB,Ik,Pj,trivial⟩) Po (by kernel_rfl) (show∀q,iG.goal (NH q) (q,())from ?_);intro q hin hp;dsimp only[iG]at hp ⊢;have hp:q.length<=2000000:=hp;refine kK q.length (by omega) (λn=>∀i,i<n->jI q i=true) (λi hi=>by omega) (λI μ n hn hJ next=>?_) λI μ hJ=>?_
 .dsimp only;have no:jI q n=false->(false,())=(ay q,()):=λh=>by rw[Yf hn h]
  rw[xE (show 0<q.length by omega) (by omega)];refine eX (by omega) ⟨⟨by omega,by omega⟩,trivial,af (λh2=>no ?_) λh2=>af (λh3=>⟨hp,af (λh4=>no ?_) λh4=>⟨rfl,next (dK hJ ?_)⟩⟩) λh3=>⟨rfl,next (dK hJ ?_)⟩⟩
  .have h2:dM (Sp.nodeAt q n) n=false:=iW h2;unfold jI;rw[h2];rfl
  .have h2:dM (Sp.nodeAt q n) n=true:=fC h2;have h4:(fK q n:Int)≠1:=by simpa using h4
   have h3:(n:Int)<(q.length:Int)-1:=by have:=fV h3;omega
   unfold jI;simp only[h3,h2];simp;omega
  .have h2:dM (Sp.nodeAt q n) n=true:=fC h2;have h4:(fK q n:Int)=1:=by simpa using h4
   have h4:fK q n=1:=by omega
   unfold jI;simp[h2,h4]
  .have h2:dM (Sp.nodeAt q n) n=true:=fC h2;have h3:¬(n:Int)<(q.length:Int)-1:=by have:=gK h3;omega
   unfold jI;simp[h2,h3]
 .dsimp only;refine eY (by omega) ⟨trivial,congrArg (·,()) ?_⟩;unfold ay;rw[lI hJ];rfl
theorem aaF{d:List bf}{n:Nat}(hn:n<d.length)(h:jC d n=false):lF d=false:=by unfold lF;rw[wZ hn h];rfl
theorem O7:OK rX.e:=by
 refine PA.ok mixed (aO [lC.e,kE.e] ⟨wQ,vJ,trivial⟩) Rt (by kernel_rfl) (show∀d,rX.goal (Pq d) (d,())from ?_);intro d hin hp;dsimp only[rX]at hp ⊢;have hp:jR d:=hp;have hlen:d.length<=1000:=hp.1;refine kK d.length (by omega) (λn=>∀i,i<n->jC d i=true) (λi hi=>by omega) (λI μ n hn hJ next=>?_) λI μ hJ=>?_
 .dsimp only;have no:jC d n=false->(false,())=(lF d,()):=λh=>by rw[aaF hn h]
  have hq:(bQ d n).2.1.length<=2000000:=aoW (DJ hp hn) (by omega);refine eX (by omega) ⟨⟨by omega,by omega⟩,trivial,af (λh2=>no ?_) λh2=>⟨⟨by omega,by omega⟩,hq,af (λh3=>no ?_) λh3=>af (λh4=>?_) λh4=>⟨rfl,next (dK hJ ?_)⟩⟩⟩
  .have h2:aS (bQ d n).1=false:=iW h2;unfold jC;rw[h2];rfl
  .have h3:ay (bQ d n).2.1=false:=iW h3;unfold jC;rw[h3];simp
  .have h2:aS (bQ d n).1=true:=fC h2;have h3:ay (bQ d n).2.1=true:=fC h3;have h4:0<n:=by have:=fV h4;omega
   rw[xE h4 (by omega)];refine⟨⟨by omega,by omega⟩,⟨by omega,by omega⟩,af (λh5=>no ?_) λh5=>⟨rfl,next (dK hJ ?_)⟩⟩
   .have h5:Op.bytesLess (bQ d (n-1)).1 (bQ d n).1=false:=iW h5;unfold jC;rw[h2,h3,h5,aoZ h4];rfl
   .have h5:Op.bytesLess (bQ d (n-1)).1 (bQ d n).1=true:=fC h5;unfold jC;rw[h2,h3,h5,aoZ h4];rfl
  .have h2:aS (bQ d n).1=true:=fC h2;have h3:ay (bQ d n).2.1=true:=fC h3;have h4:¬0<n:=by have:=gK h4;omega
   unfold jC;rw[h2,h3,ao1 h4];rfl
 .dsimp only;refine eY (by omega) (congrArg (·,()) ?_);unfold lF;rw[lI hJ];rfl
theorem O9:OK rY.e:=by
 refine PA.ok mixed (aO [iG.e,kF.e] ⟨qh,vK,trivial⟩) Ru (by kernel_rfl) (show∀d,rY.goal (Pv d) (d,())from ?_);intro d hin hp;dsimp only[rY]at hp ⊢;have hp:jR d:=hp;have hlen:d.length<=1000:=hp.1;refine kK d.length (by omega) (λn=>∀i,i<n->jC d i=true) (λi hi=>by omega) (λI μ n hn hJ next=>?_) λI μ hJ=>?_
 .dsimp only;have no:jC d n=false->(false,())=(lF d,()):=λh=>by rw[aaF hn h]
  have hq:(bQ d n).2.1.length<=2000000:=aoW (DJ hp hn) (by omega);refine eX (by omega) ⟨⟨by omega,by omega⟩,trivial,af (λh2=>no ?_) λh2=>af (λh4=>?_) λh4=>⟨hq,af (λh3=>no ?_) λh3=>⟨rfl,next (dK hJ ?_)⟩⟩⟩
  .have h2:aS (bQ d n).1=false:=iW h2;unfold jC;rw[h2];rfl
  .have h2:aS (bQ d n).1=true:=fC h2;have h4:0<n:=by have:=fV h4;omega
   rw[xE h4 (by omega)];refine⟨⟨by omega,by omega⟩,af (λh5=>no ?_) λh5=>⟨hq,af (λh3=>no ?_) λh3=>⟨rfl,next (dK hJ ?_)⟩⟩⟩
   .have h5:Op.bytesLess (bQ d (n-1)).1 (bQ d n).1=false:=iW h5;unfold jC;rw[h5,aoZ h4];simp
   .have h3:ay (bQ d n).2.1=false:=iW h3;unfold jC;rw[h3];simp
   .have h3:ay (bQ d n).2.1=true:=fC h3;have h5:Op.bytesLess (bQ d (n-1)).1 (bQ d n).1=true:=fC h5;unfold jC;rw[h2,h3,h5,aoZ h4];rfl
  .have h3:ay (bQ d n).2.1=false:=iW h3;unfold jC;rw[h3];simp
  .have h2:aS (bQ d n).1=true:=fC h2;have h3:ay (bQ d n).2.1=true:=fC h3;have h4:¬0<n:=by have:=gK h4;omega
   unfold jC;rw[h2,h3,ao1 h4];rfl
 .dsimp only;refine eY (by omega) (congrArg (·,()) ?_);unfold lF;rw[lI hJ];rfl
end Go.Proofs.Tryz
namespace Go.Proofs.Tryz
open Go Go.Fw Go.IntWalk Sp
theorem aaG{S:Type}{B:((Int×Unit)×S->Prop)->((Int×Unit)×S->Nat)->(Int×Unit)×S->Prop}(len:Nat)(hlen:len<=9223372036854775807)(J:Nat->S->Prop){s0:S}(h0:J len s0)
 (hstep:∀I μ(n:Nat)(s:S),n<len->J (n+1) s->(∀s',J n s'->I ((IntKind.i64.wrap ((n:Int)-1),()),s')/\μ ((IntKind.i64.wrap ((n:Int)-1),()),s')<μ (((n:Int),()),s))->B I μ (((n:Int),()),s))
 (hend:∀I μ s,J 0 s->B I μ ((-1,()),s)):∃I,∃μ,I ((IntKind.i64.wrap ((len:Int)-1),()),s0)/\∀y,I y->B I μ y:=by
 have w:∀n:Nat,n<=len->IntKind.i64.wrap ((n:Int)-1)=(n:Int)-1:=λn hn=>fJ _ (by omega);refine⟨λy=>∃(n:Nat)(s:S),y=(((n:Int)-1,()),s)/\n<=len/\J n s,λy=>(y.1.1+1).toNat,⟨len,s0,by rw[w len (aoP _)],aoP _,h0⟩,?_⟩;rintro _ ⟨n,s,rfl,hn,hJ⟩;cases n with
 |zero=>exact hend _ _ s hJ
 |succ n=>
  have e:((n+1:Nat):Int)-1=n:=by omega
  rw[e];refine hstep _ _ n s hn hJ λs' hJ'=>?_;rw[w n (by omega)];refine⟨⟨n,s',rfl,by omega,hJ'⟩,?_⟩;show((n:Int)-1+1).toNat<((n:Int)+1).toNat;omega
theorem getD_set_ne{α:Type}(l:List α)(i n:Nat)(x d:α)(h:i≠n):(l.set i x).getD n d=l.getD n d:=by rw[aoN,aoN,apH h]
theorem FU{x:ax}{a:Int}(h:dM x a=true)(h2:x.1=5\/x.1=6\/x.1=7):0<=x.2.1/\x.2.1<a:=by obtain⟨x0,x1,x2,x3,x4,x5,x6,_⟩:=x;rw[FT]at h;rcases h2 with rfl|rfl|rfl<;>simp at h<;>exact⟨h.1.1.1.1,by dsimp only;omega⟩
theorem FV{x:ax}{a:Int}(h:dM x a=true)(h2:x.1=6\/x.1=7):0<=x.2.2.1/\x.2.2.1<a:=by obtain⟨x0,x1,x2,x3,x4,x5,x6,_⟩:=x;rw[FT]at h;rcases h2 with rfl|rfl<;>simp at h<;>exact⟨h.1.2.1,by dsimp only;omega⟩
theorem Yg{q:List ax}(h:ay q=true){n:Nat}(hn:n<q.length):dM (Sp.nodeAt q n) n=true:=by unfold ay at h;simp only[aoJ]at h;have:=JO.1 h.1 n hn;unfold jI at this;simp only[aoJ]at this;exact this.1
theorem fG{q:List ax}(h:ay q=true):1<=q.length/\q.length<=9:=by unfold ay at h;simp only[aoJ,aoS]at h;omega
theorem U4{q:List ax}{n:Nat}{out:List (Bool×Unit)}(h:(Sp.nodeAt q n).1=5):jm q n out=out.set (Sp.nodeAt q n).2.1.toNat (true,()):=by unfold jm;simp[h]
theorem U5{q:List ax}{n:Nat}{out:List (Bool×Unit)}(h:(Sp.nodeAt q n).1=6\/(Sp.nodeAt q n).1=7):jm q n out=(out.set (Sp.nodeAt q n).2.1.toNat ((out.getD n (false,())).1,())).set (Sp.nodeAt q n).2.2.1.toNat ((out.getD n (false,())).1,()):=by unfold jm iw;rcases h with h|h<;>simp[h]
theorem Rx{q:List ax}{n:Nat}{out:List (Bool×Unit)}(h5:(Sp.nodeAt q n).1≠5)(h6:(Sp.nodeAt q n).1≠6)(h7:(Sp.nodeAt q n).1≠7):jm q n out=out:=by unfold jm iw;dsimp only;rw[aoL.2 h5,aoL.2 h6,aoL.2 h7];rfl
theorem xG(q:List ax):∀(n:Nat)(out:List (Bool×Unit)),(gQ q n out).length=out.length
 |0,out=>rfl
 |n+1,out=>by
  rw[gQ,xG q n];unfold jm;simp only[cond_eq_ite];split
  .simp
  .split<;>simp
theorem aes{q:List ax}(h:ay q=true):(Sp.negated q).length=q.length:=by unfold Sp.negated;rw[h];show(gQ q _ _).length=_;rw[xG];simp
theorem NJ:OK qN.e:=by
 refine PA.ok mixed (aO [iG.e] ⟨qh,trivial⟩) PD (by kernel_rfl) (show∀q,qN.goal (NK q) (q,())from ?_);intro q hin hp;dsimp only[qN]at hp ⊢;have hp:q.length<=1000:=hp;refine⟨by omega,af (λh=>?_) λh=>⟨⟨by omega,by omega,by rw[mP];omega⟩,?_⟩⟩
 .have h:=iW h;unfold Sp.negated;rw[h];rfl
 have hok:=fC h;have hR:Sp.negated q=gQ q q.length (List.replicate q.length (false,())):=by unfold Sp.negated;rw[hok];rfl
 refine aaG q.length (by omega) (λn(s:List (Bool×Unit)×Unit)=>s.1.length=q.length/\gQ q n s.1=Sp.negated q) ⟨by simp,hR.symm⟩ (λI μ n s hn hJ next=>?_) λI μ s hJ=>?_
 .obtain⟨out,⟨⟩⟩:=s;obtain⟨hl,hJ⟩:=hJ;have hl:out.length=q.length:=hl;have hJ:gQ q n (jm q n out)=Sp.negated q:=hJ;have hk:=Yg hok hn;have e:q.getD n (0,0,0,[],0,0,[],())=Sp.nodeAt q n:=rfl;dsimp only;rw[ao6,e];simp only[aqf];refine eX (by omega) ⟨⟨by omega,by omega⟩,by omega,?_⟩;by_cases h5:(Sp.nodeAt q n).1=5
  .have hb:=FU hk (.inl h5);simp only[h5,Int.reduceBEq,arG,aq2];have fin:gQ q n (out.set (Sp.nodeAt q n).2.1.toNat (true,()))=Sp.negated q:=by rw[← U4 h5];exact hJ
   refine af (λ_=>⟨⟨by omega,by omega⟩,⟨by omega,by omega⟩,⟨by omega,by omega⟩,by omega,trivial,next _ ⟨by simp[hl],fin⟩⟩) λ_=>⟨⟨by omega,by omega⟩,⟨by omega,by omega⟩,⟨by omega,by omega⟩,⟨by omega,by omega⟩,by omega,trivial,next _ ⟨by simp[hl],fin⟩⟩
  by_cases Lr:(Sp.nodeAt q n).1=6\/(Sp.nodeAt q n).1=7
  .have hb:=FU hk (.inr Lr);have hb2:=FV hk Lr;have fin:∀b,(out.getD n (false,())).1=b->gQ q n ((out.set (Sp.nodeAt q n).2.1.toNat (b,())).set (Sp.nodeAt q n).2.2.1.toNat (b,()))=Sp.negated q:=λb hb=>by rw[← hb,← U5 Lr];exact hJ
   rcases Lr with h6|h6
   all_goals
    simp only[h6,Int.reduceBEq,arG,aq2];refine af (λhc=>⟨⟨by omega,by omega⟩,⟨by omega,by omega⟩,⟨by omega,by omega⟩,⟨by omega,by omega⟩,by omega,⟨by omega,by omega⟩,by omega,trivial,next _ ⟨by simp[hl],fin true hc⟩⟩) λhc=>⟨⟨by omega,by omega⟩,⟨by omega,by omega⟩,⟨by omega,by omega⟩,⟨by omega,by omega⟩,⟨by omega,by omega⟩,by omega,⟨by omega,by omega⟩,by omega,trivial,next _ ⟨by simp[hl],fin false hc⟩⟩
  .have h6:(Sp.nodeAt q n).1≠6:=λh=>Lr (.inl h);have h7:(Sp.nodeAt q n).1≠7:=λh=>Lr (.inr h);have fin:gQ q n out=Sp.negated q:=by rw[Rx h5 h6 h7]at hJ;exact hJ
   simp only[aoL.2 h5,aoL.2 h6,aoL.2 h7,aq2];exact af (λ_=>⟨⟨by omega,by omega⟩,rfl,next _ ⟨hl,fin⟩⟩) λ_=>⟨⟨by omega,by omega⟩,⟨by omega,by omega⟩,rfl,next _ ⟨hl,fin⟩⟩
 .obtain⟨out,⟨⟩⟩:=s;obtain⟨hl,hJ⟩:=hJ;dsimp only;refine eY (by omega) ?_;have hJ:out=Sp.negated q:=hJ;rw[hJ]
theorem NM:OK qM.e:=by
 refine PA.ok mixed (aO [lC.e] ⟨wQ,trivial⟩) PE (by kernel_rfl) (show∀q,qM.goal (NP q) (q,())from ?_);intro q hin hp;dsimp only[qM]at hp ⊢;have hp:q.length<=1000:=hp;refine⟨by omega,af (λh=>?_) λh=>⟨⟨by omega,by omega,by rw[mP];omega⟩,?_⟩⟩
 .have h:=iW h;unfold Sp.negated;rw[h];rfl
 have hok:=fC h;have hR:Sp.negated q=gQ q q.length (List.replicate q.length (false,())):=by unfold Sp.negated;rw[hok];rfl
 refine aaG q.length (by omega) (λn(s:List (Bool×Unit)×Unit)=>s.1.length=q.length/\gQ q n s.1=Sp.negated q) ⟨by simp,hR.symm⟩ (λI μ n s hn hJ next=>?_) λI μ s hJ=>?_
 .obtain⟨out,⟨⟩⟩:=s;obtain⟨hl,hJ⟩:=hJ;have hl:out.length=q.length:=hl;have hJ:gQ q n (jm q n out)=Sp.negated q:=hJ;have hk:=Yg hok hn;have e:q.getD n (0,0,0,[],0,0,[],())=Sp.nodeAt q n:=rfl;dsimp only;rw[ao6,e];simp only[aqf];refine eX (by omega) ⟨⟨by omega,by omega⟩,?_⟩;by_cases h5:(Sp.nodeAt q n).1=5
  .have hb:=FU hk (.inl h5);simp only[h5,Int.reduceBEq,arG,aq2];have fin:gQ q n (out.set (Sp.nodeAt q n).2.1.toNat (true,()))=Sp.negated q:=by rw[← U4 h5];exact hJ
   exact⟨⟨by omega,by omega⟩,by omega,trivial,next _ ⟨by simp[hl],fin⟩⟩
  by_cases Lr:(Sp.nodeAt q n).1=6\/(Sp.nodeAt q n).1=7
  .have hb:=FU hk (.inr Lr);have hb2:=FV hk Lr;have hne:(Sp.nodeAt q n).2.1.toNat≠n:=by omega
   have fin:gQ q n ((out.set (Sp.nodeAt q n).2.1.toNat ((out.getD n (false,())).1,())).set (Sp.nodeAt q n).2.2.1.toNat ((out.getD n (false,())).1,()))=Sp.negated q:=by rw[← U5 Lr];exact hJ
   rcases Lr with h6|h6
   all_goals
    simp only[h6,Int.reduceBEq,arG,aq2,getD_set_ne _ _ _ _ _ hne];exact⟨⟨by omega,by omega⟩,by omega,⟨by omega,by omega⟩,by omega,⟨by omega,by omega⟩,by omega,⟨by omega,by omega⟩,by omega,trivial,next _ ⟨by simp[hl],fin⟩⟩
  .have h6:(Sp.nodeAt q n).1≠6:=λh=>Lr (.inl h);have h7:(Sp.nodeAt q n).1≠7:=λh=>Lr (.inr h);have fin:gQ q n out=Sp.negated q:=by rw[Rx h5 h6 h7]at hJ;exact hJ
   simp only[aoL.2 h5,aoL.2 h6,aoL.2 h7,aq2];exact⟨rfl,next _ ⟨hl,fin⟩⟩
 .obtain⟨out,⟨⟩⟩:=s;obtain⟨hl,hJ⟩:=hJ;dsimp only;refine eY (by omega) ?_;have hJ:out=Sp.negated q:=hJ;rw[hJ]
end Go.Proofs.Tryz
namespace Go.Proofs.Tryz
open Go Go.Fw Go.IntWalk Sp
def ZJ(q:List ax)(neg:Bool)(i:Nat):Option Sp.Bytes:=bif nI (Sp.nodeAt q i)&&((Sp.negated q).getD i (false,())).1==neg then some (Sp.nodeAt q i).2.2.2.1 else none
def yR(q:List ax)(neg:Bool)(n:Nat):List Sp.Bytes:=(List.range n).filterMap (ZJ q neg)
theorem tC(q:List ax)(neg:Bool):yR q neg (Sp.negated q).length=dI q neg:=rfl
theorem Yq{q:List ax}{neg:Bool}{n:Nat}(h1:nI (Sp.nodeAt q n)=true)(h2:((Sp.negated q).getD n (false,())).1=neg):yR q neg (n+1)=yR q neg n++[(Sp.nodeAt q n).2.2.2.1]:=by
 unfold yR;rw[aq8,List.filterMap_append];congr 1;show List.filterMap _ [n]=_;rw[List.filterMap_cons];have:ZJ q neg n=some (Sp.nodeAt q n).2.2.2.1:=by unfold ZJ;rw[h1,h2];simp
 rw[this];rfl
theorem Je{q:List ax}{neg:Bool}{n:Nat}(h:¬(nI (Sp.nodeAt q n)=true/\((Sp.negated q).getD n (false,())).1=neg)):yR q neg (n+1)=yR q neg n:=by
 unfold yR;rw[aq8,List.filterMap_append];have:ZJ q neg n=none:=by
  unfold ZJ;have:(nI (Sp.nodeAt q n)&&((Sp.negated q).getD n (false,())).1==neg)=false:=by rw[arM];intro h';rw[aoJ,apf]at h';exact h h'
  rw[this];rfl
 rw[List.filterMap_cons,this];simp
theorem tH(q:List ax)(neg:Bool)(n:Nat):(yR q neg n).length<=n:=by have:=List.length_filterMap_le (ZJ q neg) (List.range n);rw[List.length_range]at this;exact this
theorem tJ(q:List ax):(Sp.negated q).length<=q.length:=by
 cases h:ay q with
 |true=>rw[aes h];exact aoP _
 |false=>unfold Sp.negated;rw[h];exact apb _
theorem Fe:OK qx.e:=by
 refine XA.ok mixed (aO [(zF,.eff (acy oH) xO),xZ.e,qN.e] ⟨⟨QN,O0⟩,Wx,NJ,trivial⟩) WH (λ⟨q,neg,_⟩ hp=>⟨((((dI q neg).map λs=>(s,()),()),())),⟨by show((dI q neg).map _).length<=1000;rw[ao0];have:=tH q neg (Sp.negated q).length;have:=tJ q;have hp:q.length<=1000:=hp;rw[tC]at*;omega,λs=>by show(s,())∈(dI q neg).map _↔_;simp⟩⟩) (by kernel_rfl) (show∀q negated,qx.goal (Uy q negated) (q,negated,())from ?_);intro q neg hin hp;dsimp only[qx]at hp ⊢;have hp:q.length<=1000:=hp;have hnl:=tJ q;refine⟨hp,?_⟩;refine fZ (λi(x:Sp.LS)=>(((),i,()),x,())) (λy=>y.1.2.1) (λ_ _=>rfl) (Sp.negated q).length (by omega) (λn l=>l=(yR q neg n).map λs=>(s,())) rfl (λI μ n l hn hJ next=>?_) λI μ l hJ=>?_
 .subst hJ;have hl:=tH q neg n;dsimp only;refine eX (by omega) ⟨⟨by omega,by omega⟩,⟨by omega,by omega⟩,trivial,af (λh1=>af (λh2=>⟨⟨by omega,by omega⟩,?_,rfl,next _ ?_⟩) λh2=>⟨rfl,next _ ?_⟩) λh1=>⟨rfl,next _ ?_⟩⟩
  .rw[mP];simp only[aoO,ao5,ao0];omega
  .rw[Yq (show nI (Sp.nodeAt q n)=true from h1) (apf.1 h2),apG];rfl
  .rw[Je λh=>by have h2:=aoL.1 h2;exact h2 h.2]
  .rw[Je λh=>by have h1:nI (Sp.nodeAt q n)=false:=h1;rw[h1]at h;cases h.1]
 .subst hJ;have hl:=tH q neg (Sp.negated q).length;rw[tC]at hl ⊢;dsimp only;refine eY (by omega) ⟨by rw[ao0];omega,?_⟩;rintro⟨⟨r,⟨⟩⟩,⟨⟩⟩ ⟨h1,h2⟩;have h1:r.length<=((dI q neg).map λs=>(s,())).length:=h1;rw[ao0]at h1;refine⟨by show r.length<=1000;omega,λs=>?_⟩;have:=h2 (s,());show(s,())∈r↔_;rw[this];simp
theorem Np:OK qO.e:=by refine XA.ok mixed (aO [qx.e] ⟨Fe,trivial⟩) H0 (λ⟨q,_⟩ hp=>⟨((((dI q false).map λs=>(s,()),()),())),⟨by show((dI q false).map _).length<=1000;rw[ao0];have:=tH q false (Sp.negated q).length;have:=tJ q;have hp:q.length<=1000:=hp;rw[tC]at*;omega,λs=>by show(s,())∈(dI q false).map _↔_;simp⟩⟩) (by kernel_rfl) (show∀q,qO.goal (NU q) (q,())from ?_);intro q hin hp;dsimp only[qO]at hp ⊢;exact⟨hp,λr hr=>hr⟩
theorem Nl:OK qP.e:=by refine XA.ok mixed (aO [qx.e] ⟨Fe,trivial⟩) H0 (λ⟨q,_⟩ hp=>⟨((((dI q true).map λs=>(s,()),()),())),⟨by show((dI q true).map _).length<=1000;rw[ao0];have:=tH q true (Sp.negated q).length;have:=tJ q;have hp:q.length<=1000:=hp;rw[tC]at*;omega,λs=>by show(s,())∈(dI q true).map _↔_;simp⟩⟩) (by kernel_rfl) (show∀q,qP.goal (NV q) (q,())from ?_);intro q hin hp;dsimp only[qP]at hp ⊢;exact⟨hp,λr hr=>hr⟩
theorem ae9{l:Sp.LS}{s:Sp.Bytes}{m:Nat}(hm:m<=l.length)(h1:∀i,i<m->Op.bytesLess (l.getD i ([],())).1 s=true)(h2:m<l.length->Op.bytesLess (l.getD m ([],())).1 s=false):
 Js l s=bif decide (m<l.length)&&(l.getD m ([],())).1==s then l else l.take m++[(s,())]++l.drop m:=by
 obtain⟨e1,_⟩:=G7 (d:=(([]:List UInt8),())) l m hm (p:=λx=>Op.bytesLess x.1 s) h1 h2;unfold Js;rw[e1];have:(l.take m).length=m:=by rw[ao2];omega
 rw[this]
theorem ai8{l:Sp.LS}{s:Sp.Bytes}(x:Sp.Bytes×Unit):x∈Js l s↔x=(s,())\/x∈l:=by
 unfold Js;dsimp only;generalize (l.takeWhile λx=>Op.bytesLess x.1 s).length=n;cases h:decide (n<l.length)&&(l.getD n ([],())).1==s with
 |true=>
  rw[aoJ,apf]at h;refine⟨.inr,λhx=>?_⟩;rcases hx with rfl|hx
  .have:=getD_mem (d:=(([]:List UInt8),())) (fV h.1);rw[show l.getD n ([],())=(s,())from arR h.2 rfl]at this;exact this
  .exact hx
 |false=>
  show x∈l.take n++[(s,())]++l.drop n↔_;rw[apc,apc,ao7]
  conv=>rhs;rw[← aqk n l,apc]
  constructor
  .rintro((h|h)|h)
   .exact .inr (.inl h)
   .exact .inl h
   .exact .inr (.inr h)
  .rintro(h|h|h)
   .exact .inl (.inr h)
   .exact .inl (.inl h)
   .exact .inr h
theorem ai9(l:Sp.LS)(s:Sp.Bytes):(Js l s).length<=l.length+1:=by
 unfold Js;dsimp only;generalize (l.takeWhile λx=>Op.bytesLess x.1 s).length=n;cases decide (n<l.length)&&(l.getD n ([],())).1==s with
 |true=>exact Nat.le_succ _
 |false=>show(l.take n++[(s,())]++l.drop n).length<=_;simp;omega
theorem ZK:OK Ai.e:=by
 refine PA.ok mixed (aO [] trivial) abo (by kernel_rfl) (show∀list s,Ai.goal (ZL list s) (list,s,())from ?_);intro l s hin hp;dsimp only[Ai]at hp ⊢;have hp:l.length<=1000:=hp;have fin:∀m:Nat,m<=l.length->Js l s=l.take m++[(s,())]++l.drop m->((0:Int)<=m/\(m:Int)<=l.length)/\0+(List.drop 0 (List.take m l)).length<=big/\(List.drop 0 (List.take m l)).length+[(s,())].length<=big/\((0:Int)<=m/\(m:Int)<=l.length)/\
  (List.drop 0 (List.take m l)++[(s,())]).length+(List.drop m (List.take l.length l)).length<=big/\(List.drop 0 (List.take m l)++[(s,())]++List.drop m (List.take l.length l),())=(Js l s,()):=by
  intro m hm h;refine⟨⟨by omega,by omega⟩,?_,?_,⟨by omega,by omega⟩,?_,?_⟩
  .rw[mP];simp only[apj,ao2];omega
  .rw[mP];simp only[apj,ao2,aoO,ao5];omega
  .rw[mP];simp only[aoK,apj,ao2,aoO,ao5];omega
  .rw[h,ap3,aqG]
 refine kK l.length (by omega) (λn=>∀i,i<n->Op.bytesLess (l.getD i ([],())).1 s=true) (λi hi=>by omega) (λI μ n hn hJ next=>?_) λI μ hJ=>?_
 .dsimp only;refine eX (by omega) ⟨⟨by omega,by omega⟩,af (λh=>⟨rfl,next (dK (f:=λi=>Op.bytesLess (l.getD i ([],())).1 s) hJ h)⟩) λh=>eX (by omega) ⟨⟨by omega,by omega⟩,?_⟩⟩;have e:=ae9 (arB hn) hJ λ_=>h;rw[aoZ hn,aqC]at e;refine af (λh2=>?_) λh2=>fin n (arB hn) ?_
  .rw[show((l.getD n ([],())).1==s)=true from h2]at e;rw[e];rfl
  .rw[show((l.getD n ([],())).1==s)=false from h2]at e;exact e
 .dsimp only;refine eY (by omega) (eY (by omega) (fin l.length (aoP _) ?_));have e:=ae9 (aoP _) hJ λh=>by omega
  rw[ao1 (by omega)]at e;exact e
theorem ahV(x:ax):nI x=(decide (8<=x.1)&&decide (x.1<=9)):=by unfold nI;rw[apn];simp;omega
theorem Ht:OK su.e:=by
 refine XA.ok mixed (aO [Ai.e,jc.e,qM.e] ⟨ZK,kz,NM,trivial⟩) Yr (λ⟨q,neg,_⟩ hp=>⟨((((dI q neg).map λs=>(s,()),()),())),⟨by show((dI q neg).map _).length<=1000;rw[ao0];have:=tH q neg (Sp.negated q).length;have:=tJ q;have hp:q.length<=1000:=hp;rw[tC]at*;omega,λs=>by show(s,())∈(dI q neg).map _↔_;simp⟩⟩) (by kernel_rfl) (show∀q under,su.goal (WI q under) (q,under,())from ?_);intro q neg hin hp;dsimp only[su]at hp ⊢;have hp:q.length<=1000:=hp;have hnl:=tJ q;refine⟨hp,?_⟩;refine fZ (λi(x:Sp.LS)=>((x,i,()),())) (λy=>y.1.2.1) (λ_ _=>rfl) (Sp.negated q).length (by omega) (λn l=>l.length<=n/\∀s,(s,())∈l↔s∈yR q neg n) ⟨aoP _,λs=>by simp[yR]⟩ (λI μ n l hn hJ next=>?_) λI μ l hJ=>?_
 .obtain⟨hl,hJ⟩:=hJ;dsimp only;have hnm:=ahV (Sp.nodeAt q n);refine eX (by omega) ⟨⟨by omega,by omega⟩,trivial,af (λh1=>⟨⟨by omega,by omega⟩,af (λh2=>⟨⟨by omega,by omega⟩,by omega,rfl,next _ ?_⟩) λh2=>⟨rfl,next _ ⟨by omega,?_⟩⟩⟩) λh1=>⟨rfl,next _ ⟨by omega,?_⟩⟩⟩
  .have h1:(decide (8<=(Sp.nodeAt q n).1)&&decide ((Sp.nodeAt q n).1<=9))=true:=h1;rw[Yq (hnm.trans h1) (apf.1 h2)];refine⟨aoW (ai9 _ _) (by omega),λs=>?_⟩;rw[ai8,apc,ao7,hJ,Prod.mk.injEq];constructor
   .rintro(⟨h,_⟩|h)
    .exact .inr h
    .exact .inl h
   .rintro(h|h)
    .exact .inr h
    .exact .inl ⟨h,rfl⟩
  .rw[Je λh=>by have h2:=aoL.1 h2;exact h2 h.2];exact hJ
  .rw[Je λh=>by have h1:(decide (8<=(Sp.nodeAt q n).1)&&decide ((Sp.nodeAt q n).1<=9))=false:=h1;rw[hnm,h1]at h;cases h.1];exact hJ
 .obtain⟨hl,hJ⟩:=hJ;rw[tC]at hJ;dsimp only;exact eY (by omega) ⟨by rw[mP];omega,by show l.length<=1000;omega,hJ⟩
theorem NY:OK qQ.e:=by refine XA.ok mixed (aO [su.e] ⟨Ht,trivial⟩) H0 (λ⟨q,_⟩ hp=>⟨((((dI q false).map λs=>(s,()),()),())),⟨by show((dI q false).map _).length<=1000;rw[ao0];have:=tH q false (Sp.negated q).length;have:=tJ q;have hp:q.length<=1000:=hp;rw[tC]at*;omega,λs=>by show(s,())∈(dI q false).map _↔_;simp⟩⟩) (by kernel_rfl) (show∀q,qQ.goal (NZ q) (q,())from ?_);intro q hin hp;dsimp only[qQ]at hp ⊢;exact⟨hp,λr hr=>hr⟩
theorem N7:OK qR.e:=by refine XA.ok mixed (aO [su.e] ⟨Ht,trivial⟩) H0 (λ⟨q,_⟩ hp=>⟨((((dI q true).map λs=>(s,()),()),())),⟨by show((dI q true).map _).length<=1000;rw[ao0];have:=tH q true (Sp.negated q).length;have:=tJ q;have hp:q.length<=1000:=hp;rw[tC]at*;omega,λs=>by show(s,())∈(dI q true).map _↔_;simp⟩⟩) (by kernel_rfl) (show∀q,qR.goal (N8 q) (q,())from ?_);intro q hin hp;dsimp only[qR]at hp ⊢;exact⟨hp,λr hr=>hr⟩
end Go.Proofs.Tryz
