import Derived.Test.YthkihdfanbmegaaGreatDoorV1
import Derived.Test.YthkihdfanbmegaaGreatDoorSp
import Derived.Test.YthkihdfanbmegaaGreatDoorV2
import Derived.Test.YthkihdfanbmegaaGreatDoorFwC
import Derived.Test.YthkihdfanbmegaaGreatDoorL1
import Derived.Test.YthkihdfanbmegaaGreatDoorV3
namespace Go.Proofs.Tryz
open Go Go.Fw Go.IntWalk Sp
theorem agu(x y:Int)(m:Nat)(hm:m<9223372036854775807)(hy:(BitVec.ofInt 64 y).toNat=m):0<=bitsOf .and .i64 x y/\bitsOf .and .i64 x y<=m:=by
 have h:(BitVec.ofInt 64 x&&&BitVec.ofInt 64 y).toNat<=m:=by rw[BitVec.toNat_and,hy];exact Nat.and_le_right
 show 0<=IntKind.i64.wrap ((BitVec.ofInt 64 x&&&BitVec.ofInt 64 y).toNat:Int)/\IntKind.i64.wrap ((BitVec.ofInt 64 x&&&BitVec.ofInt 64 y).toNat:Int)<=m;generalize (BitVec.ofInt 64 x&&&BitVec.ofInt 64 y).toNat=z at h ⊢;rw[fU _ (by omega)];omega
theorem agv(x:Int):0<=bitsOf .and .i64 x 255/\bitsOf .and .i64 x 255<=255:=agu x 255 255 (by omega) (by decide)
theorem Zj:OK AZ.e:=by
 refine QA.ok mixed (aC [] trivial) aaZ (λ⟨_,⟨⟩⟩ _=>⟨([],0,0,()),rfl⟩) (by kernel_rfl) (show∀code,AZ.goal (Zk code) (code,())from ?_);intro code hin hp;dsimp only[AZ]at hp ⊢;have hp:code.length<=1048576:=hp;refine⟨λy=>∃n:Nat,y.1.2.1=n/\n<=code.length,λy=>((code.length:Int)-y.1.2.1).toNat,⟨0,rfl,by omega⟩,?_⟩;rintro⟨⟨h,_,⟨⟩⟩,⟨⟩⟩ ⟨n,rfl,hn⟩;dsimp only;refine af (λhc=>?_) λhc=>?_
 .simp only[alX]at hc;cases decide ((n:Int)<4000)with
  |false=>exact rfl
  |true=>
   have e:IntKind.i64.wrap ((n:Int)+1)=((n+1:Nat):Int):=fU _ (by omega);refine⟨?_,?_,?_,?_⟩
   .exact⟨by omega,hc⟩
   .exact rfl
   .exact⟨n+1,e,by omega⟩
   show((code.length:Int)-IntKind.i64.wrap ((n:Int)+1)).toNat<((code.length:Int)-n).toNat;rw[e];omega
 .exact rfl
theorem XI:OK zA.e:=by
 refine XA.ok mixed (aC [] trivial) H0 (λ_ _=>⟨(((0:Int),()),(([],0,0,()),())),⟨by decide,by decide,by decide⟩⟩) (by kernel_rfl) (show∀c0 c1 c2,zA.goal (XJ c0 c1 c2) ((c0,c1,c2,()),())from ?_);intro b i h hin hp;dsimp only[zA]at hp ⊢;have hp:0<=i:=hp;refine⟨by decide,by decide,af (λhc=>?_) λhc=>?_⟩<;>simp only[alX,amy]at hc
 .have hl:b.length<=maxLen:=hin.1.1.1;rw[maxLen_eq]at hl;refine⟨⟨hp,hc⟩,?_,agv _⟩;show 0<=IntKind.i64.wrap (i+1);rw[fU _ (by omega)];omega
 .exact⟨hp,agv _⟩
theorem tmod_lt{a n:Int}(ha:0<=a)(hn:0<n):0<=a.tmod n/\a.tmod n<n:=⟨aom n ha,Int.tmod_lt_of_pos a hn⟩
theorem Vu:OK yG.e:=by
 refine XA.ok mixed (aC [zA.e] ⟨XI,trivial⟩) H0 (λ⟨_,n,⟨⟩⟩ _=>⟨(((0:Int),()),(([],0,0,()),())),⟨amC _,amC _,λh=>h,λ_=>rfl⟩⟩) (by kernel_rfl) (show∀c0 c1 c2 n,yG.goal (Vw c0 c1 c2 n) ((c0,c1,c2,()),n,())from ?_);intro b i h n hin hp;dsimp only[yG]at hp ⊢;have hp:0<=i:=hp;refine af (λhc=>?_) λhc=>?_<;>simp only[alX,amy]at hc
 .exact⟨hp,amC _,λh=>(by omega),λ_=>rfl⟩
 .refine af (λhc2=>?_) λhc2=>?_
  .refine⟨hp,?_⟩;rintro⟨⟨x,⟨⟩⟩,⟨b',i',h',⟨⟩⟩,⟨⟩⟩ ⟨h1,h2,h3⟩;dsimp only at h1 h2 h3 ⊢;have:=tmod_lt h2 (show 0<n by omega);exact⟨by omega,h1,this.1,λ_=>this.2,λh=>(by omega)⟩
  .refine⟨hp,?_⟩;rintro⟨⟨x1,⟨⟩⟩,⟨b1,i1,g1,⟨⟩⟩,⟨⟩⟩ ⟨h1,h2,h3⟩;refine⟨h1,?_⟩;rintro⟨⟨x2,⟨⟩⟩,⟨b2,i2,g2,⟨⟩⟩,⟨⟩⟩ ⟨k1,k2,k3⟩;refine⟨k1,?_⟩;rintro⟨⟨x3,⟨⟩⟩,⟨b3,i3,g3,⟨⟩⟩,⟨⟩⟩ ⟨l1,l2,l3⟩;refine⟨l1,?_⟩;rintro⟨⟨x4,⟨⟩⟩,⟨b4,i4,g4,⟨⟩⟩,⟨⟩⟩ ⟨m1,m2,m3⟩;dsimp only at*;rw[fU (x1*16777216) (by omega),fU (x2*65536) (by omega),fU (x3*256) (by omega),fU (x1*16777216+x2*65536) (by omega),fU (x1*16777216+x2*65536+x3*256) (by omega),fU (x1*16777216+x2*65536+x3*256+x4) (by omega)];have:=tmod_lt (a:=x1*16777216+x2*65536+x3*256+x4) (n:=n) (by omega) (by omega);exact⟨by omega,m1,this.1,λ_=>this.2,λh=>(by omega)⟩
theorem Vx:OK yH.e:=by refine XA.ok mixed (aC [] trivial) XK (λ_ _=>⟨((Sp.usual,()),()),rfl⟩) (by kernel_rfl) (show yH.goal (Vy) (())from ?_);intro hin hp;dsimp only[yH]at hp ⊢;exact rfl
theorem GX:OK rP.e:=by refine PA.ok mixed (aC [] trivial) H0 (by kernel_rfl) (show∀n,rP.goal (Vz n) (n,())from ?_);intro n hin hp;dsimp only[rP]at hp ⊢;exact rfl
theorem mW:OK jq.e:=by
 refine PA.ok mixed (aC [] trivial) H0 (by kernel_rfl) (show∀BI least most,jq.goal (aa0 BI least most) (BI,least,most,())from ?_);intro x a b hin hp;dsimp only[jq]at hp ⊢;refine af (λh=>?_) λh=>?_
 .have h:=iF h;show(decide (x<=b),())=(decide (a<=x)&&decide (x<=b),());rw[alP (show a<=x from h)];rfl
 .have h:=iI h;show(false,())=(decide (a<=x)&&decide (x<=b),());rw[alR (show ¬a<=x from h)];rfl
theorem nK:OK jD.e:=by
 refine PA.ok mixed (aC [] trivial) H0 (by kernel_rfl) (show∀n low high,jD.goal (Zl n low high) (n,low,high,())from ?_);intro x a b hin hp;dsimp only[jD]at hp ⊢;refine af (λh=>?_) λh=>?_
 .show(decide (x<=b),())=(decide (a<=x)&&decide (x<=b),());rw[h];rfl
 .show(false,())=(decide (a<=x)&&decide (x<=b),());rw[h];rfl
theorem FT{s:List UInt8}{n:Nat}(hlt:n<s.length)(hl:Sp.lower s=true):97<=(s.getD n 0).toNat/\(s.getD n 0).toNat<=122:=by have:=al0.1 hl _ (getD_mem (d:=0) hlt);simpa using this
theorem IU:OK uY.e:=by
 refine PA.ok mixed (aC [jq.e] ⟨mW,trivial⟩) Zm (by kernel_rfl) (show∀s most,uY.goal (XL s most) (s,most,())from ?_);intro s most hin hp;dsimp only[uY]at hp ⊢;have hlen:s.length<=maxLen:=hin.1;rw[maxLen_eq]at hlen;refine⟨λy=>∃n:Nat,y.1.1=n/\n<=s.length/\Sp.lower (s.take n)=true,λy=>((s.length:Int)-y.1.1).toNat,⟨0,rfl,by omega,rfl⟩,?_⟩;rintro⟨⟨_,⟨⟩⟩,⟨⟩⟩ ⟨n,rfl,hn,hJ⟩;dsimp only;refine af (λh=>?_) λh=>?_<;>simp only[alX,amy]at h
 .have hlt:n<s.length:=by omega
  rw[fU _ (by omega),amd];refine⟨⟨by omega,by omega⟩,af (λh2=>?_) λh2=>⟨⟨by omega,by omega⟩,af (λh3=>?_) λh3=>?_⟩⟩<;>simp only[alX,amy]at*
  .cases hl:Sp.lower s with
   |false=>rfl
   |true=>have:=FT hlt hl;omega
  .cases hl:Sp.lower s with
   |false=>rfl
   |true=>have:=FT hlt hl;omega
  .refine⟨rfl,⟨n+1,by simp,by omega,?_⟩,by dsimp only;omega⟩;rw[Sp.take_succ' s n 0 hlt];unfold Sp.lower at hJ ⊢;rw[List.all_append,hJ];simp only[amQ,aoN,an4,anL,alK,alX];omega
 .have hge:n=s.length:=by omega
  rw[hge,amu]at hJ;rw[hJ];exact⟨trivial,rfl⟩
theorem vV:OK jG.e:=by refine PA.ok mixed (aC [uY.e] ⟨IU,trivial⟩) H0 (by kernel_rfl) (show∀s,jG.goal (KE s) (s,())from ?_);intro s hin hp;dsimp only[jG]at hp ⊢;exact⟨trivial,rfl⟩
theorem C9:OK mZ.e:=by
 refine PA.ok mixed (aC [jG.e,jq.e] ⟨vV,mW,trivial⟩) H0 (by kernel_rfl) (show∀v0 v1 v2,mZ.goal (MJ v0 v1 v2) ((v0,v1,v2,()),())from ?_);intro k n s hin hp;dsimp only[mZ]at hp ⊢;refine af (λh=>?_) λh=>af (λh2=>⟨trivial,af (λh3=>?_) λh3=>?_⟩) λh2=>af (λh3=>⟨trivial,af (λh4=>?_) λh4=>?_⟩) λh3=>?_
 .have e:k=0:=by simpa using h
  subst e;exact congrArg (·,()) (amc.2 (by simp[bQ]))
 .have e:k=1:=by simpa using h2
  subst e;exact congrArg (·,()) (amc.2 (by simp only[alK,alX]at h3;simp[bQ,h3]))
 .have e:k=1:=by simpa using h2
  subst e;exact congrArg (·,()) (amc.2 (by simp only[bQ,h3];simp))
 .have e:k=2:=by simpa using h3
  subst e;exact congrArg (·,()) (amc.2 (by simp[bQ,h4]))
 .have e:k=2:=by simpa using h3
  subst e;exact congrArg (·,()) (amc.2 (by simp[bQ,h4]))
 .have e1:k≠0:=by simpa using h
  have e2:k≠1:=by simpa using h2
  have e3:k≠2:=by simpa using h3
  exact congrArg (·,()) (amc.2 (by simp[bQ,e1,e2,e3]))
theorem zY:OK kL.e:=by refine PA.ok mixed (aC [uY.e] ⟨IU,trivial⟩) H0 (by kernel_rfl) (show∀s,kL.goal (H7 s) (s,())from ?_);intro s hin hp;dsimp only[kL]at hp ⊢;exact⟨trivial,rfl⟩
theorem Td:OK wM.e:=by
 refine PA.ok mixed (aC [] trivial) VA (by kernel_rfl) (show∀s name,wM.goal (Tf s name) (s,name,())from ?_);intro s name hin hp;dsimp only[wM]at hp ⊢;have hlen:s.length<=maxLen:=hin.1.1;rw[maxLen_eq]at hlen;refine iH s.length hlen (λn=>∀i,i<n->(s.getD i ([],0,())).1≠name) (λi hi=>by omega) (λI μ n hn hJ next=>?_) λI μ hJ=>?_
 .dsimp only;refine dR (by omega) ⟨⟨by omega,by omega⟩,af (λh=>⟨⟨by omega,by omega⟩,?_⟩) λh=>⟨rfl,next λi hi=>?_⟩⟩
  .exact congrArg (·,()) (IV s n hn hJ (by simpa only[amd,alT]using h)).symm
  .rcases al4 i n with h'|h'
   .exact hJ i h'
   .have:i=n:=by omega
    subst this;have h2:((s.getD i ([],0,())).1==name)=false:=h;exactλe=>by rw[e]at h2;simp at h2
 .dsimp only;exact dS (by omega) (congrArg (·,()) (Eg s hJ).symm)
theorem BJ:OK lY.e:=by
 refine PA.ok mixed (aC [jq.e,kL.e] ⟨mW,zY,trivial⟩) MK (by kernel_rfl) (show∀s,lY.goal (KF s) (s,())from ?_);intro s hin hp;dsimp only[lY]at hp ⊢;have hlen:s.length<=maxLen:=hin.1.1;rw[maxLen_eq]at hlen;refine iH s.length hlen (λn=>∀i,i<n->iy s i=true) (λi hi=>by omega) (λI μ n hn hJ next=>?_) λI μ hJ=>?_
 .dsimp only;have no:iy s n=false->(false,())=(bK s,()):=λh=>by rw[UH hn h]
  refine dR (by omega) ⟨⟨by omega,by omega⟩,trivial,af (λh2=>no ?_) λh2=>⟨⟨by omega,by omega⟩,trivial,af (λh3=>no ?_) λh3=>af (λh4=>?_) λh4=>⟨rfl,next (dw hJ ?_)⟩⟩⟩
  .have h2:iq (Sp.fieldAt s n).1=false:=gW h2;unfold iy;rw[h2];rfl
  .have h2:iq (Sp.fieldAt s n).1=true:=dM h2;have h3:(decide (1<=(Sp.fieldAt s n).2.1)&&decide ((Sp.fieldAt s n).2.1<=2))=false:=gW h3;unfold iy;rw[h2,h3];rfl
  .have h2:iq (Sp.fieldAt s n).1=true:=dM h2;have h3:(decide (1<=(Sp.fieldAt s n).2.1)&&decide ((Sp.fieldAt s n).2.1<=2))=true:=dM h3;have h4:0<n:=by have:=iF h4;omega
   rw[rO h4 (by omega)];refine⟨⟨by omega,by omega⟩,⟨by omega,by omega⟩,af (λh5=>no ?_) λh5=>⟨rfl,next (dw hJ ?_)⟩⟩
   .have h5:Op.bytesLess (Sp.fieldAt s (n-1)).1 (Sp.fieldAt s n).1=false:=gW h5;unfold iy;rw[h2,h3,h5,alP h4];rfl
   .have h5:Op.bytesLess (Sp.fieldAt s (n-1)).1 (Sp.fieldAt s n).1=true:=dM h5;unfold iy;rw[h2,h3,h5,alP h4];rfl
  .have h2:iq (Sp.fieldAt s n).1=true:=dM h2;have h3:(decide (1<=(Sp.fieldAt s n).2.1)&&decide ((Sp.fieldAt s n).2.1<=2))=true:=dM h3;have h4:¬0<n:=by have:=iI h4;omega
   unfold iy;rw[h2,h3,alR h4];rfl
 .dsimp only;refine dS (by omega) (congrArg (·,()) ?_);unfold bK;rw[kP hJ];rfl
theorem KG:OK pz.e:=by
 refine PA.ok mixed (aC [wM.e,mZ.e] ⟨Td,C9,trivial⟩) H0 (by kernel_rfl) (show∀s name v0 v1 v2,pz.goal (KH s name v0 v1 v2) (s,name,(v0,v1,v2,()),())from ?_);intro fs s k n w hin hp;dsimp only[pz]at hp ⊢;refine⟨trivial,af (λh=>af (λh2=>⟨trivial,?_⟩) λh2=>?_) λh=>?_⟩
 .exact congrArg (·,()) (amc.2 (by simp only[bne_iff_ne,ne_eq]at h2;simp[dY,h,h2]))
 .exact congrArg (·,()) (amc.2 (by simp at h2;simp[dY,h2]))
 .exact congrArg (·,()) (amc.2 (by simp[dY,h]))
theorem DJ:OK nV.e:=by
 refine PA.ok mixed (aC [jq.e,lY.e,pz.e] ⟨mW,BJ,KG,trivial⟩) QC (by kernel_rfl) (show∀s f0 f1 f2 f3 f4,nV.goal (Ox s f0 f1 f2 f3 f4) (s,(f0,f1,f2,f3,f4,()),())from ?_);intro fs f0 f1 f2 f3 f4 hin hp;dsimp only[nV]at hp ⊢;have hlen:f4.length<=maxLen:=hin.2.1.2.2.2.2.1.1;rw[maxLen_eq]at hlen;refine iH f4.length hlen (λn=>∀i,i<n->iM fs f4 i=true) (λi hi=>by omega) (λI μ n hn hJ next=>?_) λI μ hJ=>?_
 .dsimp only;have no:iM fs f4 n=false->(false,())=(bU fs (f0,f1,f2,f3,f4,()),()):=λh=>by rw[aas (f:=(f0,f1,f2,f3,f4,())) hn h]
  refine dR (by omega) ⟨⟨by omega,by omega⟩,⟨by omega,by omega⟩,trivial,af (λh2=>no ?_) λh2=>af (λh4=>?_) λh4=>⟨rfl,next (dw hJ ?_)⟩⟩
  .have h2:dY fs (bf f4 n).1 (bf f4 n).2.1 (bf f4 n).2.2.1 (bf f4 n).2.2.2.1=false:=gW h2;unfold iM;rw[h2];rfl
  .have h2:dY fs (bf f4 n).1 (bf f4 n).2.1 (bf f4 n).2.2.1 (bf f4 n).2.2.2.1=true:=dM h2;have h4:0<n:=by have:=iF h4;omega
   rw[rO h4 (by omega)];refine⟨⟨by omega,by omega⟩,⟨by omega,by omega⟩,af (λh5=>no ?_) λh5=>⟨rfl,next (dw hJ ?_)⟩⟩
   .have h5:Op.bytesLess (bf f4 (n-1)).1 (bf f4 n).1=false:=gW h5;unfold iM;rw[h2,h5,alP h4];rfl
   .have h5:Op.bytesLess (bf f4 (n-1)).1 (bf f4 n).1=true:=dM h5;unfold iM;rw[h2,h5,alP h4];rfl
  .have h2:dY fs (bf f4 n).1 (bf f4 n).2.1 (bf f4 n).2.2.1 (bf f4 n).2.2.2.1=true:=dM h2;have h4:¬0<n:=by have:=iI h4;omega
   unfold iM;rw[h2,alR h4];rfl
 .dsimp only;have ha:kJ fs f4=true:=kP hJ;refine dS (by omega) ⟨trivial,af (λh1=>⟨trivial,af (λh2=>⟨trivial,af (λh3=>⟨trivial,?_⟩) λh3=>?_⟩) λh2=>?_⟩) λh1=>?_⟩
  .refine congrArg (·,()) ?_;unfold bU;rw[ha,h1,h2,h3];rfl
  .refine congrArg (·,()) ?_;unfold bU;rw[ha,h1,h2,h3];rfl
  .refine congrArg (·,()) ?_;unfold bU;rw[ha,h1,h2];rfl
  .refine congrArg (·,()) ?_;unfold bU;rw[ha,h1];rfl
theorem Dc:OK ng.e:=by
 refine PA.ok mixed (aC [jq.e,lY.e,nV.e] ⟨mW,BJ,DJ,trivial⟩) Oy (by kernel_rfl) (show∀s0 s1 s2,ng.goal (ML s0 s1 s2) ((s0,s1,s2,()),())from ?_);intro s0 s1 s2 hin hp;dsimp only[ng]at hp ⊢;have hlen:s1.length<=maxLen:=hin.1.2.1.1;rw[maxLen_eq]at hlen;refine iH s1.length hlen (λn=>∀i,i<n->ja (s0,s1,s2,()) i=true) (λi hi=>by omega) (λI μ n hn hJ next=>?_) λI μ hJ=>?_
 .dsimp only;have no:ja (s0,s1,s2,()) n=false->(false,())=(aB (s0,s1,s2,()),()):=λh=>by rw[XM (s:=(s0,s1,s2,())) hn h]
  refine dR (by omega) ⟨⟨by omega,by omega⟩,trivial,af (λh2=>no ?_) λh2=>⟨⟨by omega,by omega⟩,af (λh3=>no ?_) λh3=>af (λh4=>?_) λh4=>⟨rfl,next (dw hJ ?_)⟩⟩⟩
  .have h2:bU s0 (Sp.fileAt s1 n)=false:=gW h2;show(bU s0 (Sp.fileAt s1 n)&&_&&_)=false;rw[h2];rfl
  .have h2:bU s0 (Sp.fileAt s1 n)=true:=dM h2;have h3:¬(Sp.fileAt s1 n).1<s2:=by have h3:(Sp.fileAt s1 n).1>=s2:=iF h3;omega
   show(bU s0 (Sp.fileAt s1 n)&&decide ((Sp.fileAt s1 n).1<s2)&&_)=false;rw[h2,alR h3];rfl
  .have h2:bU s0 (Sp.fileAt s1 n)=true:=dM h2;have h3:(Sp.fileAt s1 n).1<s2:=by have h3:¬(Sp.fileAt s1 n).1>=s2:=iI h3;omega
   have h4:0<n:=by have:=iF h4;omega
   rw[rO h4 (by omega)];refine⟨⟨by omega,by omega⟩,⟨by omega,by omega⟩,af (λh5=>no ?_) λh5=>⟨rfl,next (dw hJ ?_)⟩⟩
   .have h5:¬(Sp.fileAt s1 (n-1)).1<(Sp.fileAt s1 n).1:=by have h5:(Sp.fileAt s1 (n-1)).1>=(Sp.fileAt s1 n).1:=iF h5;omega
    show(bU s0 (Sp.fileAt s1 n)&&decide ((Sp.fileAt s1 n).1<s2)&&!(decide (0<n)&&!decide ((Sp.fileAt s1 (n-1)).1<(Sp.fileAt s1 n).1)))=false;rw[h2,alP h3,alP h4,alR h5];rfl
   .have h5:(Sp.fileAt s1 (n-1)).1<(Sp.fileAt s1 n).1:=by have h5:¬(Sp.fileAt s1 (n-1)).1>=(Sp.fileAt s1 n).1:=iI h5;omega
    show(bU s0 (Sp.fileAt s1 n)&&decide ((Sp.fileAt s1 n).1<s2)&&!(decide (0<n)&&!decide ((Sp.fileAt s1 (n-1)).1<(Sp.fileAt s1 n).1)))=true;rw[h2,alP h3,alP h4,alP h5];rfl
  .have h2:bU s0 (Sp.fileAt s1 n)=true:=dM h2;have h3:(Sp.fileAt s1 n).1<s2:=by have h3:¬(Sp.fileAt s1 n).1>=s2:=iI h3;omega
   have h4:¬0<n:=by have:=iI h4;omega
   show(bU s0 (Sp.fileAt s1 n)&&decide ((Sp.fileAt s1 n).1<s2)&&!(decide (0<n)&&!decide ((Sp.fileAt s1 (n-1)).1<(Sp.fileAt s1 n).1)))=true;rw[h2,alP h3,alR h4];rfl
 .dsimp only;have ha:gu s1.length (ja (s0,s1,s2,()))=true:=kP hJ;refine dS (by omega) ⟨trivial,af (λh1=>af (λh2=>⟨trivial,?_⟩) λh2=>?_) λh1=>?_⟩
  .refine congrArg (·,()) ?_;show _=(gu s1.length (ja (s0,s1,s2,()))&&bK s0&&decide ((s1.length:Int)<=12)&&(decide (1<=s2)&&decide (s2<=61)));rw[ha,h1,h2];rfl
  .refine congrArg (·,()) ?_;show _=(gu s1.length (ja (s0,s1,s2,()))&&bK s0&&decide ((s1.length:Int)<=12)&&(decide (1<=s2)&&decide (s2<=61)));rw[ha,h1,h2];rfl
  .refine congrArg (·,()) ?_;show _=(gu s1.length (ja (s0,s1,s2,()))&&bK s0&&decide ((s1.length:Int)<=12)&&(decide (1<=s2)&&decide (s2<=61)));rw[ha,h1];rfl
theorem QD:OK uH.e:=by
 refine PA.ok mixed (aC [] trivial) Ti (by kernel_rfl) (show∀a b,uH.goal (QE a b) (a,b,())from ?_);intro a b hin hp;dsimp only[uH]at hp ⊢;have hlen:a.length<=maxLen:=hin.1.1;rw[maxLen_eq]at hlen;refine af (λh=>?_) λh=>?_
 .have h:(a.length:Int)≠b.length:=by simpa using h
  exact congrArg (·,()) (alR λe=>h (by rw[e])).symm
 .have h:(a.length:Int)=b.length:=by simpa using h
  exact KI (K:=λr=>r=(decide (a=b),())) (λx y=>!(x.1==y.1&&(x.2.1==y.2.1&&true))) (λx y=>by simp[anw]) _ a b _ hlen (by omega) (λe=>by rw[alR e]) λe=>by rw[alP e]
theorem Tj:OK wP.e:=by
 refine PA.ok mixed (aC [] trivial) VB (by kernel_rfl) (show∀a b,wP.goal (Tm a b) (a,b,())from ?_);intro a b hin hp;dsimp only[wP]at hp ⊢;have hlen:a.length<=maxLen:=hin.1.1;rw[maxLen_eq]at hlen;refine af (λh=>?_) λh=>?_
 .have h:(a.length:Int)≠b.length:=by simpa using h
  exact congrArg (·,()) (alR λe=>h (by rw[e])).symm
 .have h:(a.length:Int)=b.length:=by simpa using h
  exact KI (K:=λr=>r=(decide (a=b),())) (λx y=>!(x.1==y.1&&(x.2.1==y.2.1&&(x.2.2.1==y.2.2.1&&(x.2.2.2.1==y.2.2.2.1&&true))))) (λx y=>by simp[anw]) _ a b _ hlen (by omega) (λe=>by rw[alR e]) λe=>by rw[alP e]
theorem VD:OK yI.e:=by
 refine PA.ok mixed (aC [wP.e] ⟨Tj,trivial⟩) H0 (by kernel_rfl) (show∀a0 a1 a2 a3 a4 b0 b1 b2 b3 b4,yI.goal (VE a0 a1 a2 a3 a4 b0 b1 b2 b3 b4) ((a0,a1,a2,a3,a4,()),(b0,b1,b2,b3,b4,()),())from ?_);intro a0 a1 a2 a3 a4 b0 b1 b2 b3 b4 hin hp;dsimp only[yI]at hp ⊢;refine af (λh0=>af (λh1=>af (λh2=>af (λh3=>⟨trivial,?_⟩) λh3=>?_) λh2=>?_) λh1=>?_) λh0=>?_
 all_goals refine congrArg (·,()) (amc.2 ?_)
 .simp only[alT]at h0 h1 h2 h3;subst h0 h1 h2 h3;simp
 .have h3:a3≠b3:=by simpa using h3
  simp[h3]
 .have h2:a2≠b2:=by simpa using h2
  simp[h2]
 .have h1:a1≠b1:=by simpa using h1
  simp[h1]
 .have h0:a0≠b0:=by simpa using h0
  simp[h0]
theorem Tn:OK wQ.e:=by
 refine PA.ok mixed (aC [yI.e] ⟨VD,trivial⟩) VF (by kernel_rfl) (show∀a b,wQ.goal (Tq a b) (a,b,())from ?_);intro a b hin hp;dsimp only[wQ]at hp ⊢;have hlen:a.length<=maxLen:=hin.1.1;rw[maxLen_eq]at hlen;refine af (λh=>?_) λh=>?_
 .have h:(a.length:Int)≠b.length:=by simpa using h
  exact congrArg (·,()) (alR λe=>h (by rw[e])).symm
 .have h:(a.length:Int)=b.length:=by simpa using h
  exact VG (K:=λr=>r=(decide (a=b),())) (λx y=>!decide ((x.1,x.2.1,x.2.2.1,x.2.2.2.1,x.2.2.2.2.1,())=(y.1,y.2.1,y.2.2.1,y.2.2.2.1,y.2.2.2.2.1,()))) (λx y=>by simp[anw]) _ a b _ hlen (by omega) (λe=>by rw[alR e]) λe=>by rw[alP e]
theorem Tt:OK wR.e:=by
 refine PA.ok mixed (aC [wQ.e,uH.e] ⟨Tn,QD,trivial⟩) H0 (by kernel_rfl) (show∀a0 a1 a2 b0 b1 b2,wR.goal (Tv a0 a1 a2 b0 b1 b2) ((a0,a1,a2,()),(b0,b1,b2,()),())from ?_);intro a0 a1 a2 b0 b1 b2 hin hp;dsimp only[wR]at hp ⊢;refine⟨trivial,af (λh0=>⟨trivial,af (λh1=>?_) λh1=>?_⟩) λh0=>?_⟩
 all_goals refine congrArg (·,()) (amc.2 ?_)
 .have h0:=iF h0;have h1:=iF h1;subst h0 h1;simp
 .have h1:=iI h1;simp[h1]
 .have h0:=iI h0;simp[h0]
theorem IW:OK uZ.e:=by refine PA.ok mixed (aC [] trivial) Zn (by kernel_rfl) (show∀f0 f1 f2 f3 f4,uZ.goal (XO f0 f1 f2 f3 f4) ((f0,f1,f2,f3,f4,()),())from ?_);intro f0 f1 f2 f3 f4 hin hp;dsimp only[uZ]at hp ⊢;have hp:f4.length<=1000:=hp;exact⟨by rw[eY];omega,rfl⟩
theorem ES:OK lS.e:=by refine PA.ok mixed (aC [] trivial) FU (by kernel_rfl) (show∀s,lS.goal (ET s) (s,())from ?_);intro l hin hp;dsimp only[lS]at hp ⊢;intro g hg;have hp:l.length<=1000:=hp;refine af (λh=>?_) λh=>⟨by rw[eY];omega,rfl⟩;have:=amH.1 (hg h);rw[this]
theorem FV:OK l7.e:=by refine PA.ok mixed (aC [] trivial) GY (by kernel_rfl) (show∀s,l7.goal (FW s) (s,())from ?_);intro l hin hp;dsimp only[l7]at hp ⊢;intro g hg;have hp:l.length<=1000:=hp;refine af (λh=>?_) λh=>⟨by rw[eY];omega,rfl⟩;have:=amH.1 (hg h);rw[this]
theorem VH:OK yJ.e:=by refine PA.ok mixed (aC [l7.e] ⟨FV,trivial⟩) XP (by kernel_rfl) (show∀f0 f1 f2 f3 f4,yJ.goal (VI f0 f1 f2 f3 f4) ((f0,f1,f2,f3,f4,()),())from ?_);intro f0 f1 f2 f3 f4 hin hp;dsimp only[yJ]at hp ⊢;exact⟨hp,rfl⟩
theorem Zo:OK A7.e:=by refine PA.ok mixed (aC [jD.e] ⟨nK,trivial⟩) H0 (by kernel_rfl) (show∀n,A7.goal (Zp n) (n,())from ?_);intro n hin hp;dsimp only[A7]at hp ⊢;exact⟨trivial,rfl⟩
theorem set_self{fs:List aH}{n:Nat}(hn:n<fs.length):fs.set n (fs.getD n (0,0,false,0,[],()))=fs:=by
 refine anZ (by simp) λi h1 h2=>?_;rw[List.getElem_set];split
 .next e=>subst e;rw[alM,alO hn];rfl
 .rfl
theorem GZ{s:List aW}(p:aW->Bool){n:Nat}(hn:n<s.length):(s.take (n+1)).filter p=(s.take n).filter p++(if p (bf s n)=true then[bf s n]else[]):=by
 rw[Sp.take_succ' s n ([],0,0,[],()) hn,anj];congr 1;show List.filter _ [bf s n]=_;by_cases h:p (bf s n)=true
 .rw[amJ h,if_pos h];rfl
 .rw[amK h,if_neg h];rfl
theorem XQ(s:List aW)(p:aW->Bool)(n:Nat):((s.take n).filter p).length<=n:=by have:=amO p (s.take n);rw[alQ]at this;omega
theorem acC(al:List aW)(name:Sp.Bytes)(n:Int)(s:Sp.Bytes):eH al name 0 n s=al.filter (gJ name):=rfl
theorem afa{al:List aW}{name:Sp.Bytes}{k n:Int}{s:Sp.Bytes}(hk:k≠0){l:List aW}(hl:l=al.filter (gJ name)){m:Nat}(hm:m<=l.length)
 (h1:∀i,i<m->iO name (bf l i)=true) (h2:m<l.length->iO name (bf l m)=false):
 List.drop 0 (List.take m l)++[(name,k,n,s,())]++List.drop m (List.take l.length l)=eH al name k n s:=by
 obtain⟨e1,e2⟩:=G5 (d:=(([]:List UInt8),(0:Int),(0:Int),([]:List UInt8),())) l m hm h1 h2;unfold eH vW;rw[alR hk,← hl];show _=l.takeWhile (iO name)++_::l.dropWhile (iO name);rw[e1,e2,amu,anD,amn];rfl
theorem XR:OK zB.e:=by
 refine XA.ok mixed (aC [] trivial) Zq (λ⟨(i,o,s,l,a,_),name,(k,n,w,_),_⟩ _=>⟨(((i,o,s,l,eH a name k n w,()),()),()),⟨rfl,rfl,rfl,rfl,rfl⟩⟩) (by kernel_rfl) (show∀f0 f1 f2 f3 f4 name v0 v1 v2,zB.goal (XT f0 f1 f2 f3 f4 name v0 v1 v2) ((f0,f1,f2,f3,f4,()),name,(v0,v1,v2,()),())from ?_);intro f0 f1 f2 f3 f4 name k n s hin hp;dsimp only[zB]at hp ⊢;have hp:f4.length<=1000:=hp;refine fZ (λi(x:List aW)=>(((),i,()),x,())) (λy=>y.1.2.1) (λ_ _=>rfl) f4.length (by omega) (λm l=>l=(f4.take m).filter (gJ name)) (by simp) (λI μ m l hm hJ next=>?_) λI μ l hJ=>?_
 .subst hJ;have hl:=XQ f4 (gJ name) m;dsimp only;refine dR (by omega) ⟨⟨by omega,by omega⟩,af (λh=>⟨⟨by omega,by omega⟩,by rw[eY];simp only[al2,aml];omega,rfl,next _ ?_⟩) λh=>⟨rfl,next _ ?_⟩⟩
  .rw[GZ _ hm,if_pos (show gJ name (bf f4 m)=true from h)];rfl
  .rw[GZ _ hm,if_neg (show ¬gJ name (bf f4 m)=true fromλh'=>by have h:gJ name (bf f4 m)=false:=h;rw[h]at h';cases h'),amG]
 .rw[amu]at hJ;have hl:l.length<=1000:=by rw[hJ];have:=amO (gJ name) f4;omega
  dsimp only;refine dS (by omega) (af (λh=>?_) λh=>?_)
  .have hk:k≠0:=by simpa using h
   have fin:∀m:Nat,m<=l.length->(∀i,i<m->iO name (bf l i)=true)->(m<l.length->iO name (bf l m)=false)->
    ((0:Int)<=m/\(m:Int)<=l.length)/\0+(List.drop 0 (List.take m l)).length<=big/\(List.drop 0 (List.take m l)).length+[(name,k,n,s,())].length<=big/\((0:Int)<=m/\(m:Int)<=l.length)/\
    (List.drop 0 (List.take m l)++[(name,k,n,s,())]).length+(List.drop m (List.take l.length l)).length<=big/\
    (f0=f0/\f1=f1/\f2=f2/\f3=f3/\List.drop 0 (List.take m l)++[(name,k,n,s,())]++List.drop m (List.take l.length l)=eH f4 name k n s):=by
    intro m hm h1 h2;refine⟨⟨by omega,by omega⟩,?_,?_,⟨by omega,by omega⟩,?_,rfl,rfl,rfl,rfl,afa hk hJ hm h1 h2⟩
    all_goals
     rw[eY];simp only[al7,amh,alQ,al2,aml];omega
   refine iH l.length (by omega) (λm=>∀i,i<m->iO name (bf l i)=true) (λi hi=>by omega) (λI μ m hm hJ2 next=>?_) λI μ hJ2=>?_
   .dsimp only;refine dR (by omega) ⟨⟨by omega,by omega⟩,hm,af (λh2=>⟨rfl,next (dw (f:=λi=>iO name (bf l i)) hJ2 h2)⟩) λh2=>?_⟩;exact fin m (by omega) hJ2 λ_=>h2
   .dsimp only;exact dS (by omega) (fin l.length (alY _) hJ2 λh'=>by omega)
  .have hk:k=0:=by simpa using h
   subst hk;exact⟨rfl,rfl,rfl,rfl,by rw[acC];exact hJ⟩
theorem VJ:OK yK.e:=by refine XA.ok mixed (aC [] trivial) XU (λ⟨s,_⟩ _=>⟨(((s,[],1,()),()),()),⟨rfl,rfl,rfl⟩⟩) (by kernel_rfl) (show∀s,yK.goal (VK s) (s,())from ?_);intro s hin hp;dsimp only[yK]at hp ⊢;have hp:s.length<=1000:=hp;exact⟨by rw[eY];omega,rfl,rfl,rfl⟩
theorem IX:OK ve.e:=by
 refine XA.ok mixed (aC [uZ.e] ⟨IW,trivial⟩) Zr (λ⟨(a,l,nx,_),_⟩ _=>⟨(((a,l,nx,()),()),()),rfl⟩) (by kernel_rfl) (show∀s0 s1 s2,ve.goal (XV s0 s1 s2) ((s0,s1,s2,()),())from ?_);intro s0 s1 s2 hin hp;dsimp only[ve]at hp ⊢;obtain⟨h0,h1,h2⟩:s0.length<=1000/\s1.length<=1000/\∀f∈s1,qo f:=hp;refine⟨by rw[eY];omega,?_⟩;refine fZ (λi(x:List aH)=>((i,()),((),(),s2,()),x,())) (λy=>y.1.1) (λ_ _=>rfl) s1.length (by omega) (λn l=>l=s1.take n) (by simp) (λI μ n l hn hJ next=>?_) λI μ l hJ=>?_
 .subst hJ;have hl:(s1.take n).length<=n:=by rw[alQ];omega
  dsimp only;refine dR (by omega) ⟨⟨by omega,by omega⟩,h2 _ (getD_mem (d:=((0:Int),(0:Int),false,(0:Int),[],())) hn),by rw[eY];simp only[al2,aml];omega,rfl,next _ ?_⟩;exact(Sp.take_succ' s1 n (0,0,false,0,[],()) hn).symm
 .subst hJ;dsimp only;refine dS (by omega) ?_;rw[amu]
theorem QF:OK uI.e:=by
 refine XA.ok mixed (aC [nV.e,ng.e,uZ.e,ve.e] ⟨DJ,Dc,IW,IX,trivial⟩) Tz (λ⟨s,f,_⟩ _=>⟨((((dZ s f).1.1,(dZ s f).1.2.1,(dZ s f).1.2.2.1,()),(dZ s f).2.1,(dZ s f).2.2,()),()),⟨rfl,rfl,rfl,rfl,rfl⟩⟩) (by kernel_rfl) (show∀s0 s1 s2 f0 f1 f2 f3 f4,uI.goal (QG s0 s1 s2 f0 f1 f2 f3 f4) ((s0,s1,s2,()),(f0,f1,f2,f3,f4,()),())from ?_);intro s0 s1 s2 f0 f1 f2 f3 f4 hin hp;dsimp only[uI]at hp ⊢;refine⟨hp.1,?_⟩;rintro⟨⟨⟨a,l,nx,⟨⟩⟩,⟨⟩⟩,⟨⟩⟩ e;obtain⟨rfl,rfl,rfl⟩:a=s0/\l=s1/\nx=s2:=by simpa using e
 have hs:l.length<=1000:=hp.1.2.1;have no:¬(aB (a,l,nx,())=true/\l.length<12/\bU a (nx,f1,f2,f3,f4,())=true)->dZ (a,l,nx,()) (f0,f1,f2,f3,f4,())=((a,l,nx,()),0,false):=λh=>by
  rcases qM (a,l,nx,()) (f0,f1,f2,f3,f4,())with⟨e,_⟩|⟨h1,h2,h3,_⟩
  .exact e
  .exact(h ⟨h1,h2,h3⟩).elim
 refine⟨hp.2,trivial,af (λh1=>?_) λh1=>af (λh2=>?_) λh2=>⟨trivial,af (λh3=>?_) λh3=>?_⟩⟩
 .have:=no λh=>by have h1:=gW h1;have:=h.1;rw[show aB (a,l,nx,())=false from h1]at this;cases this
  dsimp only;rw[this];exact⟨rfl,rfl,rfl,rfl,rfl⟩
 .have:=no λh=>by have h2:(l.length:Int)>=12:=iF h2;omega
  dsimp only;rw[this];exact⟨rfl,rfl,rfl,rfl,rfl⟩
 .have:=no λh=>by have h3:=gW h3;have:=h.2.2;rw[show bU a (nx,f1,f2,f3,f4,())=false from h3]at this;cases this
  dsimp only;rw[this];exact⟨rfl,rfl,rfl,rfl,rfl⟩
 .have g1:aB (a,l,nx,())=true:=dM h1;have g2:l.length<12:=by have h2:¬(l.length:Int)>=12:=iI h2;omega
  have g3:bU a (nx,f1,f2,f3,f4,())=true:=dM h3;rcases qM (a,l,nx,()) (f0,f1,f2,f3,f4,())with⟨_,e⟩|⟨_,_,_,e⟩
  .exact(e ⟨g1,g2,g3⟩).elim
  .have hnx:=(lW.1 g1).2.2.2;have w:IntKind.i64.wrap (nx+1)=nx+1:=fU _ (by have h5:nx<=61:=hnx.2;have h6:1<=nx:=hnx.1;omega);refine⟨by rw[eY];simp only[al2,aml];omega,?_⟩;dsimp only;rw[e,w];exact⟨rfl,rfl,rfl,rfl,rfl⟩
def names:List (Int×Int×Sp.Bytes):=[(2,0,[105,110,107]),(2,0,[115,101,97])]
theorem adD(al:List aW)(name:Sp.Bytes)(k n:Int)(s:Sp.Bytes):(eH al name k n s).length<=al.length+1:=by
 have hf:=amO (gJ name) al;unfold eH;cases decide (k=0)with
 |true=>show(al.filter _).length<=_;omega
 |false=>show(vW _ _).length<=_;unfold vW;have:=congrArg List.length (ank (p:=iO name) (l:=al.filter (gJ name)));rw[al7]at this;rw[al7,al2];show((al.filter (gJ name)).takeWhile (iO name)).length+(((al.filter (gJ name)).dropWhile (iO name)).length+1)<=_;omega
theorem ahj:bK Sp.usual=true:=by kernel_rfl
theorem ahk{a:List bV}{l:List aH}{nx:Int}{X:bF}(h1:a=X.1)(h2:l=X.2.1)(h3:nx=X.2.2.1):((a,l,nx,()):bF)=X:=by subst h1 h2 h3;rfl
structure MN(k:Int)(s:bF):Prop where
 sch:s.1=Sp.usual
 ok:aB s=true
 nx:s.2.2.1<=s.2.1.length+k
 small:dH s
theorem MN.more{k k':Int}{s:bF}(h:MN k s)(hk:k<=k'):MN k' s:=⟨h.sch,h.ok,by have:=h.nx;omega,h.small⟩
theorem MN.grows{s:bF}(h:MN 2 s)(hl:s.2.1.length<12){f:aH}(ho:0<=f.2.1/\f.2.1<=2)(hk:0<=f.2.2.2.1/\f.2.2.2.1<=6)(ha:kJ Sp.usual f.2.2.2.2.1=true):(dZ s f).1.2.1.length=s.2.1.length+1:=by
 have hnx:=(lW.1 h.ok).2.2.2;have h2:=h.nx;have hf:bU s.1 (s.2.2.1,f.2)=true:=by rw[h.sch];show(kJ Sp.usual f.2.2.2.2.1&&bK Sp.usual&&(decide (1<=s.2.2.1)&&decide (s.2.2.1<=60))&&(decide (0<=f.2.1)&&decide (f.2.1<=2))&&(decide (0<=f.2.2.2.1)&&decide (f.2.2.2.1<=60)))=true;rw[ha,ahj,alP hnx.1,alP (by omega),alP ho.1,alP ho.2,alP hk.1,alP (by omega)];rfl
 rcases qM s f with⟨_,e⟩|⟨_,_,_,e⟩
 .exact(e ⟨h.ok,hl,hf⟩).elim
 .rw[e];show(s.2.1++[_]).length=_;rw[al7];rfl
theorem MN.one{s:bF}(h:MN 1 s){f:aH}(ho:0<=f.2.1/\f.2.1<=2)(hk:0<=f.2.2.2.1/\f.2.2.2.1<=6)(ha:kJ Sp.usual f.2.2.2.2.1=true):0<(dZ s f).1.2.1.length:=by
 by_cases hl:s.2.1.length<12
 .rw[(h.more (show(1:Int)<=2 by decide)).grows hl ho hk ha];omega
 .rcases qM s f with⟨e,_⟩|⟨_,_,_,e⟩
  .rw[e];show 0<s.2.1.length;omega
  .rw[e];show 0<(s.2.1++[_]).length;rw[al7,List.length_singleton];omega
theorem adE:OK Fh.e:=by refine PA.ok mixed (aC [] trivial) H0 (by kernel_rfl) (show∀code,Fh.goal (adF code) (code,())from ?_);intro b hin hp;dsimp only[Fh]at hp ⊢;exact rfl
theorem vX:OK jH.e:=by
 refine PA.ok mixed (aC [jD.e] ⟨nK,trivial⟩) MO (by kernel_rfl) (show∀s,jH.goal (KJ s) (s,())from ?_);intro s hin hp;dsimp only[jH]at hp ⊢;have hlen:s.length<=maxLen:=hin.1;rw[maxLen_eq]at hlen;refine⟨λy=>∃n:Nat,y.1.1=n/\n<=s.length/\Sp.lower (s.take n)=true,λy=>((s.length:Int)-y.1.1).toNat,⟨0,rfl,by omega,rfl⟩,?_⟩;rintro⟨⟨_,⟨⟩⟩,⟨⟩⟩ ⟨n,rfl,hn,hJ⟩;dsimp only;refine af (λh=>?_) λh=>?_<;>simp only[alX,amy]at h
 .have hlt:n<s.length:=by omega
  rw[fU _ (by omega),amd];refine⟨⟨by omega,by omega⟩,af (λh2=>?_) λh2=>⟨⟨by omega,by omega⟩,af (λh3=>?_) λh3=>?_⟩⟩<;>simp only[alX,amy]at*
  .unfold dX;cases hl:Sp.lower s with
   |false=>rfl
   |true=>have:=FT hlt hl;omega
  .unfold dX;cases hl:Sp.lower s with
   |false=>rfl
   |true=>have:=FT hlt hl;omega
  .refine⟨rfl,⟨n+1,by simp,by omega,?_⟩,by dsimp only;omega⟩;rw[Sp.take_succ' s n 0 hlt];unfold Sp.lower at hJ ⊢;rw[List.all_append,hJ];simp only[amQ,aoN,an4,anL,alK,alX];omega
 .have hge:n=s.length:=by omega
  rw[hge,amu]at hJ;unfold dX;rw[hJ];exact⟨trivial,rfl⟩
theorem xw:OK kE.e:=by
 refine PA.ok mixed (aC [jH.e,jD.e] ⟨vX,nK,trivial⟩) H0 (by kernel_rfl) (show∀v0 v1 v2,kE.goal (MP v0 v1 v2) ((v0,v1,v2,()),())from ?_);intro k n s hin hp;dsimp only[kE]at hp ⊢;refine af (λh=>?_) λh=>af (λh2=>⟨trivial,af (λh3=>?_) λh3=>?_⟩) λh2=>af (λh3=>⟨trivial,af (λh4=>?_) λh4=>?_⟩) λh3=>?_
 .have e:k=0:=by simpa using h
  subst e;exact congrArg (·,()) (amc.2 (by simp[bQ]))
 .have e:k=1:=by simpa using h2
  subst e;exact congrArg (·,()) (amc.2 (by simp only[alK,alX]at h3;simp[bQ,h3]))
 .have e:k=1:=by simpa using h2
  subst e;exact congrArg (·,()) (amc.2 (by simp only[bQ,h3];simp))
 .have e:k=2:=by simpa using h3
  subst e;exact congrArg (·,()) (amc.2 (by simp[bQ,h4]))
 .have e:k=2:=by simpa using h3
  subst e;exact congrArg (·,()) (amc.2 (by simp[bQ,h4]))
 .have e1:k≠0:=by simpa using h
  have e2:k≠1:=by simpa using h2
  have e3:k≠2:=by simpa using h3
  exact congrArg (·,()) (amc.2 (by simp[bQ,e1,e2,e3]))
theorem zZ:OK kM.e:=by
 refine PA.ok mixed (aC [] trivial) H0 (by kernel_rfl) (show∀s,kM.goal (H8 s) (s,())from ?_);intro s hin hp;dsimp only[kM]at hp ⊢;refine af (λh=>?_) λh=>?_
 .have h:(s.length:Int)=1:=iF h
  match s,h with
  |[c],_=>
   refine⟨⟨by decide,(by show(0:Int)<1;decide)⟩,af (λh2=>⟨⟨by decide,(by show(0:Int)<1;decide)⟩,?_⟩) λh2=>?_⟩
   .have h2:(c.toNat:Int)>=97:=iF h2;refine congrArg (·,()) (amc.2 ?_);simp only[iq,Sp.lower,amQ,aoN,an4,alK,alX,al2,aml];constructor
    .intro h3;have h3:(c.toNat:Int)<=122:=h3;exact⟨⟨⟨by omega,by omega⟩,by decide⟩,by decide⟩
    .rintro⟨⟨⟨_,h4⟩,_⟩,_⟩;show(c.toNat:Int)<=122;omega
   .have h2:¬(c.toNat:Int)>=97:=iI h2;refine congrArg (·,()) (amc.2 ?_);simp only[iq,Sp.lower,amQ,aoN,an4,alK,alX];constructor
    .intro h3;cases h3
    .rintro⟨⟨⟨h4,_⟩,_⟩,_⟩;omega
 .have h:¬(s.length:Int)=1:=iI h;refine congrArg (·,()) (amc.2 ?_);simp only[iq,alK,alX];constructor
  .intro h3;cases h3
  .rintro⟨⟨_,h4⟩,h5⟩;omega
theorem TA:OK wO.e:=by
 refine PA.ok mixed (aC [] trivial) VL (by kernel_rfl) (show∀s name,wO.goal (TB s name) (s,name,())from ?_);intro s name hin hp;dsimp only[wO]at hp ⊢;have hlen:s.length<=maxLen:=hin.1.1;rw[maxLen_eq]at hlen;refine iH s.length hlen (λn=>∀i,i<n->(s.getD i ([],0,())).1≠name) (λi hi=>by omega) (λI μ n hn hJ next=>?_) λI μ hJ=>?_
 .dsimp only;refine dR (by omega) ⟨⟨by omega,by omega⟩,af (λh=>?_) λh=>⟨rfl,next λi hi=>?_⟩⟩
  .exact congrArg (·,()) (IV s n hn hJ (by simpa only[amd,alT]using h)).symm
  .rcases al4 i n with h'|h'
   .exact hJ i h'
   .have:i=n:=by omega
    subst this;have h2:((s.getD i ([],0,())).1==name)=false:=h;exactλe=>by rw[e]at h2;simp at h2
 .dsimp only;exact dS (by omega) (congrArg (·,()) (Eg s hJ).symm)
theorem agw{k:Int}(h:(k !=1)=false\/(k !=2)=false):(decide (1<=k)&&decide (k<=2))=true:=by have:k=1\/k=2:=h.imp (by simp) (by simp);rcases this with h|h<;>subst h<;>rfl
theorem aio{k:Int}(h1:(k !=1)=true)(h2:(k !=2)=true):(decide (1<=k)&&decide (k<=2))=false:=by
 have h1:k≠1:=by simpa using h1
 have h2:k≠2:=by simpa using h2
 rw[Bool.and_eq_false_iff];by_cases h:k<1
 .left;exact alR (by omega)
 .right;exact alR (by omega)
theorem BK:OK lZ.e:=by
 refine PA.ok mixed (aC [kM.e] ⟨zZ,trivial⟩) MQ (by kernel_rfl) (show∀s,lZ.goal (KL s) (s,())from ?_);intro s hin hp;dsimp only[lZ]at hp ⊢;have hlen:s.length<=maxLen:=hin.1.1;rw[maxLen_eq]at hlen;refine iH s.length hlen (λn=>∀i,i<n->iy s i=true) (λi hi=>by omega) (λI μ n hn hJ next=>?_) λI μ hJ=>?_
 .dsimp only;have no:iy s n=false->(false,())=(bK s,()):=λh=>by rw[UH hn h]
  have rest:iq (Sp.fieldAt s n).1=true->(decide (1<=(Sp.fieldAt s n).2.1)&&decide ((Sp.fieldAt s n).2.1<=2))=true->
   bif decide ((n:Int)>0)then
    ((0:Int)<=IntKind.i64.wrap ((n:Int)-1)/\IntKind.i64.wrap ((n:Int)-1)<(s.length:Int))/\
      bif !Op.bytesLess (s.getD (IntKind.i64.wrap ((n:Int)-1)).toNat ([],0,())).fst (s.getD (Int.toNat (n:Int)) ([],0,())).fst then(false,())=(bK s,())
      else NX ((s,s,(s.length:Int),()),()) I μ ((IntKind.i64.wrap ((n:Int)+1),()),()) (((n:Int),()),())
   else NX ((s,s,(s.length:Int),()),()) I μ ((IntKind.i64.wrap ((n:Int)+1),()),()) (((n:Int),()),()):=by
   intro h2 h3;refine af (λh4=>?_) λh4=>⟨rfl,next (dw hJ ?_)⟩
   .have h4:0<n:=by have:=iF h4;omega
    rw[rO h4 (by omega)];refine⟨⟨by omega,by omega⟩,af (λh5=>no ?_) λh5=>⟨rfl,next (dw hJ ?_)⟩⟩
    .have h5:Op.bytesLess (Sp.fieldAt s (n-1)).1 (Sp.fieldAt s n).1=false:=gW h5;unfold iy;rw[h2,h3,h5,alP h4];rfl
    .have h5:Op.bytesLess (Sp.fieldAt s (n-1)).1 (Sp.fieldAt s n).1=true:=dM h5;unfold iy;rw[h2,h3,h5,alP h4];rfl
   .have h4:¬0<n:=by have:=iI h4;omega
    unfold iy;rw[h2,h3,alR h4];rfl
  refine dR (by omega) ⟨⟨by omega,by omega⟩,trivial,af (λh2=>no ?_) λh2=>af (λh3=>af (λh4=>no ?_) λh4=>?_) λh3=>?_⟩
  .have h2:iq (Sp.fieldAt s n).1=false:=gW h2;unfold iy;rw[h2];rfl
  .have h2:iq (Sp.fieldAt s n).1=true:=dM h2;have h3:(decide (1<=(Sp.fieldAt s n).2.1)&&decide ((Sp.fieldAt s n).2.1<=2))=false:=aio h3 h4;unfold iy;rw[h2,h3];rfl
  .have h2:iq (Sp.fieldAt s n).1=true:=dM h2;have h3:(decide (1<=(Sp.fieldAt s n).2.1)&&decide ((Sp.fieldAt s n).2.1<=2))=true:=agw (.inr h4);exact rest h2 h3
  .have h2:iq (Sp.fieldAt s n).1=true:=dM h2;have h3:(decide (1<=(Sp.fieldAt s n).2.1)&&decide ((Sp.fieldAt s n).2.1<=2))=true:=agw (.inl h3);exact rest h2 h3
 .dsimp only;refine dS (by omega) (congrArg (·,()) ?_);unfold bK;rw[kP hJ];rfl
theorem KN:OK pF.e:=by
 refine PA.ok mixed (aC [wO.e,kE.e] ⟨TA,xw,trivial⟩) H0 (by kernel_rfl) (show∀s name v0 v1 v2,pF.goal (KO s name v0 v1 v2) (s,name,(v0,v1,v2,()),())from ?_);intro fs s k n w hin hp;dsimp only[pF]at hp ⊢;refine⟨trivial,af (λh=>af (λh2=>⟨trivial,?_⟩) λh2=>?_) λh=>?_⟩
 .exact congrArg (·,()) (amc.2 (by simp only[bne_iff_ne,ne_eq]at h2;simp[dY,h,h2]))
 .exact congrArg (·,()) (amc.2 (by simp at h2;simp[dY,h2]))
 .exact congrArg (·,()) (amc.2 (by simp[dY,h]))
theorem Oz:OK rQ.e:=by
 refine PA.ok mixed (aC [lZ.e,A7.e,jD.e,pF.e] ⟨BK,Zo,nK,KN,trivial⟩) QI (by kernel_rfl) (show∀s f0 f1 f2 f3 f4,rQ.goal (OA s f0 f1 f2 f3 f4) (s,(f0,f1,f2,f3,f4,()),())from ?_);intro fs f0 f1 f2 f3 f4 hin hp;dsimp only[rQ]at hp ⊢;have hlen:f4.length<=maxLen:=hin.2.1.2.2.2.2.1.1;rw[maxLen_eq]at hlen;refine iH f4.length hlen (λn=>∀i,i<n->iM fs f4 i=true) (λi hi=>by omega) (λI μ n hn hJ next=>?_) λI μ hJ=>?_
 .dsimp only;have no:iM fs f4 n=false->(false,())=(bU fs (f0,f1,f2,f3,f4,()),()):=λh=>by rw[aas (f:=(f0,f1,f2,f3,f4,())) hn h]
  refine dR (by omega) ⟨⟨by omega,by omega⟩,af (λh4=>?_) λh4=>⟨trivial,af (λh2=>no ?_) λh2=>⟨rfl,next (dw hJ ?_)⟩⟩⟩
  .have h4:0<n:=by have:=iF h4;omega
   rw[rO h4 (by omega)];refine⟨⟨by omega,by omega⟩,af (λh5=>no ?_) λh5=>⟨trivial,af (λh2=>no ?_) λh2=>⟨rfl,next (dw hJ ?_)⟩⟩⟩
   .have h5:Op.bytesLess (bf f4 (n-1)).1 (bf f4 n).1=false:=gW h5;unfold iM;rw[h5,alP h4];exact amP _
   .have h2:dY fs (bf f4 n).1 (bf f4 n).2.1 (bf f4 n).2.2.1 (bf f4 n).2.2.2.1=false:=gW h2;unfold iM;rw[h2];rfl
   .have h2:dY fs (bf f4 n).1 (bf f4 n).2.1 (bf f4 n).2.2.1 (bf f4 n).2.2.2.1=true:=dM h2;have h5:Op.bytesLess (bf f4 (n-1)).1 (bf f4 n).1=true:=dM h5;unfold iM;rw[h2,h5,alP h4];rfl
  .have h2:dY fs (bf f4 n).1 (bf f4 n).2.1 (bf f4 n).2.2.1 (bf f4 n).2.2.2.1=false:=gW h2;unfold iM;rw[h2];rfl
  .have h2:dY fs (bf f4 n).1 (bf f4 n).2.1 (bf f4 n).2.2.1 (bf f4 n).2.2.2.1=true:=dM h2;have h4:¬0<n:=by have:=iI h4;omega
   unfold iM;rw[h2,alR h4];rfl
 .dsimp only;have ha:kJ fs f4=true:=kP hJ;refine dS (by omega) ⟨trivial,af (λh1=>⟨trivial,af (λh2=>⟨trivial,af (λh3=>⟨trivial,?_⟩) λh3=>?_⟩) λh2=>?_⟩) λh1=>?_⟩
  all_goals refine congrArg (·,()) ?_
  .show bK fs=(kJ fs f4&&bK fs&&(decide (1<=f0)&&decide (f0<=60))&&(decide (0<=f1)&&decide (f1<=2))&&(decide (0<=f3)&&decide (f3<=60)));rw[ha,h1,h2,h3];cases bK fs<;>rfl
  .show false=(kJ fs f4&&bK fs&&(decide (1<=f0)&&decide (f0<=60))&&(decide (0<=f1)&&decide (f1<=2))&&(decide (0<=f3)&&decide (f3<=60)));rw[h3,amP]
  .show false=(kJ fs f4&&bK fs&&(decide (1<=f0)&&decide (f0<=60))&&(decide (0<=f1)&&decide (f1<=2))&&(decide (0<=f3)&&decide (f3<=60)));rw[h2,amP,anE]
  .show false=(kJ fs f4&&bK fs&&(decide (1<=f0)&&decide (f0<=60))&&(decide (0<=f1)&&decide (f1<=2))&&(decide (0<=f3)&&decide (f3<=60)));rw[h1,amP,anE,anE]
theorem Df:OK ni.e:=by
 refine PA.ok mixed (aC [jD.e,lZ.e,rQ.e] ⟨nK,BK,Oz,trivial⟩) OB (by kernel_rfl) (show∀s0 s1 s2,ni.goal (MR s0 s1 s2) ((s0,s1,s2,()),())from ?_);intro s0 s1 s2 hin hp;dsimp only[ni]at hp ⊢;have hlen:s1.length<=maxLen:=hin.1.2.1.1;rw[maxLen_eq]at hlen;refine iH s1.length hlen (λn=>∀i,i<n->ja (s0,s1,s2,()) i=true) (λi hi=>by omega) (λI μ n hn hJ next=>?_) λI μ hJ=>?_
 .dsimp only;have no:ja (s0,s1,s2,()) n=false->(false,())=(aB (s0,s1,s2,()),()):=λh=>by rw[XM (s:=(s0,s1,s2,())) hn h]
  refine dR (by omega) ⟨⟨by omega,by omega⟩,trivial,af (λh2=>no ?_) λh2=>af (λh3=>no ?_) λh3=>af (λh4=>?_) λh4=>⟨rfl,next (dw hJ ?_)⟩⟩
  .have h2:bU s0 (Sp.fileAt s1 n)=false:=gW h2;show(bU s0 (Sp.fileAt s1 n)&&_&&_)=false;rw[h2];rfl
  .have h2:bU s0 (Sp.fileAt s1 n)=true:=dM h2;have h3:¬(Sp.fileAt s1 n).1<s2:=by have h3:(Sp.fileAt s1 n).1>=s2:=iF h3;omega
   show(bU s0 (Sp.fileAt s1 n)&&decide ((Sp.fileAt s1 n).1<s2)&&_)=false;rw[h2,alR h3];rfl
  .have h2:bU s0 (Sp.fileAt s1 n)=true:=dM h2;have h3:(Sp.fileAt s1 n).1<s2:=by have h3:¬(Sp.fileAt s1 n).1>=s2:=iI h3;omega
   have h4:0<n:=by have:=iF h4;omega
   rw[rO h4 (by omega)];refine⟨⟨by omega,by omega⟩,af (λh5=>no ?_) λh5=>⟨rfl,next (dw hJ ?_)⟩⟩
   .have h5:¬(Sp.fileAt s1 (n-1)).1<(Sp.fileAt s1 n).1:=by have h5:(Sp.fileAt s1 (n-1)).1>=(Sp.fileAt s1 n).1:=iF h5;omega
    show(bU s0 (Sp.fileAt s1 n)&&decide ((Sp.fileAt s1 n).1<s2)&&!(decide (0<n)&&!decide ((Sp.fileAt s1 (n-1)).1<(Sp.fileAt s1 n).1)))=false;rw[h2,alP h3,alP h4,alR h5];rfl
   .have h5:(Sp.fileAt s1 (n-1)).1<(Sp.fileAt s1 n).1:=by have h5:¬(Sp.fileAt s1 (n-1)).1>=(Sp.fileAt s1 n).1:=iI h5;omega
    show(bU s0 (Sp.fileAt s1 n)&&decide ((Sp.fileAt s1 n).1<s2)&&!(decide (0<n)&&!decide ((Sp.fileAt s1 (n-1)).1<(Sp.fileAt s1 n).1)))=true;rw[h2,alP h3,alP h4,alP h5];rfl
  .have h2:bU s0 (Sp.fileAt s1 n)=true:=dM h2;have h3:(Sp.fileAt s1 n).1<s2:=by have h3:¬(Sp.fileAt s1 n).1>=s2:=iI h3;omega
   have h4:¬0<n:=by have:=iI h4;omega
   show(bU s0 (Sp.fileAt s1 n)&&decide ((Sp.fileAt s1 n).1<s2)&&!(decide (0<n)&&!decide ((Sp.fileAt s1 (n-1)).1<(Sp.fileAt s1 n).1)))=true;rw[h2,alP h3,alR h4];rfl
 .dsimp only;have ha:gu s1.length (ja (s0,s1,s2,()))=true:=kP hJ;refine dS (by omega) ⟨trivial,af (λh1=>af (λh2=>⟨trivial,?_⟩) λh2=>?_) λh1=>?_⟩
  .refine congrArg (·,()) ?_;show _=(gu s1.length (ja (s0,s1,s2,()))&&bK s0&&decide ((s1.length:Int)<=12)&&(decide (1<=s2)&&decide (s2<=61)));rw[ha,h1,h2];rfl
  .refine congrArg (·,()) ?_;show _=(gu s1.length (ja (s0,s1,s2,()))&&bK s0&&decide ((s1.length:Int)<=12)&&(decide (1<=s2)&&decide (s2<=61)));rw[ha,h1,h2];rfl
  .refine congrArg (·,()) ?_;show _=(gu s1.length (ja (s0,s1,s2,()))&&bK s0&&decide ((s1.length:Int)<=12)&&(decide (1<=s2)&&decide (s2<=61)));rw[ha,h1];rfl
theorem acE{α:Type}{l:List α}{lo:Nat}{news:List α}(h:lo+news.length<=l.length):(dG l lo news).length=l.length:=by unfold dG;simp only[al7,alQ,amh];omega
theorem aat{α:Type}{l:List α}{lo k:Nat}{news:List α}(hk:k<=lo)(h:lo<=l.length):(dG l lo news).take k=l.take k:=by unfold dG;rw[amn,amS (by rw[alQ];omega),anp,am9 hk]
theorem E8:OK qp.e:=by
 refine XA.ok mixed (aC [yJ.e] ⟨VH,trivial⟩) VN (λ⟨l,_⟩ _=>⟨((l,()),()),rfl⟩) (by kernel_rfl) (show∀l,qp.goal (TD l) (l,())from ?_);intro l hin hp;dsimp only[qp]at hp ⊢;obtain⟨h1,h2⟩:l.length<=1000/\∀f∈l,qo f:=hp;refine fZ (λi(x:List aH)=>(((),i,()),x,())) (λy=>y.1.2.1) (λ_ _=>rfl) l.length (by omega) (λn x=>x=l.take n) (by simp) (λI μ n x hn hJ next=>?_) λI μ x hJ=>?_
 .subst hJ;have hl:(l.take n).length<=n:=by rw[alQ];omega
  dsimp only;refine dR (by omega) ⟨⟨by omega,by omega⟩,h2 _ (getD_mem (d:=((0:Int),(0:Int),false,(0:Int),[],())) hn),by rw[eY];simp only[al2,aml];omega,rfl,next _ ?_⟩;exact(Sp.take_succ' l n (0,0,false,0,[],()) hn).symm
 .subst hJ;dsimp only;refine dS (by omega) ?_;show List.take l.length l=l;rw[amu]
theorem Fa:OK qw.e:=by refine XA.ok mixed (aC [qp.e,lS.e] ⟨E8,ES,trivial⟩) VO (λ⟨(a,l,nx,_),_⟩ _=>⟨(((a,l,nx,()),()),()),rfl⟩) (by kernel_rfl) (show∀s0 s1 s2,qw.goal (TF s0 s1 s2) ((s0,s1,s2,()),())from ?_);intro s0 s1 s2 hin hp;dsimp only[qw]at hp ⊢;obtain⟨h0,h1,h2⟩:s0.length<=1000/\s1.length<=1000/\∀f∈s1,qo f:=hp;refine⟨h0,⟨h1,h2⟩,?_⟩;rintro⟨⟨x,⟨⟩⟩,⟨⟩⟩ e;have e:x=s1:=e;subst e;exact rfl
end Go.Proofs.Tryz
namespace Go.Proofs.Tryz
open Go Go.Fw Go.IntWalk Sp
theorem FZ(n0 n1 n2:Int)(n3:Sp.Bytes)(n4 n5:Int)(n6:Sp.Bytes)(a:Int):iT (n0,n1,n2,n3,n4,n5,n6,()) a=
 (bif n0==1 then(n1==0&&n2==0)&&(n3==[]&&(n4==0&&(n5==0&&n6==[])))else bif n0==2 then(n1==0&&n2==0)&&(n4==0&&(n5==0&&n6==[]))&&iq n3 else
 bif n0==3 then(n1==0&&n2==0)&&iq n3&&bQ n4 n5 n6&&!(n4==0)else bif n0==4 then(n1==0&&n2==0)&&iq n3&&bQ n4 n5 n6&&n4==1 else
 bif n0==5 then(decide (0<=n1)&&decide (n1<=a-1)&&decide (0<a))&&n2==0&&(n3==[]&&(n4==0&&(n5==0&&n6==[])))else
 bif n0==6||n0==7 then(decide (0<=n1)&&decide (n1<=a-1)&&decide (0<a))&&(decide (0<=n2)&&decide (n2<=a-1))&&(n3==[]&&(n4==0&&(n5==0&&n6==[])))else
 bif n0==8||n0==9 then(n1==0&&n2==0)&&(n4==0&&(n5==0&&n6==[]))&&dX n3 else false):=rfl
theorem O5:OK rV.e:=by
 refine PA.ok mixed (aC [jH.e,jD.e,kE.e,kM.e] ⟨vX,nK,xw,zZ,trivial⟩) Ry (by kernel_rfl) (show∀n0 n1 n2 n3 n4 n5 n6 at',rV.goal (DR n0 n1 n2 n3 n4 n5 n6 at') ((n0,n1,n2,n3,n4,n5,n6,()),at',())from ?_);intro n0 n1 n2 n3 n4 n5 n6 a hin hp;dsimp only[rV]at hp ⊢;have ha:-9223372036854775808<=a/\a<=9223372036854775807:=hin.2.1;show DR n0 n1 n2 n3 n4 n5 n6 a λr=>r=(iT (n0,n1,n2,n3,n4,n5,n6,()) a,());rw[FZ];have w:0<a->IntKind.i64.wrap (a-1)=a-1:=λh=>fU _ (by omega);refine af (λ_=>?_) λ_=>af (λ_=>af (λ_=>⟨trivial,?_⟩) λ_=>?_) λ_=>⟨λy=>y=((n0==3||n0==4,()),()),?_,?_⟩
 .first|(simp_all;done)|(simp_all;grind)
 .first|(simp_all;done)|(simp_all;grind)
 .first|(simp_all;done)|(simp_all;grind)
 .refine af (λ_=>⟨rfl,?_⟩) λ_=>⟨rfl,?_⟩<;>first|(simp_all;done)|(simp_all;grind)
 .rintro _ rfl;refine af (λ_=>?_) λ_=>af (λ_=>af (λ_=>af (λh=>⟨trivial,?_⟩) λ_=>?_) λ_=>?_) λ_=>⟨λy=>y=((n0==6||n0==7,()),()),?_,?_⟩
  .refine af (λ_=>⟨trivial,af (λ_=>⟨trivial,af (λ_=>af (λ_=>af (λ_=>?_) λ_=>?_) λ_=>?_) λ_=>?_⟩) λ_=>?_⟩) λ_=>?_
   all_goals first|(simp_all;done)|(simp_all;grind)
  .rw[w (iF h)]
   first|(simp_all;done)|(simp_all;grind)
  .first|(simp_all;done)|(simp_all;grind)
  .first|(simp_all;done)|(simp_all;grind)
  .refine af (λ_=>⟨rfl,?_⟩) λ_=>⟨rfl,?_⟩<;>first|(simp_all;done)|(simp_all;grind)
  .rintro _ rfl;refine af (λ_=>af (λ_=>af (λh=>⟨trivial,?_⟩) λ_=>?_) λ_=>?_) λ_=>?_
   .rw[w (iF h)];refine af (λ_=>⟨trivial,?_⟩) λ_=>?_<;>first|(simp_all;done)|(simp_all;grind)
   .first|(simp_all;done)|(simp_all;grind)
   .first|(simp_all;done)|(simp_all;grind)
   .refine af (λ_=>af (λ_=>af (λ_=>⟨trivial,?_⟩) λ_=>?_) λ_=>?_) λ_=>af (λ_=>af (λ_=>⟨trivial,?_⟩) λ_=>?_) λ_=>?_
    all_goals first|(simp_all;done)|(simp_all;grind)
theorem O6:OK rU.e:=by
 refine PA.ok mixed (aC [jG.e,mZ.e,kL.e,jq.e] ⟨vV,C9,zY,mW,trivial⟩) Rz (by kernel_rfl) (show∀n0 n1 n2 n3 n4 n5 n6 at',rU.goal (DT n0 n1 n2 n3 n4 n5 n6 at') ((n0,n1,n2,n3,n4,n5,n6,()),at',())from ?_);intro n0 n1 n2 n3 n4 n5 n6 a hin hp;dsimp only[rU]at hp ⊢;have ha:-9223372036854775808<=a/\a<=9223372036854775807:=hin.2.1;show DT n0 n1 n2 n3 n4 n5 n6 a λr=>r=(iT (n0,n1,n2,n3,n4,n5,n6,()) a,());rw[FZ];have w:0<a->IntKind.i64.wrap (a-1)=a-1:=λh=>fU _ (by omega);refine⟨λy=>y=((decide (0<=n1)&&decide (n1<=a-1)&&decide (0<a),()),()),⟨trivial,?_⟩,?_⟩
 .by_cases h:0<a
  .dsimp only;rw[w h];refine af (λ_=>⟨rfl,?_⟩) λ_=>⟨rfl,?_⟩<;>first|(simp_all;done)|(simp_all;grind)
  .dsimp only;refine af (λ_=>⟨rfl,?_⟩) λ_=>⟨rfl,?_⟩<;>first|(simp_all;done)|(simp_all;grind)
 .rintro _ rfl;refine⟨λy=>y=(((decide (0<=n1)&&decide (n1<=a-1)&&decide (0<a))&&(decide (0<=n2)&&decide (n2<=a-1)),()),()),?_,?_⟩
  .refine af (λh=>⟨trivial,rfl,?_⟩) λh=>⟨rfl,?_⟩
   .have h:(decide (0<=n1)&&decide (n1<=a-1)&&decide (0<a))=true:=h;have h2:0<a:=by simp at h;omega
    rw[w h2,h,anL]
   .have h:(decide (0<=n1)&&decide (n1<=a-1)&&decide (0<a))=false:=h;rw[h,anE]
  .rintro _ rfl;dsimp only;generalize (decide (0<=n1)&&decide (n1<=a-1)&&decide (0<a))=kids;generalize (decide (0<=n2)&&decide (n2<=a-1))=two
   repeat' first
    |exact trivial
    |refine af (λ_=>?_) λ_=>?_
    |refine And.intro trivial ?_
   all_goals first|(simp_all;done)|(simp_all;grind)
end Go.Proofs.Tryz
namespace Go.Proofs.Tryz
open Go Go.Fw Go.IntWalk Sp
theorem IY:OK vz.e:=by
 refine PA.ok mixed (aC [] trivial) ZB (by kernel_rfl) (show∀a b,vz.goal (Yn a b) (a,b,())from ?_);intro a b hin hp;dsimp only[vz]at hp ⊢;have hlen:a.length<=maxLen:=hin.1.1;rw[maxLen_eq]at hlen;refine af (λh=>?_) λh=>?_
 .have h:(a.length:Int)≠b.length:=by simpa using h
  exact congrArg (·,()) (alR λe=>h (by rw[e])).symm
 .have h:(a.length:Int)=b.length:=by simpa using h
  exact KI (K:=λr=>r=(decide (a=b),())) (λx y=>x.1 !=y.1) (λx y=>by simp[anw]) _ a b _ hlen (by omega) (λe=>by rw[alR e]) λe=>by rw[alP e]
theorem Ue:OK wS.e:=by
 refine PA.ok mixed (aC [] trivial) Wi (by kernel_rfl) (show∀a b,wS.goal (Uf a b) (a,b,())from ?_);intro a b hin hp;dsimp only[wS]at hp ⊢;have hlen:a.length<=maxLen:=hin.1.1;rw[maxLen_eq]at hlen;refine af (λh=>?_) λh=>?_
 .have h:(a.length:Int)≠b.length:=by simpa using h
  exact congrArg (·,()) (alR λe=>h (by rw[e])).symm
 .have h:(a.length:Int)=b.length:=by simpa using h
  exact KI (K:=λr=>r=(decide (a=b),())) (λx y=>!(x.1==y.1&&(x.2.1==y.2.1&&(x.2.2.1==y.2.2.1&&(x.2.2.2.1==y.2.2.2.1&&(x.2.2.2.2.1==y.2.2.2.2.1&&(x.2.2.2.2.2.1==y.2.2.2.2.2.1&&(x.2.2.2.2.2.2.1==y.2.2.2.2.2.2.1&&true)))))))) (λx y=>by simp[anw]) _ a b _ hlen (by omega) (λe=>by rw[alR e]) λe=>by rw[alP e]
theorem Yo:OK zF.e:=by
 refine PA.ok mixed (aC [wS.e] ⟨Ue,trivial⟩) H0 (by kernel_rfl) (show∀a0 a1 b0 b1,zF.goal (Yp a0 a1 b0 b1) ((a0,a1,()),(b0,b1,()),())from ?_);intro a0 a1 b0 b1 hin hp;dsimp only[zF]at hp ⊢;refine af (λh0=>⟨trivial,?_⟩) λh0=>?_
 all_goals refine congrArg (·,()) (amc.2 ?_)
 .simp only[alT]at h0;subst h0;simp
 .have h0:a0≠b0:=by simpa using h0
  simp[h0]
theorem V9:OK yN.e:=by
 refine PA.ok mixed (aC [zF.e] ⟨Yo,trivial⟩) Yq (by kernel_rfl) (show∀a b,yN.goal (Wj a b) (a,b,())from ?_);intro a b hin hp;dsimp only[yN]at hp ⊢;have hlen:a.length<=maxLen:=hin.1.1;rw[maxLen_eq]at hlen;refine af (λh=>?_) λh=>?_
 .have h:(a.length:Int)≠b.length:=by simpa using h
  exact congrArg (·,()) (alR λe=>h (by rw[e])).symm
 .have h:(a.length:Int)=b.length:=by simpa using h
  exact VG (K:=λr=>r=(decide (a=b),())) (λx y=>!decide ((x.1,x.2.1,())=(y.1,y.2.1,()))) (λx y=>by simp[anw]) _ a b _ hlen (by omega) (λe=>by rw[alR e]) λe=>by rw[alP e]
theorem Wl:OK yL.e:=by refine PA.ok mixed (aC [] trivial) H0 (by kernel_rfl) (show∀n0 n1 n2 n3 n4 n5 n6,yL.goal (Wn n0 n1 n2 n3 n4 n5 n6) ((n0,n1,n2,n3,n4,n5,n6,()),())from ?_);intro n0 n1 n2 n3 n4 n5 n6 hin hp;dsimp only[yL]at hp ⊢;exact af (λh=>by rw[h];rfl) λh=>by rw[h];rfl
theorem F5:OK l9.e:=by refine PA.ok mixed (aC [] trivial) Ht (by kernel_rfl) (show∀s,l9.goal (F6 s) (s,())from ?_);intro s hin hp;dsimp only[l9]at hp ⊢;have hp:s.length<=1000:=hp;refineλg hg=>af (λh=>?_) λh=>⟨by rw[eY];omega,rfl⟩;have:=hg h;rw[List.eq_nil_of_length_eq_zero this]
theorem Yr:OK zC.e:=by refine PA.ok mixed (aC [l9.e] ⟨F5,trivial⟩) ZC (by kernel_rfl) (show∀x0 x1,zC.goal (Yt x0 x1) ((x0,x1,()),())from ?_);intro x0 x1 hin hp;dsimp only[zC]at hp ⊢;exact⟨hp,rfl⟩
theorem uz{d:List aK}(h:bI d){n:Nat}(hn:n<d.length):(d.getD n ([],[],())).2.1.length<=1000:=h.2 _ (getD_mem hn)
theorem Hq:OK sF.e:=by
 refine PA.ok mixed (aC [zC.e] ⟨Yr,trivial⟩) Yu (by kernel_rfl) (show∀d,sF.goal (Wp d) (d,())from ?_);intro d hin hp;dsimp only[sF]at hp ⊢;have hp:bI d:=hp;have hlen:d.length<=1000:=hp.1;refine fZ (λi(x:List aK)=>(((),i,()),x,())) (λy=>y.1.2.1) (λ_ _=>rfl) d.length (by omega) (λn l=>l=d.take n) (by simp) (λI μ n l hn hJ next=>?_) λI μ l hJ=>?_
 .subst hJ;have hl:(d.take n).length<=n:=by rw[alQ];omega
  dsimp only;refine dR (by omega) ⟨⟨by omega,by omega⟩,uz hp hn,by rw[eY];simp only[al2,aml];omega,rfl,next _ ?_⟩;exact(Sp.take_succ' d n ([],[],()) hn).symm
 .subst hJ;dsimp only;refine dS (by omega) ?_;rw[amu]
theorem Yd:OK zD.e:=by
 refine PA.ok mixed (aC [] trivial) ZE (by kernel_rfl) (show∀d,zD.goal (Yv d) (d,())from ?_);intro d hin hp;dsimp only[zD]at hp ⊢;have hp:bI d:=hp;have hlen:d.length<=1000:=hp.1;refine fZ (λi(x:List aK)=>(((),i,()),x,())) (λy=>y.1.2.1) (λ_ _=>rfl) d.length (by omega) (λn l=>l=d.take n) (by simp) (λI μ n l hn hJ next=>?_) λI μ l hJ=>?_
 .subst hJ;have hl:(d.take n).length<=n:=by rw[alQ];omega
  dsimp only;refine dR (by omega) ⟨⟨by omega,by omega⟩,⟨by omega,by omega⟩,by rw[eY];have:=uz hp hn;show 0+(d.getD n ([],[],())).2.1.length<=_;omega,by rw[eY];simp only[al2,aml];omega,rfl,next _ ?_⟩;exact(Sp.take_succ' d n ([],[],()) hn).symm
 .subst hJ;dsimp only;refine dS (by omega) ?_;rw[amu]
end Go.Proofs.Tryz
namespace Go.Proofs.Tryz
open Go Go.Fw Go.IntWalk Sp
theorem Ny(a:Int)(x:aY):(Sp.refsOf a x:Int)=(if(x.1=6\/x.1=7\/x.1=5)/\x.2.1=a then 1 else 0)+(if(x.1=6\/x.1=7)/\x.2.2.1=a then 1 else 0):=by unfold Sp.refsOf iC;by_cases h6:x.1=6<;>by_cases h7:x.1=7<;>by_cases h5:x.1=5<;>by_cases hl:x.2.1=a<;>by_cases hr:x.2.2.1=a<;>simp[cond_eq_ite,h6,h7,h5,hl,hr]
theorem aiv(a:Int)(x:aY):Sp.refsOf a x<=2:=by have:=Ny a x;split at this<;>split at this<;>omega
def kQ(q:List aY)(a:Int)(n:Nat):Nat:=((q.take n).map (Sp.refsOf a)).sum
theorem JI(q:List aY)(a:Int){n:Nat}(hn:n<q.length):kQ q a (n+1)=kQ q a n+Sp.refsOf a (Sp.nodeAt q n):=by unfold kQ;rw[Sp.take_succ' q n (0,0,0,[],0,0,[],()) hn];simp only[amY,List.sum_append,al8,List.map_nil,anM,List.sum_nil,am3];rfl
theorem RH(q:List aY)(a:Int):∀n,n<=q.length->kQ q a n<=2*n
 |0,_=>by simp[kQ]
 |n+1,h=>by rw[JI q a (by omega)];have:=RH q a n (by omega);have:=aiv a (Sp.nodeAt q n);omega
theorem Yz(q:List aY)(a:Int):kQ q a q.length=jW q a:=by unfold kQ jW;rw[amu]
theorem Ig:OK nN.e:=by
 refine PA.ok mixed (aC [] trivial) JJ (by kernel_rfl) (show∀q at',nN.goal (Ih q at') (q,at',())from ?_);intro q a hin hp;dsimp only[nN]at hp ⊢;have hp:q.length<=1000000:=hp;refine fZ (λi(c:Int)=>((c,i,()),())) (λy=>y.1.2.1) (λ_ _=>rfl) q.length (by omega) (λn c=>c=(kQ q a n:Int)) rfl (λI μ n c hn hJ next=>?_) λI μ c hJ=>?_
 .subst hJ;have hs:=JI q a hn;have hb:=RH q a n (by omega);have hr:=Ny a (Sp.nodeAt q n);dsimp only;rw[amd];have e:q.getD n (0,0,0,[],0,0,[],())=Sp.nodeAt q n:=rfl;rw[e];have w1:IntKind.i64.wrap ((kQ q a n:Int)+1)=(kQ q a n:Int)+1:=fU _ (by omega);have w2:IntKind.i64.wrap ((kQ q a n:Int)+1+1)=(kQ q a n:Int)+1+1:=fU _ (by omega);refine dR (by omega) ⟨⟨by omega,by omega⟩,af (λh6=>⟨λy=>y=(((kQ q a n:Int)+(if(Sp.nodeAt q n).2.1=a then 1 else 0),()),()),⟨⟨by omega,by omega⟩,af (λhl=>⟨rfl,?_⟩) λhl=>⟨rfl,?_⟩⟩,?_⟩) λh6=>⟨⟨by omega,by omega⟩,λy=>y=(((kQ q a n:Int)+(if((Sp.nodeAt q n).1=7\/(Sp.nodeAt q n).1=5)/\(Sp.nodeAt q n).2.1=a then 1 else 0),()),()),?_,?_⟩⟩
  .simp only[alT]at hl;rw[w1,if_pos hl]
  .simp only[alN]at hl;rw[if_neg hl,anW]
  .rintro _ rfl;simp only[alT]at h6;refine⟨⟨by omega,by omega⟩,af (λhrr=>⟨rfl,next _ ?_⟩) λhrr=>⟨rfl,next _ ?_⟩⟩
   all_goals
    dsimp only;simp only[alT,alN,ne_eq]at hrr;by_cases hl:(Sp.nodeAt q n).2.1=a<;>simp[h6,hl,hrr]at hr<;>simp only[hl,if_true,anX,anW,w1,w2]<;>omega
  .simp only[alN,ne_eq]at h6;refine af (λh7=>⟨⟨by omega,by omega⟩,af (λhl=>⟨rfl,?_⟩) λhl=>⟨rfl,?_⟩⟩) λh7=>⟨⟨by omega,by omega⟩,af (λh5=>⟨⟨by omega,by omega⟩,af (λhl=>⟨rfl,?_⟩) λhl=>⟨rfl,?_⟩⟩) λh5=>⟨rfl,?_⟩⟩
   all_goals simp_all
  .rintro _ rfl;simp only[alN,ne_eq]at h6;refine af (λh7=>⟨⟨by omega,by omega⟩,af (λhrr=>⟨rfl,next _ ?_⟩) λhrr=>⟨rfl,next _ ?_⟩⟩) λh7=>⟨rfl,next _ ?_⟩
   .simp only[alT]at h7 hrr;by_cases hl:(Sp.nodeAt q n).2.1=a<;>simp[h6,h7,hl,hrr]at hr<;>simp only[h7,hl,true_or,and_self,and_false,if_true,anX,anW,w1,w2]<;>omega
   .simp only[alT,alN,ne_eq]at h7 hrr;by_cases hl:(Sp.nodeAt q n).2.1=a<;>simp[h6,h7,hl,hrr]at hr<;>simp only[h7,hl,true_or,and_self,and_false,if_true,anX,anW,w1,w2]<;>omega
   .simp only[alN,ne_eq]at h7;dsimp only;by_cases h5:(Sp.nodeAt q n).1=5<;>by_cases hl:(Sp.nodeAt q n).2.1=a<;>simp[h6,h7,h5,hl]at hr<;>simp[h7,h5,hl]<;>omega
 .dsimp only;refine dS (by omega) ?_;rw[hJ,Yz]
theorem Ii:OK nO.e:=by
 refine PA.ok mixed (aC [] trivial) JK (by kernel_rfl) (show∀q at',nO.goal (Ij q at') (q,at',())from ?_);intro q a hin hp;dsimp only[nO]at hp ⊢;have hp:q.length<=1000000:=hp;refine fZ (λi(c:Int)=>((c,i,()),())) (λy=>y.1.2.1) (λ_ _=>rfl) q.length (by omega) (λn c=>c=(kQ q a n:Int)) rfl (λI μ n c hn hJ next=>?_) λI μ c hJ=>?_
 .subst hJ;have hs:=JI q a hn;have hb:=RH q a n (by omega);have hr:=Ny a (Sp.nodeAt q n);dsimp only;rw[amd];have e:q.getD n (0,0,0,[],0,0,[],())=Sp.nodeAt q n:=rfl;rw[e];have w1:IntKind.i64.wrap ((kQ q a n:Int)+1)=(kQ q a n:Int)+1:=fU _ (by omega);have w2:IntKind.i64.wrap ((kQ q a n:Int)+1+1)=(kQ q a n:Int)+1+1:=fU _ (by omega);refine dR (by omega) ⟨⟨by omega,by omega⟩,af (λh6=>⟨λy=>y=(((kQ q a n:Int)+(if(Sp.nodeAt q n).2.1=a then 1 else 0),()),()),af (λhl=>⟨rfl,?_⟩) λhl=>⟨rfl,?_⟩,?_⟩) λh6=>⟨λy=>y=(((kQ q a n:Int)+(if((Sp.nodeAt q n).1=7\/(Sp.nodeAt q n).1=5)/\(Sp.nodeAt q n).2.1=a then 1 else 0),()),()),?_,?_⟩⟩
  .simp only[alT]at hl;rw[w1,if_pos hl]
  .simp only[alN]at hl;rw[if_neg hl,anW]
  .rintro _ rfl;simp only[alT]at h6;refine af (λhrr=>⟨rfl,next _ ?_⟩) λhrr=>⟨rfl,next _ ?_⟩
   all_goals
    dsimp only;simp only[alT,alN,ne_eq]at hrr;by_cases hl:(Sp.nodeAt q n).2.1=a<;>simp[h6,hl,hrr]at hr<;>simp only[hl,if_true,anX,anW,w1,w2]<;>omega
  .simp only[alN,ne_eq]at h6;refine af (λhl=>af (λh7=>⟨rfl,?_⟩) λh7=>af (λh5=>⟨rfl,?_⟩) λh5=>⟨rfl,?_⟩) λhl=>⟨rfl,?_⟩
   all_goals simp_all
  .rintro _ rfl;simp only[alN,ne_eq]at h6;refine af (λhrr=>af (λh7=>⟨rfl,next _ ?_⟩) λh7=>⟨rfl,next _ ?_⟩) λhrr=>⟨rfl,next _ ?_⟩
   .simp only[alT]at h7 hrr;by_cases hl:(Sp.nodeAt q n).2.1=a<;>simp[h6,h7,hl,hrr]at hr<;>simp only[h7,hl,true_or,and_self,and_false,if_true,anX,anW,w1,w2]<;>omega
   .simp only[alN,ne_eq]at h7;dsimp only;by_cases h5:(Sp.nodeAt q n).1=5<;>by_cases hl:(Sp.nodeAt q n).2.1=a<;>simp[h6,h7,h5,hl]at hr<;>simp[h7,h5,hl]<;>omega
   .simp only[alN,ne_eq]at hrr;dsimp only;by_cases h7:(Sp.nodeAt q n).1=7<;>by_cases h5:(Sp.nodeAt q n).1=5<;>by_cases hl:(Sp.nodeAt q n).2.1=a<;>simp[h6,h7,h5,hl,hrr]at hr<;>simp[h7,h5,hl]<;>omega
 .dsimp only;refine dS (by omega) ?_;rw[hJ,Yz]
theorem YA{q:List aY}{n:Nat}(hn:n<q.length)(h:jC q n=false):aU q=false:=by unfold aU;rw[x9 hn h];rfl
theorem xB:OK kG.e:=by
 refine PA.ok mixed (aC [jq.e,nN.e,rU.e] ⟨mW,Ig,O6,trivial⟩) Ph (by kernel_rfl) (show∀q,kG.goal (Nz q) (q,())from ?_);intro q hin hp;dsimp only[kG]at hp ⊢;have hp:q.length<=1000000:=hp;refine iH q.length (by omega) (λn=>∀i,i<n->jC q i=true) (λi hi=>by omega) (λI μ n hn hJ next=>?_) λI μ hJ=>?_
 .dsimp only;have no:jC q n=false->(false,())=(aU q,()):=λh=>by rw[YA hn h]
  rw[rO (show 0<q.length by omega) (by omega)];refine dR (by omega) ⟨⟨by omega,by omega⟩,trivial,af (λh2=>no ?_) λh2=>af (λh3=>⟨hp,af (λh4=>no ?_) λh4=>⟨rfl,next (dw hJ ?_)⟩⟩) λh3=>⟨rfl,next (dw hJ ?_)⟩⟩
  .have h2:iT (Sp.nodeAt q n) n=false:=gW h2;unfold jC;rw[h2];rfl
  .have h2:iT (Sp.nodeAt q n) n=true:=dM h2;have h4:(jW q n:Int)≠1:=by simpa using h4
   have h3:(n:Int)<(q.length:Int)-1:=by have:=iF h3;omega
   unfold jC;simp only[h3,h2];simp;omega
  .have h2:iT (Sp.nodeAt q n) n=true:=dM h2;have h4:(jW q n:Int)=1:=by simpa using h4
   have h4:jW q n=1:=by omega
   unfold jC;simp[h2,h4]
  .have h2:iT (Sp.nodeAt q n) n=true:=dM h2;have h3:¬(n:Int)<(q.length:Int)-1:=by have:=iI h3;omega
   unfold jC;simp[h2,h3]
 .dsimp only;refine dS (by omega) ⟨trivial,congrArg (·,()) ?_⟩;unfold aU;rw[kP hJ];rfl
theorem xA:OK kH.e:=by
 refine PA.ok mixed (aC [jD.e,nO.e,rV.e] ⟨nK,Ii,O5,trivial⟩) Pj (by kernel_rfl) (show∀q,kH.goal (NC q) (q,())from ?_);intro q hin hp;dsimp only[kH]at hp ⊢;have hp:q.length<=1000000:=hp;refine iH q.length (by omega) (λn=>∀i,i<n->jC q i=true) (λi hi=>by omega) (λI μ n hn hJ next=>?_) λI μ hJ=>?_
 .dsimp only;have no:jC q n=false->(false,())=(aU q,()):=λh=>by rw[YA hn h]
  rw[rO (show 0<q.length by omega) (by omega)];refine dR (by omega) ⟨⟨by omega,by omega⟩,trivial,af (λh2=>no ?_) λh2=>af (λh3=>⟨hp,af (λh4=>no ?_) λh4=>⟨rfl,next (dw hJ ?_)⟩⟩) λh3=>⟨rfl,next (dw hJ ?_)⟩⟩
  .have h2:iT (Sp.nodeAt q n) n=false:=gW h2;unfold jC;rw[h2];rfl
  .have h2:iT (Sp.nodeAt q n) n=true:=dM h2;have h4:(jW q n:Int)≠1:=by simpa using h4
   have h3:(n:Int)<(q.length:Int)-1:=by have:=iF h3;omega
   unfold jC;simp only[h3,h2];simp;omega
  .have h2:iT (Sp.nodeAt q n) n=true:=dM h2;have h4:(jW q n:Int)=1:=by simpa using h4
   have h4:jW q n=1:=by omega
   unfold jC;simp[h2,h4]
  .have h2:iT (Sp.nodeAt q n) n=true:=dM h2;have h3:¬(n:Int)<(q.length:Int)-1:=by have:=iI h3;omega
   unfold jC;simp[h2,h3]
 .dsimp only;refine dS (by omega) ⟨trivial,congrArg (·,()) ?_⟩;unfold aU;rw[kP hJ];rfl
theorem aaD{d:List aK}{n:Nat}(hn:n<d.length)(h:jQ d n=false):eF d=false:=by unfold eF;rw[x9 hn h];rfl
theorem OC:OK rW.e:=by
 refine PA.ok mixed (aC [kG.e,jG.e] ⟨xB,vV,trivial⟩) RI (by kernel_rfl) (show∀d,rW.goal (Pm d) (d,())from ?_);intro d hin hp;dsimp only[rW]at hp ⊢;have hp:bI d:=hp;have hlen:d.length<=1000:=hp.1;refine iH d.length (by omega) (λn=>∀i,i<n->jQ d i=true) (λi hi=>by omega) (λI μ n hn hJ next=>?_) λI μ hJ=>?_
 .dsimp only;have no:jQ d n=false->(false,())=(eF d,()):=λh=>by rw[aaD hn h]
  have hq:(bW d n).2.1.length<=1000000:=amk (uz hp hn) (by omega);refine dR (by omega) ⟨⟨by omega,by omega⟩,trivial,af (λh2=>no ?_) λh2=>⟨⟨by omega,by omega⟩,hq,af (λh3=>no ?_) λh3=>af (λh4=>?_) λh4=>⟨rfl,next (dw hJ ?_)⟩⟩⟩
  .have h2:dX (bW d n).1=false:=gW h2;unfold jQ;rw[h2];rfl
  .have h3:aU (bW d n).2.1=false:=gW h3;unfold jQ;rw[h3];simp
  .have h2:dX (bW d n).1=true:=dM h2;have h3:aU (bW d n).2.1=true:=dM h3;have h4:0<n:=by have:=iF h4;omega
   rw[rO h4 (by omega)];refine⟨⟨by omega,by omega⟩,⟨by omega,by omega⟩,af (λh5=>no ?_) λh5=>⟨rfl,next (dw hJ ?_)⟩⟩
   .have h5:Op.bytesLess (bW d (n-1)).1 (bW d n).1=false:=gW h5;unfold jQ;rw[h2,h3,h5,alP h4];rfl
   .have h5:Op.bytesLess (bW d (n-1)).1 (bW d n).1=true:=dM h5;unfold jQ;rw[h2,h3,h5,alP h4];rfl
  .have h2:dX (bW d n).1=true:=dM h2;have h3:aU (bW d n).2.1=true:=dM h3;have h4:¬0<n:=by have:=iI h4;omega
   unfold jQ;rw[h2,h3,alR h4];rfl
 .dsimp only;refine dS (by omega) (congrArg (·,()) ?_);unfold eF;rw[kP hJ];rfl
theorem OE:OK rX.e:=by
 refine PA.ok mixed (aC [kH.e,jH.e] ⟨xA,vX,trivial⟩) RJ (by kernel_rfl) (show∀d,rX.goal (Pn d) (d,())from ?_);intro d hin hp;dsimp only[rX]at hp ⊢;have hp:bI d:=hp;have hlen:d.length<=1000:=hp.1;refine iH d.length (by omega) (λn=>∀i,i<n->jQ d i=true) (λi hi=>by omega) (λI μ n hn hJ next=>?_) λI μ hJ=>?_
 .dsimp only;have no:jQ d n=false->(false,())=(eF d,()):=λh=>by rw[aaD hn h]
  have hq:(bW d n).2.1.length<=1000000:=amk (uz hp hn) (by omega);refine dR (by omega) ⟨⟨by omega,by omega⟩,trivial,af (λh2=>no ?_) λh2=>af (λh4=>?_) λh4=>⟨hq,af (λh3=>no ?_) λh3=>⟨rfl,next (dw hJ ?_)⟩⟩⟩
  .have h2:dX (bW d n).1=false:=gW h2;unfold jQ;rw[h2];rfl
  .have h2:dX (bW d n).1=true:=dM h2;have h4:0<n:=by have:=iF h4;omega
   rw[rO h4 (by omega)];refine⟨⟨by omega,by omega⟩,af (λh5=>no ?_) λh5=>⟨hq,af (λh3=>no ?_) λh3=>⟨rfl,next (dw hJ ?_)⟩⟩⟩
   .have h5:Op.bytesLess (bW d (n-1)).1 (bW d n).1=false:=gW h5;unfold jQ;rw[h5,alP h4];simp
   .have h3:aU (bW d n).2.1=false:=gW h3;unfold jQ;rw[h3];simp
   .have h3:aU (bW d n).2.1=true:=dM h3;have h5:Op.bytesLess (bW d (n-1)).1 (bW d n).1=true:=dM h5;unfold jQ;rw[h2,h3,h5,alP h4];rfl
  .have h3:aU (bW d n).2.1=false:=gW h3;unfold jQ;rw[h3];simp
  .have h2:dX (bW d n).1=true:=dM h2;have h3:aU (bW d n).2.1=true:=dM h3;have h4:¬0<n:=by have:=iI h4;omega
   unfold jQ;rw[h2,h3,alR h4];rfl
 .dsimp only;refine dS (by omega) (congrArg (·,()) ?_);unfold eF;rw[kP hJ];rfl
end Go.Proofs.Tryz
namespace Go.Proofs.Tryz
open Go Go.Fw Go.IntWalk Sp
theorem aaE{S:Type}{B:((Int×Unit)×S->Prop)->((Int×Unit)×S->Nat)->(Int×Unit)×S->Prop}(len:Nat)(hlen:len<=9223372036854775807)(J:Nat->S->Prop){s0:S}(h0:J len s0)
 (hstep:∀I μ(n:Nat)(s:S),n<len->J (n+1) s->(∀s',J n s'->I ((IntKind.i64.wrap ((n:Int)-1),()),s')/\μ ((IntKind.i64.wrap ((n:Int)-1),()),s')<μ (((n:Int),()),s))->B I μ (((n:Int),()),s))
 (hend:∀I μ s,J 0 s->B I μ ((-1,()),s)):∃I,∃μ,I ((IntKind.i64.wrap ((len:Int)-1),()),s0)/\∀y,I y->B I μ y:=by
 have w:∀n:Nat,n<=len->IntKind.i64.wrap ((n:Int)-1)=(n:Int)-1:=λn hn=>fU _ (by omega);refine⟨λy=>∃(n:Nat)(s:S),y=(((n:Int)-1,()),s)/\n<=len/\J n s,λy=>(y.1.1+1).toNat,⟨len,s0,by rw[w len (alY _)],alY _,h0⟩,?_⟩;rintro _ ⟨n,s,rfl,hn,hJ⟩;cases n with
 |zero=>exact hend _ _ s hJ
 |succ n=>
  have e:((n+1:Nat):Int)-1=n:=by omega
  rw[e];refine hstep _ _ n s hn hJ λs' hJ'=>?_;rw[w n (by omega)];refine⟨⟨n,s',rfl,by omega,hJ'⟩,?_⟩;show((n:Int)-1+1).toNat<((n:Int)+1).toNat;omega
theorem getD_set_ne{α:Type}(l:List α)(i n:Nat)(x d:α)(h:i≠n):(l.set i x).getD n d=l.getD n d:=by rw[alM,alM,amE h]
theorem F8{x:aY}{a:Int}(h:iT x a=true)(h2:x.1=5\/x.1=6\/x.1=7):0<=x.2.1/\x.2.1<a:=by obtain⟨x0,x1,x2,x3,x4,x5,x6,_⟩:=x;rw[FZ]at h;rcases h2 with rfl|rfl|rfl<;>simp at h<;>exact⟨h.1.1.1.1,by dsimp only;omega⟩
theorem F9{x:aY}{a:Int}(h:iT x a=true)(h2:x.1=6\/x.1=7):0<=x.2.2.1/\x.2.2.1<a:=by obtain⟨x0,x1,x2,x3,x4,x5,x6,_⟩:=x;rw[FZ]at h;rcases h2 with rfl|rfl<;>simp at h<;>exact⟨h.1.2.1,by dsimp only;omega⟩
theorem YB{q:List aY}(h:aU q=true){n:Nat}(hn:n<q.length):iT (Sp.nodeAt q n) n=true:=by unfold aU at h;simp only[alK]at h;have:=JL.1 h.1 n hn;unfold jC at this;simp only[alK]at this;exact this.1
theorem AP{q:List aY}(h:aU q=true):1<=q.length/\q.length<=9:=by unfold aU at h;simp only[alK,alX]at h;omega
theorem UO{q:List aY}{n:Nat}{out:List (Bool×Unit)}(h:(Sp.nodeAt q n).1=5):iY q n out=out.set (Sp.nodeAt q n).2.1.toNat (true,()):=by unfold iY;simp[h]
theorem UQ{q:List aY}{n:Nat}{out:List (Bool×Unit)}(h:(Sp.nodeAt q n).1=6\/(Sp.nodeAt q n).1=7):iY q n out=(out.set (Sp.nodeAt q n).2.1.toNat ((out.getD n (false,())).1,())).set (Sp.nodeAt q n).2.2.1.toNat ((out.getD n (false,())).1,()):=by unfold iY iC;rcases h with h|h<;>simp[h]
theorem RN{q:List aY}{n:Nat}{out:List (Bool×Unit)}(h5:(Sp.nodeAt q n).1≠5)(h6:(Sp.nodeAt q n).1≠6)(h7:(Sp.nodeAt q n).1≠7):iY q n out=out:=by unfold iY iC;dsimp only;rw[alN.2 h5,alN.2 h6,alN.2 h7];rfl
theorem AX(q:List aY):∀(n:Nat)(out:List (Bool×Unit)),(gy q n out).length=out.length
 |0,out=>rfl
 |n+1,out=>by
  rw[gy,AX q n];unfold iY;simp only[cond_eq_ite];split
  .simp
  .split<;>simp
theorem adG{q:List aY}(h:aU q=true):(Sp.negated q).length=q.length:=by unfold Sp.negated;rw[h];show(gy q _ _).length=_;rw[AX];simp
theorem ND:OK qO.e:=by
 refine PA.ok mixed (aC [kH.e] ⟨xA,trivial⟩) Po (by kernel_rfl) (show∀q,qO.goal (NG q) (q,())from ?_);intro q hin hp;dsimp only[qO]at hp ⊢;have hp:q.length<=1000:=hp;refine⟨by omega,af (λh=>?_) λh=>⟨⟨by omega,by omega,by rw[eY];omega⟩,?_⟩⟩
 .have h:=gW h;unfold Sp.negated;rw[h];rfl
 have hok:=dM h;have hR:Sp.negated q=gy q q.length (List.replicate q.length (false,())):=by unfold Sp.negated;rw[hok];rfl
 refine aaE q.length (by omega) (λn(s:List (Bool×Unit)×Unit)=>s.1.length=q.length/\gy q n s.1=Sp.negated q) ⟨by simp,hR.symm⟩ (λI μ n s hn hJ next=>?_) λI μ s hJ=>?_
 .obtain⟨out,⟨⟩⟩:=s;obtain⟨hl,hJ⟩:=hJ;have hl:out.length=q.length:=hl;have hJ:gy q n (iY q n out)=Sp.negated q:=hJ;have hk:=YB hok hn;have e:q.getD n (0,0,0,[],0,0,[],())=Sp.nodeAt q n:=rfl;dsimp only;rw[amd,e];simp only[amX];refine dR (by omega) ⟨⟨by omega,by omega⟩,by omega,?_⟩;by_cases h5:(Sp.nodeAt q n).1=5
  .have hb:=F8 hk (.inl h5);simp only[h5,Int.reduceBEq,aox,an0];have fin:gy q n (out.set (Sp.nodeAt q n).2.1.toNat (true,()))=Sp.negated q:=by rw[← UO h5];exact hJ
   refine af (λ_=>⟨⟨by omega,by omega⟩,⟨by omega,by omega⟩,⟨by omega,by omega⟩,by omega,trivial,next _ ⟨by simp[hl],fin⟩⟩) λ_=>⟨⟨by omega,by omega⟩,⟨by omega,by omega⟩,⟨by omega,by omega⟩,⟨by omega,by omega⟩,by omega,trivial,next _ ⟨by simp[hl],fin⟩⟩
  by_cases Lj:(Sp.nodeAt q n).1=6\/(Sp.nodeAt q n).1=7
  .have hb:=F8 hk (.inr Lj);have hb2:=F9 hk Lj;have fin:∀b,(out.getD n (false,())).1=b->gy q n ((out.set (Sp.nodeAt q n).2.1.toNat (b,())).set (Sp.nodeAt q n).2.2.1.toNat (b,()))=Sp.negated q:=λb hb=>by rw[← hb,← UQ Lj];exact hJ
   rcases Lj with h6|h6
   all_goals
    simp only[h6,Int.reduceBEq,aox,an0];refine af (λhc=>⟨⟨by omega,by omega⟩,⟨by omega,by omega⟩,⟨by omega,by omega⟩,⟨by omega,by omega⟩,by omega,⟨by omega,by omega⟩,by omega,trivial,next _ ⟨by simp[hl],fin true hc⟩⟩) λhc=>⟨⟨by omega,by omega⟩,⟨by omega,by omega⟩,⟨by omega,by omega⟩,⟨by omega,by omega⟩,⟨by omega,by omega⟩,by omega,⟨by omega,by omega⟩,by omega,trivial,next _ ⟨by simp[hl],fin false hc⟩⟩
  .have h6:(Sp.nodeAt q n).1≠6:=λh=>Lj (.inl h);have h7:(Sp.nodeAt q n).1≠7:=λh=>Lj (.inr h);have fin:gy q n out=Sp.negated q:=by rw[RN h5 h6 h7]at hJ;exact hJ
   simp only[alN.2 h5,alN.2 h6,alN.2 h7,an0];exact af (λ_=>⟨⟨by omega,by omega⟩,rfl,next _ ⟨hl,fin⟩⟩) λ_=>⟨⟨by omega,by omega⟩,⟨by omega,by omega⟩,rfl,next _ ⟨hl,fin⟩⟩
 .obtain⟨out,⟨⟩⟩:=s;obtain⟨hl,hJ⟩:=hJ;dsimp only;refine dS (by omega) ?_;have hJ:out=Sp.negated q:=hJ;rw[hJ]
theorem NH:OK qN.e:=by
 refine PA.ok mixed (aC [kG.e] ⟨xB,trivial⟩) Pq (by kernel_rfl) (show∀q,qN.goal (NI q) (q,())from ?_);intro q hin hp;dsimp only[qN]at hp ⊢;have hp:q.length<=1000:=hp;refine⟨by omega,af (λh=>?_) λh=>⟨⟨by omega,by omega,by rw[eY];omega⟩,?_⟩⟩
 .have h:=gW h;unfold Sp.negated;rw[h];rfl
 have hok:=dM h;have hR:Sp.negated q=gy q q.length (List.replicate q.length (false,())):=by unfold Sp.negated;rw[hok];rfl
 refine aaE q.length (by omega) (λn(s:List (Bool×Unit)×Unit)=>s.1.length=q.length/\gy q n s.1=Sp.negated q) ⟨by simp,hR.symm⟩ (λI μ n s hn hJ next=>?_) λI μ s hJ=>?_
 .obtain⟨out,⟨⟩⟩:=s;obtain⟨hl,hJ⟩:=hJ;have hl:out.length=q.length:=hl;have hJ:gy q n (iY q n out)=Sp.negated q:=hJ;have hk:=YB hok hn;have e:q.getD n (0,0,0,[],0,0,[],())=Sp.nodeAt q n:=rfl;dsimp only;rw[amd,e];simp only[amX];refine dR (by omega) ⟨⟨by omega,by omega⟩,?_⟩;by_cases h5:(Sp.nodeAt q n).1=5
  .have hb:=F8 hk (.inl h5);simp only[h5,Int.reduceBEq,aox,an0];have fin:gy q n (out.set (Sp.nodeAt q n).2.1.toNat (true,()))=Sp.negated q:=by rw[← UO h5];exact hJ
   exact⟨⟨by omega,by omega⟩,by omega,trivial,next _ ⟨by simp[hl],fin⟩⟩
  by_cases Lj:(Sp.nodeAt q n).1=6\/(Sp.nodeAt q n).1=7
  .have hb:=F8 hk (.inr Lj);have hb2:=F9 hk Lj;have hne:(Sp.nodeAt q n).2.1.toNat≠n:=by omega
   have fin:gy q n ((out.set (Sp.nodeAt q n).2.1.toNat ((out.getD n (false,())).1,())).set (Sp.nodeAt q n).2.2.1.toNat ((out.getD n (false,())).1,()))=Sp.negated q:=by rw[← UQ Lj];exact hJ
   rcases Lj with h6|h6
   all_goals
    simp only[h6,Int.reduceBEq,aox,an0,getD_set_ne _ _ _ _ _ hne];exact⟨⟨by omega,by omega⟩,by omega,⟨by omega,by omega⟩,by omega,⟨by omega,by omega⟩,by omega,⟨by omega,by omega⟩,by omega,trivial,next _ ⟨by simp[hl],fin⟩⟩
  .have h6:(Sp.nodeAt q n).1≠6:=λh=>Lj (.inl h);have h7:(Sp.nodeAt q n).1≠7:=λh=>Lj (.inr h);have fin:gy q n out=Sp.negated q:=by rw[RN h5 h6 h7]at hJ;exact hJ
   simp only[alN.2 h5,alN.2 h6,alN.2 h7,an0];exact⟨rfl,next _ ⟨hl,fin⟩⟩
 .obtain⟨out,⟨⟩⟩:=s;obtain⟨hl,hJ⟩:=hJ;dsimp only;refine dS (by omega) ?_;have hJ:out=Sp.negated q:=hJ;rw[hJ]
end Go.Proofs.Tryz
namespace Go.Proofs.Tryz
open Go Go.Fw Go.IntWalk Sp
def ZF(q:List aY)(neg:Bool)(i:Nat):Option Sp.Bytes:=bif wz (Sp.nodeAt q i)&&((Sp.negated q).getD i (false,())).1==neg then some (Sp.nodeAt q i).2.2.2.1 else none
def zx(q:List aY)(neg:Bool)(n:Nat):List Sp.Bytes:=(List.range n).filterMap (ZF q neg)
theorem uf(q:List aY)(neg:Bool):zx q neg (Sp.negated q).length=dF q neg:=rfl
theorem YC{q:List aY}{neg:Bool}{n:Nat}(h1:wz (Sp.nodeAt q n)=true)(h2:((Sp.negated q).getD n (false,())).1=neg):zx q neg (n+1)=zx q neg n++[(Sp.nodeAt q n).2.2.2.1]:=by
 unfold zx;rw[aoP,List.filterMap_append];congr 1;show List.filterMap _ [n]=_;rw[List.filterMap_cons];have:ZF q neg n=some (Sp.nodeAt q n).2.2.2.1:=by unfold ZF;rw[h1,h2];simp
 rw[this];rfl
theorem I8{q:List aY}{neg:Bool}{n:Nat}(h:¬(wz (Sp.nodeAt q n)=true/\((Sp.negated q).getD n (false,())).1=neg)):zx q neg (n+1)=zx q neg n:=by
 unfold zx;rw[aoP,List.filterMap_append];have:ZF q neg n=none:=by
  unfold ZF;have:(wz (Sp.nodeAt q n)&&((Sp.negated q).getD n (false,())).1==neg)=false:=by rw[anA];intro h';rw[alK,alT]at h';exact h h'
  rw[this];rfl
 rw[List.filterMap_cons,this];simp
theorem ug(q:List aY)(neg:Bool)(n:Nat):(zx q neg n).length<=n:=by have:=List.length_filterMap_le (ZF q neg) (List.range n);rw[List.length_range]at this;exact this
theorem uh(q:List aY):(Sp.negated q).length<=q.length:=by
 cases h:aU q with
 |true=>rw[adG h];exact alY _
 |false=>unfold Sp.negated;rw[h];exact amm _
theorem Fg:OK qy.e:=by
 refine XA.ok mixed (aC [(Ac,.eff (Xg nX) yD),yL.e,qO.e] ⟨⟨Qy,Ov⟩,Wl,ND,trivial⟩) Wx (λ⟨q,neg,_⟩ hp=>⟨((((dF q neg).map λs=>(s,()),()),())),⟨by show((dF q neg).map _).length<=1000;rw[alV];have:=ug q neg (Sp.negated q).length;have:=uh q;have hp:q.length<=1000:=hp;rw[uf]at*;omega,λs=>by show(s,())∈(dF q neg).map _↔_;simp⟩⟩) (by kernel_rfl) (show∀q negated,qy.goal (Ug q negated) (q,negated,())from ?_);intro q neg hin hp;dsimp only[qy]at hp ⊢;have hp:q.length<=1000:=hp;have hnl:=uh q;refine⟨hp,?_⟩;refine fZ (λi(x:Sp.LS)=>(((),i,()),x,())) (λy=>y.1.2.1) (λ_ _=>rfl) (Sp.negated q).length (by omega) (λn l=>l=(zx q neg n).map λs=>(s,())) rfl (λI μ n l hn hJ next=>?_) λI μ l hJ=>?_
 .subst hJ;have hl:=ug q neg n;dsimp only;refine dR (by omega) ⟨⟨by omega,by omega⟩,⟨by omega,by omega⟩,trivial,af (λh1=>af (λh2=>⟨⟨by omega,by omega⟩,?_,rfl,next _ ?_⟩) λh2=>⟨rfl,next _ ?_⟩) λh1=>⟨rfl,next _ ?_⟩⟩
  .rw[eY];simp only[al2,aml,alV];omega
  .rw[YC (show wz (Sp.nodeAt q n)=true from h1) (alT.1 h2),amY];rfl
  .rw[I8 λh=>by have h2:=alN.1 h2;exact h2 h.2]
  .rw[I8 λh=>by have h1:wz (Sp.nodeAt q n)=false:=h1;rw[h1]at h;cases h.1]
 .subst hJ;have hl:=ug q neg (Sp.negated q).length;rw[uf]at hl ⊢;dsimp only;refine dS (by omega) ⟨by rw[alV];omega,?_⟩;rintro⟨⟨r,⟨⟩⟩,⟨⟩⟩ ⟨h1,h2⟩;have h1:r.length<=((dF q neg).map λs=>(s,())).length:=h1;rw[alV]at h1;refine⟨by show r.length<=1000;omega,λs=>?_⟩;have:=h2 (s,());show(s,())∈r↔_;rw[this];simp
theorem MX:OK qP.e:=by refine XA.ok mixed (aC [qy.e] ⟨Fg,trivial⟩) H0 (λ⟨q,_⟩ hp=>⟨((((dF q false).map λs=>(s,()),()),())),⟨by show((dF q false).map _).length<=1000;rw[alV];have:=ug q false (Sp.negated q).length;have:=uh q;have hp:q.length<=1000:=hp;rw[uf]at*;omega,λs=>by show(s,())∈(dF q false).map _↔_;simp⟩⟩) (by kernel_rfl) (show∀q,qP.goal (NJ q) (q,())from ?_);intro q hin hp;dsimp only[qP]at hp ⊢;exact⟨hp,λr hr=>hr⟩
theorem MW:OK qQ.e:=by refine XA.ok mixed (aC [qy.e] ⟨Fg,trivial⟩) H0 (λ⟨q,_⟩ hp=>⟨((((dF q true).map λs=>(s,()),()),())),⟨by show((dF q true).map _).length<=1000;rw[alV];have:=ug q true (Sp.negated q).length;have:=uh q;have hp:q.length<=1000:=hp;rw[uf]at*;omega,λs=>by show(s,())∈(dF q true).map _↔_;simp⟩⟩) (by kernel_rfl) (show∀q,qQ.goal (NK q) (q,())from ?_);intro q hin hp;dsimp only[qQ]at hp ⊢;exact⟨hp,λr hr=>hr⟩
theorem aef{l:Sp.LS}{s:Sp.Bytes}{m:Nat}(hm:m<=l.length)(h1:∀i,i<m->Op.bytesLess (l.getD i ([],())).1 s=true)(h2:m<l.length->Op.bytesLess (l.getD m ([],())).1 s=false):
 Bg l s=bif decide (m<l.length)&&(l.getD m ([],())).1==s then l else l.take m++[(s,())]++l.drop m:=by
 obtain⟨e1,_⟩:=G5 (d:=(([]:List UInt8),())) l m hm (p:=λx=>Op.bytesLess x.1 s) h1 h2;unfold Bg;rw[e1];have:(l.take m).length=m:=by rw[alQ];omega
 rw[this]
theorem Hr{l:Sp.LS}{s:Sp.Bytes}(x:Sp.Bytes×Unit):x∈Bg l s↔x=(s,())\/x∈l:=by
 unfold Bg;dsimp only;generalize (l.takeWhile λx=>Op.bytesLess x.1 s).length=n;cases h:decide (n<l.length)&&(l.getD n ([],())).1==s with
 |true=>
  rw[alK,alT]at h;refine⟨.inr,λhx=>?_⟩;rcases hx with rfl|hx
  .have:=getD_mem (d:=(([]:List UInt8),())) (iF h.1);rw[show l.getD n ([],())=(s,())from aow h.2 rfl]at this;exact this
  .exact hx
 |false=>
  show x∈l.take n++[(s,())]++l.drop n↔_;rw[amg,amg,amA]
  conv=>rhs;rw[← anV n l,amg]
  constructor
  .rintro((h|h)|h)
   .exact .inr (.inl h)
   .exact .inl h
   .exact .inr (.inr h)
  .rintro(h|h|h)
   .exact .inl (.inr h)
   .exact .inl (.inl h)
   .exact .inr h
theorem ahr(l:Sp.LS)(s:Sp.Bytes):(Bg l s).length<=l.length+1:=by
 unfold Bg;dsimp only;generalize (l.takeWhile λx=>Op.bytesLess x.1 s).length=n;cases decide (n<l.length)&&(l.getD n ([],())).1==s with
 |true=>exact Nat.le_succ _
 |false=>show(l.take n++[(s,())]++l.drop n).length<=_;simp;omega
theorem ZG:OK A8.e:=by
 refine PA.ok mixed (aC [] trivial) aa5 (by kernel_rfl) (show∀list s,A8.goal (ZH list s) (list,s,())from ?_);intro l s hin hp;dsimp only[A8]at hp ⊢;have hp:l.length<=1000:=hp;have fin:∀m:Nat,m<=l.length->Bg l s=l.take m++[(s,())]++l.drop m->((0:Int)<=m/\(m:Int)<=l.length)/\0+(List.drop 0 (List.take m l)).length<=big/\(List.drop 0 (List.take m l)).length+[(s,())].length<=big/\((0:Int)<=m/\(m:Int)<=l.length)/\
  (List.drop 0 (List.take m l)++[(s,())]).length+(List.drop m (List.take l.length l)).length<=big/\(List.drop 0 (List.take m l)++[(s,())]++List.drop m (List.take l.length l),())=(Bg l s,()):=by
  intro m hm h;refine⟨⟨by omega,by omega⟩,?_,?_,⟨by omega,by omega⟩,?_,?_⟩
  .rw[eY];simp only[amh,alQ];omega
  .rw[eY];simp only[amh,alQ,al2,aml];omega
  .rw[eY];simp only[al7,amh,alQ,al2,aml];omega
  .rw[h,amu,anD]
 refine iH l.length (by omega) (λn=>∀i,i<n->Op.bytesLess (l.getD i ([],())).1 s=true) (λi hi=>by omega) (λI μ n hn hJ next=>?_) λI μ hJ=>?_
 .dsimp only;refine dR (by omega) ⟨⟨by omega,by omega⟩,af (λh=>⟨rfl,next (dw (f:=λi=>Op.bytesLess (l.getD i ([],())).1 s) hJ h)⟩) λh=>dR (by omega) ⟨⟨by omega,by omega⟩,?_⟩⟩;have e:=aef (Nat.le_of_lt hn) hJ λ_=>h;rw[alP hn,anL]at e;refine af (λh2=>?_) λh2=>fin n (Nat.le_of_lt hn) ?_
  .rw[show((l.getD n ([],())).1==s)=true from h2]at e;rw[e];rfl
  .rw[show((l.getD n ([],())).1==s)=false from h2]at e;exact e
 .dsimp only;refine dS (by omega) (dS (by omega) (fin l.length (alY _) ?_));have e:=aef (alY _) hJ λh=>by omega
  rw[alR (by omega)]at e;exact e
theorem agH(x:aY):wz x=(decide (8<=x.1)&&decide (x.1<=9)):=by unfold wz;rw[amc];simp;omega
theorem Hu:OK rZ.e:=by
 refine XA.ok mixed (aC [A8.e,jq.e,qN.e] ⟨ZG,mW,NH,trivial⟩) YD (λ⟨q,neg,_⟩ hp=>⟨((((dF q neg).map λs=>(s,()),()),())),⟨by show((dF q neg).map _).length<=1000;rw[alV];have:=ug q neg (Sp.negated q).length;have:=uh q;have hp:q.length<=1000:=hp;rw[uf]at*;omega,λs=>by show(s,())∈(dF q neg).map _↔_;simp⟩⟩) (by kernel_rfl) (show∀q under,rZ.goal (Wy q under) (q,under,())from ?_);intro q neg hin hp;dsimp only[rZ]at hp ⊢;have hp:q.length<=1000:=hp;have hnl:=uh q;refine⟨hp,?_⟩;refine fZ (λi(x:Sp.LS)=>((x,i,()),())) (λy=>y.1.2.1) (λ_ _=>rfl) (Sp.negated q).length (by omega) (λn l=>l.length<=n/\∀s,(s,())∈l↔s∈zx q neg n) ⟨alY _,λs=>by simp[zx]⟩ (λI μ n l hn hJ next=>?_) λI μ l hJ=>?_
 .obtain⟨hl,hJ⟩:=hJ;dsimp only;have hnm:=agH (Sp.nodeAt q n);refine dR (by omega) ⟨⟨by omega,by omega⟩,trivial,af (λh1=>⟨⟨by omega,by omega⟩,af (λh2=>⟨⟨by omega,by omega⟩,by omega,rfl,next _ ?_⟩) λh2=>⟨rfl,next _ ⟨by omega,?_⟩⟩⟩) λh1=>⟨rfl,next _ ⟨by omega,?_⟩⟩⟩
  .have h1:(decide (8<=(Sp.nodeAt q n).1)&&decide ((Sp.nodeAt q n).1<=9))=true:=h1;rw[YC (hnm.trans h1) (alT.1 h2)];refine⟨amk (ahr _ _) (by omega),λs=>?_⟩;rw[Hr,amg,amA,hJ,Prod.mk.injEq];constructor
   .rintro(⟨h,_⟩|h)
    .exact .inr h
    .exact .inl h
   .rintro(h|h)
    .exact .inr h
    .exact .inl ⟨h,rfl⟩
  .rw[I8 λh=>by have h2:=alN.1 h2;exact h2 h.2];exact hJ
  .rw[I8 λh=>by have h1:(decide (8<=(Sp.nodeAt q n).1)&&decide ((Sp.nodeAt q n).1<=9))=false:=h1;rw[hnm,h1]at h;cases h.1];exact hJ
 .obtain⟨hl,hJ⟩:=hJ;rw[uf]at hJ;dsimp only;exact dS (by omega) ⟨by rw[eY];omega,by show l.length<=1000;omega,hJ⟩
theorem NM:OK qR.e:=by refine XA.ok mixed (aC [rZ.e] ⟨Hu,trivial⟩) H0 (λ⟨q,_⟩ hp=>⟨((((dF q false).map λs=>(s,()),()),())),⟨by show((dF q false).map _).length<=1000;rw[alV];have:=ug q false (Sp.negated q).length;have:=uh q;have hp:q.length<=1000:=hp;rw[uf]at*;omega,λs=>by show(s,())∈(dF q false).map _↔_;simp⟩⟩) (by kernel_rfl) (show∀q,qR.goal (NP q) (q,())from ?_);intro q hin hp;dsimp only[qR]at hp ⊢;exact⟨hp,λr hr=>hr⟩
theorem NQ:OK qU.e:=by refine XA.ok mixed (aC [rZ.e] ⟨Hu,trivial⟩) H0 (λ⟨q,_⟩ hp=>⟨((((dF q true).map λs=>(s,()),()),())),⟨by show((dF q true).map _).length<=1000;rw[alV];have:=ug q true (Sp.negated q).length;have:=uh q;have hp:q.length<=1000:=hp;rw[uf]at*;omega,λs=>by show(s,())∈(dF q true).map _↔_;simp⟩⟩) (by kernel_rfl) (show∀q,qU.goal (NR q) (q,())from ?_);intro q hin hp;dsimp only[qU]at hp ⊢;exact⟨hp,λr hr=>hr⟩
end Go.Proofs.Tryz
namespace Go.Proofs.Tryz
open Go Go.Fw Go.IntWalk Sp
theorem I9:OK vw.e:=by refine PA.ok mixed (aC [] trivial) H0 (by kernel_rfl) (show∀x0 x1 p10,vw.goal (YE x0 x1 p10) ((x0,x1,()),(p10,()),())from ?_);intro x0 x1 p hin hp;dsimp only[vw]at hp ⊢;exact rfl
theorem NS{d:List aK}{s:Sp.Bytes}{n:Nat}(hn:n<d.length)(h1:(bW d n).1=s)(h2:∀i,i<n->(bW d i).1≠s):aF d s=n:=by
 rcases zU d s with⟨_,h⟩|⟨m,g1,g2,g3,g4⟩
 .exact(h _ (getD_mem (d:=(([]:List UInt8),([]:List aY),())) hn) h1).elim
 .have:m=n:=by
   rcases anU m n with h|h|h
   .exact(h2 m h g3).elim
   .exact h
   .exact(g4 n h h1).elim
  rw[g2,this]
theorem acV{d:List aK}{s:Sp.Bytes}(h2:∀i,i<d.length->(bW d i).1≠s):aF d s=-1:=by
 rcases zU d s with⟨h,_⟩|⟨m,g1,_,g3,_⟩
 .exact h
 .exact(h2 m g1 g3).elim
theorem wB:OK fP.e:=by
 refine PA.ok mixed (aC [vw.e] ⟨I9,trivial⟩) wE (by kernel_rfl) (show∀s jP,fP.goal (wC s jP) (s,((jP,()),()),())from ?_);intro d s hin hp;dsimp only[fP]at hp ⊢;have hlen:d.length<=maxLen:=hin.1.1;rw[maxLen_eq]at hlen;refine iH d.length hlen (λn=>∀i,i<n->(bW d i).1≠s) (λi hi=>by omega) (λI μ n hn hJ next=>?_) λI μ hJ=>?_
 .dsimp only;refine dR (by omega) ⟨⟨by omega,by omega⟩,trivial,af (λh=>?_) λh=>⟨rfl,next λi hi=>?_⟩⟩
  .rw[NS hn (alT.1 h) hJ]
  .rcases al4 i n with h'|h'
   .exact hJ i h'
   .have:i=n:=by omega
    rw[this];exact alN.1 h
 .dsimp only;refine dS (by omega) ?_;rw[acV hJ]
theorem aa6:OK BU.e:=by refine PA.ok mixed (aC [fP.e,vw.e] ⟨wB,I9,trivial⟩) H0 (by kernel_rfl) (show∀d name,BU.goal (aa7 d name) (d,name,())from ?_);intro d s hin hp;dsimp only[BU]at hp ⊢;exact⟨trivial,rfl⟩
theorem WA:OK yM.e:=by
 refine PA.ok mixed (aC [] trivial) YF (by kernel_rfl) (show∀d name,yM.goal (WB d name) (d,name,())from ?_);intro d s hin hp;dsimp only[yM]at hp ⊢;have hlen:d.length<=maxLen:=hin.1.1;rw[maxLen_eq]at hlen;refine iH d.length hlen (λn=>∀i,i<n->(bW d i).1≠s) (λi hi=>by omega) (λI μ n hn hJ next=>?_) λI μ hJ=>?_
 .dsimp only;refine dR (by omega) ⟨⟨by omega,by omega⟩,af (λh=>?_) λh=>⟨rfl,next λi hi=>?_⟩⟩
  .rw[NS hn (alT.1 h) hJ]
  .rcases al4 i n with h'|h'
   .exact hJ i h'
   .have:i=n:=by omega
    rw[this];exact alN.1 h
 .dsimp only;refine dS (by omega) ?_;rw[acV hJ]
theorem OD:OK su.e:=by
 refine PA.ok mixed (aC [BU.e] ⟨aa6,trivial⟩) RP (by kernel_rfl) (show∀d Dw names more,su.goal (Pv d Dw names more) (d,Dw,names,more,())from ?_);intro d ak names more hin hp;dsimp only[su]at hp ⊢;obtain⟨h1,h2,h3,h4,h5⟩:d.length<=ak.length/\names.length<=1000/\0<=more/\more<=1/\∀x∈ak,0<=x.1/\x.1<=1000000:=hp;refine fZ (λi(c:Int)=>((c,i,()),())) (λy=>y.1.2.1) (λ_ _=>rfl) names.length (by omega) (λn c=>∀B,c<=B↔0<=B/\∀x∈names.take n,0<=aF d x.1->Sp.lv ak (aF d x.1).toNat+more<=B) (λB=>by simp) (λI μ n c hn hJ next=>?_) λI μ c hJ=>?_
 .dsimp only;rw[amd];have e:=Sp.take_succ' names n ([],()) hn;refine dR (by omega) ⟨⟨by omega,by omega⟩,trivial,af (λh=>?_) λh=>⟨rfl,next _ λB=>?_⟩⟩
  .have h:0<=aF d (names.getD n ([],())).1:=iF h;have hlt:=Ei h;have hb:=h5 _ (QY (l:=ak) (i:=(aF d (names.getD n ([],())).1).toNat) (by omega));dsimp only at hb;have hw:IntKind.i64.wrap (Sp.lv ak (aF d (names.getD n ([],())).1).toNat+more)=Sp.lv ak (aF d (names.getD n ([],())).1).toNat+more:=fU _ (by omega);have e2:(ak.getD (aF d (names.getD n ([],())).1).toNat (0,())).1=Sp.lv ak (aF d (names.getD n ([],())).1).toNat:=rfl;refine⟨⟨h,by omega⟩,rfl,next _ λB=>?_⟩;rw[e2,hw,e];simp only[amg,amA];have:=hJ B;constructor
   .intro hB;have hc:c<=B:=by split at hB<;>omega
    have hv:Sp.lv ak (aF d (names.getD n ([],())).1).toNat+more<=B:=by split at hB<;>omega
    obtain⟨a,b⟩:=this.1 hc;refine⟨a,λx hx hx0=>?_⟩;rcases hx with hx|rfl
    .exact b x hx hx0
    .exact hv
   .rintro⟨a,b⟩;have hc:=this.2 ⟨a,λx hx=>b x (.inl hx)⟩;have hv:=b _ (.inr rfl) h;split<;>omega
  .have h:¬0<=aF d (names.getD n ([],())).1:=iI h;rw[hJ B,e];simp only[amg,amA];constructor
   .rintro⟨a,b⟩;refine⟨a,λx hx hx0=>?_⟩;rcases hx with hx|rfl
    .exact b x hx hx0
    .exact(h hx0).elim
   .exactλ⟨a,b⟩=>⟨a,λx hx=>b x (.inl hx)⟩
 .dsimp only;refine dS (by omega) (congrArg (·,()) ?_);rw[amu]at hJ;have h6:=λB=>(hJ B).trans (BL (d:=d) (ak:=ak) (more:=more) names B).symm;have a:=(h6 c).1 (amC _);have b:=(h6 (sD d ak more names)).2 (amC _);omega
end Go.Proofs.Tryz
namespace Go.Proofs.Tryz
open Go Go.Fw Go.IntWalk Sp
theorem aaF{d:List aK}{i:Nat}(hi:i<d.length){neg:Bool}{r:Sp.LS}(hr:gV r (dF (bW d i).2.1 neg)){p:Nat}(hp:p<r.length)(h0:0<=aF d (r.getD p ([],())).1):
 (i,(aF d (r.getD p ([],())).1).toNat,if neg then 1 else 0)∈bY d:=by
 have hm:=getD_mem (d:=(([]:List UInt8),())) hp;have:=(hr.2 (r.getD p ([],())).1).1 hm;cases neg with
 |false=>exact wJ.2 ⟨hi,_,.inl ⟨rfl,this⟩,h0,rfl⟩
 |true=>exact wJ.2 ⟨hi,_,.inr ⟨rfl,this⟩,h0,rfl⟩
theorem IZ{d:List aK}{i j m:Nat}{neg:Bool}{r:Sp.LS}(hr:gV r (dF (bW d i).2.1 neg))(he:(i,j,m)∈bY d)(hm:m=if neg then 1 else 0):
 ∃p,p<r.length/\0<=aF d (r.getD p ([],())).1/\j=(aF d (r.getD p ([],())).1).toNat:=by
 obtain⟨_,s,h2,h3,h4⟩:=wJ.1 he;have hs:s∈dF (bW d i).2.1 neg:=by
  cases neg with
  |false=>rcases h2 with⟨_,h⟩|⟨h,_⟩;exact h;simp at hm;omega
  |true=>rcases h2 with⟨h,_⟩|⟨_,h⟩;simp at hm;omega;exact h
 have hm:=(hr.2 s).2 hs;obtain⟨p,hp,e⟩:=amx hm;have e2:r.getD p ([],())=(s,()):=by rw[alM,alO hp,e];rfl
 exact⟨p,hp,by rw[e2];exact h3,by rw[e2];exact h4⟩
theorem agI:∀x,(oI.F x).1->∃t,(oI.F x).2 t:=by rintro⟨d,ak,_⟩ hp;obtain⟨_,_,h3,h4⟩:bI d/\d.length<=5/\ak.length=d.length/\∀x∈ak,0<=x.1/\x.1<=1000000:=hp;obtain⟨r,hr⟩:=adH d ak h3 λi hi=>(h4 _ (QY (by omega))).1;exact⟨((r,()),()),hr⟩
theorem VP:OK oI.e:=by
 refine XA.ok mixed (aC [qU.e,yM.e,qR.e] ⟨NQ,WA,NM,trivial⟩) YG (agI) (by kernel_rfl) (show∀d ak,oI.goal (WC d ak) (d,ak,())from ?_);intro d ak hin hp;dsimp only[oI]at hp ⊢;obtain⟨h1,h2,h3,h4⟩:bI d/\d.length<=5/\ak.length=d.length/\∀x∈ak,0<=x.1/\x.1<=1000000:=hp;have h0:∀i,i<d.length->0<=Sp.lv ak i/\Sp.lv ak i<=1000000:=λi hi=>h4 _ (QY (by omega));have hB:∀i,i<d.length->Sp.lv ak i<=1000000:=λi hi=>(h0 i hi).2;refine⟨by rw[eY];omega,?_⟩;refine fZ (λi(x:List (Int×Unit))=>((i,()),x,())) (λy=>y.1.1) (λ_ _=>rfl) d.length (by omega) (λi cur=>DU d ak cur (1000*i) λe=>e∈bY d/\e.1<i) ((DU.start h3).weaken (by omega) λe he=>by have:=he.2;omega) (λI μ i cur hi hJ next=>?_) λI μ cur hJ=>?_
 .dsimp only;rw[amd];refine dR (by omega) ⟨⟨by omega,by omega⟩,uz h1 hi,?_⟩;rintro⟨⟨r,⟨⟩⟩,⟨⟩⟩ hr;have hr:gV r (dF (bW d i).2.1 false):=hr;have hrl:r.length<=1000:=hr.1;refine fZ (λi(x:List (Int×Unit))=>((i,()),x,())) (λy=>y.1.1) (λ_ _=>rfl) r.length (by omega) (λp cur=>DU d ak cur (1000*i) λe=>e∈bY d/\(e.1<i\/(e.1=i/\e.2.2=0/\∃p',p'<p/\e.2.1=(aF d (r.getD p' ([],())).1).toNat/\0<=aF d (r.getD p' ([],())).1))) (hJ.weaken (amC _) λe he=>⟨he.1,by rcases he.2 with h|⟨_,_,_,h,_⟩;exact h;omega⟩) (λI1 μ1 p cur hp hJ afq=>?_) λI1 μ1 cur hJ=>?_
  .dsimp only;rw[amd];have hl:=hJ.len;have hP:∀e:Nat×Nat×Nat,(e∈bY d/\(e.1<i\/(e.1=i/\e.2.2=0/\∃p',p'<p+1/\e.2.1=(aF d (r.getD p' ([],())).1).toNat/\0<=aF d (r.getD p' ([],())).1)))->
    (e∈bY d/\(e.1<i\/(e.1=i/\e.2.2=0/\∃p',p'<p/\e.2.1=(aF d (r.getD p' ([],())).1).toNat/\0<=aF d (r.getD p' ([],())).1)))\/(e=(i,(aF d (r.getD p ([],())).1).toNat,0)/\0<=aF d (r.getD p ([],())).1):=by
    rintro⟨a,b,c⟩ ⟨he,h|⟨h,h5,p',h6,h7,h8⟩⟩
    .exact .inl ⟨he,.inl h⟩
    .by_cases hpp:p'=p
     .subst hpp;have h:a=i:=h;have h5:c=0:=h5;have h7:b=(aF d (r.getD p' ([],())).1).toNat:=h7;exact .inr ⟨by rw[h,h5,h7],h8⟩
     .exact .inl ⟨he,.inr ⟨h,h5,p',by omega,h7,h8⟩⟩
   refine dR (by omega) ⟨⟨by omega,by omega⟩,trivial,af (λh=>?_) λh=>⟨rfl,afq _ (hJ.weaken (amC _) λe he=>?_)⟩⟩
   .have h:0<=aF d (r.getD p ([],())).1:=iF h;have hlt:=Ei h;have he:=aaF hi hr hp h;refine⟨⟨h,by omega⟩,by omega,⟨by omega,by omega⟩,by omega,af (λhc=>⟨⟨h,by omega⟩,by omega,⟨by omega,by omega⟩,by omega,rfl,afq _ ?_⟩) λhc=>⟨rfl,afq _ ?_⟩⟩
    .have hc:Sp.lv cur i<Sp.lv cur (aF d (r.getD p ([],())).1).toNat:=iF hc;have:=hJ.set he (by show _<_+((0:Nat):Int);omega);have e0:Sp.lv cur (aF d (r.getD p ([],())).1).toNat+((if false=true then 1 else 0:Nat):Int)=Sp.lv cur (aF d (r.getD p ([],())).1).toNat:=by show _+((0:Nat):Int)=_;omega
     rw[e0]at this;exact this.weaken (by show 1000*(i:Int)+((0:Nat):Int)<=_;omega) λe he=>(hP e he).imp_right λh=>h.1
    .have hc:¬Sp.lv cur i<Sp.lv cur (aF d (r.getD p ([],())).1).toNat:=iI hc;have:=hJ.still he (by show _+((0:Nat):Int)<=_;omega);exact this.weaken (amC _) λe he=>(hP e he).imp_right λh=>h.1
   .have h:¬0<=aF d (r.getD p ([],())).1:=iI h;rcases hP e he with h'|h'
    .exact h'
    .exact(h h'.2).elim
  .dsimp only;have hJ2:DU d ak cur (1000*i) λe=>e∈bY d/\(e.1<i\/(e.1=i/\e.2.2=0)):=hJ.weaken (amC _) λe he=>⟨he.1,he.2.imp_right λh=>⟨h.1,h.2,by obtain⟨a,b,c⟩:=e;obtain⟨he,_⟩:=he;obtain⟨h,h5⟩:=h;have h:a=i:=h;have h5:c=0:=h5;subst h h5;obtain⟨p,q1,q2,q3⟩:=IZ hr he rfl;exact⟨p,q1,q3,q2⟩⟩⟩;clear hJ;refine dS (by omega) ⟨⟨by omega,by omega⟩,uz h1 hi,?_⟩;rintro⟨⟨r2,⟨⟩⟩,⟨⟩⟩ hr2;have hr2:gV r2 (dF (bW d i).2.1 true):=hr2;have hrl2:r2.length<=1000:=hr2.1;refine fZ (λi(x:List (Int×Unit))=>((i,()),x,())) (λy=>y.1.1) (λ_ _=>rfl) r2.length (by omega) (λp cur=>DU d ak cur (1000*i+p) λe=>e∈bY d/\(e.1<i\/(e.1=i/\e.2.2=0)\/(e.1=i/\e.2.2=1/\∃p',p'<p/\e.2.1=(aF d (r2.getD p' ([],())).1).toNat/\0<=aF d (r2.getD p' ([],())).1))) (hJ2.weaken (by omega) λe he=>⟨he.1,by rcases he.2 with h|h|⟨_,_,_,h,_⟩;exact .inl h;exact .inr h;omega⟩) (λI2 μ2 p cur hp hJ afr=>?_) λI2 μ2 cur hJ=>?_
   .dsimp only;rw[amd];have hl:=hJ.len;have hP:∀e:Nat×Nat×Nat,(e∈bY d/\(e.1<i\/(e.1=i/\e.2.2=0)\/(e.1=i/\e.2.2=1/\∃p',p'<p+1/\e.2.1=(aF d (r2.getD p' ([],())).1).toNat/\0<=aF d (r2.getD p' ([],())).1)))->
     (e∈bY d/\(e.1<i\/(e.1=i/\e.2.2=0)\/(e.1=i/\e.2.2=1/\∃p',p'<p/\e.2.1=(aF d (r2.getD p' ([],())).1).toNat/\0<=aF d (r2.getD p' ([],())).1)))\/(e=(i,(aF d (r2.getD p ([],())).1).toNat,1)/\0<=aF d (r2.getD p ([],())).1):=by
     rintro⟨a,b,c⟩ ⟨he,h|h|⟨h,h5,p',h6,h7,h8⟩⟩
     .exact .inl ⟨he,.inl h⟩
     .exact .inl ⟨he,.inr (.inl h)⟩
     .by_cases hpp:p'=p
      .subst hpp;have h:a=i:=h;have h5:c=1:=h5;have h7:b=(aF d (r2.getD p' ([],())).1).toNat:=h7;exact .inr ⟨by rw[h,h5,h7],h8⟩
      .exact .inl ⟨he,.inr (.inr ⟨h,h5,p',by omega,h7,h8⟩)⟩
    refine dR (by omega) ⟨⟨by omega,by omega⟩,trivial,af (λh=>?_) λh=>⟨rfl,afr _ (hJ.weaken (by omega) λe he=>?_)⟩⟩
    .have h:0<=aF d (r2.getD p ([],())).1:=iF h;have hlt:=Ei h;have he:=aaF hi hr2 hp h;have hg:=hJ.grow 1000000 hB (aF d (r2.getD p ([],())).1).toNat (by omega);have hu:=hJ.up (aF d (r2.getD p ([],())).1).toNat (by omega);have hz:=(h0 (aF d (r2.getD p ([],())).1).toNat (by omega)).1;have hw:IntKind.i64.wrap (Sp.lv cur (aF d (r2.getD p ([],())).1).toNat+1)=Sp.lv cur (aF d (r2.getD p ([],())).1).toNat+1:=fU _ (by omega);have e2:(cur.getD (aF d (r2.getD p ([],())).1).toNat (0,())).1=Sp.lv cur (aF d (r2.getD p ([],())).1).toNat:=rfl;rw[e2,hw];refine⟨⟨h,by omega⟩,by omega,⟨by omega,by omega⟩,by omega,af (λhc=>⟨⟨h,by omega⟩,by omega,⟨by omega,by omega⟩,by omega,rfl,afr _ ?_⟩) λhc=>⟨rfl,afr _ ?_⟩⟩
     .have hc:Sp.lv cur i<Sp.lv cur (aF d (r2.getD p ([],())).1).toNat+1:=iF hc;have:=hJ.set he (by show _<_+((1:Nat):Int);omega);exact this.weaken (by show 1000*(i:Int)+p+((1:Nat):Int)<=_;omega) λe he=>(hP e he).imp_right λh=>h.1
     .have hc:¬Sp.lv cur i<Sp.lv cur (aF d (r2.getD p ([],())).1).toNat+1:=iI hc;have:=hJ.still he (by show _+((1:Nat):Int)<=_;omega);exact this.weaken (by omega) λe he=>(hP e he).imp_right λh=>h.1
    .have h:¬0<=aF d (r2.getD p ([],())).1:=iI h;rcases hP e he with h'|h'
     .exact h'
     .exact(h h'.2).elim
   .dsimp only;refine dS (by omega) ⟨rfl,next _ (hJ.weaken (by omega) λe he=>⟨he.1,?_⟩)⟩;obtain⟨a,b,c⟩:=e;obtain⟨he,h⟩:=he;have h:a<i+1:=h;rcases al4 a i with h'|h'
    .exact .inl h'
    .have:a=i:=by omega
     subst this;obtain⟨_,_,hc⟩:=jf d _ he;have hc:c<=1:=hc;rcases anv c with hc0|hc0
     .exact .inr (.inl ⟨rfl,hc0⟩)
     .have hc1:c=1:=by omega
      subst hc1;obtain⟨p,q1,q2,q3⟩:=IZ hr2 he rfl;exact .inr (.inr ⟨rfl,rfl,p,q1,q3,q2⟩)
 .dsimp only;refine dS (by omega) ?_;exact hJ.raised (by omega) (λe he=>⟨he,(jf d e he).1⟩) λi hi=>(h0 i hi).1
end Go.Proofs.Tryz
namespace Go.Proofs.Tryz
open Go Go.Fw Go.IntWalk Sp
theorem QJ{d:List aK}{ak r:List (Int×Unit)}(h:Sp.raised d ak r)(h0:∀i,i<d.length->0<=Sp.lv ak i)(hp:gq (bY d) λi=>(Sp.lv ak i).toNat):∀i,i<d.length->Sp.lv r i=Sp.lv ak i:=by obtain⟨_,h2,_,_,h5⟩:=h;intro i hi;have a:Sp.lv ak i<=Sp.lv r i:=h2 i hi;have b:Sp.lv r i<=((Sp.lv ak i).toNat:Int):=h5 _ hp (λj hj=>by have:=h0 j hj;show Sp.lv ak j<=((Sp.lv ak j).toNat:Int);omega) i hi;have:=h0 i hi;omega
theorem acF{d:List aK}{ak r:List (Int×Unit)}(h:Sp.raised d ak r)(hp:¬gq (bY d) λi=>(Sp.lv ak i).toNat):∃i,i<d.length/\Sp.lv ak i<Sp.lv r i:=by obtain⟨_,h2,_,h4,_⟩:=h;refine amo λhno=>hp (h4 λi hi=>?_);have a:Sp.lv ak i<=Sp.lv r i:=h2 i hi;have b:¬Sp.lv ak i<Sp.lv r i:=λh=>hno ⟨i,hi,h⟩;show Sp.lv r i=Sp.lv ak i;omega
theorem aau{d:List aK}(h1:eF d=true){L:Nat->Nat}(h2:gq (bY d) L):ax d=true:=jO.2 ⟨h1,L,h2⟩
theorem acG{d:List aK}(h:∀M,gq (bY d) M->(∀i,i<d.length->M i<d.length)->False):ax d=false:=by rw[anA];intro h1;obtain⟨_,h2⟩:=jO.1 h1;obtain⟨M,h3,h4⟩:=G6 (jf d) h2;exact h M h3 h4
theorem aav{d:List aK}(h:eF d=false):ax d=false:=by rw[anA];intro h1;rw[(jO.1 h1).1]at h;cases h
theorem KP(n i:Nat):Sp.lv (List.replicate n (0,())) i=0:=by
 unfold Sp.lv;rw[alM];by_cases h:i<n
 .rw[anI,if_pos h];rfl
 .rw[amz (by simp;omega)];rfl
theorem MS{d:List aK}(h:ax d=true):∃s,jI d s:=by obtain⟨hok,h2⟩:=jO.1 h;exact afb (G6 (jf d) h2)
theorem XW{d:List aK}:∃s:List (Int×Unit),(ax d=true->jI d s)/\(ax d=false->s=[]):=by
 cases h:ax d with
 |true=>obtain⟨s,hs⟩:=MS h;exact⟨s,λ_=>hs,λh=>by cases h⟩
 |false=>exact⟨[],λh=>(by cases h),λ_=>rfl⟩
theorem KQ:OK xK.e:=by
 refine XA.ok mixed (aC [vz.e,oI.e,rW.e] ⟨IY,VP,OC,trivial⟩) aa1 (λ⟨d,_⟩ hp=>by obtain⟨s,h1,h2⟩:=XW (d:=d);exact⟨(((s,ax d,()),())),⟨rfl,h1,h2⟩⟩) (by kernel_rfl) (show∀d,xK.goal (Zt d) (d,())from ?_);intro d hin hp;dsimp only[xK]at hp ⊢;have hp:bI d:=hp;refine⟨hp,af (λh=>⟨(aav (gW h)).symm,λh=>(by cases h),λ_=>rfl⟩) λh=>?_⟩;have hok:=dM h;have hlen:=MV hok;refine⟨⟨by omega,by omega,by rw[eY];omega⟩,?_⟩;have hnn:d.length*d.length<=25:=aoV hlen hlen;have e1:(d.length:Int)*(d.length:Int)=((d.length*d.length:Nat):Int):=by simp
 have w:IntKind.i64.wrap (IntKind.i64.wrap ((d.length:Int)*(d.length:Int))+1)=((d.length*d.length:Nat):Int)+1:=by rw[e1,fU ((d.length*d.length:Nat):Int) (by omega)];exact fU _ (by omega)
 rw[w];have hmem:∀ak:List (Int×Unit),ak.length=d.length->∀k:Nat,k<=27->(∀i,i<d.length->0<=Sp.lv ak i/\Sp.lv ak i<=5000*k)->∀x∈ak,0<=x.1/\x.1<=1000000:=λak hl k hk h=>
  acH (p:=λz=>0<=z/\z<=1000000) λi hi=>by have:=h i (by omega);omega
 refine fZ (λi(x:List (Int×Unit))=>((x,i,()),())) (λy=>y.1.2.1) (λ_ _=>rfl) (d.length*d.length+2) (by omega)
  (λk ak=>ak.length=d.length/\(∀i,i<d.length->0<=Sp.lv ak i/\Sp.lv ak i<=5000*k)/\(∀M,gq (bY d) M->∀i,i<d.length->Sp.lv ak i<=M i)/\((gq (bY d) λi=>(Sp.lv ak i).toNat)\/(k:Int)<=tH ak d.length))
  ⟨by simp,λi hi=>by rw[amd,KP];omega,λM hM i hi=>by rw[amd,KP];omega,.inr (QK _ λi hi=>by rw[amd,KP];omega)⟩ (λI μ k ak hk hJ next=>?_) λI μ ak hJ=>?_
 .obtain⟨g1,g2,g3,g4⟩:=hJ;dsimp only;refine dR (by omega) ⟨⟨hp,hlen,g1,hmem ak g1 k (by omega) g2⟩,?_⟩;rintro⟨⟨r,⟨⟩⟩,⟨⟩⟩ hr;have hr:Sp.raised d ak r:=hr;have hr':=hr;obtain⟨q1,q2,q3,q4,q5⟩:=hr';have hup:∀i,i<d.length->Sp.lv ak i<=Sp.lv r i:=q2;refine⟨rfl,next r ⟨q1,λi hi=>?_,λM hM i hi=>q5 M hM (g3 M hM) i hi,?_⟩⟩
  .have a:=hup i hi;have b:=q3 (5000*k) (λj hj=>(g2 j hj).2) i hi;have b:Sp.lv r i<=5000*k+5000:=b;have c:=g2 i hi;omega
  .by_cases hpf:gq (bY d) λi=>(Sp.lv ak i).toNat
   .left;have hs:=QJ hr (λi hi=>(g2 i hi).1) hpf;intro e he;have:=hpf e he;obtain⟨a,b,_⟩:=jf d e he;dsimp only at this ⊢;rw[hs _ a,hs _ b];exact this
   .right;have hm:=VQ d.length hup (acF hr hpf);rcases g4 with g4|g4
    .exact(hpf g4).elim
    .omega
 .obtain⟨g1,g2,g3,g4⟩:=hJ;dsimp only;refine dS (by omega) ⟨⟨hp,hlen,g1,hmem ak g1 _ (by omega) g2⟩,?_⟩;rintro⟨⟨r,⟨⟩⟩,⟨⟩⟩ hr;have hr:Sp.raised d ak r:=hr;refine⟨trivial,af (λhne=>?_) λhe=>?_⟩
  .have hne:¬r=ak:=iI (gW hne);refine⟨(acG λM hM hb=>?_).symm,λh=>(by cases h),λ_=>rfl⟩;rcases g4 with g4|g4
   .exact hne (agx (by rw[hr.1,g1]) λi hi=>QJ hr (λi hi=>(g2 i hi).1) g4 i (by rw[← hr.1];exact hi))
   .have:=Jv (a:=ak) (b:=d.length) d.length λi hi=>by have a:=g3 M hM i hi;have b:=hb i hi;omega
    omega
  .have he:r=ak:=iF (dM he);subst he;have hpf:=hr.2.2.2.1 λi hi=>rfl;obtain⟨M,hM,hb⟩:=G6 (jf d) ⟨_,hpf⟩;exact⟨(aau hok hpf).symm,λ_=>⟨g1,λi hi=>⟨(g2 i hi).1,by have a:=g3 M hM i hi;have b:=hb i hi;omega⟩,hpf,g3⟩,λh=>by cases h⟩
theorem KR:OK xJ.e:=by
 refine XA.ok mixed (aC [qQ.e,su.e,qP.e,rX.e] ⟨MW,OD,MX,OE,trivial⟩) aa2 (λ⟨d,_⟩ hp=>by obtain⟨s,h1,h2⟩:=XW (d:=d);exact⟨(((s,ax d,()),())),⟨rfl,h1⟩⟩) (by kernel_rfl) (show∀d,xJ.goal (Zu d) (d,())from ?_);intro d hin hp;dsimp only[xJ]at hp ⊢;have hp:bI d:=hp;refine⟨hp,af (λh=>⟨(aav (gW h)).symm,λh=>by cases h⟩) λh=>?_⟩;have hok:=dM h;have hlen:=MV hok;refine⟨⟨by omega,by omega,by rw[eY];omega⟩,?_⟩;have hmem:∀ak:List (Int×Unit),ak.length=d.length->(∀i,i<d.length->0<=Sp.lv ak i/\Sp.lv ak i<=d.length)->∀x∈ak,0<=x.1/\x.1<=1000000:=λak hl h=>
  acH (p:=λz=>0<=z/\z<=1000000) λi hi=>by have:=h i (by omega);omega
 refine⟨λy=>y.2.1.length=d.length/\(∀i,i<d.length->0<=Sp.lv y.2.1 i/\Sp.lv y.2.1 i<=d.length)/\(∀M,gq (bY d) M->∀i,i<d.length->Sp.lv y.2.1 i<=M i)/\(y.1.1=false->gq (bY d) λi=>(Sp.lv y.2.1 i).toNat),
  λy=>(((d.length*d.length:Nat):Int)-tH y.2.1 d.length).toNat*2+(if y.1.1=true then 1 else 0),⟨by simp,λi hi=>by rw[amd,KP];omega,λM hM i hi=>by rw[amd,KP];omega,λh=>by cases h⟩,?_⟩
 rintro⟨⟨ch,⟨⟩⟩,ak,⟨⟩⟩ ⟨g1,g2,g3,g4⟩;dsimp only at g1 g2 g3 g4 ⊢;refine af (λhch=>?_) λhch=>⟨(aau hok (g4 hch)).symm,λ_=>⟨g1,g2,g4 hch,g3⟩⟩;subst hch;refine fZ (λi(x:Bool×List (Int×Unit))=>((x.1,i,()),x.2,())) (λy=>y.1.2.1) (λ_ _=>rfl) d.length (by omega)
  (λi(x:Bool×List (Int×Unit))=>x.2.length=d.length/\(∀i,i<d.length->Sp.lv ak i<=Sp.lv x.2 i/\Sp.lv x.2 i<=d.length)/\(∀M,gq (bY d) M->∀i,i<d.length->Sp.lv x.2 i<=M i)/\
    (x.1=true->tH ak d.length<tH x.2 d.length)/\(x.1=false->x.2=ak/\∀e∈bY d,e.1<i->Sp.lv ak e.2.1+e.2.2<=Sp.lv ak e.1))
  (s0:=(false,ak)) ⟨g1,λi hi=>⟨amC _,(g2 i hi).2⟩,g3,λh=>(by cases h),λ_=>⟨rfl,λe _ h=>by omega⟩⟩ (λI μ i x hi hJ next=>?_) λI μ x hJ=>?_
 .obtain⟨c,cur⟩:=x;obtain⟨q1,q2,q3,q4,q5⟩:=hJ;have q1:cur.length=d.length:=q1;have hcur:∀i,i<d.length->0<=Sp.lv cur i/\Sp.lv cur i<=d.length:=λi hi=>⟨Int.le_trans (g2 i hi).1 (q2 i hi).1,(q2 i hi).2⟩;have hm:=hmem cur q1 hcur;dsimp only;rw[amd];refine dR (by omega) ⟨⟨by omega,by omega⟩,uz hp hi,?_⟩;rintro⟨⟨r4,⟨⟩⟩,⟨⟩⟩ hr4;have hr4:gV r4 (dF (bW d i).2.1 false):=hr4;refine⟨⟨by omega,hr4.1,by omega,by omega,hm⟩,uz hp hi,?_⟩;rintro⟨⟨r6,⟨⟩⟩,⟨⟩⟩ hr6;have hr6:gV r6 (dF (bW d i).2.1 true):=hr6;refine⟨⟨by omega,hr6.1,by omega,by omega,hm⟩,?_⟩;dsimp only;have hle:∀M,gq (bY d) M->sD d cur 0 r4<=M i/\sD d cur 1 r6<=M i:=by
   intro M hM;refine⟨(BL r4 _).2 ⟨by omega,λx hx h0=>?_⟩,(BL r6 _).2 ⟨by omega,λx hx h0=>?_⟩⟩
   .have he:=wJ.2 ⟨hi,x.1,.inl ⟨rfl,(hr4.2 x.1).1 hx⟩,h0,rfl⟩;have a:=hM _ he;have a:M (aF d x.1).toNat+0<=M i:=a;have b:=q3 M hM _ (jf d _ he).2.1;have b:Sp.lv cur (aF d x.1).toNat<=M (aF d x.1).toNat:=b;omega
   .have he:=wJ.2 ⟨hi,x.1,.inr ⟨rfl,(hr6.2 x.1).1 hx⟩,h0,rfl⟩;have a:=hM _ he;have a:M (aF d x.1).toNat+1<=M i:=a;have b:=q3 M hM _ (jf d _ he).2.1;have b:Sp.lv cur (aF d x.1).toNat<=M (aF d x.1).toNat:=b;omega
  have hge:∀e∈bY d,e.1=i->Sp.lv cur e.2.1+e.2.2<=sD d cur 0 r4\/Sp.lv cur e.2.1+e.2.2<=sD d cur 1 r6:=by
   rintro⟨a,b,m⟩ he ha;have ha:a=i:=ha;subst ha;have hm1:m<=1:=(jf d _ he).2.2;rcases anv m with h|h
   .subst h;obtain⟨p,p1,p2,p3⟩:=IZ hr4 he rfl;left;have:=((BL (d:=d) (ak:=cur) (more:=0) r4 _).1 (amC _)).2 _ (getD_mem (d:=(([]:List UInt8),())) p1) p2;show Sp.lv cur b+((0:Nat):Int)<=_;rw[p3];omega
   .have:m=1:=by omega
    subst this;obtain⟨p,p1,p2,p3⟩:=IZ hr6 he rfl;right;have:=((BL (d:=d) (ak:=cur) (more:=1) r6 _).1 (amC _)).2 _ (getD_mem (d:=(([]:List UInt8),())) p1) p2;show Sp.lv cur b+((1:Nat):Int)<=_;rw[p3];omega
  generalize sD d cur 0 r4=u at hle hge ⊢;generalize sD d cur 1 r6=v at hle hge ⊢;have hv:∃z,(if v>u then v else u)=z/\u<=z/\v<=z/\(z=u\/z=v):=by refine⟨_,rfl,?_,?_,?_⟩<;>split<;>omega
  obtain⟨z,ez,hz1,hz2,hz3⟩:=hv;rw[ez];have e2:(cur.getD i (0,())).1=Sp.lv cur i:=rfl;rw[e2];refine af (λhbig=>?_) λhbig=>⟨⟨by omega,by omega⟩,by omega,af (λhup=>⟨⟨by omega,by omega⟩,by omega,rfl,next (true,cur.set i (z,())) ?_⟩) λhup=>⟨rfl,next (c,cur) ?_⟩⟩
  .have hbig:z>(d.length:Int):=iF hbig;refine⟨(acG λM hM hb=>?_).symm,λh=>by cases h⟩;have a:=hle M hM;have b:=hb i hi;omega
  .have hbig:¬z>(d.length:Int):=iI hbig;have hup:z>Sp.lv cur i:=iF hup;have hs:=λk=>acI (l:=cur) (i:=i) (by omega) z k;refine⟨by simp;omega,λk hk=>?_,λM hM k hk=>?_,λ_=>?_,λh=>by cases h⟩
   .dsimp only;rw[hs];have:=q2 k hk;dsimp only at this;split
    .next e=>subst e;omega
    .exact this
   .dsimp only;rw[hs];split
    .next e=>subst e;have:=hle M hM;omega
    .exact q3 M hM k hk
   .have a:=VR (a:=ak) (b:=cur) d.length λk hk=>(q2 k hk).1;have hsk:∀k,k<d.length->Sp.lv cur k<=Sp.lv (cur.set i (z,())) k:=λk hk=>by
     rw[hs];split
     .next e=>subst e;omega
     .exact amC _
    have b:=VQ (a:=cur) (b:=cur.set i (z,())) d.length hsk ⟨i,hi,by rw[hs,if_pos rfl];omega⟩;show tH ak d.length<tH (cur.set i (z,())) d.length;omega
  .have hup:¬z>Sp.lv cur i:=iI hup;refine⟨q1,q2,q3,q4,λh=>?_⟩;obtain⟨a,b⟩:=q5 h;have a:cur=ak:=a;subst a;refine⟨rfl,λe he hlt=>?_⟩;rcases al4 e.1 i with h'|h'
   .exact b e he h'
   .have KA:e.1=i:=by omega
    have:=hge e he KA;rw[KA];omega
 .obtain⟨c,cur⟩:=x;obtain⟨q1,q2,q3,q4,q5⟩:=hJ;dsimp only at q1 q2 q3 q4 q5 ⊢;have hcur:∀i,i<d.length->0<=Sp.lv cur i/\Sp.lv cur i<=d.length:=λi hi=>⟨Int.le_trans (g2 i hi).1 (q2 i hi).1,(q2 i hi).2⟩;have hsum:=Jv (a:=cur) (b:=d.length) d.length λi hi=>(q2 i hi).2;refine dS (by omega) ⟨rfl,⟨q1,hcur,q3,λhc e he=>?_⟩,?_⟩
  .obtain⟨a,b⟩:=q5 hc;subst a;obtain⟨x1,x2,_⟩:=jf d e he;have:=b e he x1;have y1:=(hcur _ x1).1;have y2:=(hcur _ x2).1;dsimp only;omega
  .cases c with
   |true=>
    have:=q4 rfl;simp only[if_true];omega
   |false=>obtain⟨a,_⟩:=q5 rfl;subst a;simp
end Go.Proofs.Tryz
