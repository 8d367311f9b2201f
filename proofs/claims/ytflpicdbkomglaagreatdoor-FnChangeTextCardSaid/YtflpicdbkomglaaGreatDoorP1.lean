import Derived.Test.YtflpicdbkomglaaGreatDoorV1
import Derived.Test.YtflpicdbkomglaaGreatDoorSp
import Derived.Test.YtflpicdbkomglaaGreatDoorV2
import Derived.Test.YtflpicdbkomglaaGreatDoorFwC
import Derived.Test.YtflpicdbkomglaaGreatDoorV5
namespace Go.Proofs.Tryz
open Go Go.Fw Go.IntWalk Sp
theorem agk(x y:Int)(m:Nat)(hm:m<9223372036854775807)(hy:(BitVec.ofInt 64 y).toNat=m):0<=bitsOf .and .i64 x y/\bitsOf .and .i64 x y<=m:=by
 have h:(BitVec.ofInt 64 x&&&BitVec.ofInt 64 y).toNat<=m:=by rw[BitVec.toNat_and,hy];exact Nat.and_le_right
 show 0<=IntKind.i64.wrap ((BitVec.ofInt 64 x&&&BitVec.ofInt 64 y).toNat:Int)/\IntKind.i64.wrap ((BitVec.ofInt 64 x&&&BitVec.ofInt 64 y).toNat:Int)<=m;generalize (BitVec.ofInt 64 x&&&BitVec.ofInt 64 y).toNat=z at h ⊢;rw[gJ _ (by omega)];omega
theorem agl(x:Int):0<=bitsOf .and .i64 x 255/\bitsOf .and .i64 x 255<=255:=agk x 255 255 (by omega) (by decide)
theorem Ae:OK qI.e:=by
 refine QA.ok mixed (aQ [] trivial) aaJ (λ⟨_,⟨⟩⟩ _=>⟨([],0,0,()),rfl⟩) (by kernel_rfl) (show∀code,qI.goal (Y3 code) (code,())from ?_);intro code hin hp;dsimp only[qI]at hp ⊢;have hp:code.length<=1048576:=hp;refine⟨λy=>∃n:Nat,y.1.2.1=n/\n<=code.length,λy=>((code.length:Int)-y.1.2.1).toNat,⟨0,rfl,by omega⟩,?_⟩;rintro⟨⟨h,_,⟨⟩⟩,⟨⟩⟩ ⟨n,rfl,hn⟩;dsimp only;refine af (λhc=>?_) λhc=>?_
 .simp only[anl]at hc;cases decide ((n:Int)<4000)with
  |false=>exact rfl
  |true=>
   have e:IntKind.i64.wrap ((n:Int)+1)=((n+1:Nat):Int):=gJ _ (by omega);refine⟨?_,?_,?_,?_⟩
   .exact⟨by omega,hc⟩
   .exact rfl
   .exact⟨n+1,e,by omega⟩
   show((code.length:Int)-IntKind.i64.wrap ((n:Int)+1)).toNat<((code.length:Int)-n).toNat;rw[e];omega
 .exact rfl
theorem Xj:OK zO.e:=by
 refine XA.ok mixed (aQ [] trivial) H0 (λ_ _=>⟨(((0:Int),()),(([],0,0,()),())),⟨by decide,by decide,by decide⟩⟩) (by kernel_rfl) (show∀c0 c1 c2,zO.goal (Xk c0 c1 c2) ((c0,c1,c2,()),())from ?_);intro b i h hin hp;dsimp only[zO]at hp ⊢;have hp:0<=i:=hp;refine⟨by decide,by decide,af (λhc=>?_) λhc=>?_⟩<;>simp only[anl,an1]at hc
 .have hl:b.length<=maxLen:=hin.1.1.1;rw[maxLen_eq]at hl;refine⟨⟨hp,hc⟩,?_,agl _⟩;show 0<=IntKind.i64.wrap (i+1);rw[gJ _ (by omega)];omega
 .exact⟨hp,agl _⟩
theorem tmod_lt{a n:Int}(ha:0<=a)(hn:0<n):0<=a.tmod n/\a.tmod n<n:=⟨ap9 n ha,Int.tmod_lt_of_pos a hn⟩
theorem dD:OK bT.e:=by
 refine XA.ok mixed (aQ [zO.e] ⟨Xj,trivial⟩) H0 (λ⟨_,n,⟨⟩⟩ _=>⟨(((0:Int),()),(([],0,0,()),())),⟨aol _,aol _,λh=>h,λ_=>rfl⟩⟩) (by kernel_rfl) (show∀c0 c1 c2 n,bT.goal (VT c0 c1 c2 n) ((c0,c1,c2,()),n,())from ?_);intro b i h n hin hp;dsimp only[bT]at hp ⊢;have hp:0<=i:=hp;refine af (λhc=>?_) λhc=>?_<;>simp only[anl,an1]at hc
 .exact⟨hp,aol _,λh=>(by omega),λ_=>rfl⟩
 .refine af (λhc2=>?_) λhc2=>?_
  .refine⟨hp,?_⟩;rintro⟨⟨x,⟨⟩⟩,⟨b',i',h',⟨⟩⟩,⟨⟩⟩ ⟨h1,h2,h3⟩;dsimp only at h1 h2 h3 ⊢;have:=tmod_lt h2 (show 0<n by omega);exact⟨by omega,h1,this.1,λ_=>this.2,λh=>(by omega)⟩
  .refine⟨hp,?_⟩;rintro⟨⟨x1,⟨⟩⟩,⟨b1,i1,g1,⟨⟩⟩,⟨⟩⟩ ⟨h1,h2,h3⟩;refine⟨h1,?_⟩;rintro⟨⟨x2,⟨⟩⟩,⟨b2,i2,g2,⟨⟩⟩,⟨⟩⟩ ⟨k1,k2,k3⟩;refine⟨k1,?_⟩;rintro⟨⟨x3,⟨⟩⟩,⟨b3,i3,g3,⟨⟩⟩,⟨⟩⟩ ⟨l1,l2,l3⟩;refine⟨l1,?_⟩;rintro⟨⟨x4,⟨⟩⟩,⟨b4,i4,g4,⟨⟩⟩,⟨⟩⟩ ⟨m1,m2,m3⟩;dsimp only at*;rw[gJ (x1*16777216) (by omega),gJ (x2*65536) (by omega),gJ (x3*256) (by omega),gJ (x1*16777216+x2*65536) (by omega),gJ (x1*16777216+x2*65536+x3*256) (by omega),gJ (x1*16777216+x2*65536+x3*256+x4) (by omega)];have:=tmod_lt (a:=x1*16777216+x2*65536+x3*256+x4) (n:=n) (by omega) (by omega);exact⟨by omega,m1,this.1,λ_=>this.2,λh=>(by omega)⟩
theorem uU:OK kK.e:=by refine XA.ok mixed (aQ [bT.e] ⟨dD,trivial⟩) H0 (λ_ _=>⟨((false,()),(([],0,0,()),())),aol _⟩) (by kernel_rfl) (show∀c0 c1 c2 n,kK.goal (Xl c0 c1 c2 n) ((c0,c1,c2,()),n,())from ?_);intro b i h n hin hp;dsimp only[kK]at hp ⊢;refine⟨hp,?_⟩;rintro⟨⟨x,⟨⟩⟩,⟨b',i',h',⟨⟩⟩,⟨⟩⟩ ⟨h1,_⟩;exact h1
theorem fU:OK dY.e:=by refine XA.ok mixed (aQ [bT.e] ⟨dD,trivial⟩) H0 (λ⟨_,l,⟨⟩⟩⟨_,hl⟩=>(match l,hl with|x::_,_=>⟨((x.1,()),(([],0,0,()),())),⟨aol _,anp⟩⟩)) (by kernel_rfl) (show∀c0 c1 c2 list,dY.goal (Xm c0 c1 c2 list) ((c0,c1,c2,()),list,())from ?_);intro b i h l hin hp;dsimp only[dY]at hp ⊢;obtain⟨hp,hl⟩:=hp;have hpos:0<l.length:=aoZ.2 hl;refine⟨hp,?_⟩;rintro⟨⟨x,⟨⟩⟩,⟨b',i',h',⟨⟩⟩,⟨⟩⟩ ⟨h1,h2,h3,_⟩;have h3:x<(l.length:Int):=h3 (by omega);refine⟨⟨h2,h3⟩,h1,?_⟩;exact getD_mem (by dsimp only at h2;omega)
theorem jh:OK gm.e:=by refine XA.ok mixed (aQ [bT.e] ⟨dD,trivial⟩) H0 (λ⟨_,l,⟨⟩⟩⟨_,hl⟩=>(match l,hl with|x::_,_=>⟨((x.1,()),(([],0,0,()),())),⟨aol _,anp⟩⟩)) (by kernel_rfl) (show∀c0 c1 c2 list,gm.goal (Rt c0 c1 c2 list) ((c0,c1,c2,()),list,())from ?_);intro b i h l hin hp;dsimp only[gm]at hp ⊢;obtain⟨hp,hl⟩:=hp;have hpos:0<l.length:=aoZ.2 hl;refine⟨hp,?_⟩;rintro⟨⟨x,⟨⟩⟩,⟨b',i',h',⟨⟩⟩,⟨⟩⟩ ⟨h1,h2,h3,_⟩;have h3:x<(l.length:Int):=h3 (by omega);refine⟨⟨h2,h3⟩,h1,?_⟩;exact getD_mem (by dsimp only at h2;omega)
theorem Xn:OK zQ.e:=by refine XA.ok mixed (aQ [dY.e] ⟨fU,trivial⟩) H0 (λ_ _=>⟨(([],()),(([],0,0,()),())),⟨by decide,by decide⟩⟩) (by kernel_rfl) (show∀c0 c1 c2,zQ.goal (Xo c0 c1 c2) ((c0,c1,c2,()),())from ?_);intro b i h hin hp;dsimp only[zQ]at hp ⊢;refine⟨⟨hp,by simp⟩,?_⟩;rintro⟨⟨x,⟨⟩⟩,⟨b',i',h',⟨⟩⟩,⟨⟩⟩ ⟨h1,h2⟩;refine⟨h1,?_⟩;exact(show∀y∈_,List.length y.1<=1 from by decide) _ h2
theorem xM:OK nK.e:=by refine PA.ok mixed (aQ [] trivial) H0 (by kernel_rfl) (show∀n,nK.goal (VU n) (n,())from ?_);intro n hin hp;dsimp only[nK]at hp ⊢;exact rfl
theorem oU:OK jc.e:=by refine PA.ok mixed (aQ [] trivial) H0 (by kernel_rfl) (show∀w,jc.goal (PI w) (w,())from ?_);intro n hin hp;dsimp only[jc]at hp ⊢;exact rfl
theorem VW:OK yY.e:=by
 refine XA.ok mixed (aQ [jc.e,dY.e,nK.e,bT.e] ⟨oU,fU,xM,dD,trivial⟩) H0 (λ_ _=>⟨((((0:Int),(0:Int),([]:List UInt8),()),()),(([],0,0,()),())),⟨by decide,by decide⟩⟩) (by kernel_rfl) (show∀c0 c1 c2,yY.goal (VX c0 c1 c2) ((c0,c1,c2,()),())from ?_);intro b i h hin hp;dsimp only[yY]at hp ⊢;have hp:0<=i:=hp
 repeat' first
  |exact trivial
  |refine af (λ_=>?_) λ_=>?_
  |refine And.intro ?_ ?_
  |(intro r hr;simp only[]at hr)
  |intro r hr
 all_goals first
  |omega
  |(dsimp only at*;omega)
  |exact hr
  |(simp only[ang,ne_eq]at*;omega)
  |(simp only[anR,anv,anf,anh,anj];omega)
  |(rw[yx];simp only[anR,anv,anf,anh,anj];omega)
  |(simp only[anR,anv,anf,anh,anj]at*;omega)
  |exact(show∀y∈_,List.length y.1<=10 from by decide) _ hr.2
  |(simp;done)
  |skip
theorem MH:OK yg.e:=by
 refine XA.ok mixed (aQ [dY.e,gm.e,bT.e,yY.e] ⟨fU,jh,dD,VW,trivial⟩) H0 (λ_ _=>⟨((((0:Int),(0:Int),([]:List UInt8),()),()),(([],0,0,()),())),⟨by decide,by decide⟩⟩) (by kernel_rfl) (show∀c0 c1 c2,yg.goal (Y4 c0 c1 c2) ((c0,c1,c2,()),())from ?_);intro b i h hin hp;dsimp only[yg]at hp ⊢;have hp:0<=i:=hp
 repeat' first
  |exact trivial
  |refine af (λ_=>?_) λ_=>?_
  |refine And.intro ?_ ?_
  |(intro r hr;simp only[]at hr)
  |intro r hr
 all_goals first
  |omega
  |(dsimp only at*;omega)
  |exact hr
  |(simp only[ang,ne_eq]at*;omega)
  |(simp only[anR,anv,anf,anh,anj];omega)
  |(rw[yx];simp only[anR,anv,anf,anh,anj];omega)
  |(simp only[anR,anv,anf,anh,anj]at*;omega)
  |exact(show∀y∈_,List.length y.1<=10 from by decide) _ hr.2
  |(simp;done)
  |skip
theorem kD:OK iF.e:=by
 refine PA.ok mixed (aQ [] trivial) H0 (by kernel_rfl) (show∀Pv least most,iF.goal (aaK Pv least most) (Pv,least,most,())from ?_);intro x a b hin hp;dsimp only[iF]at hp ⊢;refine af (λh=>?_) λh=>?_
 .have h:=lV h;show(decide (x<=b),())=(decide (a<=x)&&decide (x<=b),());rw[anE (show a<=x from h)];rfl
 .have h:=nH h;show(false,())=(decide (a<=x)&&decide (x<=b),());rw[anC (show ¬a<=x from h)];rfl
theorem nC:OK jw.e:=by
 refine PA.ok mixed (aQ [] trivial) H0 (by kernel_rfl) (show∀n low high,jw.goal (Y5 n low high) (n,low,high,())from ?_);intro x a b hin hp;dsimp only[jw]at hp ⊢;refine af (λh=>?_) λh=>?_
 .show(decide (x<=b),())=(decide (a<=x)&&decide (x<=b),());rw[h];rfl
 .show(false,())=(decide (a<=x)&&decide (x<=b),());rw[h];rfl
theorem Hu{s:List UInt8}{n:Nat}(hlt:n<s.length)(hl:Sp.lower s=true):97<=(s.getD n 0).toNat/\(s.getD n 0).toNat<=122:=by have:=anx.1 hl _ (getD_mem (d:=0) hlt);simpa using this
theorem J7:OK wu.e:=by
 refine PA.ok mixed (aQ [iF.e] ⟨kD,trivial⟩) Y6 (by kernel_rfl) (show∀s most,wu.goal (Xp s most) (s,most,())from ?_);intro s most hin hp;dsimp only[wu]at hp ⊢;have hlen:s.length<=maxLen:=hin.1;rw[maxLen_eq]at hlen;refine⟨λy=>∃n:Nat,y.1.1=n/\n<=s.length/\Sp.lower (s.take n)=true,λy=>((s.length:Int)-y.1.1).toNat,⟨0,rfl,by omega,rfl⟩,?_⟩;rintro⟨⟨_,⟨⟩⟩,⟨⟩⟩ ⟨n,rfl,hn,hJ⟩;dsimp only;refine af (λh=>?_) λh=>?_<;>simp only[anl,an1]at h
 .have hlt:n<s.length:=by omega
  rw[gJ _ (by omega),an9];refine⟨⟨by omega,by omega⟩,af (λh2=>?_) λh2=>⟨⟨by omega,by omega⟩,af (λh3=>?_) λh3=>?_⟩⟩<;>simp only[anl,an1]at*
  .cases hl:Sp.lower s with
   |false=>rfl
   |true=>have:=Hu hlt hl;omega
  .cases hl:Sp.lower s with
   |false=>rfl
   |true=>have:=Hu hlt hl;omega
  .refine⟨rfl,⟨n+1,by simp,by omega,?_⟩,by dsimp only;omega⟩;rw[Sp.take_succ' s n 0 hlt];unfold Sp.lower at hJ ⊢;rw[aoM,hJ];simp only[aoj,ap6,anQ,anF,ane,anl];omega
 .have hge:n=s.length:=by omega
  rw[hge,apr]at hJ;rw[hJ];exact⟨trivial,rfl⟩
theorem qC:OK jm.e:=by refine PA.ok mixed (aQ [wu.e] ⟨J7,trivial⟩) H0 (by kernel_rfl) (show∀s,jm.goal (MI s) (s,())from ?_);intro s hin hp;dsimp only[jm]at hp ⊢;exact⟨trivial,rfl⟩
theorem rH:OK jG.e:=by
 refine PA.ok mixed (aQ [jm.e,iF.e] ⟨qC,kD,trivial⟩) H0 (by kernel_rfl) (show∀v0 v1 v2,jG.goal (Oh v0 v1 v2) ((v0,v1,v2,()),())from ?_);intro k n s hin hp;dsimp only[jG]at hp ⊢;refine af (λh=>?_) λh=>af (λh2=>⟨trivial,af (λh3=>?_) λh3=>?_⟩) λh2=>af (λh3=>⟨trivial,af (λh4=>?_) λh4=>?_⟩) λh3=>?_
 .have e:k=0:=by simpa using h
  subst e;exact congrArg (·,()) (an2.2 (by simp[aZ]))
 .have e:k=1:=by simpa using h2
  subst e;exact congrArg (·,()) (an2.2 (by simp only[ane,anl]at h3;simp[aZ,h3]))
 .have e:k=1:=by simpa using h2
  subst e;exact congrArg (·,()) (an2.2 (by simp only[aZ,h3];simp))
 .have e:k=2:=by simpa using h3
  subst e;exact congrArg (·,()) (an2.2 (by simp[aZ,h4]))
 .have e:k=2:=by simpa using h3
  subst e;exact congrArg (·,()) (an2.2 (by simp[aZ,h4]))
 .have e1:k≠0:=by simpa using h
  have e2:k≠1:=by simpa using h2
  have e3:k≠2:=by simpa using h3
  exact congrArg (·,()) (an2.2 (by simp[aZ,e1,e2,e3]))
theorem Aq:OK lQ.e:=by refine PA.ok mixed (aQ [wu.e] ⟨J7,trivial⟩) H0 (by kernel_rfl) (show∀s,lQ.goal (Jz s) (s,())from ?_);intro s hin hp;dsimp only[lQ]at hp ⊢;exact⟨trivial,rfl⟩
theorem Uh:OK xq.e:=by
 refine PA.ok mixed (aQ [] trivial) VY (by kernel_rfl) (show∀a b,xq.goal (Ui a b) (a,b,())from ?_);intro a b hin hp;dsimp only[xq]at hp ⊢;have hlen:a.length<=maxLen:=hin.1.1;rw[maxLen_eq]at hlen;refine af (λh=>?_) λh=>?_
 .have h:(a.length:Int)≠b.length:=by simpa using h
  exact congrArg (·,()) (anC λe=>h (by rw[e])).symm
 .have h:(a.length:Int)=b.length:=by simpa using h
  exact MJ (K:=λr=>r=(decide (a=b),())) (λx y=>!(x.1==y.1&&(x.2.1==y.2.1&&(x.2.2.1==y.2.2.1&&(x.2.2.2.1==y.2.2.2.1&&true))))) (λx y=>by simp[apl]) _ a b _ hlen (by omega) (λe=>by rw[anC e]) λe=>by rw[anE e]
theorem VZ:OK yZ.e:=by
 refine PA.ok mixed (aQ [xq.e] ⟨Uh,trivial⟩) H0 (by kernel_rfl) (show∀a0 a1 a2 a3 a4 b0 b1 b2 b3 b4,yZ.goal (V3 a0 a1 a2 a3 a4 b0 b1 b2 b3 b4) ((a0,a1,a2,a3,a4,()),(b0,b1,b2,b3,b4,()),())from ?_);intro a0 a1 a2 a3 a4 b0 b1 b2 b3 b4 hin hp;dsimp only[yZ]at hp ⊢;refine af (λh0=>af (λh1=>af (λh2=>af (λh3=>⟨trivial,?_⟩) λh3=>?_) λh2=>?_) λh1=>?_) λh0=>?_
 all_goals refine congrArg (·,()) (an2.2 ?_)
 .simp only[anq]at h0 h1 h2 h3;subst h0 h1 h2 h3;simp
 .have h3:a3≠b3:=by simpa using h3
  simp[h3]
 .have h2:a2≠b2:=by simpa using h2
  simp[h2]
 .have h1:a1≠b1:=by simpa using h1
  simp[h1]
 .have h0:a0≠b0:=by simpa using h0
  simp[h0]
theorem set_self{fs:List bH}{n:Nat}(hn:n<fs.length):fs.set n (fs.getD n (0,0,false,0,[],()))=fs:=by
 refine ap5 (by simp) λi h1 h2=>?_;rw[List.getElem_set];split
 .next e=>subst e;rw[anm,anu hn];rfl
 .rfl
theorem IY{s:List bJ}(p:bJ->Bool){n:Nat}(hn:n<s.length):(s.take (n+1)).filter p=(s.take n).filter p++(if p (iW s n)=true then[iW s n]else[]):=by
 rw[Sp.take_succ' s n ([],0,0,[],()) hn,List.filter_append];congr 1;show List.filter _ [iW s n]=_;by_cases h:p (iW s n)=true
 .rw[List.filter_cons_of_pos h,if_pos h];rfl
 .rw[List.filter_cons_of_neg h,if_neg h];rfl
theorem Xq(s:List bJ)(p:bJ->Bool)(n:Nat):((s.take n).filter p).length<=n:=by have:=apP p (s.take n);rw[anv]at this;omega
theorem ach(al:List bJ)(name:Sp.Bytes)(n:Int)(s:Sp.Bytes):iT al name 0 n s=al.filter (mM name):=rfl
theorem afe{al:List bJ}{name:Sp.Bytes}{k n:Int}{s:Sp.Bytes}(hk:k≠0){l:List bJ}(hl:l=al.filter (mM name)){m:Nat}(hm:m<=l.length)
 (h1:∀i,i<m->pz name (iW l i)=true) (h2:m<l.length->pz name (iW l m)=false):
 List.drop 0 (List.take m l)++[(name,k,n,s,())]++List.drop m (List.take l.length l)=iT al name k n s:=by
 obtain⟨e1,e2⟩:=Ru (d:=(([]:List UInt8),(0:Int),(0:Int),([]:List UInt8),())) l m hm h1 h2;unfold iT Ig;rw[anC hk,← hl];show _=l.takeWhile (pz name)++_::l.dropWhile (pz name);rw[e1,e2,apr,apC,anz];rfl
theorem J8:OK wz.e:=by
 refine XA.ok mixed (aQ [] trivial) Y7 (λ⟨(i,o,s,l,a,_),name,(k,n,w,_),_⟩ _=>⟨(((i,o,s,l,iT a name k n w,()),()),()),⟨rfl,rfl,rfl,rfl,rfl⟩⟩) (by kernel_rfl) (show∀f0 f1 f2 f3 f4 name v0 v1 v2,wz.goal (Xr f0 f1 f2 f3 f4 name v0 v1 v2) ((f0,f1,f2,f3,f4,()),name,(v0,v1,v2,()),())from ?_);intro f0 f1 f2 f3 f4 name k n s hin hp;dsimp only[wz]at hp ⊢;have hp:f4.length<=1000:=hp;refine zH (λi(x:List bJ)=>(((),i,()),x,())) (λy=>y.1.2.1) (λ_ _=>rfl) f4.length (by omega) (λm l=>l=(f4.take m).filter (mM name)) (by simp) (λI μ m l hm hJ next=>?_) λI μ l hJ=>?_
 .subst hJ;have hl:=Xq f4 (mM name) m;dsimp only;refine vX (by omega) ⟨⟨by omega,by omega⟩,af (λh=>⟨⟨by omega,by omega⟩,by rw[yx];simp only[anh,anj];omega,rfl,next _ ?_⟩) λh=>⟨rfl,next _ ?_⟩⟩
  .rw[IY _ hm,if_pos (show mM name (iW f4 m)=true from h)];rfl
  .rw[IY _ hm,if_neg (show ¬mM name (iW f4 m)=true fromλh'=>by have h:mM name (iW f4 m)=false:=h;rw[h]at h';cases h'),anN]
 .rw[apr]at hJ;have hl:l.length<=1000:=by rw[hJ];have:=apP (mM name) f4;omega
  dsimp only;refine vY (by omega) (af (λh=>?_) λh=>?_)
  .have hk:k≠0:=by simpa using h
   have fin:∀m:Nat,m<=l.length->(∀i,i<m->pz name (iW l i)=true)->(m<l.length->pz name (iW l m)=false)->
    ((0:Int)<=m/\(m:Int)<=l.length)/\0+(List.drop 0 (List.take m l)).length<=big/\(List.drop 0 (List.take m l)).length+[(name,k,n,s,())].length<=big/\((0:Int)<=m/\(m:Int)<=l.length)/\
    (List.drop 0 (List.take m l)++[(name,k,n,s,())]).length+(List.drop m (List.take l.length l)).length<=big/\
    (f0=f0/\f1=f1/\f2=f2/\f3=f3/\List.drop 0 (List.take m l)++[(name,k,n,s,())]++List.drop m (List.take l.length l)=iT f4 name k n s):=by
    intro m hm h1 h2;refine⟨⟨by omega,by omega⟩,?_,?_,⟨by omega,by omega⟩,?_,rfl,rfl,rfl,rfl,afe hk hJ hm h1 h2⟩
    all_goals
     rw[yx];simp only[anf,anI,anv,anh,anj];omega
   refine CX l.length (by omega) (λm=>∀i,i<m->pz name (iW l i)=true) (λi hi=>by omega) (λI μ m hm hJ2 next=>?_) λI μ hJ2=>?_
   .dsimp only;refine vX (by omega) ⟨⟨by omega,by omega⟩,hm,af (λh2=>⟨rfl,next (yB (f:=λi=>pz name (iW l i)) hJ2 h2)⟩) λh2=>?_⟩;exact fin m (by omega) hJ2 λ_=>h2
   .dsimp only;exact vY (by omega) (fin l.length (ann _) hJ2 λh'=>by omega)
  .have hk:k=0:=by simpa using h
   subst hk;exact⟨rfl,rfl,rfl,rfl,by rw[ach];exact hJ⟩
def TL(L:List (List bJ))(name:Sp.Bytes)(vals:List (Int×Int×Sp.Bytes)):List (List bJ):=L++L.flatMap λa=>vals.map λv=>iT a name v.1 v.2.1 v.2.2
theorem rQ{L:List (List bJ)}{name:Sp.Bytes}{vals:List (Int×Int×Sp.Bytes)}{a:List bJ}(h:a∈L):a∈TL L name vals:=an5 _ h
theorem J9{L:List (List bJ)}{name:Sp.Bytes}{vals:List (Int×Int×Sp.Bytes)}{a:List bJ}(h:a∈L){k n:Int}{s:Sp.Bytes}(hv:(k,n,s)∈vals):iT a name k n s∈TL L name vals:=
 aou _ (List.mem_flatMap.2 ⟨a,h,ao3.2 ⟨(k,n,s),hv,rfl⟩⟩)
def ints:List (Int×Int×Sp.Bytes):=[(1,0,[]),(1,1,[]),(1,2,[]),(1,3,[])]
def names:List (Int×Int×Sp.Bytes):=[(2,0,[105,110,107]),(2,0,[115,101,97])]
def tags:List (Int×Int×Sp.Bytes):=[(2,0,[114,101,100]),(2,0,[98,108,117,101])]
def Xt:List (List bJ):=TL [[]] [97] ints
def Xu:List (List bJ):=TL Xt [98] ints
def Xv:List (List bJ):=TL Xu [110] names
def Xw:List (List bJ):=TL Xv [116] tags
theorem ag8:(Xw.all λa=>oW Sp.usual a&&decide (a.length<=4))=true:=by kernel_rfl
theorem Ko{a:List bJ}(h:a∈Xw):oW Sp.usual a=true/\a.length<=4:=by have:=anx.1 ag8 a h;simpa using this
theorem aii{a:List bJ}(h:a∈Xt):a.length<=4:=(Ko (rQ (rQ (rQ h)))).2
theorem aij{a:List bJ}(h:a∈Xu):a.length<=4:=(Ko (rQ (rQ h))).2
theorem aik{a:List bJ}(h:a∈Xv):a.length<=4:=(Ko (rQ h)).2
theorem aci{x:Int}(h0:0<=x)(h1:x<4):((1:Int),x,([]:Sp.Bytes))∈ints:=by rcases(show x=0\/x=1\/x=2\/x=3 by omega)with h|h|h|h<;>subst h<;>simp[ints]
theorem agm{w:Sp.Bytes}(h:(w,())∈[(([105,110,107]:Sp.Bytes),()),([115,101,97],())]):((2:Int),(0:Int),w)∈names:=by simp only[anA,Prod.mk.injEq,and_true,List.not_mem_nil,or_false]at h;rcases h with h|h<;>subst h<;>simp[names]
theorem ag9{w:Sp.Bytes}(h:(w,())∈[(([114,101,100]:Sp.Bytes),()),([98,108,117,101],())]):((2:Int),(0:Int),w)∈tags:=by simp only[anA,Prod.mk.injEq,and_true,List.not_mem_nil,or_false]at h;rcases h with h|h<;>subst h<;>simp[tags]
def Head(id:Int)(f:Int×Int×Bool×Int×Unit×Unit):Prop:=f.1=id/\0<=f.2.1/\f.2.1<=2/\0<=f.2.2.2.1/\f.2.2.2.1<=6
theorem DZ:OK rV.e:=by
 refine XA.ok mixed (aQ [jc.e,dY.e,wz.e,nK.e,kK.e,bT.e] ⟨oU,fU,J8,xM,uU,dD,trivial⟩) Y8 (λ⟨_,id,_⟩ _=>⟨(((id,0,false,0,[],()),()),(([],0,0,()),())),⟨by dsimp only;decide,rfl,by dsimp only;decide,by dsimp only;decide,by dsimp only;decide,by dsimp only;decide,rfl,by dsimp only;decide⟩⟩) (by kernel_rfl) (show∀c0 c1 c2 id,rV.goal (Xx c0 c1 c2 id) ((c0,c1,c2,()),id,())from ?_);intro b i h id hin hp;dsimp only[rV]at hp ⊢;have hp:0<=i:=hp;refine⟨hp,?_⟩;rintro⟨⟨x0,⟨⟩⟩,⟨b0,i0,g0,⟨⟩⟩,⟨⟩⟩ ⟨p0,q0,q1,_⟩;refine⟨p0,?_⟩;rintro⟨⟨x1,⟨⟩⟩,⟨b1,i1,g1,⟨⟩⟩,⟨⟩⟩ p1;have q1:x0<3:=q1 (by decide);have q0:0<=x0:=q0;refine⟨λy=>0<=y.2.1.2.1/\Head id y.2.2.1,⟨p1,?_⟩,?_⟩
 .rintro⟨⟨x3,⟨⟩⟩,⟨b3,i3,g3,⟨⟩⟩,⟨⟩⟩ p3;refine af (λ_=>⟨p3,?_⟩) λ_=>⟨rfl,p3,rfl,q0,(show x0<=2 by omega),aol _,(show(0:Int)<=6 by decide)⟩;rintro⟨⟨x4,⟨⟩⟩,⟨b4,i4,g4,⟨⟩⟩,⟨⟩⟩ ⟨p4,q4,q5,_⟩;have q5:x4<7:=q5 (by decide);exact⟨rfl,p4,rfl,q0,(show x0<=2 by omega),q4,(show x4<=6 by omega)⟩
 rintro⟨⟨⟩,⟨b5,i5,g5,⟨⟩⟩,f5,⟨⟩⟩ ⟨p5,H5⟩;refine⟨λy=>0<=y.2.1.2.1/\Head id y.2.2.1/\y.2.2.2.1∈Xt,⟨p5,?_⟩,?_⟩
 .rintro⟨⟨x7,⟨⟩⟩,⟨b7,i7,g7,⟨⟩⟩,⟨⟩⟩ p7;refine af (λ_=>⟨p7,?_⟩) λ_=>⟨rfl,p7,H5,rQ anp⟩;rintro⟨⟨x8,⟨⟩⟩,⟨b8,i8,g8,⟨⟩⟩,⟨⟩⟩ ⟨p8,q8,q9,_⟩;refine⟨trivial,(show(0:Nat)<=1000 by decide),?_⟩;rintro⟨⟨⟨d,o,s,l,a,⟨⟩⟩,⟨⟩⟩,⟨⟩⟩ ⟨e1,e2,e3,e4,e5⟩;refine⟨rfl,p8,?_,?_⟩
  .exact⟨(show d=id from(show d=f5.1 from e1).trans H5.1),by rw[show o=f5.2.1 from e2];exact H5.2.1,by rw[show o=f5.2.1 from e2];exact H5.2.2.1,by rw[show l=f5.2.2.2.1 from e4];exact H5.2.2.2.1,by rw[show l=f5.2.2.2.1 from e4];exact H5.2.2.2.2⟩
  .have e5:a=iT [] [97] 1 x8 []:=e5;show a∈Xt;rw[e5];exact J9 anp (aci q8 (q9 (by decide)))
 rintro⟨⟨⟩,⟨b11,i11,g11,⟨⟩⟩,f11,a11,⟨⟩⟩ ⟨p11,H11,m11⟩;refine⟨λy=>0<=y.2.1.2.1/\Head id y.2.2.1/\y.2.2.2.1∈Xu,⟨p11,?_⟩,?_⟩
 .rintro⟨⟨x7,⟨⟩⟩,⟨b7,i7,g7,⟨⟩⟩,⟨⟩⟩ p7;refine af (λ_=>⟨p7,?_⟩) λ_=>⟨rfl,p7,H11,rQ m11⟩;rintro⟨⟨x8,⟨⟩⟩,⟨b8,i8,g8,⟨⟩⟩,⟨⟩⟩ ⟨p8,q8,q9,_⟩;refine⟨trivial,ank (aii m11) (by decide),?_⟩;rintro⟨⟨⟨d,o,s,l,a,⟨⟩⟩,⟨⟩⟩,⟨⟩⟩ ⟨e1,e2,e3,e4,e5⟩;refine⟨rfl,p8,?_,?_⟩
  .exact⟨(show d=id from(show d=f11.1 from e1).trans H11.1),by rw[show o=f11.2.1 from e2];exact H11.2.1,by rw[show o=f11.2.1 from e2];exact H11.2.2.1,by rw[show l=f11.2.2.2.1 from e4];exact H11.2.2.2.1,by rw[show l=f11.2.2.2.1 from e4];exact H11.2.2.2.2⟩
  .have e5:a=iT a11 [98] 1 x8 []:=e5;show a∈Xu;rw[e5];exact J9 m11 (aci q8 (q9 (by decide)))
 rintro⟨⟨⟩,⟨b17,i17,g17,⟨⟩⟩,f17,a17,⟨⟩⟩ ⟨p17,H17,m17⟩;refine⟨λy=>0<=y.2.1.2.1/\Head id y.2.2.1/\y.2.2.2.1∈Xv,⟨p17,?_⟩,?_⟩
 .rintro⟨⟨x7,⟨⟩⟩,⟨b7,i7,g7,⟨⟩⟩,⟨⟩⟩ p7;refine af (λ_=>⟨⟨p7,by simp⟩,?_⟩) λ_=>⟨rfl,p7,H17,rQ m17⟩;rintro⟨⟨x8,⟨⟩⟩,⟨b8,i8,g8,⟨⟩⟩,⟨⟩⟩ ⟨p8,q8⟩;refine⟨trivial,ank (aij m17) (by decide),?_⟩;rintro⟨⟨⟨d,o,s,l,a,⟨⟩⟩,⟨⟩⟩,⟨⟩⟩ ⟨e1,e2,e3,e4,e5⟩;refine⟨rfl,p8,?_,?_⟩
  .exact⟨(show d=id from(show d=f17.1 from e1).trans H17.1),by rw[show o=f17.2.1 from e2];exact H17.2.1,by rw[show o=f17.2.1 from e2];exact H17.2.2.1,by rw[show l=f17.2.2.2.1 from e4];exact H17.2.2.2.1,by rw[show l=f17.2.2.2.1 from e4];exact H17.2.2.2.2⟩
  .have e5:a=iT a17 [110] 2 0 x8:=e5;show a∈Xv;rw[e5];exact J9 m17 (agm q8)
 rintro⟨⟨⟩,⟨b23,i23,g23,⟨⟩⟩,f23,a23,⟨⟩⟩ ⟨p23,H23,m23⟩;refine⟨λy=>0<=y.2.1.2.1/\Head id y.2.2.1/\y.2.2.2.1∈Xw,⟨p23,?_⟩,?_⟩
 .rintro⟨⟨x7,⟨⟩⟩,⟨b7,i7,g7,⟨⟩⟩,⟨⟩⟩ p7;refine af (λ_=>⟨⟨p7,by simp⟩,?_⟩) λ_=>⟨rfl,p7,H23,rQ m23⟩;rintro⟨⟨x8,⟨⟩⟩,⟨b8,i8,g8,⟨⟩⟩,⟨⟩⟩ ⟨p8,q8⟩;refine⟨trivial,ank (aik m23) (by decide),?_⟩;rintro⟨⟨⟨d,o,s,l,a,⟨⟩⟩,⟨⟩⟩,⟨⟩⟩ ⟨e1,e2,e3,e4,e5⟩;refine⟨rfl,p8,?_,?_⟩
  .exact⟨(show d=id from(show d=f23.1 from e1).trans H23.1),by rw[show o=f23.2.1 from e2];exact H23.2.1,by rw[show o=f23.2.1 from e2];exact H23.2.2.1,by rw[show l=f23.2.2.2.1 from e4];exact H23.2.2.2.1,by rw[show l=f23.2.2.2.1 from e4];exact H23.2.2.2.2⟩
  .have e5:a=iT a23 [116] 2 0 x8:=e5;show a∈Xw;rw[e5];exact J9 m23 (ag9 q8)
 rintro⟨⟨⟩,⟨b29,i29,g29,⟨⟩⟩,f29,a29,⟨⟩⟩ ⟨p29,H29,m29⟩;have hm:=Ko m29;exact⟨p29,H29.1,H29.2.1,H29.2.2.1,H29.2.2.2.1,H29.2.2.2.2,hm.1,hm.2⟩
theorem adu(al:List bJ)(name:Sp.Bytes)(k n:Int)(s:Sp.Bytes):(iT al name k n s).length<=al.length+1:=by
 have hf:=apP (mM name) al;unfold iT;cases decide (k=0)with
 |true=>show(al.filter _).length<=_;omega
 |false=>show(Ig _ _).length<=_;unfold Ig;have:=congrArg List.length (List.takeWhile_append_dropWhile (p:=pz name) (l:=al.filter (mM name)));rw[anf]at this;rw[anf,anh];show((al.filter (mM name)).takeWhile (pz name)).length+(((al.filter (mM name)).dropWhile (pz name)).length+1)<=_;omega
theorem aha:IZ Sp.usual=true:=by kernel_rfl
structure Oi(k:Int)(s:wR):Prop where
 sch:s.1=Sp.usual
 ok:yL s=true
 nx:s.2.2.1<=s.2.1.length+k
 small:ai1 s
theorem Oi.more{k k':Int}{s:wR}(h:Oi k s)(hk:k<=k'):Oi k' s:=⟨h.sch,h.ok,by have:=h.nx;omega,h.small⟩
theorem Oi.grows{s:wR}(h:Oi 2 s)(hl:s.2.1.length<12){f:bH}(ho:0<=f.2.1/\f.2.1<=2)(hk:0<=f.2.2.2.1/\f.2.2.2.1<=6)(ha:oW Sp.usual f.2.2.2.2.1=true):(Af s f).1.2.1.length=s.2.1.length+1:=by
 have hnx:=(adv.1 h.ok).2.2.2;have h2:=h.nx;have hf:FV s.1 (s.2.2.1,f.2)=true:=by rw[h.sch];show(oW Sp.usual f.2.2.2.2.1&&IZ Sp.usual&&(decide (1<=s.2.2.1)&&decide (s.2.2.1<=60))&&(decide (0<=f.2.1)&&decide (f.2.1<=2))&&(decide (0<=f.2.2.2.1)&&decide (f.2.2.2.1<=60)))=true;rw[ha,aha,anE hnx.1,anE (by omega),anE ho.1,anE ho.2,anE hk.1,anE (by omega)];rfl
 rcases I4 s f with⟨_,e⟩|⟨_,_,_,e⟩
 .exact(e ⟨h.ok,hl,hf⟩).elim
 .rw[e];show(s.2.1++[_]).length=_;rw[anf];rfl
theorem Oi.one{s:wR}(h:Oi 1 s){f:bH}(ho:0<=f.2.1/\f.2.1<=2)(hk:0<=f.2.2.2.1/\f.2.2.2.1<=6)(ha:oW Sp.usual f.2.2.2.2.1=true):0<(Af s f).1.2.1.length:=by
 by_cases hl:s.2.1.length<12
 .rw[(h.more (show(1:Int)<=2 by decide)).grows hl ho hk ha];omega
 .rcases I4 s f with⟨e,_⟩|⟨_,_,_,e⟩
  .rw[e];show 0<s.2.1.length;omega
  .rw[e];show 0<(s.2.1++[_]).length;rw[anf,List.length_singleton];omega
theorem adw:OK GY.e:=by refine PA.ok mixed (aQ [] trivial) H0 (by kernel_rfl) (show∀code,GY.goal (adx code) (code,())from ?_);intro b hin hp;dsimp only[GY]at hp ⊢;exact rfl
theorem qE:OK jo.e:=by
 refine PA.ok mixed (aQ [jw.e] ⟨nC,trivial⟩) Oj (by kernel_rfl) (show∀s,jo.goal (MK s) (s,())from ?_);intro s hin hp;dsimp only[jo]at hp ⊢;have hlen:s.length<=maxLen:=hin.1;rw[maxLen_eq]at hlen;refine⟨λy=>∃n:Nat,y.1.1=n/\n<=s.length/\Sp.lower (s.take n)=true,λy=>((s.length:Int)-y.1.1).toNat,⟨0,rfl,by omega,rfl⟩,?_⟩;rintro⟨⟨_,⟨⟩⟩,⟨⟩⟩ ⟨n,rfl,hn,hJ⟩;dsimp only;refine af (λh=>?_) λh=>?_<;>simp only[anl,an1]at h
 .have hlt:n<s.length:=by omega
  rw[gJ _ (by omega),an9];refine⟨⟨by omega,by omega⟩,af (λh2=>?_) λh2=>⟨⟨by omega,by omega⟩,af (λh3=>?_) λh3=>?_⟩⟩<;>simp only[anl,an1]at*
  .unfold au;cases hl:Sp.lower s with
   |false=>rfl
   |true=>have:=Hu hlt hl;omega
  .unfold au;cases hl:Sp.lower s with
   |false=>rfl
   |true=>have:=Hu hlt hl;omega
  .refine⟨rfl,⟨n+1,by simp,by omega,?_⟩,by dsimp only;omega⟩;rw[Sp.take_succ' s n 0 hlt];unfold Sp.lower at hJ ⊢;rw[aoM,hJ];simp only[aoj,ap6,anQ,anF,ane,anl];omega
 .have hge:n=s.length:=by omega
  rw[hge,apr]at hJ;unfold au;rw[hJ];exact⟨trivial,rfl⟩
theorem rJ:OK jH.e:=by
 refine PA.ok mixed (aQ [jo.e,jw.e] ⟨qE,nC,trivial⟩) H0 (by kernel_rfl) (show∀v0 v1 v2,jH.goal (Ol v0 v1 v2) ((v0,v1,v2,()),())from ?_);intro k n s hin hp;dsimp only[jH]at hp ⊢;refine af (λh=>?_) λh=>af (λh2=>⟨trivial,af (λh3=>?_) λh3=>?_⟩) λh2=>af (λh3=>⟨trivial,af (λh4=>?_) λh4=>?_⟩) λh3=>?_
 .have e:k=0:=by simpa using h
  subst e;exact congrArg (·,()) (an2.2 (by simp[aZ]))
 .have e:k=1:=by simpa using h2
  subst e;exact congrArg (·,()) (an2.2 (by simp only[ane,anl]at h3;simp[aZ,h3]))
 .have e:k=1:=by simpa using h2
  subst e;exact congrArg (·,()) (an2.2 (by simp only[aZ,h3];simp))
 .have e:k=2:=by simpa using h3
  subst e;exact congrArg (·,()) (an2.2 (by simp[aZ,h4]))
 .have e:k=2:=by simpa using h3
  subst e;exact congrArg (·,()) (an2.2 (by simp[aZ,h4]))
 .have e1:k≠0:=by simpa using h
  have e2:k≠1:=by simpa using h2
  have e3:k≠2:=by simpa using h3
  exact congrArg (·,()) (an2.2 (by simp[aZ,e1,e2,e3]))
theorem Ar:OK lS.e:=by
 refine PA.ok mixed (aQ [] trivial) H0 (by kernel_rfl) (show∀s,lS.goal (JA s) (s,())from ?_);intro s hin hp;dsimp only[lS]at hp ⊢;refine af (λh=>?_) λh=>?_
 .have h:(s.length:Int)=1:=lV h
  match s,h with
  |[c],_=>
   refine⟨⟨by decide,(by show(0:Int)<1;decide)⟩,af (λh2=>⟨⟨by decide,(by show(0:Int)<1;decide)⟩,?_⟩) λh2=>?_⟩
   .have h2:(c.toNat:Int)>=97:=lV h2;refine congrArg (·,()) (an2.2 ?_);simp only[eF,Sp.lower,aoj,ap6,anQ,ane,anl,anh,anj];constructor
    .intro h3;have h3:(c.toNat:Int)<=122:=h3;exact⟨⟨⟨by omega,by omega⟩,by decide⟩,by decide⟩
    .rintro⟨⟨⟨_,h4⟩,_⟩,_⟩;show(c.toNat:Int)<=122;omega
   .have h2:¬(c.toNat:Int)>=97:=nH h2;refine congrArg (·,()) (an2.2 ?_);simp only[eF,Sp.lower,aoj,ap6,anQ,ane,anl];constructor
    .intro h3;cases h3
    .rintro⟨⟨⟨h4,_⟩,_⟩,_⟩;omega
 .have h:¬(s.length:Int)=1:=nH h;refine congrArg (·,()) (an2.2 ?_);simp only[eF,ane,anl];constructor
  .intro h3;cases h3
  .rintro⟨⟨_,h4⟩,h5⟩;omega
end Go.Proofs.Tryz
namespace Go.Proofs.Tryz
open Go Go.Fw Go.IntWalk
theorem Rw:OK vK.e:=by
 refine XA.ok mixed (aQ [dY.e] ⟨fU,trivial⟩) H0 (λ_ _=>⟨((([]:List UInt8),()),(([],0,0,()),())),⟨by decide,by decide⟩⟩) (by kernel_rfl) (show∀c0 c1 c2,vK.goal (Rx c0 c1 c2) ((c0,c1,c2,()),())from ?_);intro b i h hin hp;dsimp only[vK]at hp ⊢;have hp:0<=i:=hp
 repeat' first
  |exact trivial
  |refine af (λ_=>?_) λ_=>?_
  |refine And.intro ?_ ?_
  |(intro r hr;simp only[]at hr)
  |intro r hr
 all_goals first
  |omega
  |(dsimp only at*;omega)
  |exact hr
  |(simp only[ang,ne_eq]at*;omega)
  |(simp only[anR,anv,anf,anh,anj];omega)
  |(rw[yx];simp only[anR,anv,anf,anh,anj];omega)
  |(simp only[anR,anv,anf,anh,anj]at*;omega)
  |exact(show∀y∈_,List.length y.1<=10 from by decide) _ hr.2
  |(simp;done)
  |skip
theorem Kq:OK rW.e:=by
 refine XA.ok mixed (aQ [vK.e,jc.e,nK.e,dY.e,bT.e] ⟨Rw,oU,xM,fU,dD,trivial⟩) H0 (λ_ _=>⟨((((0:Int),(0:Int),(0:Int),([]:List UInt8),(0:Int),(0:Int),([]:List UInt8),()),()),(([],0,0,()),())),⟨by decide,trivial⟩⟩) (by kernel_rfl) (show∀c0 c1 c2,rW.goal (Xy c0 c1 c2) ((c0,c1,c2,()),())from ?_);intro b i h hin hp;dsimp only[rW]at hp ⊢;have hp:0<=i:=hp
 repeat' first
  |exact trivial
  |refine af (λ_=>?_) λ_=>?_
  |refine And.intro ?_ ?_
  |(intro r hr;simp only[]at hr)
  |intro r hr
 all_goals first
  |omega
  |(dsimp only at*;omega)
  |exact hr
  |(simp only[ang,ne_eq]at*;omega)
  |(simp only[anR,anv,anf,anh,anj];omega)
  |(rw[yx];simp only[anR,anv,anf,anh,anj];omega)
  |(simp only[anR,anv,anf,anh,anj]at*;omega)
  |exact(show∀y∈_,List.length y.1<=10 from by decide) _ hr.2
  |(simp;done)
  |skip
theorem ML[kJ](Om:jA prog G tJ wB):jA prog G DW AU:=by
 refine MN (aQ [(tJ,.eff (FC nM) wB),bT.e,rW.e,kK.e] ⟨⟨Om,MB⟩,dD,Kq,uU,trivial⟩) (λ⟨_,q,deep,_,_⟩ _=>⟨((q++[(0,0,0,[],0,0,[],())],()),(([],0,0,()),())),⟨by decide,by simp,by simp⟩⟩) ?_;intro b i h q deep not hin hp;obtain⟨⟨hp1,hp2,hp3,hp4⟩,hp5⟩:=hp;have hw:IntKind.i64.wrap (deep-1)=deep-1:=gJ _ (by omega);refine⟨λy=>0<=y.2.1.2.1/\0<deep,?_⟩;dsimp only;rw[hw]
 repeat' first
  |exact trivial
  |refine af (λ_=>?_) λ_=>?_
  |refine And.intro ?_ ?_
  |(intro r hr;simp only[]at hr)
  |intro r hr
 all_goals first
  |omega
  |(dsimp only at*;omega)
  |exact hr
  |(simp only[ang,ne_eq]at*;omega)
  |(simp only[anR,anv,anf,anh,anj];omega)
  |(rw[yx];simp only[anR,anv,anf,anh,anj];omega)
  |(simp only[anR,anv,anf,anh,anj]at*;omega)
  |exact(show∀y∈_,List.length y.1<=10 from by decide) _ hr.2
  |(simp;done)
  |skip
theorem Xz:jA prog G Y0 Vl:=
 ad4 (λn=>@Eh ⟨n⟩) (λn=>@qX ⟨n⟩) (by rintro⟨⟨b,i,h,⟨⟩⟩,q,deep,not,⟨⟩⟩ h;exact aoo _ h.2) (by rintro _ ⟨⟨b,i,h,⟨⟩⟩,q,deep,not,⟨⟩⟩;rfl) (by rintro⟨⟨b,i,h,⟨⟩⟩,q,deep,not,⟨⟩⟩ h;exact⟨_,h,aoF _⟩) (by rintro _ ⟨⟨b,i,h,⟨⟩⟩,q,deep,not,⟨⟩⟩;rfl) λn h=>@ML ⟨n⟩ h
theorem Oo:jA prog G yS CG:=
 af2 (F:=Lm) (F':=Ei) (by decide) Xz (λa x h=>⟨h.1,h.2.1,h.2.2,(show∀z:Int,0<=z->z<=4->0+2*z.toNat<=900 fromλz _ _=>by omega) _ h.2.1 h.2.2⟩) λa x h=>rfl
theorem Eu:OK pV.e:=by
 refine XA.ok mixed (aQ [(yS,.eff (FC qY) CG),bT.e] ⟨⟨Oo,MC⟩,dD,trivial⟩) Ry (λ_ _=>⟨(([(0,0,0,[],0,0,[],())],()),(([],0,0,()),())),⟨by decide,by decide,by decide⟩⟩) (by kernel_rfl) (show∀c0 c1 c2,pV.goal (PK c0 c1 c2) ((c0,c1,c2,()),())from ?_);intro b i h hin hp;dsimp only[pV]at hp ⊢;have hp:0<=i:=hp
 repeat' first
  |exact trivial
  |refine af (λ_=>?_) λ_=>?_
  |refine And.intro ?_ ?_
  |(intro r hr;simp only[]at hr)
  |intro r hr
 all_goals first
  |omega
  |(dsimp only at*;omega)
  |exact hr
  |(simp only[ang,ne_eq]at*;omega)
  |(simp only[anR,anv,anf,anh,anj];omega)
  |(rw[yx];simp only[anR,anv,anf,anh,anj];omega)
  |(simp only[anR,anv,anf,anh,anj]at*;omega)
  |exact(show∀y∈_,List.length y.1<=10 from by decide) _ hr.2
  |(simp;done)
  |skip
theorem Y9:OK BD.e:=by
 refine XA.ok mixed (aQ [yg.e,rW.e,dY.e,gm.e,bT.e,pV.e] ⟨MH,Kq,fU,jh,dD,Eu,trivial⟩) aaL (λ_ _=>⟨(([],()),(([],0,0,()),())),⟨by decide,by decide⟩⟩) (by kernel_rfl) (show∀c0 c1 c2,BD.goal (Za c0 c1 c2) ((c0,c1,c2,()),())from ?_);intro b i h hin hp;dsimp only[BD]at hp ⊢;have hp:0<=i:=hp
 repeat' first
  |exact trivial
  |refine af (λ_=>?_) λ_=>?_
  |refine And.intro ?_ ?_
  |(intro r hr;simp only[]at hr)
  |intro r hr
 all_goals first
  |omega
  |(dsimp only at*;omega)
  |exact hr
  |(simp only[ang,ne_eq]at*;omega)
  |(simp only[anR,anv,anf,anh,anj];omega)
  |(rw[yx];simp only[anR,anv,anf,anh,anj];omega)
  |(simp only[anR,anv,anf,anh,anj]at*;omega)
  |exact(show∀y∈_,List.length y.1<=10 from by decide) _ hr.2
  |(simp;done)
  |skip
end Go.Proofs.Tryz
namespace Go.Proofs.Tryz
open Go Go.Fw Go.IntWalk Sp
theorem XB(n0 n1 n2:Int)(n3:Sp.Bytes)(n4 n5:Int)(n6:Sp.Bytes)(a:Int):dZ (n0,n1,n2,n3,n4,n5,n6,()) a=
 (bif n0==1 then(n1==0&&n2==0)&&(n3==[]&&(n4==0&&(n5==0&&n6==[])))else bif n0==2 then(n1==0&&n2==0)&&(n4==0&&(n5==0&&n6==[]))&&eF n3 else
 bif n0==3 then(n1==0&&n2==0)&&eF n3&&aZ n4 n5 n6&&!(n4==0)else bif n0==4 then(n1==0&&n2==0)&&eF n3&&aZ n4 n5 n6&&n4==1 else
 bif n0==5 then(decide (0<=n1)&&decide (n1<=a-1)&&decide (0<a))&&n2==0&&(n3==[]&&(n4==0&&(n5==0&&n6==[])))else
 bif n0==6||n0==7 then(decide (0<=n1)&&decide (n1<=a-1)&&decide (0<a))&&(decide (0<=n2)&&decide (n2<=a-1))&&(n3==[]&&(n4==0&&(n5==0&&n6==[])))else
 bif n0==8||n0==9 then(n1==0&&n2==0)&&(n4==0&&(n5==0&&n6==[]))&&au n3 else false):=rfl
theorem PL:OK uz.e:=by
 refine PA.ok mixed (aQ [jo.e,jw.e,jH.e,lS.e] ⟨qE,nC,rJ,Ar,trivial⟩) Rz (by kernel_rfl) (show∀n0 n1 n2 n3 n4 n5 n6 at',uz.goal (Ew n0 n1 n2 n3 n4 n5 n6 at') ((n0,n1,n2,n3,n4,n5,n6,()),at',())from ?_);intro n0 n1 n2 n3 n4 n5 n6 a hin hp;dsimp only[uz]at hp ⊢;have ha:-9223372036854775808<=a/\a<=9223372036854775807:=hin.2.1;show Ew n0 n1 n2 n3 n4 n5 n6 a λr=>r=(dZ (n0,n1,n2,n3,n4,n5,n6,()) a,());rw[XB];have w:0<a->IntKind.i64.wrap (a-1)=a-1:=λh=>gJ _ (by omega);refine af (λ_=>?_) λ_=>af (λ_=>af (λ_=>⟨trivial,?_⟩) λ_=>?_) λ_=>⟨λy=>y=((n0==3||n0==4,()),()),?_,?_⟩
 .first|(simp_all;done)|(simp_all;grind)
 .first|(simp_all;done)|(simp_all;grind)
 .first|(simp_all;done)|(simp_all;grind)
 .refine af (λ_=>⟨rfl,?_⟩) λ_=>⟨rfl,?_⟩<;>first|(simp_all;done)|(simp_all;grind)
 .rintro _ rfl;refine af (λ_=>?_) λ_=>af (λ_=>af (λ_=>af (λh=>⟨trivial,?_⟩) λ_=>?_) λ_=>?_) λ_=>⟨λy=>y=((n0==6||n0==7,()),()),?_,?_⟩
  .refine af (λ_=>⟨trivial,af (λ_=>⟨trivial,af (λ_=>af (λ_=>af (λ_=>?_) λ_=>?_) λ_=>?_) λ_=>?_⟩) λ_=>?_⟩) λ_=>?_
   all_goals first|(simp_all;done)|(simp_all;grind)
  .rw[w (lV h)]
   first|(simp_all;done)|(simp_all;grind)
  .first|(simp_all;done)|(simp_all;grind)
  .first|(simp_all;done)|(simp_all;grind)
  .refine af (λ_=>⟨rfl,?_⟩) λ_=>⟨rfl,?_⟩<;>first|(simp_all;done)|(simp_all;grind)
  .rintro _ rfl;refine af (λ_=>af (λ_=>af (λh=>⟨trivial,?_⟩) λ_=>?_) λ_=>?_) λ_=>?_
   .rw[w (lV h)];refine af (λ_=>⟨trivial,?_⟩) λ_=>?_<;>first|(simp_all;done)|(simp_all;grind)
   .first|(simp_all;done)|(simp_all;grind)
   .first|(simp_all;done)|(simp_all;grind)
   .refine af (λ_=>af (λ_=>af (λ_=>⟨trivial,?_⟩) λ_=>?_) λ_=>?_) λ_=>af (λ_=>af (λ_=>⟨trivial,?_⟩) λ_=>?_) λ_=>?_
    all_goals first|(simp_all;done)|(simp_all;grind)
theorem PN:OK uy.e:=by
 refine PA.ok mixed (aQ [jm.e,jG.e,lQ.e,iF.e] ⟨qC,rH,Aq,kD,trivial⟩) RD (by kernel_rfl) (show∀n0 n1 n2 n3 n4 n5 n6 at',uy.goal (Ey n0 n1 n2 n3 n4 n5 n6 at') ((n0,n1,n2,n3,n4,n5,n6,()),at',())from ?_);intro n0 n1 n2 n3 n4 n5 n6 a hin hp;dsimp only[uy]at hp ⊢;have ha:-9223372036854775808<=a/\a<=9223372036854775807:=hin.2.1;show Ey n0 n1 n2 n3 n4 n5 n6 a λr=>r=(dZ (n0,n1,n2,n3,n4,n5,n6,()) a,());rw[XB];have w:0<a->IntKind.i64.wrap (a-1)=a-1:=λh=>gJ _ (by omega);refine⟨λy=>y=((decide (0<=n1)&&decide (n1<=a-1)&&decide (0<a),()),()),⟨trivial,?_⟩,?_⟩
 .by_cases h:0<a
  .dsimp only;rw[w h];refine af (λ_=>⟨rfl,?_⟩) λ_=>⟨rfl,?_⟩<;>first|(simp_all;done)|(simp_all;grind)
  .dsimp only;refine af (λ_=>⟨rfl,?_⟩) λ_=>⟨rfl,?_⟩<;>first|(simp_all;done)|(simp_all;grind)
 .rintro _ rfl;refine⟨λy=>y=(((decide (0<=n1)&&decide (n1<=a-1)&&decide (0<a))&&(decide (0<=n2)&&decide (n2<=a-1)),()),()),?_,?_⟩
  .refine af (λh=>⟨trivial,rfl,?_⟩) λh=>⟨rfl,?_⟩
   .have h:(decide (0<=n1)&&decide (n1<=a-1)&&decide (0<a))=true:=h;have h2:0<a:=by simp at h;omega
    rw[w h2,h,anF]
   .have h:(decide (0<=n1)&&decide (n1<=a-1)&&decide (0<a))=false:=h;rw[h,anY]
  .rintro _ rfl;dsimp only;generalize (decide (0<=n1)&&decide (n1<=a-1)&&decide (0<a))=kids;generalize (decide (0<=n2)&&decide (n2<=a-1))=two
   repeat' first
    |exact trivial
    |refine af (λ_=>?_) λ_=>?_
    |refine And.intro trivial ?_
   all_goals first|(simp_all;done)|(simp_all;grind)
end Go.Proofs.Tryz
namespace Go.Proofs.Tryz
open Go Go.Fw Go.IntWalk
theorem Uj:OK xu.e:=by
 refine PA.ok mixed (aQ [] trivial) V4 (by kernel_rfl) (show∀a b,xu.goal (Uk a b) (a,b,())from ?_);intro a b hin hp;dsimp only[xu]at hp ⊢;have hlen:a.length<=maxLen:=hin.1.1;rw[maxLen_eq]at hlen;refine af (λh=>?_) λh=>?_
 .have h:(a.length:Int)≠b.length:=by simpa using h
  exact congrArg (·,()) (anC λe=>h (by rw[e])).symm
 .have h:(a.length:Int)=b.length:=by simpa using h
  exact MJ (K:=λr=>r=(decide (a=b),())) (λx y=>!(x.1==y.1&&(x.2.1==y.2.1&&(x.2.2.1==y.2.2.1&&(x.2.2.2.1==y.2.2.2.1&&(x.2.2.2.2.1==y.2.2.2.2.1&&(x.2.2.2.2.2.1==y.2.2.2.2.2.1&&(x.2.2.2.2.2.2.1==y.2.2.2.2.2.2.1&&true)))))))) (λx y=>by simp[apl]) _ a b _ hlen (by omega) (λe=>by rw[anC e]) λe=>by rw[anE e]
theorem XC:OK zS.e:=by
 refine PA.ok mixed (aQ [xu.e] ⟨Uj,trivial⟩) H0 (by kernel_rfl) (show∀a0 a1 b0 b1,zS.goal (XD a0 a1 b0 b1) ((a0,a1,()),(b0,b1,()),())from ?_);intro a0 a1 b0 b1 hin hp;dsimp only[zS]at hp ⊢;refine af (λh0=>⟨trivial,?_⟩) λh0=>?_
 all_goals refine congrArg (·,()) (an2.2 ?_)
 .simp only[anq]at h0;subst h0;simp
 .have h0:a0≠b0:=by simpa using h0
  simp[h0]
end Go.Proofs.Tryz
namespace Go.Proofs.Tryz
open Go Go.Fw Go.IntWalk Sp
theorem Oq(a:Int)(x:aA):(Sp.refsOf a x:Int)=(if(x.1=6\/x.1=7\/x.1=5)/\x.2.1=a then 1 else 0)+(if(x.1=6\/x.1=7)/\x.2.2.1=a then 1 else 0):=by unfold Sp.refsOf jS;by_cases h6:x.1=6<;>by_cases h7:x.1=7<;>by_cases h5:x.1=5<;>by_cases hl:x.2.1=a<;>by_cases hr:x.2.2.1=a<;>simp[cond_eq_ite,h6,h7,h5,hl,hr]
theorem ail(a:Int)(x:aA):Sp.refsOf a x<=2:=by have:=Oq a x;split at this<;>split at this<;>omega
def lW(q:List aA)(a:Int)(n:Nat):Nat:=((q.take n).map (Sp.refsOf a)).sum
theorem KQ(q:List aA)(a:Int){n:Nat}(hn:n<q.length):lW q a (n+1)=lW q a n+Sp.refsOf a (Sp.nodeAt q n):=by unfold lW;rw[Sp.take_succ' q n (0,0,0,[],0,0,[],()) hn];simp only[aoL,List.sum_append,anH,List.map_nil,apZ,List.sum_nil,aoD];rfl
theorem RG(q:List aA)(a:Int):∀n,n<=q.length->lW q a n<=2*n
 |0,_=>by simp[lW]
 |n+1,h=>by rw[KQ q a (by omega)];have:=RG q a n (by omega);have:=ail a (Sp.nodeAt q n);omega
theorem XF(q:List aA)(a:Int):lW q a q.length=kZ q a:=by unfold lW kZ;rw[apr]
theorem JB:OK pF.e:=by
 refine PA.ok mixed (aQ [] trivial) KR (by kernel_rfl) (show∀q at',pF.goal (JC q at') (q,at',())from ?_);intro q a hin hp;dsimp only[pF]at hp ⊢;have hp:q.length<=2000000:=hp;refine zH (λi(c:Int)=>((c,i,()),())) (λy=>y.1.2.1) (λ_ _=>rfl) q.length (by omega) (λn c=>c=(lW q a n:Int)) rfl (λI μ n c hn hJ next=>?_) λI μ c hJ=>?_
 .subst hJ;have hs:=KQ q a hn;have hb:=RG q a n (by omega);have hr:=Oq a (Sp.nodeAt q n);dsimp only;rw[an9];have e:q.getD n (0,0,0,[],0,0,[],())=Sp.nodeAt q n:=rfl;rw[e];have w1:IntKind.i64.wrap ((lW q a n:Int)+1)=(lW q a n:Int)+1:=gJ _ (by omega);have w2:IntKind.i64.wrap ((lW q a n:Int)+1+1)=(lW q a n:Int)+1+1:=gJ _ (by omega);refine vX (by omega) ⟨⟨by omega,by omega⟩,af (λh6=>⟨λy=>y=(((lW q a n:Int)+(if(Sp.nodeAt q n).2.1=a then 1 else 0),()),()),⟨⟨by omega,by omega⟩,af (λhl=>⟨rfl,?_⟩) λhl=>⟨rfl,?_⟩⟩,?_⟩) λh6=>⟨⟨by omega,by omega⟩,λy=>y=(((lW q a n:Int)+(if((Sp.nodeAt q n).1=7\/(Sp.nodeAt q n).1=5)/\(Sp.nodeAt q n).2.1=a then 1 else 0),()),()),?_,?_⟩⟩
  .simp only[anq]at hl;rw[w1,if_pos hl]
  .simp only[ang]at hl;rw[if_neg hl,apa]
  .rintro _ rfl;simp only[anq]at h6;refine⟨⟨by omega,by omega⟩,af (λhrr=>⟨rfl,next _ ?_⟩) λhrr=>⟨rfl,next _ ?_⟩⟩
   all_goals
    dsimp only;simp only[anq,ang,ne_eq]at hrr;by_cases hl:(Sp.nodeAt q n).2.1=a<;>simp[h6,hl,hrr]at hr<;>simp only[hl,if_true,apm,apa,w1,w2]<;>omega
  .simp only[ang,ne_eq]at h6;refine af (λh7=>⟨⟨by omega,by omega⟩,af (λhl=>⟨rfl,?_⟩) λhl=>⟨rfl,?_⟩⟩) λh7=>⟨⟨by omega,by omega⟩,af (λh5=>⟨⟨by omega,by omega⟩,af (λhl=>⟨rfl,?_⟩) λhl=>⟨rfl,?_⟩⟩) λh5=>⟨rfl,?_⟩⟩
   all_goals simp_all
  .rintro _ rfl;simp only[ang,ne_eq]at h6;refine af (λh7=>⟨⟨by omega,by omega⟩,af (λhrr=>⟨rfl,next _ ?_⟩) λhrr=>⟨rfl,next _ ?_⟩⟩) λh7=>⟨rfl,next _ ?_⟩
   .simp only[anq]at h7 hrr;by_cases hl:(Sp.nodeAt q n).2.1=a<;>simp[h6,h7,hl,hrr]at hr<;>simp only[h7,hl,true_or,and_self,and_false,if_true,apm,apa,w1,w2]<;>omega
   .simp only[anq,ang,ne_eq]at h7 hrr;by_cases hl:(Sp.nodeAt q n).2.1=a<;>simp[h6,h7,hl,hrr]at hr<;>simp only[h7,hl,true_or,and_self,and_false,if_true,apm,apa,w1,w2]<;>omega
   .simp only[ang,ne_eq]at h7;dsimp only;by_cases h5:(Sp.nodeAt q n).1=5<;>by_cases hl:(Sp.nodeAt q n).2.1=a<;>simp[h6,h7,h5,hl]at hr<;>simp[h7,h5,hl]<;>omega
 .dsimp only;refine vY (by omega) ?_;rw[hJ,XF]
theorem JD:OK pG.e:=by
 refine PA.ok mixed (aQ [] trivial) KT (by kernel_rfl) (show∀q at',pG.goal (JE q at') (q,at',())from ?_);intro q a hin hp;dsimp only[pG]at hp ⊢;have hp:q.length<=2000000:=hp;refine zH (λi(c:Int)=>((c,i,()),())) (λy=>y.1.2.1) (λ_ _=>rfl) q.length (by omega) (λn c=>c=(lW q a n:Int)) rfl (λI μ n c hn hJ next=>?_) λI μ c hJ=>?_
 .subst hJ;have hs:=KQ q a hn;have hb:=RG q a n (by omega);have hr:=Oq a (Sp.nodeAt q n);dsimp only;rw[an9];have e:q.getD n (0,0,0,[],0,0,[],())=Sp.nodeAt q n:=rfl;rw[e];have w1:IntKind.i64.wrap ((lW q a n:Int)+1)=(lW q a n:Int)+1:=gJ _ (by omega);have w2:IntKind.i64.wrap ((lW q a n:Int)+1+1)=(lW q a n:Int)+1+1:=gJ _ (by omega);refine vX (by omega) ⟨⟨by omega,by omega⟩,af (λh6=>⟨λy=>y=(((lW q a n:Int)+(if(Sp.nodeAt q n).2.1=a then 1 else 0),()),()),af (λhl=>⟨rfl,?_⟩) λhl=>⟨rfl,?_⟩,?_⟩) λh6=>⟨λy=>y=(((lW q a n:Int)+(if((Sp.nodeAt q n).1=7\/(Sp.nodeAt q n).1=5)/\(Sp.nodeAt q n).2.1=a then 1 else 0),()),()),?_,?_⟩⟩
  .simp only[anq]at hl;rw[w1,if_pos hl]
  .simp only[ang]at hl;rw[if_neg hl,apa]
  .rintro _ rfl;simp only[anq]at h6;refine af (λhrr=>⟨rfl,next _ ?_⟩) λhrr=>⟨rfl,next _ ?_⟩
   all_goals
    dsimp only;simp only[anq,ang,ne_eq]at hrr;by_cases hl:(Sp.nodeAt q n).2.1=a<;>simp[h6,hl,hrr]at hr<;>simp only[hl,if_true,apm,apa,w1,w2]<;>omega
  .simp only[ang,ne_eq]at h6;refine af (λhl=>af (λh7=>⟨rfl,?_⟩) λh7=>af (λh5=>⟨rfl,?_⟩) λh5=>⟨rfl,?_⟩) λhl=>⟨rfl,?_⟩
   all_goals simp_all
  .rintro _ rfl;simp only[ang,ne_eq]at h6;refine af (λhrr=>af (λh7=>⟨rfl,next _ ?_⟩) λh7=>⟨rfl,next _ ?_⟩) λhrr=>⟨rfl,next _ ?_⟩
   .simp only[anq]at h7 hrr;by_cases hl:(Sp.nodeAt q n).2.1=a<;>simp[h6,h7,hl,hrr]at hr<;>simp only[h7,hl,true_or,and_self,and_false,if_true,apm,apa,w1,w2]<;>omega
   .simp only[ang,ne_eq]at h7;dsimp only;by_cases h5:(Sp.nodeAt q n).1=5<;>by_cases hl:(Sp.nodeAt q n).2.1=a<;>simp[h6,h7,h5,hl]at hr<;>simp[h7,h5,hl]<;>omega
   .simp only[ang,ne_eq]at hrr;dsimp only;by_cases h7:(Sp.nodeAt q n).1=7<;>by_cases h5:(Sp.nodeAt q n).1=5<;>by_cases hl:(Sp.nodeAt q n).2.1=a<;>simp[h6,h7,h5,hl,hrr]at hr<;>simp[h7,h5,hl]<;>omega
 .dsimp only;refine vY (by omega) ?_;rw[hJ,XF]
theorem XG{q:List aA}{n:Nat}(hn:n<q.length)(h:kW q n=false):aH q=false:=by unfold aH;rw[aaM hn h];rfl
theorem D5:OK oN.e:=by
 refine PA.ok mixed (aQ [iF.e,pF.e,uy.e] ⟨kD,JB,PN,trivial⟩) PO (by kernel_rfl) (show∀q,oN.goal (Ot q) (q,())from ?_);intro q hin hp;dsimp only[oN]at hp ⊢;have hp:q.length<=2000000:=hp;refine CX q.length (by omega) (λn=>∀i,i<n->kW q i=true) (λi hi=>by omega) (λI μ n hn hJ next=>?_) λI μ hJ=>?_
 .dsimp only;have no:kW q n=false->(false,())=(aH q,()):=λh=>by rw[XG hn h]
  rw[aef (show 0<q.length by omega) (by omega)];refine vX (by omega) ⟨⟨by omega,by omega⟩,trivial,af (λh2=>no ?_) λh2=>af (λh3=>⟨hp,af (λh4=>no ?_) λh4=>⟨rfl,next (yB hJ ?_)⟩⟩) λh3=>⟨rfl,next (yB hJ ?_)⟩⟩
  .have h2:dZ (Sp.nodeAt q n) n=false:=nV h2;unfold kW;rw[h2];rfl
  .have h2:dZ (Sp.nodeAt q n) n=true:=jL h2;have h4:(kZ q n:Int)≠1:=by simpa using h4
   have h3:(n:Int)<(q.length:Int)-1:=by have:=lV h3;omega
   unfold kW;simp only[h3,h2];simp;omega
  .have h2:dZ (Sp.nodeAt q n) n=true:=jL h2;have h4:(kZ q n:Int)=1:=by simpa using h4
   have h4:kZ q n=1:=by omega
   unfold kW;simp[h2,h4]
  .have h2:dZ (Sp.nodeAt q n) n=true:=jL h2;have h3:¬(n:Int)<(q.length:Int)-1:=by have:=nH h3;omega
   unfold kW;simp[h2,h3]
 .dsimp only;refine vY (by omega) ⟨trivial,congrArg (·,()) ?_⟩;unfold aH;rw[RH hJ];rfl
theorem xO:OK iO.e:=by
 refine PA.ok mixed (aQ [jw.e,pG.e,uz.e] ⟨nC,JD,PL,trivial⟩) PS (by kernel_rfl) (show∀q,iO.goal (Ou q) (q,())from ?_);intro q hin hp;dsimp only[iO]at hp ⊢;have hp:q.length<=2000000:=hp;refine CX q.length (by omega) (λn=>∀i,i<n->kW q i=true) (λi hi=>by omega) (λI μ n hn hJ next=>?_) λI μ hJ=>?_
 .dsimp only;have no:kW q n=false->(false,())=(aH q,()):=λh=>by rw[XG hn h]
  rw[aef (show 0<q.length by omega) (by omega)];refine vX (by omega) ⟨⟨by omega,by omega⟩,trivial,af (λh2=>no ?_) λh2=>af (λh3=>⟨hp,af (λh4=>no ?_) λh4=>⟨rfl,next (yB hJ ?_)⟩⟩) λh3=>⟨rfl,next (yB hJ ?_)⟩⟩
  .have h2:dZ (Sp.nodeAt q n) n=false:=nV h2;unfold kW;rw[h2];rfl
  .have h2:dZ (Sp.nodeAt q n) n=true:=jL h2;have h4:(kZ q n:Int)≠1:=by simpa using h4
   have h3:(n:Int)<(q.length:Int)-1:=by have:=lV h3;omega
   unfold kW;simp only[h3,h2];simp;omega
  .have h2:dZ (Sp.nodeAt q n) n=true:=jL h2;have h4:(kZ q n:Int)=1:=by simpa using h4
   have h4:kZ q n=1:=by omega
   unfold kW;simp[h2,h4]
  .have h2:dZ (Sp.nodeAt q n) n=true:=jL h2;have h3:¬(n:Int)<(q.length:Int)-1:=by have:=nH h3;omega
   unfold kW;simp[h2,h3]
 .dsimp only;refine vY (by omega) ⟨trivial,congrArg (·,()) ?_⟩;unfold aH;rw[RH hJ];rfl
end Go.Proofs.Tryz
namespace Go.Proofs.Tryz
open Go Go.Fw Go.IntWalk
theorem Hw:OK nN.e:=by refine PA.ok mixed (aQ [] trivial) I5 (by kernel_rfl) (show∀s1 s2,nN.goal (Hy s1 s2) (s1,s2,())from ?_);intro a b hin hp;dsimp only[nN]at hp ⊢;exact eqL (K:=λr=>r=(decide (a=b),())) (λx y=>!(x.1==y.1&&(x.2.1==y.2.1&&(x.2.2.1==y.2.2.1&&(x.2.2.2.1==y.2.2.2.1&&true))))) (λx y=>by simp[apl]) _ a b _ hin.1.1 rfl
theorem Hz:OK nO.e:=by refine PA.ok mixed (aQ [] trivial) I7 (by kernel_rfl) (show∀s1 s2,nO.goal (HY s1 s2) (s1,s2,())from ?_);intro a b hin hp;dsimp only[nO]at hp ⊢;exact eqL (K:=λr=>r=(decide (a=b),())) (λx y=>!(x.1==y.1&&(x.2.1==y.2.1&&(x.2.2.1==y.2.2.1&&(x.2.2.2.1==y.2.2.2.1&&(x.2.2.2.2.1==y.2.2.2.2.1&&(x.2.2.2.2.2.1==y.2.2.2.2.2.1&&(x.2.2.2.2.2.2.1==y.2.2.2.2.2.2.1&&true)))))))) (λx y=>by simp[apl]) _ a b _ hin.1.1 rfl
theorem RI:OK vM.e:=by
 refine PA.ok mixed (aQ [nN.e] ⟨Hw,trivial⟩) H0 (by kernel_rfl) (show∀a0 a1 a2 a3 a4 b0 b1 b2 b3 b4,vM.goal (RJ a0 a1 a2 a3 a4 b0 b1 b2 b3 b4) ((a0,a1,a2,a3,a4,()),(b0,b1,b2,b3,b4,()),())from ?_);intro a0 a1 a2 a3 a4 b0 b1 b2 b3 b4 hin hp;dsimp only[vM]at hp ⊢;refine af (λh0=>af (λh1=>af (λh2=>af (λh3=>⟨trivial,?_⟩) λh3=>?_) λh2=>?_) λh1=>?_) λh0=>?_
 all_goals refine congrArg (·,()) (an2.2 ?_)
 .simp only[anq]at h0 h1 h2 h3;subst h0 h1 h2 h3;simp
 .have h3:a3≠b3:=by simpa using h3
  simp[h3]
 .have h2:a2≠b2:=by simpa using h2
  simp[h2]
 .have h1:a1≠b1:=by simpa using h1
  simp[h1]
 .have h0:a0≠b0:=by simpa using h0
  simp[h0]
theorem Ov:OK tu.e:=by refine PA.ok mixed (aQ [nO.e] ⟨Hz,trivial⟩) H0 (by kernel_rfl) (show∀a b,tu.goal (Ox a b) (a,b,())from ?_);intro a b hin hp;dsimp only[tu]at hp ⊢;exact⟨trivial,rfl⟩
theorem XH:OK zT.e:=by refine XA.ok mixed (aQ [dY.e] ⟨fU,trivial⟩) H0 (λ_ _=>⟨(([],()),(([],0,0,()),())),⟨by decide,by decide⟩⟩) (by kernel_rfl) (show∀c0 c1 c2,zT.goal (XI c0 c1 c2) ((c0,c1,c2,()),())from ?_);intro b i h hin hp;dsimp only[zT]at hp ⊢;exact⟨⟨hp,by simp⟩,λr0 hr0=>⟨hr0.1,(show∀y∈_,List.length y.1<=10 from by decide) _ hr0.2⟩⟩
theorem PU:OK uD.e:=by refine PA.ok mixed (aQ [] trivial) H0 (by kernel_rfl) (show∀s,uD.goal (PV s) (s,())from ?_);intro w hin hp;dsimp only[uD]at hp ⊢;exact rfl
theorem XJ:OK zU.e:=by refine XA.ok mixed (aQ [gm.e] ⟨jh,trivial⟩) H0 (λ_ _=>⟨((0,()),(([],0,0,()),())),aol 0⟩) (by kernel_rfl) (show∀c0 c1 c2,zU.goal (XK c0 c1 c2) ((c0,c1,c2,()),())from ?_);intro b i h hin hp;dsimp only[zU]at hp ⊢;exact⟨⟨hp,by simp⟩,λr0 hr0=>hr0.1⟩
end Go.Proofs.Tryz
