import Derived.Test.YtkgkfdphbkfjnaaGreatV1
import Derived.Test.YtkgkfdphbkfjnaaGreatSp
namespace Go.Proofs.Tryz
open Go Go.Fw Go.IntWalk Sp
theorem aob(x y:Int)(m:Nat)(hm:m<9223372036854775807)(hy:(BitVec.ofInt 64 y).toNat=m):0<=bitsOf .and .i64 x y/\bitsOf .and .i64 x y<=m:=by
 have h:(BitVec.ofInt 64 x&&&BitVec.ofInt 64 y).toNat<=m:=by rw[BitVec.toNat_and,hy];exact Nat.and_le_right
 show 0<=IntKind.i64.wrap ((BitVec.ofInt 64 x&&&BitVec.ofInt 64 y).toNat:Int)/\IntKind.i64.wrap ((BitVec.ofInt 64 x&&&BitVec.ofInt 64 y).toNat:Int)<=m;generalize (BitVec.ofInt 64 x&&&BitVec.ofInt 64 y).toNat=z at h ⊢;rw[eP _ (by omega)];omega
theorem aoc(x:Int):0<=bitsOf .and .i64 x 255/\bitsOf .and .i64 x 255<=255:=aob x 255 255 (by omega) (by decide)
theorem agK:OK G9.e:=by
 refine QA.ok mixed (au [] trivial) aiF (λ⟨_,⟨⟩⟩ _=>⟨([],0,0,()),rfl⟩) (by kernel_rfl) (show∀code,G9.goal (agL code) (code,())from ?_);intro code hin hp;dsimp only[G9]at hp ⊢;have hp:code.length<=1048576:=hp;refine⟨λy=>∃n:Nat,y.1.2.1=n/\n<=code.length,λy=>((code.length:Int)-y.1.2.1).toNat,⟨0,rfl,by omega⟩,?_⟩;rintro⟨⟨h,_,⟨⟩⟩,⟨⟩⟩ ⟨n,rfl,hn⟩;dsimp only;refine af (λhc=>?_) λhc=>?_
 .simp only[auK]at hc;cases decide ((n:Int)<4000)with
  |false=>exact rfl
  |true=>
   have e:IntKind.i64.wrap ((n:Int)+1)=((n+1:Nat):Int):=eP _ (by omega);refine⟨?_,?_,?_,?_⟩
   .exact⟨by omega,hc⟩
   .exact rfl
   .exact⟨n+1,e,by omega⟩
   show((code.length:Int)-IntKind.i64.wrap ((n:Int)+1)).toNat<((code.length:Int)-n).toNat;rw[e];omega
 .exact rfl
theorem aey:OK Fj.e:=by
 refine XA.ok mixed (au [] trivial) H0 (λ_ _=>⟨(((0:Int),()),(([],0,0,()),())),⟨by decide,by decide,by decide⟩⟩) (by kernel_rfl) (show∀c0 c1 c2,Fj.goal (aez c0 c1 c2) ((c0,c1,c2,()),())from ?_);intro b i h hin hp;dsimp only[Fj]at hp ⊢;have hp:0<=i:=hp;refine⟨by decide,by decide,af (λhc=>?_) λhc=>?_⟩<;>simp only[auK,avs]at hc
 .have hl:b.length<=maxLen:=hin.1.1.1;rw[maxLen_eq]at hl;refine⟨⟨hp,hc⟩,?_,aoc _⟩;show 0<=IntKind.i64.wrap (i+1);rw[eP _ (by omega)];omega
 .exact⟨hp,aoc _⟩
theorem tmod_lt{a n:Int}(ha:0<=a)(hn:0<n):0<=a.tmod n/\a.tmod n<n:=⟨axA n ha,Int.tmod_lt_of_pos a hn⟩
theorem eG:OK dS.e:=by
 refine XA.ok mixed (au [Fj.e] ⟨aey,trivial⟩) H0 (λ⟨_,n,⟨⟩⟩ _=>⟨(((0:Int),()),(([],0,0,()),())),⟨au7 _,au7 _,λh=>h,λ_=>rfl⟩⟩) (by kernel_rfl) (show∀c0 c1 c2 n,dS.goal (acs c0 c1 c2 n) ((c0,c1,c2,()),n,())from ?_);intro b i h n hin hp;dsimp only[dS]at hp ⊢;have hp:0<=i:=hp;refine af (λhc=>?_) λhc=>?_<;>simp only[auK,avs]at hc
 .exact⟨hp,au7 _,λh=>(by omega),λ_=>rfl⟩
 .refine af (λhc2=>?_) λhc2=>?_
  .refine⟨hp,?_⟩;rintro⟨⟨x,⟨⟩⟩,⟨b',i',h',⟨⟩⟩,⟨⟩⟩ ⟨h1,h2,h3⟩;dsimp only at h1 h2 h3 ⊢;have:=tmod_lt h2 (show 0<n by omega);exact⟨by omega,h1,this.1,λ_=>this.2,λh=>(by omega)⟩
  .refine⟨hp,?_⟩;rintro⟨⟨x1,⟨⟩⟩,⟨b1,i1,g1,⟨⟩⟩,⟨⟩⟩ ⟨h1,h2,h3⟩;refine⟨h1,?_⟩;rintro⟨⟨x2,⟨⟩⟩,⟨b2,i2,g2,⟨⟩⟩,⟨⟩⟩ ⟨k1,k2,k3⟩;refine⟨k1,?_⟩;rintro⟨⟨x3,⟨⟩⟩,⟨b3,i3,g3,⟨⟩⟩,⟨⟩⟩ ⟨l1,l2,l3⟩;refine⟨l1,?_⟩;rintro⟨⟨x4,⟨⟩⟩,⟨b4,i4,g4,⟨⟩⟩,⟨⟩⟩ ⟨m1,m2,m3⟩;dsimp only at*;rw[eP (x1*16777216) (by omega),eP (x2*65536) (by omega),eP (x3*256) (by omega),eP (x1*16777216+x2*65536) (by omega),eP (x1*16777216+x2*65536+x3*256) (by omega),eP (x1*16777216+x2*65536+x3*256+x4) (by omega)];have:=tmod_lt (a:=x1*16777216+x2*65536+x3*256+x4) (n:=n) (by omega) (by omega);exact⟨by omega,m1,this.1,λ_=>this.2,λh=>(by omega)⟩
theorem uX:OK kV.e:=by refine XA.ok mixed (au [dS.e] ⟨eG,trivial⟩) H0 (λ_ _=>⟨((false,()),(([],0,0,()),())),au7 _⟩) (by kernel_rfl) (show∀c0 c1 c2 n,kV.goal (aeA c0 c1 c2 n) ((c0,c1,c2,()),n,())from ?_);intro b i h n hin hp;dsimp only[kV]at hp ⊢;refine⟨hp,?_⟩;rintro⟨⟨x,⟨⟩⟩,⟨b',i',h',⟨⟩⟩,⟨⟩⟩ ⟨h1,_⟩;exact h1
theorem jE:OK iI.e:=by refine XA.ok mixed (au [dS.e] ⟨eG,trivial⟩) H0 (λ⟨_,l,⟨⟩⟩⟨_,hl⟩=>(match l,hl with|x::_,_=>⟨((x.1,()),(([],0,0,()),())),⟨au7 _,auF⟩⟩)) (by kernel_rfl) (show∀c0 c1 c2 list,iI.goal (aeB c0 c1 c2 list) ((c0,c1,c2,()),list,())from ?_);intro b i h l hin hp;dsimp only[iI]at hp ⊢;obtain⟨hp,hl⟩:=hp;have hpos:0<l.length:=axe.2 hl;refine⟨hp,?_⟩;rintro⟨⟨x,⟨⟩⟩,⟨b',i',h',⟨⟩⟩,⟨⟩⟩ ⟨h1,h2,h3,_⟩;have h3:x<(l.length:Int):=h3 (by omega);refine⟨⟨h2,h3⟩,h1,?_⟩;exact getD_mem (by dsimp only at h2;omega)
theorem jF:OK iG.e:=by refine XA.ok mixed (au [dS.e] ⟨eG,trivial⟩) H0 (λ⟨_,l,⟨⟩⟩⟨_,hl⟩=>(match l,hl with|x::_,_=>⟨((x.1,()),(([],0,0,()),())),⟨au7 _,auF⟩⟩)) (by kernel_rfl) (show∀c0 c1 c2 list,iG.goal (X5 c0 c1 c2 list) ((c0,c1,c2,()),list,())from ?_);intro b i h l hin hp;dsimp only[iG]at hp ⊢;obtain⟨hp,hl⟩:=hp;have hpos:0<l.length:=axe.2 hl;refine⟨hp,?_⟩;rintro⟨⟨x,⟨⟩⟩,⟨b',i',h',⟨⟩⟩,⟨⟩⟩ ⟨h1,h2,h3,_⟩;have h3:x<(l.length:Int):=h3 (by omega);refine⟨⟨h2,h3⟩,h1,?_⟩;exact getD_mem (by dsimp only at h2;omega)
theorem OE:OK yJ.e:=by refine XA.ok mixed (au [] trivial) aeC (λ_ _=>⟨((Sp.usual,()),()),rfl⟩) (by kernel_rfl) (show yJ.goal (acu) (())from ?_);intro hin hp;dsimp only[yJ]at hp ⊢;exact rfl
theorem Qq:OK AB.e:=by refine XA.ok mixed (au [iI.e] ⟨jE,trivial⟩) H0 (λ_ _=>⟨(([],()),(([],0,0,()),())),⟨by decide,by decide⟩⟩) (by kernel_rfl) (show∀c0 c1 c2,AB.goal (aeD c0 c1 c2) ((c0,c1,c2,()),())from ?_);intro b i h hin hp;dsimp only[AB]at hp ⊢;refine⟨⟨hp,by simp⟩,?_⟩;rintro⟨⟨x,⟨⟩⟩,⟨b',i',h',⟨⟩⟩,⟨⟩⟩ ⟨h1,h2⟩;refine⟨h1,?_⟩;exact(show∀y∈_,List.length y.1<=1 from by decide) _ h2
theorem X6:Sp.usual.length=4:=rfl
theorem agM:OK He.e:=by
 refine XA.ok mixed (au [iI.e,AB.e,dS.e,yJ.e] ⟨jE,Qq,eG,OE,trivial⟩) aiG (λ_ _=>⟨(([],()),(([],0,0,()),())),⟨by decide,by decide⟩⟩) (by kernel_rfl) (show∀c0 c1 c2,He.goal (agN c0 c1 c2) ((c0,c1,c2,()),())from ?_);intro b i h hin hp;dsimp only[He]at hp ⊢;have hp:0<=i:=hp;refine⟨trivial,?_⟩;rintro⟨⟨_,⟨⟩⟩,⟨⟩⟩ rfl;dsimp only
 repeat' first
  |exact trivial
  |refine af (λ_=>?_) λ_=>?_
  |refine And.intro ?_ ?_
  |(intro r hr;simp only[]at hr)
  |intro r hr
 all_goals first
  |omega
  |(dsimp only at*;omega)
  |exact hr
  |(simp only[auu,ne_eq]at*;omega)
  |(simp only[auR,aut,auy,auv,auz,X6];omega)
  |(rw[bY];simp only[auR,aut,auy,auv,auz,X6];omega)
  |(simp only[auR,aut,auy,auv,auz,X6]at*;omega)
  |exact(show∀y∈_,List.length y.1<=10 from by decide) _ hr.2
  |(simp;done)
  |skip
theorem Ic:OK uF.e:=by refine PA.ok mixed (au [] trivial) H0 (by kernel_rfl) (show∀n,uF.goal (acv n) (n,())from ?_);intro n hin hp;dsimp only[uF]at hp ⊢;exact rfl
theorem yh:OK lT.e:=by refine PA.ok mixed (au [] trivial) H0 (by kernel_rfl) (show∀w,lT.goal (VZ w) (w,())from ?_);intro n hin hp;dsimp only[lT]at hp ⊢;exact rfl
theorem acw:OK Em.e:=by
 refine XA.ok mixed (au [lT.e,iI.e,uF.e,dS.e] ⟨yh,jE,Ic,eG,trivial⟩) H0 (λ_ _=>⟨((((0:Int),(0:Int),([]:List UInt8),()),()),(([],0,0,()),())),⟨by decide,by decide⟩⟩) (by kernel_rfl) (show∀c0 c1 c2,Em.goal (acy c0 c1 c2) ((c0,c1,c2,()),())from ?_);intro b i h hin hp;dsimp only[Em]at hp ⊢;have hp:0<=i:=hp
 repeat' first
  |exact trivial
  |refine af (λ_=>?_) λ_=>?_
  |refine And.intro ?_ ?_
  |(intro r hr;simp only[]at hr)
  |intro r hr
 all_goals first
  |omega
  |(dsimp only at*;omega)
  |exact hr
  |(simp only[auu,ne_eq]at*;omega)
  |(simp only[auR,aut,auy,auv,auz];omega)
  |(rw[bY];simp only[auR,aut,auy,auv,auz];omega)
  |(simp only[auR,aut,auy,auv,auz]at*;omega)
  |exact(show∀y∈_,List.length y.1<=10 from by decide) _ hr.2
  |(simp;done)
  |skip
theorem SH:OK Dw.e:=by
 refine XA.ok mixed (au [iI.e,iG.e,dS.e,Em.e] ⟨jE,jF,eG,acw,trivial⟩) H0 (λ_ _=>⟨((((0:Int),(0:Int),([]:List UInt8),()),()),(([],0,0,()),())),⟨by decide,by decide⟩⟩) (by kernel_rfl) (show∀c0 c1 c2,Dw.goal (agO c0 c1 c2) ((c0,c1,c2,()),())from ?_);intro b i h hin hp;dsimp only[Dw]at hp ⊢;have hp:0<=i:=hp
 repeat' first
  |exact trivial
  |refine af (λ_=>?_) λ_=>?_
  |refine And.intro ?_ ?_
  |(intro r hr;simp only[]at hr)
  |intro r hr
 all_goals first
  |omega
  |(dsimp only at*;omega)
  |exact hr
  |(simp only[auu,ne_eq]at*;omega)
  |(simp only[auR,aut,auy,auv,auz];omega)
  |(rw[bY];simp only[auR,aut,auy,auv,auz];omega)
  |(simp only[auR,aut,auy,auv,auz]at*;omega)
  |exact(show∀y∈_,List.length y.1<=10 from by decide) _ hr.2
  |(simp;done)
  |skip
theorem jA:OK iT.e:=by
 refine PA.ok mixed (au [] trivial) H0 (by kernel_rfl) (show∀IA least most,iT.goal (aiH IA least most) (IA,least,most,())from ?_);intro x a b hin hp;dsimp only[iT]at hp ⊢;refine af (λh=>?_) λh=>?_
 .have h:=fG h;show(decide (x<=b),())=(decide (a<=x)&&decide (x<=b),());rw[auB (show a<=x from h)];rfl
 .have h:=fZ h;show(false,())=(decide (a<=x)&&decide (x<=b),());rw[auD (show ¬a<=x from h)];rfl
theorem pV:OK kT.e:=by
 refine PA.ok mixed (au [] trivial) H0 (by kernel_rfl) (show∀n low high,kT.goal (agP n low high) (n,low,high,())from ?_);intro x a b hin hp;dsimp only[kT]at hp ⊢;refine af (λh=>?_) λh=>?_
 .show(decide (x<=b),())=(decide (a<=x)&&decide (x<=b),());rw[h];rfl
 .show(false,())=(decide (a<=x)&&decide (x<=b),());rw[h];rfl
theorem Nv{s:List UInt8}{n:Nat}(hlt:n<s.length)(hl:Sp.lower s=true):97<=(s.getD n 0).toNat/\(s.getD n 0).toNat<=122:=by have:=auU.1 hl _ (getD_mem (d:=0) hlt);simpa using this
theorem Qr:OK AL.e:=by
 refine PA.ok mixed (au [iT.e] ⟨jA,trivial⟩) agQ (by kernel_rfl) (show∀s most,AL.goal (aeE s most) (s,most,())from ?_);intro s most hin hp;dsimp only[AL]at hp ⊢;have hlen:s.length<=maxLen:=hin.1;rw[maxLen_eq]at hlen;refine⟨λy=>∃n:Nat,y.1.1=n/\n<=s.length/\Sp.lower (s.take n)=true,λy=>((s.length:Int)-y.1.1).toNat,⟨0,rfl,by omega,rfl⟩,?_⟩;rintro⟨⟨_,⟨⟩⟩,⟨⟩⟩ ⟨n,rfl,hn,hJ⟩;dsimp only;refine af (λh=>?_) λh=>?_<;>simp only[auK,avs]at h
 .have hlt:n<s.length:=by omega
  rw[eP _ (by omega),auA];refine⟨⟨by omega,by omega⟩,af (λh2=>?_) λh2=>⟨⟨by omega,by omega⟩,af (λh3=>?_) λh3=>?_⟩⟩<;>simp only[auK,avs]at*
  .cases hl:Sp.lower s with
   |false=>rfl
   |true=>have:=Nv hlt hl;omega
  .cases hl:Sp.lower s with
   |false=>rfl
   |true=>have:=Nv hlt hl;omega
  .refine⟨rfl,⟨n+1,by simp,by omega,?_⟩,by dsimp only;omega⟩;rw[Sp.take_succ' s n 0 hlt];unfold Sp.lower at hJ ⊢;rw[List.all_append,hJ];simp only[avD,axx,awl,av8,auq,auK];omega
 .have hge:n=s.length:=by omega
  rw[hge,auO]at hJ;rw[hJ];exact⟨trivial,rfl⟩
theorem BA:OK mD.e:=by refine PA.ok mixed (au [AL.e] ⟨Qr,trivial⟩) H0 (by kernel_rfl) (show∀s,mD.goal (SI s) (s,())from ?_);intro s hin hp;dsimp only[mD]at hp ⊢;exact⟨trivial,rfl⟩
theorem Js:OK rH.e:=by
 refine PA.ok mixed (au [mD.e,iT.e] ⟨BA,jA,trivial⟩) H0 (by kernel_rfl) (show∀v0 v1 v2,rH.goal (Uy v0 v1 v2) ((v0,v1,v2,()),())from ?_);intro k n s hin hp;dsimp only[rH]at hp ⊢;refine af (λh=>?_) λh=>af (λh2=>⟨trivial,af (λh3=>?_) λh3=>?_⟩) λh2=>af (λh3=>⟨trivial,af (λh4=>?_) λh4=>?_⟩) λh3=>?_
 .have e:k=0:=by simpa using h
  subst e;exact congrArg (·,()) (auS.2 (by simp[jX]))
 .have e:k=1:=by simpa using h2
  subst e;exact congrArg (·,()) (auS.2 (by simp only[auq,auK]at h3;simp[jX,h3]))
 .have e:k=1:=by simpa using h2
  subst e;exact congrArg (·,()) (auS.2 (by simp only[jX,h3];simp))
 .have e:k=2:=by simpa using h3
  subst e;exact congrArg (·,()) (auS.2 (by simp[jX,h4]))
 .have e:k=2:=by simpa using h3
  subst e;exact congrArg (·,()) (auS.2 (by simp[jX,h4]))
 .have e1:k≠0:=by simpa using h
  have e2:k≠1:=by simpa using h2
  have e3:k≠2:=by simpa using h3
  exact congrArg (·,()) (auS.2 (by simp[jX,e1,e2,e3]))
theorem F9:OK nU.e:=by refine PA.ok mixed (au [AL.e] ⟨Qr,trivial⟩) H0 (by kernel_rfl) (show∀s,nU.goal (PL s) (s,())from ?_);intro s hin hp;dsimp only[nU]at hp ⊢;exact⟨trivial,rfl⟩
theorem Z9:OK BV.e:=by
 refine PA.ok mixed (au [] trivial) acz (by kernel_rfl) (show∀s name,BV.goal (aac s name) (s,name,())from ?_);intro s name hin hp;dsimp only[BV]at hp ⊢;have hlen:s.length<=maxLen:=hin.1.1;rw[maxLen_eq]at hlen;refine iL s.length hlen (λn=>∀i,i<n->(s.getD i ([],0,())).1≠name) (λi hi=>by omega) (λI μ n hn hJ next=>?_) λI μ hJ=>?_
 .dsimp only;refine dn (by omega) ⟨⟨by omega,by omega⟩,af (λh=>⟨⟨by omega,by omega⟩,?_⟩) λh=>⟨rfl,next λi hi=>?_⟩⟩
  .exact congrArg (·,()) (X7 s n hn hJ (by simpa only[auA,auE]using h)).symm
  .rcases auJ i n with h'|h'
   .exact hJ i h'
   .have:i=n:=by omega
    subst this;have h2:((s.getD i ([],0,())).1==name)=false:=h;exactλe=>by rw[e]at h2;simp at h2
 .dsimp only;exact dw (by omega) (congrArg (·,()) (QV s hJ).symm)
theorem IB:OK ql.e:=by
 refine PA.ok mixed (au [iT.e,nU.e] ⟨jA,F9,trivial⟩) Uz (by kernel_rfl) (show∀s,ql.goal (SK s) (s,())from ?_);intro s hin hp;dsimp only[ql]at hp ⊢;have hlen:s.length<=maxLen:=hin.1.1;rw[maxLen_eq]at hlen;refine iL s.length hlen (λn=>∀i,i<n->kY s i=true) (λi hi=>by omega) (λI μ n hn hJ next=>?_) λI μ hJ=>?_
 .dsimp only;have no:kY s n=false->(false,())=(gy s,()):=λh=>by rw[abD hn h]
  refine dn (by omega) ⟨⟨by omega,by omega⟩,trivial,af (λh2=>no ?_) λh2=>⟨⟨by omega,by omega⟩,trivial,af (λh3=>no ?_) λh3=>af (λh4=>?_) λh4=>⟨rfl,next (fJ hJ ?_)⟩⟩⟩
  .have h2:jQ (Sp.fieldAt s n).1=false:=dQ h2;unfold kY;rw[h2];rfl
  .have h2:jQ (Sp.fieldAt s n).1=true:=bP h2;have h3:(decide (1<=(Sp.fieldAt s n).2.1)&&decide ((Sp.fieldAt s n).2.1<=2))=false:=dQ h3;unfold kY;rw[h2,h3];rfl
  .have h2:jQ (Sp.fieldAt s n).1=true:=bP h2;have h3:(decide (1<=(Sp.fieldAt s n).2.1)&&decide ((Sp.fieldAt s n).2.1<=2))=true:=bP h3;have h4:0<n:=by have:=fG h4;omega
   rw[wU h4 (by omega)];refine⟨⟨by omega,by omega⟩,⟨by omega,by omega⟩,af (λh5=>no ?_) λh5=>⟨rfl,next (fJ hJ ?_)⟩⟩
   .have h5:Op.bytesLess (Sp.fieldAt s (n-1)).1 (Sp.fieldAt s n).1=false:=dQ h5;unfold kY;rw[h2,h3,h5,auB h4];rfl
   .have h5:Op.bytesLess (Sp.fieldAt s (n-1)).1 (Sp.fieldAt s n).1=true:=bP h5;unfold kY;rw[h2,h3,h5,auB h4];rfl
  .have h2:jQ (Sp.fieldAt s n).1=true:=bP h2;have h3:(decide (1<=(Sp.fieldAt s n).2.1)&&decide ((Sp.fieldAt s n).2.1<=2))=true:=bP h3;have h4:¬0<n:=by have:=fZ h4;omega
   unfold kY;rw[h2,h3,auD h4];rfl
 .dsimp only;refine dw (by omega) (congrArg (·,()) ?_);unfold gy;rw[oh hJ];rfl
theorem SL:OK vW.e:=by
 refine PA.ok mixed (au [BV.e,rH.e] ⟨Z9,Js,trivial⟩) H0 (by kernel_rfl) (show∀s name v0 v1 v2,vW.goal (SN s name v0 v1 v2) (s,name,(v0,v1,v2,()),())from ?_);intro fs s k n w hin hp;dsimp only[vW]at hp ⊢;refine⟨trivial,af (λh=>af (λh2=>⟨trivial,?_⟩) λh2=>?_) λh=>?_⟩
 .exact congrArg (·,()) (auS.2 (by simp only[awD,ne_eq]at h2;simp[jy,h,h2]))
 .exact congrArg (·,()) (auS.2 (by simp at h2;simp[jy,h2]))
 .exact congrArg (·,()) (auS.2 (by simp[jy,h]))
theorem Ed:OK oU.e:=by
 refine PA.ok mixed (au [iT.e,ql.e,vW.e] ⟨jA,IB,SL,trivial⟩) X8 (by kernel_rfl) (show∀s f0 f1 f2 f3 f4,oU.goal (V3 s f0 f1 f2 f3 f4) (s,(f0,f1,f2,f3,f4,()),())from ?_);intro fs f0 f1 f2 f3 f4 hin hp;dsimp only[oU]at hp ⊢;have hlen:f4.length<=maxLen:=hin.2.1.2.2.2.2.1.1;rw[maxLen_eq]at hlen;refine iL f4.length hlen (λn=>∀i,i<n->kz fs f4 i=true) (λi hi=>by omega) (λI μ n hn hJ next=>?_) λI μ hJ=>?_
 .dsimp only;have no:kz fs f4 n=false->(false,())=(dD fs (f0,f1,f2,f3,f4,()),()):=λh=>by rw[ah8 (f:=(f0,f1,f2,f3,f4,())) hn h]
  refine dn (by omega) ⟨⟨by omega,by omega⟩,⟨by omega,by omega⟩,trivial,af (λh2=>no ?_) λh2=>af (λh4=>?_) λh4=>⟨rfl,next (fJ hJ ?_)⟩⟩
  .have h2:jy fs (dG f4 n).1 (dG f4 n).2.1 (dG f4 n).2.2.1 (dG f4 n).2.2.2.1=false:=dQ h2;unfold kz;rw[h2];rfl
  .have h2:jy fs (dG f4 n).1 (dG f4 n).2.1 (dG f4 n).2.2.1 (dG f4 n).2.2.2.1=true:=bP h2;have h4:0<n:=by have:=fG h4;omega
   rw[wU h4 (by omega)];refine⟨⟨by omega,by omega⟩,⟨by omega,by omega⟩,af (λh5=>no ?_) λh5=>⟨rfl,next (fJ hJ ?_)⟩⟩
   .have h5:Op.bytesLess (dG f4 (n-1)).1 (dG f4 n).1=false:=dQ h5;unfold kz;rw[h2,h5,auB h4];rfl
   .have h5:Op.bytesLess (dG f4 (n-1)).1 (dG f4 n).1=true:=bP h5;unfold kz;rw[h2,h5,auB h4];rfl
  .have h2:jy fs (dG f4 n).1 (dG f4 n).2.1 (dG f4 n).2.2.1 (dG f4 n).2.2.2.1=true:=bP h2;have h4:¬0<n:=by have:=fZ h4;omega
   unfold kz;rw[h2,auD h4];rfl
 .dsimp only;have ha:jY fs f4=true:=oh hJ;refine dw (by omega) ⟨trivial,af (λh1=>⟨trivial,af (λh2=>⟨trivial,af (λh3=>⟨trivial,?_⟩) λh3=>?_⟩) λh2=>?_⟩) λh1=>?_⟩
  .refine congrArg (·,()) ?_;unfold dD;rw[ha,h1,h2,h3];rfl
  .refine congrArg (·,()) ?_;unfold dD;rw[ha,h1,h2,h3];rfl
  .refine congrArg (·,()) ?_;unfold dD;rw[ha,h1,h2];rfl
  .refine congrArg (·,()) ?_;unfold dD;rw[ha,h1];rfl
theorem qK:OK jS.e:=by
 refine PA.ok mixed (au [iT.e,ql.e,oU.e] ⟨jA,IB,Ed,trivial⟩) V4 (by kernel_rfl) (show∀s0 s1 s2,jS.goal (UA s0 s1 s2) ((s0,s1,s2,()),())from ?_);intro s0 s1 s2 hin hp;dsimp only[jS]at hp ⊢;have hlen:s1.length<=maxLen:=hin.1.2.1.1;rw[maxLen_eq]at hlen;refine iL s1.length hlen (λn=>∀i,i<n->kR (s0,s1,s2,()) i=true) (λi hi=>by omega) (λI μ n hn hJ next=>?_) λI μ hJ=>?_
 .dsimp only;have no:kR (s0,s1,s2,()) n=false->(false,())=(aB (s0,s1,s2,()),()):=λh=>by rw[aeF (s:=(s0,s1,s2,())) hn h]
  refine dn (by omega) ⟨⟨by omega,by omega⟩,trivial,af (λh2=>no ?_) λh2=>⟨⟨by omega,by omega⟩,af (λh3=>no ?_) λh3=>af (λh4=>?_) λh4=>⟨rfl,next (fJ hJ ?_)⟩⟩⟩
  .have h2:dD s0 (Sp.fileAt s1 n)=false:=dQ h2;show(dD s0 (Sp.fileAt s1 n)&&_&&_)=false;rw[h2];rfl
  .have h2:dD s0 (Sp.fileAt s1 n)=true:=bP h2;have h3:¬(Sp.fileAt s1 n).1<s2:=by have h3:(Sp.fileAt s1 n).1>=s2:=fG h3;omega
   show(dD s0 (Sp.fileAt s1 n)&&decide ((Sp.fileAt s1 n).1<s2)&&_)=false;rw[h2,auD h3];rfl
  .have h2:dD s0 (Sp.fileAt s1 n)=true:=bP h2;have h3:(Sp.fileAt s1 n).1<s2:=by have h3:¬(Sp.fileAt s1 n).1>=s2:=fZ h3;omega
   have h4:0<n:=by have:=fG h4;omega
   rw[wU h4 (by omega)];refine⟨⟨by omega,by omega⟩,⟨by omega,by omega⟩,af (λh5=>no ?_) λh5=>⟨rfl,next (fJ hJ ?_)⟩⟩
   .have h5:¬(Sp.fileAt s1 (n-1)).1<(Sp.fileAt s1 n).1:=by have h5:(Sp.fileAt s1 (n-1)).1>=(Sp.fileAt s1 n).1:=fG h5;omega
    show(dD s0 (Sp.fileAt s1 n)&&decide ((Sp.fileAt s1 n).1<s2)&&!(decide (0<n)&&!decide ((Sp.fileAt s1 (n-1)).1<(Sp.fileAt s1 n).1)))=false;rw[h2,auB h3,auB h4,auD h5];rfl
   .have h5:(Sp.fileAt s1 (n-1)).1<(Sp.fileAt s1 n).1:=by have h5:¬(Sp.fileAt s1 (n-1)).1>=(Sp.fileAt s1 n).1:=fZ h5;omega
    show(dD s0 (Sp.fileAt s1 n)&&decide ((Sp.fileAt s1 n).1<s2)&&!(decide (0<n)&&!decide ((Sp.fileAt s1 (n-1)).1<(Sp.fileAt s1 n).1)))=true;rw[h2,auB h3,auB h4,auB h5];rfl
  .have h2:dD s0 (Sp.fileAt s1 n)=true:=bP h2;have h3:(Sp.fileAt s1 n).1<s2:=by have h3:¬(Sp.fileAt s1 n).1>=s2:=fZ h3;omega
   have h4:¬0<n:=by have:=fZ h4;omega
   show(dD s0 (Sp.fileAt s1 n)&&decide ((Sp.fileAt s1 n).1<s2)&&!(decide (0<n)&&!decide ((Sp.fileAt s1 (n-1)).1<(Sp.fileAt s1 n).1)))=true;rw[h2,auB h3,auD h4];rfl
 .dsimp only;have ha:jd s1.length (kR (s0,s1,s2,()))=true:=oh hJ;refine dw (by omega) ⟨trivial,af (λh1=>af (λh2=>⟨trivial,?_⟩) λh2=>?_) λh1=>?_⟩
  .refine congrArg (·,()) ?_;show _=(jd s1.length (kR (s0,s1,s2,()))&&gy s0&&decide ((s1.length:Int)<=12)&&(decide (1<=s2)&&decide (s2<=61)));rw[ha,h1,h2];rfl
  .refine congrArg (·,()) ?_;show _=(jd s1.length (kR (s0,s1,s2,()))&&gy s0&&decide ((s1.length:Int)<=12)&&(decide (1<=s2)&&decide (s2<=61)));rw[ha,h1,h2];rfl
  .refine congrArg (·,()) ?_;show _=(jd s1.length (kR (s0,s1,s2,()))&&gy s0&&decide ((s1.length:Int)<=12)&&(decide (1<=s2)&&decide (s2<=61)));rw[ha,h1];rfl
theorem X9:OK Aa.e:=by
 refine PA.ok mixed (au [] trivial) aad (by kernel_rfl) (show∀a b,Aa.goal (Ya a b) (a,b,())from ?_);intro a b hin hp;dsimp only[Aa]at hp ⊢;have hlen:a.length<=maxLen:=hin.1.1;rw[maxLen_eq]at hlen;refine af (λh=>?_) λh=>?_
 .have h:(a.length:Int)≠b.length:=by simpa using h
  exact congrArg (·,()) (auD λe=>h (by rw[e])).symm
 .have h:(a.length:Int)=b.length:=by simpa using h
  exact SQ (K:=λr=>r=(decide (a=b),())) (λx y=>!(x.1==y.1&&(x.2.1==y.2.1&&true))) (λx y=>by simp[awi]) _ a b _ hlen (by omega) (λe=>by rw[auD e]) λe=>by rw[auB e]
theorem aae:OK Cb.e:=by
 refine PA.ok mixed (au [] trivial) acA (by kernel_rfl) (show∀a b,Cb.goal (aaf a b) (a,b,())from ?_);intro a b hin hp;dsimp only[Cb]at hp ⊢;have hlen:a.length<=maxLen:=hin.1.1;rw[maxLen_eq]at hlen;refine af (λh=>?_) λh=>?_
 .have h:(a.length:Int)≠b.length:=by simpa using h
  exact congrArg (·,()) (auD λe=>h (by rw[e])).symm
 .have h:(a.length:Int)=b.length:=by simpa using h
  exact SQ (K:=λr=>r=(decide (a=b),())) (λx y=>!(x.1==y.1&&(x.2.1==y.2.1&&(x.2.2.1==y.2.2.1&&(x.2.2.2.1==y.2.2.2.1&&true))))) (λx y=>by simp[awi]) _ a b _ hlen (by omega) (λe=>by rw[auD e]) λe=>by rw[auB e]
theorem acB:OK En.e:=by
 refine PA.ok mixed (au [Cb.e] ⟨aae,trivial⟩) H0 (by kernel_rfl) (show∀a0 a1 a2 a3 a4 b0 b1 b2 b3 b4,En.goal (acC a0 a1 a2 a3 a4 b0 b1 b2 b3 b4) ((a0,a1,a2,a3,a4,()),(b0,b1,b2,b3,b4,()),())from ?_);intro a0 a1 a2 a3 a4 b0 b1 b2 b3 b4 hin hp;dsimp only[En]at hp ⊢;refine af (λh0=>af (λh1=>af (λh2=>af (λh3=>⟨trivial,?_⟩) λh3=>?_) λh2=>?_) λh1=>?_) λh0=>?_
 all_goals refine congrArg (·,()) (auS.2 ?_)
 .simp only[auE]at h0 h1 h2 h3;subst h0 h1 h2 h3;simp
 .have h3:a3≠b3:=by simpa using h3
  simp[h3]
 .have h2:a2≠b2:=by simpa using h2
  simp[h2]
 .have h1:a1≠b1:=by simpa using h1
  simp[h1]
 .have h0:a0≠b0:=by simpa using h0
  simp[h0]
theorem aag:OK Cc.e:=by
 refine PA.ok mixed (au [En.e] ⟨acB,trivial⟩) acD (by kernel_rfl) (show∀a b,Cc.goal (aah a b) (a,b,())from ?_);intro a b hin hp;dsimp only[Cc]at hp ⊢;have hlen:a.length<=maxLen:=hin.1.1;rw[maxLen_eq]at hlen;refine af (λh=>?_) λh=>?_
 .have h:(a.length:Int)≠b.length:=by simpa using h
  exact congrArg (·,()) (auD λe=>h (by rw[e])).symm
 .have h:(a.length:Int)=b.length:=by simpa using h
  exact acE (K:=λr=>r=(decide (a=b),())) (λx y=>!decide ((x.1,x.2.1,x.2.2.1,x.2.2.2.1,x.2.2.2.2.1,())=(y.1,y.2.1,y.2.2.1,y.2.2.2.1,y.2.2.2.2.1,()))) (λx y=>by simp[awi]) _ a b _ hlen (by omega) (λe=>by rw[auD e]) λe=>by rw[auB e]
theorem aai:OK Ce.e:=by
 refine PA.ok mixed (au [Cc.e,Aa.e] ⟨aag,X9,trivial⟩) H0 (by kernel_rfl) (show∀a0 a1 a2 b0 b1 b2,Ce.goal (aaj a0 a1 a2 b0 b1 b2) ((a0,a1,a2,()),(b0,b1,b2,()),())from ?_);intro a0 a1 a2 b0 b1 b2 hin hp;dsimp only[Ce]at hp ⊢;refine⟨trivial,af (λh0=>⟨trivial,af (λh1=>?_) λh1=>?_⟩) λh0=>?_⟩
 all_goals refine congrArg (·,()) (auS.2 ?_)
 .have h0:=fG h0;have h1:=fG h1;subst h0 h1;simp
 .have h1:=fZ h1;simp[h1]
 .have h0:=fZ h0;simp[h0]
theorem EF:OK rY.e:=by refine PA.ok mixed (au [] trivial) agR (by kernel_rfl) (show∀f0 f1 f2 f3 f4,rY.goal (aeG f0 f1 f2 f3 f4) ((f0,f1,f2,f3,f4,()),())from ?_);intro f0 f1 f2 f3 f4 hin hp;dsimp only[rY]at hp ⊢;have hp:f4.length<=1000:=hp;exact⟨by rw[bY];omega,rfl⟩
theorem LZ:OK pY.e:=by refine PA.ok mixed (au [] trivial) Nw (by kernel_rfl) (show∀s,pY.goal (L6 s) (s,())from ?_);intro l hin hp;dsimp only[pY]at hp ⊢;intro g hg;have hp:l.length<=1000:=hp;refine af (λh=>?_) λh=>⟨by rw[bY];omega,rfl⟩;have:=avz.1 (hg h);rw[this]
theorem Ny:OK qp.e:=by refine PA.ok mixed (au [] trivial) OG (by kernel_rfl) (show∀s,qp.goal (Nz s) (s,())from ?_);intro l hin hp;dsimp only[qp]at hp ⊢;intro g hg;have hp:l.length<=1000:=hp;refine af (λh=>?_) λh=>⟨by rw[bY];omega,rfl⟩;have:=avz.1 (hg h);rw[this]
theorem Di:OK qo.e:=by refine PA.ok mixed (au [qp.e] ⟨Ny,trivial⟩) aeH (by kernel_rfl) (show∀f0 f1 f2 f3 f4,qo.goal (acF f0 f1 f2 f3 f4) ((f0,f1,f2,f3,f4,()),())from ?_);intro f0 f1 f2 f3 f4 hin hp;dsimp only[qo]at hp ⊢;exact⟨hp,rfl⟩
theorem Kr:OK yx.e:=by refine PA.ok mixed (au [kT.e] ⟨pV,trivial⟩) H0 (by kernel_rfl) (show∀n,yx.goal (agS n) (n,())from ?_);intro n hin hp;dsimp only[yx]at hp ⊢;exact⟨trivial,rfl⟩
theorem Ie:OK uG.e:=by
 refine PA.ok mixed (au [] trivial) aeI (by kernel_rfl) (show∀s0 s1 s2 id,uG.goal (acG s0 s1 s2 id) ((s0,s1,s2,()),id,())from ?_);intro s0 s1 s2 id hin hp;dsimp only[uG]at hp ⊢;have hlen:s1.length<=maxLen:=hin.1.2.1.1;rw[maxLen_eq]at hlen;refine iL s1.length hlen (λn=>∀i,i<n->(Sp.fileAt s1 i).1≠id) (λi hi=>by omega) (λI μ n hn hJ next=>?_) λI μ hJ=>?_
 .dsimp only;refine dn (by omega) ⟨⟨by omega,by omega⟩,af (λh=>?_) λh=>⟨rfl,next λi hi=>?_⟩⟩
  .have h:(Sp.fileAt s1 n).1=id:=fG h;exact congrArg (·,()) (Sp.Kt hn hJ h).symm
  .rcases auJ i n with h'|h'
   .exact hJ i h'
   .have:i=n:=by omega
    subst this;have h:¬(Sp.fileAt s1 i).1=id:=fZ h;exact h
 .dsimp only;exact dw (by omega) (congrArg (·,()) (UB hJ).symm)
theorem aeJ{s:List aK}{u:Int}{n:Nat}(hn:n<s.length):wO (s.take (n+1)) u=wO (s.take n) u++(if(Sp.fileAt s n).2.1=u then[((Sp.fileAt s n).1,())]else[]):=by
 unfold wO;rw[Sp.take_succ' s n (0,0,false,0,[],()) hn,avw,avd];congr 1;show List.map _ (List.filter _ [Sp.fileAt s n])=_;by_cases h:(Sp.fileAt s n).2.1=u
 .rw[avf (by simpa using h),if_pos h];rfl
 .rw[avg (by simpa using h),if_neg h];rfl
theorem aod(s:List aK)(u:Int):(wO s u).length<=s.length:=by unfold wO;rw[auG];exact auV ..
theorem set_self{fs:List aK}{n:Nat}(hn:n<fs.length):fs.set n (fs.getD n (0,0,false,0,[],()))=fs:=by
 refine awJ (by simp) λi h1 h2=>?_;rw[List.getElem_set];split
 .next e=>subst e;rw[aur,auw hn];rfl
 .rfl
theorem OH{s:List dL}(p:dL->Bool){n:Nat}(hn:n<s.length):(s.take (n+1)).filter p=(s.take n).filter p++(if p (dG s n)=true then[dG s n]else[]):=by
 rw[Sp.take_succ' s n ([],0,0,[],()) hn,avw];congr 1;show List.filter _ [dG s n]=_;by_cases h:p (dG s n)=true
 .rw[avf h,if_pos h];rfl
 .rw[avg h,if_neg h];rfl
theorem aeK(s:List dL)(p:dL->Bool)(n:Nat):((s.take n).filter p).length<=n:=by have:=auV p (s.take n);rw[aut]at this;omega
theorem akg(al:List dL)(name:Sp.Bytes)(n:Int)(s:Sp.Bytes):kN al name 0 n s=al.filter (qL name):=rfl
theorem am5{al:List dL}{name:Sp.Bytes}{k n:Int}{s:Sp.Bytes}(hk:k≠0){l:List dL}(hl:l=al.filter (qL name)){m:Nat}(hm:m<=l.length)
 (h1:∀i,i<m->sH name (dG l i)=true) (h2:m<l.length->sH name (dG l m)=false):
 List.drop 0 (List.take m l)++[(name,k,n,s,())]++List.drop m (List.take l.length l)=kN al name k n s:=by
 obtain⟨e1,e2⟩:=OI (d:=(([]:List UInt8),(0:Int),(0:Int),([]:List UInt8),())) l m hm h1 h2;unfold kN ZU;rw[auD hk,← hl];show _=l.takeWhile (sH name)++_::l.dropWhile (sH name);rw[e1,e2,auO,av2,avb];rfl
theorem Qs:OK AO.e:=by
 refine XA.ok mixed (au [] trivial) agT (λ⟨(i,o,s,l,a,_),name,(k,n,w,_),_⟩ _=>⟨(((i,o,s,l,kN a name k n w,()),()),()),⟨rfl,rfl,rfl,rfl,rfl⟩⟩) (by kernel_rfl) (show∀f0 f1 f2 f3 f4 name v0 v1 v2,AO.goal (aeL f0 f1 f2 f3 f4 name v0 v1 v2) ((f0,f1,f2,f3,f4,()),name,(v0,v1,v2,()),())from ?_);intro f0 f1 f2 f3 f4 name k n s hin hp;dsimp only[AO]at hp ⊢;have hp:f4.length<=1000:=hp;refine dM (λi(x:List dL)=>(((),i,()),x,())) (λy=>y.1.2.1) (λ_ _=>rfl) f4.length (by omega) (λm l=>l=(f4.take m).filter (qL name)) (by simp) (λI μ m l hm hJ next=>?_) λI μ l hJ=>?_
 .subst hJ;have hl:=aeK f4 (qL name) m;dsimp only;refine dn (by omega) ⟨⟨by omega,by omega⟩,af (λh=>⟨⟨by omega,by omega⟩,by rw[bY];simp only[auv,auz];omega,rfl,next _ ?_⟩) λh=>⟨rfl,next _ ?_⟩⟩
  .rw[OH _ hm,if_pos (show qL name (dG f4 m)=true from h)];rfl
  .rw[OH _ hm,if_neg (show ¬qL name (dG f4 m)=true fromλh'=>by have h:qL name (dG f4 m)=false:=h;rw[h]at h';cases h'),avr]
 .rw[auO]at hJ;have hl:l.length<=1000:=by rw[hJ];have:=auV (qL name) f4;omega
  dsimp only;refine dw (by omega) (af (λh=>?_) λh=>?_)
  .have hk:k≠0:=by simpa using h
   have fin:∀m:Nat,m<=l.length->(∀i,i<m->sH name (dG l i)=true)->(m<l.length->sH name (dG l m)=false)->
    ((0:Int)<=m/\(m:Int)<=l.length)/\0+(List.drop 0 (List.take m l)).length<=big/\(List.drop 0 (List.take m l)).length+[(name,k,n,s,())].length<=big/\((0:Int)<=m/\(m:Int)<=l.length)/\
    (List.drop 0 (List.take m l)++[(name,k,n,s,())]).length+(List.drop m (List.take l.length l)).length<=big/\
    (f0=f0/\f1=f1/\f2=f2/\f3=f3/\List.drop 0 (List.take m l)++[(name,k,n,s,())]++List.drop m (List.take l.length l)=kN f4 name k n s):=by
    intro m hm h1 h2;refine⟨⟨by omega,by omega⟩,?_,?_,⟨by omega,by omega⟩,?_,rfl,rfl,rfl,rfl,am5 hk hJ hm h1 h2⟩
    all_goals
     rw[bY];simp only[auy,au2,aut,auv,auz];omega
   refine iL l.length (by omega) (λm=>∀i,i<m->sH name (dG l i)=true) (λi hi=>by omega) (λI μ m hm hJ2 next=>?_) λI μ hJ2=>?_
   .dsimp only;refine dn (by omega) ⟨⟨by omega,by omega⟩,hm,af (λh2=>⟨rfl,next (fJ (f:=λi=>sH name (dG l i)) hJ2 h2)⟩) λh2=>?_⟩;exact fin m (by omega) hJ2 λ_=>h2
   .dsimp only;exact dw (by omega) (fin l.length (auI _) hJ2 λh'=>by omega)
  .have hk:k=0:=by simpa using h
   subst hk;exact⟨rfl,rfl,rfl,rfl,by rw[akg];exact hJ⟩
theorem acH:OK Eo.e:=by refine XA.ok mixed (au [] trivial) aeM (λ⟨s,_⟩ _=>⟨(((s,[],1,()),()),()),⟨rfl,rfl,rfl⟩⟩) (by kernel_rfl) (show∀s,Eo.goal (acI s) (s,())from ?_);intro s hin hp;dsimp only[Eo]at hp ⊢;have hp:s.length<=1000:=hp;exact⟨by rw[bY];omega,rfl,rfl,rfl⟩
theorem zA:OK oW.e:=by
 refine XA.ok mixed (au [rY.e] ⟨EF,trivial⟩) agU (λ⟨(a,l,nx,_),_⟩ _=>⟨(((a,l,nx,()),()),()),rfl⟩) (by kernel_rfl) (show∀s0 s1 s2,oW.goal (aeN s0 s1 s2) ((s0,s1,s2,()),())from ?_);intro s0 s1 s2 hin hp;dsimp only[oW]at hp ⊢;obtain⟨h0,h1,h2⟩:s0.length<=1000/\s1.length<=1000/\∀f∈s1,bV f:=hp;refine⟨by rw[bY];omega,?_⟩;refine dM (λi(x:List aK)=>((i,()),((),(),s2,()),x,())) (λy=>y.1.1) (λ_ _=>rfl) s1.length (by omega) (λn l=>l=s1.take n) (by simp) (λI μ n l hn hJ next=>?_) λI μ l hJ=>?_
 .subst hJ;have hl:(s1.take n).length<=n:=by rw[aut];omega
  dsimp only;refine dn (by omega) ⟨⟨by omega,by omega⟩,h2 _ (getD_mem (d:=((0:Int),(0:Int),false,(0:Int),[],())) hn),by rw[bY];simp only[auv,auz];omega,rfl,next _ ?_⟩;exact(Sp.take_succ' s1 n (0,0,false,0,[],()) hn).symm
 .subst hJ;dsimp only;refine dw (by omega) ?_;rw[auO]
theorem EY:OK qN.e:=by
 refine XA.ok mixed (au [oU.e,jS.e,rY.e,oW.e] ⟨Ed,qK,EF,zA,trivial⟩) aak (λ⟨s,f,_⟩ _=>⟨((((aI s f).1.1,(aI s f).1.2.1,(aI s f).1.2.2.1,()),(aI s f).2.1,(aI s f).2.2,()),()),⟨rfl,rfl,rfl,rfl,rfl⟩⟩) (by kernel_rfl) (show∀s0 s1 s2 f0 f1 f2 f3 f4,qN.goal (Yb s0 s1 s2 f0 f1 f2 f3 f4) ((s0,s1,s2,()),(f0,f1,f2,f3,f4,()),())from ?_);intro s0 s1 s2 f0 f1 f2 f3 f4 hin hp;dsimp only[qN]at hp ⊢;refine⟨hp.1,?_⟩;rintro⟨⟨⟨a,l,nx,⟨⟩⟩,⟨⟩⟩,⟨⟩⟩ e;obtain⟨rfl,rfl,rfl⟩:a=s0/\l=s1/\nx=s2:=by simpa using e
 have hs:l.length<=1000:=hp.1.2.1;have no:¬(aB (a,l,nx,())=true/\l.length<12/\dD a (nx,f1,f2,f3,f4,())=true)->aI (a,l,nx,()) (f0,f1,f2,f3,f4,())=((a,l,nx,()),0,false):=λh=>by
  rcases kS (a,l,nx,()) (f0,f1,f2,f3,f4,())with⟨e,_⟩|⟨h1,h2,h3,_⟩
  .exact e
  .exact(h ⟨h1,h2,h3⟩).elim
 refine⟨hp.2,trivial,af (λh1=>?_) λh1=>af (λh2=>?_) λh2=>⟨trivial,af (λh3=>?_) λh3=>?_⟩⟩
 .have:=no λh=>by have h1:=dQ h1;have:=h.1;rw[show aB (a,l,nx,())=false from h1]at this;cases this
  dsimp only;rw[this];exact⟨rfl,rfl,rfl,rfl,rfl⟩
 .have:=no λh=>by have h2:(l.length:Int)>=12:=fG h2;omega
  dsimp only;rw[this];exact⟨rfl,rfl,rfl,rfl,rfl⟩
 .have:=no λh=>by have h3:=dQ h3;have:=h.2.2;rw[show dD a (nx,f1,f2,f3,f4,())=false from h3]at this;cases this
  dsimp only;rw[this];exact⟨rfl,rfl,rfl,rfl,rfl⟩
 .have g1:aB (a,l,nx,())=true:=bP h1;have g2:l.length<12:=by have h2:¬(l.length:Int)>=12:=fZ h2;omega
  have g3:dD a (nx,f1,f2,f3,f4,())=true:=bP h3;rcases kS (a,l,nx,()) (f0,f1,f2,f3,f4,())with⟨_,e⟩|⟨_,_,_,e⟩
  .exact(e ⟨g1,g2,g3⟩).elim
  .have hnx:=(kH.1 g1).2.2.2;have w:IntKind.i64.wrap (nx+1)=nx+1:=eP _ (by have h5:nx<=61:=hnx.2;have h6:1<=nx:=hnx.1;omega);refine⟨by rw[bY];simp only[auv,auz];omega,?_⟩;dsimp only;rw[e,w];exact⟨rfl,rfl,rfl,rfl,rfl⟩
theorem Lp:OK vJ.e:=by
 refine XA.ok mixed (au [jS.e,uG.e,oW.e] ⟨qK,Ie,zA,trivial⟩) aal (λ⟨s,id,_⟩ _=>⟨((((aV s id).1.1,(aV s id).1.2.1,(aV s id).1.2.2.1,()),(aV s id).2,()),()),⟨rfl,rfl,rfl,rfl⟩⟩) (by kernel_rfl) (show∀s0 s1 s2 id,vJ.goal (Yc s0 s1 s2 id) ((s0,s1,s2,()),id,())from ?_);intro s0 s1 s2 id hin hp;dsimp only[vJ]at hp ⊢;refine⟨hp,?_⟩;rintro⟨⟨⟨a,l,nx,⟨⟩⟩,⟨⟩⟩,⟨⟩⟩ e;obtain⟨rfl,rfl,rfl⟩:a=s0/\l=s1/\nx=s2:=by simpa using e
 have hs:l.length<=1000:=hp.2.1;have no:¬(aB (a,l,nx,())=true/\0<=Sp.place l id)->aV (a,l,nx,()) id=((a,l,nx,()),false):=λh=>by
  rcases oN (a,l,nx,()) id with⟨e,_⟩|⟨n,hn,h1,h2,_⟩
  .exact e
  .exact(h ⟨h2,by have h1:Sp.place l id=n:=h1;omega⟩).elim
 refine⟨trivial,trivial,af (λh1=>?_) λh1=>af (λh2=>?_) λh2=>?_⟩
 .have:=no λh=>by have h1:=dQ h1;have:=h.1;rw[show aB (a,l,nx,())=false from h1]at this;cases this
  dsimp only;rw[this];exact⟨rfl,rfl,rfl,rfl⟩
 .have:=no λh=>by have h2:Sp.place l id<0:=fG h2;omega
  dsimp only;rw[this];exact⟨rfl,rfl,rfl,rfl⟩
 .have g1:aB (a,l,nx,())=true:=bP h1;have g2:0<=Sp.place l id:=by have h2:¬Sp.place l id<0:=fZ h2;omega
  rcases oN (a,l,nx,()) id with⟨_,e⟩|⟨n,hn,hpl,_,e⟩
  .exact(e ⟨g1,g2⟩).elim
  .have hn:n<l.length:=hn;have hpl:Sp.place l id=n:=hpl;have w:IntKind.i64.wrap ((n:Int)+1)=((n+1:Nat):Int):=eP _ (by omega);dsimp only;rw[hpl,e,w,auA,auA,av2,auO,bY];refine⟨⟨by omega,by omega⟩,by rw[aut];omega,⟨by omega,by omega⟩,by rw[aut,au2];omega,rfl,?_,rfl,rfl⟩;exact(aw8 ..).symm
def ZV(L:List (List dL))(name:Sp.Bytes)(vals:List (Int×Int×Sp.Bytes)):List (List dL):=L++L.flatMap λa=>vals.map λv=>kN a name v.1 v.2.1 v.2.2
theorem wJ{L:List (List dL)}{name:Sp.Bytes}{vals:List (Int×Int×Sp.Bytes)}{a:List dL}(h:a∈L):a∈ZV L name vals:=avo _ h
theorem Qu{L:List (List dL)}{name:Sp.Bytes}{vals:List (Int×Int×Sp.Bytes)}{a:List dL}(h:a∈L){k n:Int}{s:Sp.Bytes}(hv:(k,n,s)∈vals):kN a name k n s∈ZV L name vals:=
 avK _ (List.mem_flatMap.2 ⟨a,h,avL.2 ⟨(k,n,s),hv,rfl⟩⟩)
def ints:List (Int×Int×Sp.Bytes):=[(1,0,[]),(1,1,[]),(1,2,[]),(1,3,[])]
def names:List (Int×Int×Sp.Bytes):=[(2,0,[105,110,107]),(2,0,[115,101,97])]
def tags:List (Int×Int×Sp.Bytes):=[(2,0,[114,101,100]),(2,0,[98,108,117,101])]
def aeO:List (List dL):=ZV [[]] [97] ints
def aeP:List (List dL):=ZV aeO [98] ints
def aeQ:List (List dL):=ZV aeP [110] names
def aeR:List (List dL):=ZV aeQ [116] tags
theorem ape:(aeR.all λa=>jY Sp.usual a&&decide (a.length<=4))=true:=by kernel_rfl
theorem Qv{a:List dL}(h:a∈aeR):jY Sp.usual a=true/\a.length<=4:=by have:=auU.1 ape a h;simpa using this
theorem aqr{a:List dL}(h:a∈aeO):a.length<=4:=(Qv (wJ (wJ (wJ h)))).2
theorem aqs{a:List dL}(h:a∈aeP):a.length<=4:=(Qv (wJ (wJ h))).2
theorem aqt{a:List dL}(h:a∈aeQ):a.length<=4:=(Qv (wJ h)).2
theorem akh{x:Int}(h0:0<=x)(h1:x<4):((1:Int),x,([]:Sp.Bytes))∈ints:=by rcases(show x=0\/x=1\/x=2\/x=3 by omega)with h|h|h|h<;>subst h<;>simp[ints]
theorem aoe{w:Sp.Bytes}(h:(w,())∈[(([105,110,107]:Sp.Bytes),()),([115,101,97],())]):((2:Int),(0:Int),w)∈names:=by simp only[au1,Prod.mk.injEq,aw3,axy,or_false]at h;rcases h with h|h<;>subst h<;>simp[names]
theorem apf{w:Sp.Bytes}(h:(w,())∈[(([114,101,100]:Sp.Bytes),()),([98,108,117,101],())]):((2:Int),(0:Int),w)∈tags:=by simp only[au1,Prod.mk.injEq,aw3,axy,or_false]at h;rcases h with h|h<;>subst h<;>simp[tags]
def Head(id:Int)(f:Int×Int×Bool×Int×Unit×Unit):Prop:=f.1=id/\0<=f.2.1/\f.2.1<=2/\0<=f.2.2.2.1/\f.2.2.2.1<=6
theorem EG:OK rZ.e:=by
 refine XA.ok mixed (au [lT.e,iI.e,AO.e,uF.e,kV.e,dS.e] ⟨yh,jE,Qs,Ic,uX,eG,trivial⟩) agV (λ⟨_,id,_⟩ _=>⟨(((id,0,false,0,[],()),()),(([],0,0,()),())),⟨by dsimp only;decide,rfl,by dsimp only;decide,by dsimp only;decide,by dsimp only;decide,by dsimp only;decide,rfl,by dsimp only;decide⟩⟩) (by kernel_rfl) (show∀c0 c1 c2 id,rZ.goal (aeS c0 c1 c2 id) ((c0,c1,c2,()),id,())from ?_);intro b i h id hin hp;dsimp only[rZ]at hp ⊢;have hp:0<=i:=hp;refine⟨hp,?_⟩;rintro⟨⟨x0,⟨⟩⟩,⟨b0,i0,g0,⟨⟩⟩,⟨⟩⟩ ⟨p0,q0,q1,_⟩;refine⟨p0,?_⟩;rintro⟨⟨x1,⟨⟩⟩,⟨b1,i1,g1,⟨⟩⟩,⟨⟩⟩ p1;have q1:x0<3:=q1 (by decide);have q0:0<=x0:=q0;refine⟨λy=>0<=y.2.1.2.1/\Head id y.2.2.1,⟨p1,?_⟩,?_⟩
 .rintro⟨⟨x3,⟨⟩⟩,⟨b3,i3,g3,⟨⟩⟩,⟨⟩⟩ p3;refine af (λ_=>⟨p3,?_⟩) λ_=>⟨rfl,p3,rfl,q0,(show x0<=2 by omega),au7 _,(show(0:Int)<=6 by decide)⟩;rintro⟨⟨x4,⟨⟩⟩,⟨b4,i4,g4,⟨⟩⟩,⟨⟩⟩ ⟨p4,q4,q5,_⟩;have q5:x4<7:=q5 (by decide);exact⟨rfl,p4,rfl,q0,(show x0<=2 by omega),q4,(show x4<=6 by omega)⟩
 rintro⟨⟨⟩,⟨b5,i5,g5,⟨⟩⟩,f5,⟨⟩⟩ ⟨p5,H5⟩;refine⟨λy=>0<=y.2.1.2.1/\Head id y.2.2.1/\y.2.2.2.1∈aeO,⟨p5,?_⟩,?_⟩
 .rintro⟨⟨x7,⟨⟩⟩,⟨b7,i7,g7,⟨⟩⟩,⟨⟩⟩ p7;refine af (λ_=>⟨p7,?_⟩) λ_=>⟨rfl,p7,H5,wJ auF⟩;rintro⟨⟨x8,⟨⟩⟩,⟨b8,i8,g8,⟨⟩⟩,⟨⟩⟩ ⟨p8,q8,q9,_⟩;refine⟨trivial,(show(0:Nat)<=1000 by decide),?_⟩;rintro⟨⟨⟨d,o,s,l,a,⟨⟩⟩,⟨⟩⟩,⟨⟩⟩ ⟨e1,e2,e3,e4,e5⟩;refine⟨rfl,p8,?_,?_⟩
  .exact⟨(show d=id from(show d=f5.1 from e1).trans H5.1),by rw[show o=f5.2.1 from e2];exact H5.2.1,by rw[show o=f5.2.1 from e2];exact H5.2.2.1,by rw[show l=f5.2.2.2.1 from e4];exact H5.2.2.2.1,by rw[show l=f5.2.2.2.1 from e4];exact H5.2.2.2.2⟩
  .have e5:a=kN [] [97] 1 x8 []:=e5;show a∈aeO;rw[e5];exact Qu auF (akh q8 (q9 (by decide)))
 rintro⟨⟨⟩,⟨b11,i11,g11,⟨⟩⟩,f11,a11,⟨⟩⟩ ⟨p11,H11,m11⟩;refine⟨λy=>0<=y.2.1.2.1/\Head id y.2.2.1/\y.2.2.2.1∈aeP,⟨p11,?_⟩,?_⟩
 .rintro⟨⟨x7,⟨⟩⟩,⟨b7,i7,g7,⟨⟩⟩,⟨⟩⟩ p7;refine af (λ_=>⟨p7,?_⟩) λ_=>⟨rfl,p7,H11,wJ m11⟩;rintro⟨⟨x8,⟨⟩⟩,⟨b8,i8,g8,⟨⟩⟩,⟨⟩⟩ ⟨p8,q8,q9,_⟩;refine⟨trivial,auM (aqr m11) (by decide),?_⟩;rintro⟨⟨⟨d,o,s,l,a,⟨⟩⟩,⟨⟩⟩,⟨⟩⟩ ⟨e1,e2,e3,e4,e5⟩;refine⟨rfl,p8,?_,?_⟩
  .exact⟨(show d=id from(show d=f11.1 from e1).trans H11.1),by rw[show o=f11.2.1 from e2];exact H11.2.1,by rw[show o=f11.2.1 from e2];exact H11.2.2.1,by rw[show l=f11.2.2.2.1 from e4];exact H11.2.2.2.1,by rw[show l=f11.2.2.2.1 from e4];exact H11.2.2.2.2⟩
  .have e5:a=kN a11 [98] 1 x8 []:=e5;show a∈aeP;rw[e5];exact Qu m11 (akh q8 (q9 (by decide)))
 rintro⟨⟨⟩,⟨b17,i17,g17,⟨⟩⟩,f17,a17,⟨⟩⟩ ⟨p17,H17,m17⟩;refine⟨λy=>0<=y.2.1.2.1/\Head id y.2.2.1/\y.2.2.2.1∈aeQ,⟨p17,?_⟩,?_⟩
 .rintro⟨⟨x7,⟨⟩⟩,⟨b7,i7,g7,⟨⟩⟩,⟨⟩⟩ p7;refine af (λ_=>⟨⟨p7,by simp⟩,?_⟩) λ_=>⟨rfl,p7,H17,wJ m17⟩;rintro⟨⟨x8,⟨⟩⟩,⟨b8,i8,g8,⟨⟩⟩,⟨⟩⟩ ⟨p8,q8⟩;refine⟨trivial,auM (aqs m17) (by decide),?_⟩;rintro⟨⟨⟨d,o,s,l,a,⟨⟩⟩,⟨⟩⟩,⟨⟩⟩ ⟨e1,e2,e3,e4,e5⟩;refine⟨rfl,p8,?_,?_⟩
  .exact⟨(show d=id from(show d=f17.1 from e1).trans H17.1),by rw[show o=f17.2.1 from e2];exact H17.2.1,by rw[show o=f17.2.1 from e2];exact H17.2.2.1,by rw[show l=f17.2.2.2.1 from e4];exact H17.2.2.2.1,by rw[show l=f17.2.2.2.1 from e4];exact H17.2.2.2.2⟩
  .have e5:a=kN a17 [110] 2 0 x8:=e5;show a∈aeQ;rw[e5];exact Qu m17 (aoe q8)
 rintro⟨⟨⟩,⟨b23,i23,g23,⟨⟩⟩,f23,a23,⟨⟩⟩ ⟨p23,H23,m23⟩;refine⟨λy=>0<=y.2.1.2.1/\Head id y.2.2.1/\y.2.2.2.1∈aeR,⟨p23,?_⟩,?_⟩
 .rintro⟨⟨x7,⟨⟩⟩,⟨b7,i7,g7,⟨⟩⟩,⟨⟩⟩ p7;refine af (λ_=>⟨⟨p7,by simp⟩,?_⟩) λ_=>⟨rfl,p7,H23,wJ m23⟩;rintro⟨⟨x8,⟨⟩⟩,⟨b8,i8,g8,⟨⟩⟩,⟨⟩⟩ ⟨p8,q8⟩;refine⟨trivial,auM (aqt m23) (by decide),?_⟩;rintro⟨⟨⟨d,o,s,l,a,⟨⟩⟩,⟨⟩⟩,⟨⟩⟩ ⟨e1,e2,e3,e4,e5⟩;refine⟨rfl,p8,?_,?_⟩
  .exact⟨(show d=id from(show d=f23.1 from e1).trans H23.1),by rw[show o=f23.2.1 from e2];exact H23.2.1,by rw[show o=f23.2.1 from e2];exact H23.2.2.1,by rw[show l=f23.2.2.2.1 from e4];exact H23.2.2.2.1,by rw[show l=f23.2.2.2.1 from e4];exact H23.2.2.2.2⟩
  .have e5:a=kN a23 [116] 2 0 x8:=e5;show a∈aeR;rw[e5];exact Qu m23 (apf q8)
 rintro⟨⟨⟩,⟨b29,i29,g29,⟨⟩⟩,f29,a29,⟨⟩⟩ ⟨p29,H29,m29⟩;have hm:=Qv m29;exact⟨p29,H29.1,H29.2.1,H29.2.2.1,H29.2.2.2.1,H29.2.2.2.2,hm.1,hm.2⟩
theorem alj(al:List dL)(name:Sp.Bytes)(k n:Int)(s:Sp.Bytes):(kN al name k n s).length<=al.length+1:=by
 have hf:=auV (qL name) al;unfold kN;cases decide (k=0)with
 |true=>show(al.filter _).length<=_;omega
 |false=>show(ZU _ _).length<=_;unfold ZU;have:=congrArg List.length (aw9 (p:=sH name) (l:=al.filter (qL name)));rw[auy]at this;rw[auy,auv];show((al.filter (qL name)).takeWhile (sH name)).length+(((al.filter (qL name)).dropWhile (sH name)).length+1)<=_;omega
theorem agW:OK Hf.e:=by
 refine XA.ok mixed (au [AO.e,lT.e,Dw.e,AB.e,iG.e,rZ.e,dS.e] ⟨Qs,yh,SH,Qq,jF,EG,eG,trivial⟩) aiI (λ_ _=>⟨(((0,0,false,0,[],()),()),(([],0,0,()),())),⟨by decide,by decide⟩⟩) (by kernel_rfl) (show∀c0 c1 c2,Hf.goal (agX c0 c1 c2) ((c0,c1,c2,()),())from ?_);intro b i h hin hp;dsimp only[Hf]at hp ⊢;have hp:0<=i:=hp;refine⟨hp,?_⟩;rintro⟨⟨x0,⟨⟩⟩,⟨b0,i0,g0,⟨⟩⟩,⟨⟩⟩ ⟨p0,_⟩;refine⟨p0,?_⟩;rintro⟨⟨⟨d,o,s,l,a,⟨⟩⟩,⟨⟩⟩,⟨b1,i1,g1,⟨⟩⟩,⟨⟩⟩ ⟨p1,_,_,_,_,_,_,ha⟩;have ha:a.length<=4:=ha;refine⟨p1,?_⟩;rintro⟨⟨x2,⟨⟩⟩,⟨b2,i2,g2,⟨⟩⟩,⟨⟩⟩ ⟨p2,_⟩;refine af (λ_=>⟨⟨p2,by simp⟩,?_⟩) λ_=>af (λ_=>⟨⟨p2,by simp⟩,?_⟩) λ_=>af (λ_=>⟨⟨p2,by simp⟩,?_⟩) λ_=>af (λ_=>⟨p2,?_⟩) λ_=>af (λ_=>⟨trivial,(show a.length<=1000 by omega),?_⟩) λ_=>⟨p2,(show a.length<=10 by omega)⟩
 .rintro⟨⟨x3,⟨⟩⟩,⟨b3,i3,g3,⟨⟩⟩,⟨⟩⟩ ⟨p3,_⟩;exact⟨p3,(show a.length<=10 by omega)⟩
 .rintro⟨⟨x3,⟨⟩⟩,⟨b3,i3,g3,⟨⟩⟩,⟨⟩⟩ ⟨p3,_⟩;exact⟨p3,(show a.length<=10 by omega)⟩
 .rintro⟨⟨x3,⟨⟩⟩,⟨b3,i3,g3,⟨⟩⟩,⟨⟩⟩ ⟨p3,_⟩;exact⟨p3,(show a.length<=10 by omega)⟩
 .rintro⟨⟨x3,⟨⟩⟩,⟨b3,i3,g3,⟨⟩⟩,⟨⟩⟩ ⟨p3,_⟩;refine⟨p3,?_⟩;rintro⟨⟨⟨k,n,w,⟨⟩⟩,⟨⟩⟩,⟨b4,i4,g4,⟨⟩⟩,⟨⟩⟩ ⟨p4,_⟩;refine⟨(show a.length+1<=big by rw[bY];omega),p4,?_⟩;show(a++[_]).length<=10;rw[auy,auv,auz];omega
 .rintro⟨⟨⟨d',o',s',l',a',⟨⟩⟩,⟨⟩⟩,⟨⟩⟩ ⟨_,_,_,_,e5⟩;refine⟨p2,?_⟩;have e5:a'=kN a [97] 2 0 [114,101,100]:=e5;show a'.length<=10;rw[e5];have:=alj a [97] 2 0 [114,101,100];omega
theorem apg:gy Sp.usual=true:=by kernel_rfl
theorem aph:aB (Sp.usual,[],1,())=true:=by kernel_rfl
theorem alk:bg (Sp.usual,[],1,()):=⟨by decide,by decide,λf hf=>by cases hf⟩
theorem Dj{a:List ig}{l:List aK}{nx:Int}{X:bU}(h1:a=X.1)(h2:l=X.2.1)(h3:nx=X.2.2.1):((a,l,nx,()):bU)=X:=by subst h1 h2 h3;rfl
theorem aki(s:bU)(f:aK):(aI s f).1.1=s.1/\((aI s f).1.2.1.length:Int)-(aI s f).1.2.2.1=s.2.1.length-s.2.2.1:=by
 rcases kS s f with⟨e,_⟩|⟨_,_,_,e⟩
 .rw[e];exact⟨rfl,rfl⟩
 .rw[e];refine⟨rfl,?_⟩;show((s.2.1++[(s.2.2.1,f.2)]).length:Int)-(s.2.2.1+1)=_;rw[auy,auv,auz];omega
theorem Yd(s:bU)(id:Int):(aV s id).1.1=s.1/\(aV s id).1.2.2.1=s.2.2.1/\s.2.1.length<=(aV s id).1.2.1.length+1:=by
 rcases oN s id with⟨e,_⟩|⟨n,hn,_,_,e⟩
 .rw[e];exact⟨rfl,rfl,Nat.le_succ _⟩
 .rw[e];refine⟨rfl,rfl,?_⟩;show s.2.1.length<=(s.2.1.eraseIdx n).length+1;rw[awQ hn];omega
structure sW(k:Int)(s:bU):Prop where
 sch:s.1=Sp.usual
 ok:aB s=true
 nx:s.2.2.1<=s.2.1.length+k
 small:bg s
theorem sW.create{k:Int}{s:bU}(h:sW k s){f:aK}(hf:bV f):sW k (aI s f).1:=by obtain⟨h1,h2⟩:=aki s f;exact⟨h1.trans h.sch,FW f h.ok,by have:=h.nx;omega,L8 h.small hf⟩
theorem sW.delete{k:Int}{s:bU}(h:sW k s)(id:Int):sW (k+1) (aV s id).1:=by obtain⟨h1,h2,h3⟩:=Yd s id;exact⟨h1.trans h.sch,FX id h.ok,by have:=h.nx;omega,L9 id h.small⟩
theorem sW.more{k k':Int}{s:bU}(h:sW k s)(hk:k<=k'):sW k' s:=⟨h.sch,h.ok,by have:=h.nx;omega,h.small⟩
theorem sW.grows{s:bU}(h:sW 2 s)(hl:s.2.1.length<12){f:aK}(ho:0<=f.2.1/\f.2.1<=2)(hk:0<=f.2.2.2.1/\f.2.2.2.1<=6)(ha:jY Sp.usual f.2.2.2.2.1=true):(aI s f).1.2.1.length=s.2.1.length+1:=by
 have hnx:=(kH.1 h.ok).2.2.2;have h2:=h.nx;have hf:dD s.1 (s.2.2.1,f.2)=true:=by rw[h.sch];show(jY Sp.usual f.2.2.2.2.1&&gy Sp.usual&&(decide (1<=s.2.2.1)&&decide (s.2.2.1<=60))&&(decide (0<=f.2.1)&&decide (f.2.1<=2))&&(decide (0<=f.2.2.2.1)&&decide (f.2.2.2.1<=60)))=true;rw[ha,apg,auB hnx.1,auB (by omega),auB ho.1,auB ho.2,auB hk.1,auB (by omega)];rfl
 rcases kS s f with⟨_,e⟩|⟨_,_,_,e⟩
 .exact(e ⟨h.ok,hl,hf⟩).elim
 .rw[e];show(s.2.1++[_]).length=_;rw[auy];rfl
theorem OJ:aB (Sp.usual,[(1,0,false,0,[],())],2,())=true/\bg (Sp.usual,[(1,0,false,0,[],())],2,()):=⟨by kernel_rfl,by decide,by decide,λf hf=>by rw[avk.1 hf];exact auX _⟩
theorem sW.one{s:bU}(h:sW 1 s){f:aK}(ho:0<=f.2.1/\f.2.1<=2)(hk:0<=f.2.2.2.1/\f.2.2.2.1<=6)(ha:jY Sp.usual f.2.2.2.2.1=true):0<(aI s f).1.2.1.length:=by
 by_cases hl:s.2.1.length<12
 .rw[(h.more (show(1:Int)<=2 by decide)).grows hl ho hk ha];omega
 .rcases kS s f with⟨e,_⟩|⟨_,_,_,e⟩
  .rw[e];show 0<s.2.1.length;omega
  .rw[e];show 0<(s.2.1++[_]).length;rw[auy,awH];omega
theorem Ig:OK uH.e:=by
 refine XA.ok mixed (au [vJ.e,kV.e,qN.e,rZ.e,dS.e,Eo.e,yJ.e] ⟨Lp,uX,EY,EG,eG,acH,OE,trivial⟩) aeT (λ_ _=>⟨(((Sp.usual,[(1,0,false,0,[],())],2,()),()),(([],0,0,()),())),⟨by decide,rfl,OJ.1,by decide,OJ.2,by decide⟩⟩) (by kernel_rfl) (show∀c0 c1 c2,uH.goal (acJ c0 c1 c2) ((c0,c1,c2,()),())from ?_);intro b i h hin hp;dsimp only[uH]at hp ⊢;have hp:0<=i:=hp;refine⟨trivial,?_⟩;rintro⟨⟨u,⟨⟩⟩,⟨⟩⟩ hu;have hu:u=Sp.usual:=hu;subst hu;refine⟨(show Sp.usual.length<=1000 by decide),?_⟩;rintro⟨⟨⟨a,l,nx,⟨⟩⟩,⟨⟩⟩,⟨⟩⟩ ⟨e1,e2,e3⟩;have e1:a=Sp.usual:=e1;have e2:l=[]:=e2;have e3:nx=1:=e3;subst e1 e2 e3;refine⟨λy=>0<=y.2.1.2.1/\(0<=y.1.1/\y.1.1<=7)/\sW 1 (y.2.2.2.1,y.2.2.2.2.1,y.2.2.1.2.2.1,())/\(0<y.1.1->0<y.2.2.2.2.1.length),λy=>(8-y.1.1).toNat,⟨hp,⟨(show(0:Int)<=0 by decide),(show(0:Int)<=7 by decide)⟩,⟨rfl,aph,(show(1:Int)<=((0:Nat):Int)+1 by decide),alk⟩,λh=>absurd h (Int.lt_irrefl 0)⟩,?_⟩;rintro⟨⟨n,⟨⟩⟩,⟨b0,i0,g0,⟨⟩⟩,⟨⟨⟩,⟨⟩,nx,⟨⟩⟩,a,l,⟨⟩⟩ ⟨p0,⟨k0,k1⟩,D,hne⟩;have p0:0<=i0:=p0;have k0:0<=n:=k0;have k1:n<=7:=k1;have D:sW 1 (a,l,nx,()):=D;have hne:0<n->0<l.length:=hne;refine⟨p0,?_⟩;rintro⟨⟨x1,⟨⟩⟩,⟨b1,i1,g1,⟨⟩⟩,⟨⟩⟩ ⟨p1,q0,q1,_⟩;have q1:x1<7:=q1 (by decide);have q0:0<=x1:=q0;have w:IntKind.i64.wrap (1+x1)=1+x1:=eP _ (by omega);dsimp only;rw[w];refine af (λhc=>⟨p1,?_⟩) λhc=>af (λh2=>⟨p1,?_⟩) λh2=>?_
 .have hc:=fG hc;have wn:IntKind.i64.wrap (n+1)=n+1:=eP _ (by omega);rw[wn];rintro⟨⟨⟨d,o,s,lk,al,⟨⟩⟩,⟨⟩⟩,⟨b2,i2,g2,⟨⟩⟩,⟨⟩⟩ ⟨p2,_,o1,o2,k3,k4,hat,ha⟩;have hf:bV (d,o,s,lk,al,()):=(show al.length<=1000 from auM ha (by decide));refine⟨⟨D.small,hf⟩,?_⟩;rintro⟨⟨⟨a3,l3,nx3,⟨⟩⟩,id3,ok3,⟨⟩⟩,⟨⟩⟩ ⟨e1,e2,e3,_⟩;have e:((a3,l3,nx3,()):bU)=(aI (a,l,nx,()) (d,o,s,lk,al,())).1:=Dj e1 e2 e3;refine⟨rfl,⟨p2,⟨(show 0<=n+1 by omega),(show n+1<=7 by omega)⟩,?_,λ_=>?_⟩,?_⟩
  .show sW 1 (a3,l3,nx3,());rw[e];exact D.create hf
  .have:=D.one (f:=(d,o,s,lk,al,())) ⟨o1,o2⟩ ⟨k3,k4⟩ hat;rw[← e]at this;exact this
  .show(8-(n+1)).toNat<(8-n).toNat;omega
 .rintro⟨⟨x3,⟨⟩⟩,⟨b3,i3,g3,⟨⟩⟩,⟨⟩⟩ p3;have h2:(l.length:Int)>2:=fG h2;refine af (λ_=>⟨⟨by decide,(show(1:Int)<l.length by omega)⟩,(show 1<l.length by omega),D.small,?_⟩) λ_=>?_
  .rintro⟨⟨⟨a3,l3,nx3,⟨⟩⟩,ok3,⟨⟩⟩,⟨⟩⟩ ⟨e1,e2,e3,_⟩;have e:=Dj e1 e2 e3;have D':=D.delete (List.getD l (Int.toNat 1) (0,0,false,0,[],())).1;have D':sW 2 (a3,l3,nx3,()):=by have e:((a3,l3,nx3,()):bU)=(aV (a,l,nx,()) (List.getD l (Int.toNat 1) (0,0,false,0,[],())).1).1:=e;rw[e];exact D'
   refine⟨p3,D'.sch,D'.ok,D'.nx,D'.small,?_⟩;have:=(Yd (a,l,nx,()) (List.getD l (Int.toNat 1) (0,0,false,0,[],())).1).2.2;have e2:l3=(aV (a,l,nx,()) (List.getD l (Int.toNat 1) (0,0,false,0,[],())).1).1.2.1:=e2;rw[← e2]at this;have this:l.length<=l3.length+1:=this;show 0<l3.length;omega
  .have D':=D.more (show(1:Int)<=2 by decide);exact⟨p3,D'.sch,D'.ok,D'.nx,D'.small,hne (by have:=fZ hc;omega)⟩
 .have D':=D.more (show(1:Int)<=2 by decide);exact⟨p1,D'.sch,D'.ok,D'.nx,D'.small,hne (by have:=fZ hc;omega)⟩
theorem alm:OK MP.e:=by refine PA.ok mixed (au [] trivial) H0 (by kernel_rfl) (show∀code,MP.goal (aln code) (code,())from ?_);intro b hin hp;dsimp only[MP]at hp ⊢;exact rfl
theorem BB:OK mF.e:=by
 refine PA.ok mixed (au [kT.e] ⟨pV,trivial⟩) UC (by kernel_rfl) (show∀s,mF.goal (SS s) (s,())from ?_);intro s hin hp;dsimp only[mF]at hp ⊢;have hlen:s.length<=maxLen:=hin.1;rw[maxLen_eq]at hlen;refine⟨λy=>∃n:Nat,y.1.1=n/\n<=s.length/\Sp.lower (s.take n)=true,λy=>((s.length:Int)-y.1.1).toNat,⟨0,rfl,by omega,rfl⟩,?_⟩;rintro⟨⟨_,⟨⟩⟩,⟨⟩⟩ ⟨n,rfl,hn,hJ⟩;dsimp only;refine af (λh=>?_) λh=>?_<;>simp only[auK,avs]at h
 .have hlt:n<s.length:=by omega
  rw[eP _ (by omega),auA];refine⟨⟨by omega,by omega⟩,af (λh2=>?_) λh2=>⟨⟨by omega,by omega⟩,af (λh3=>?_) λh3=>?_⟩⟩<;>simp only[auK,avs]at*
  .unfold iD;cases hl:Sp.lower s with
   |false=>rfl
   |true=>have:=Nv hlt hl;omega
  .unfold iD;cases hl:Sp.lower s with
   |false=>rfl
   |true=>have:=Nv hlt hl;omega
  .refine⟨rfl,⟨n+1,by simp,by omega,?_⟩,by dsimp only;omega⟩;rw[Sp.take_succ' s n 0 hlt];unfold Sp.lower at hJ ⊢;rw[List.all_append,hJ];simp only[avD,axx,awl,av8,auq,auK];omega
 .have hge:n=s.length:=by omega
  rw[hge,auO]at hJ;unfold iD;rw[hJ];exact⟨trivial,rfl⟩
theorem Jt:OK rJ.e:=by
 refine PA.ok mixed (au [mF.e,kT.e] ⟨BB,pV,trivial⟩) H0 (by kernel_rfl) (show∀v0 v1 v2,rJ.goal (UD v0 v1 v2) ((v0,v1,v2,()),())from ?_);intro k n s hin hp;dsimp only[rJ]at hp ⊢;refine af (λh=>?_) λh=>af (λh2=>⟨trivial,af (λh3=>?_) λh3=>?_⟩) λh2=>af (λh3=>⟨trivial,af (λh4=>?_) λh4=>?_⟩) λh3=>?_
 .have e:k=0:=by simpa using h
  subst e;exact congrArg (·,()) (auS.2 (by simp[jX]))
 .have e:k=1:=by simpa using h2
  subst e;exact congrArg (·,()) (auS.2 (by simp only[auq,auK]at h3;simp[jX,h3]))
 .have e:k=1:=by simpa using h2
  subst e;exact congrArg (·,()) (auS.2 (by simp only[jX,h3];simp))
 .have e:k=2:=by simpa using h3
  subst e;exact congrArg (·,()) (auS.2 (by simp[jX,h4]))
 .have e:k=2:=by simpa using h3
  subst e;exact congrArg (·,()) (auS.2 (by simp[jX,h4]))
 .have e1:k≠0:=by simpa using h
  have e2:k≠1:=by simpa using h2
  have e3:k≠2:=by simpa using h3
  exact congrArg (·,()) (auS.2 (by simp[jX,e1,e2,e3]))
theorem Gf:OK nV.e:=by
 refine PA.ok mixed (au [] trivial) H0 (by kernel_rfl) (show∀s,nV.goal (PN s) (s,())from ?_);intro s hin hp;dsimp only[nV]at hp ⊢;refine af (λh=>?_) λh=>?_
 .have h:(s.length:Int)=1:=fG h
  match s,h with
  |[c],_=>
   refine⟨⟨by decide,(by show(0:Int)<1;decide)⟩,af (λh2=>⟨⟨by decide,(by show(0:Int)<1;decide)⟩,?_⟩) λh2=>?_⟩
   .have h2:(c.toNat:Int)>=97:=fG h2;refine congrArg (·,()) (auS.2 ?_);simp only[jQ,Sp.lower,avD,axx,awl,auq,auK,auv,auz];constructor
    .intro h3;have h3:(c.toNat:Int)<=122:=h3;exact⟨⟨⟨by omega,by omega⟩,by decide⟩,by decide⟩
    .rintro⟨⟨⟨_,h4⟩,_⟩,_⟩;show(c.toNat:Int)<=122;omega
   .have h2:¬(c.toNat:Int)>=97:=fZ h2;refine congrArg (·,()) (auS.2 ?_);simp only[jQ,Sp.lower,avD,axx,awl,auq,auK];constructor
    .intro h3;cases h3
    .rintro⟨⟨⟨h4,_⟩,_⟩,_⟩;omega
 .have h:¬(s.length:Int)=1:=fZ h;refine congrArg (·,()) (auS.2 ?_);simp only[jQ,auq,auK];constructor
  .intro h3;cases h3
  .rintro⟨⟨_,h4⟩,h5⟩;omega
theorem aam:OK BZ.e:=by
 refine PA.ok mixed (au [] trivial) acK (by kernel_rfl) (show∀s name,BZ.goal (aan s name) (s,name,())from ?_);intro s name hin hp;dsimp only[BZ]at hp ⊢;have hlen:s.length<=maxLen:=hin.1.1;rw[maxLen_eq]at hlen;refine iL s.length hlen (λn=>∀i,i<n->(s.getD i ([],0,())).1≠name) (λi hi=>by omega) (λI μ n hn hJ next=>?_) λI μ hJ=>?_
 .dsimp only;refine dn (by omega) ⟨⟨by omega,by omega⟩,af (λh=>?_) λh=>⟨rfl,next λi hi=>?_⟩⟩
  .exact congrArg (·,()) (X7 s n hn hJ (by simpa only[auA,auE]using h)).symm
  .rcases auJ i n with h'|h'
   .exact hJ i h'
   .have:i=n:=by omega
    subst this;have h2:((s.getD i ([],0,())).1==name)=false:=h;exactλe=>by rw[e]at h2;simp at h2
 .dsimp only;exact dw (by omega) (congrArg (·,()) (QV s hJ).symm)
theorem aog{k:Int}(h:(k !=1)=false\/(k !=2)=false):(decide (1<=k)&&decide (k<=2))=true:=by have:k=1\/k=2:=h.imp (by simp) (by simp);rcases this with h|h<;>subst h<;>rfl
theorem aqu{k:Int}(h1:(k !=1)=true)(h2:(k !=2)=true):(decide (1<=k)&&decide (k<=2))=false:=by
 have h1:k≠1:=by simpa using h1
 have h2:k≠2:=by simpa using h2
 rw[Bool.and_eq_false_iff];by_cases h:k<1
 .left;exact auD (by omega)
 .right;exact auD (by omega)
theorem IC:OK qm.e:=by
 refine PA.ok mixed (au [nV.e] ⟨Gf,trivial⟩) UE (by kernel_rfl) (show∀s,qm.goal (SX s) (s,())from ?_);intro s hin hp;dsimp only[qm]at hp ⊢;have hlen:s.length<=maxLen:=hin.1.1;rw[maxLen_eq]at hlen;refine iL s.length hlen (λn=>∀i,i<n->kY s i=true) (λi hi=>by omega) (λI μ n hn hJ next=>?_) λI μ hJ=>?_
 .dsimp only;have no:kY s n=false->(false,())=(gy s,()):=λh=>by rw[abD hn h]
  have rest:jQ (Sp.fieldAt s n).1=true->(decide (1<=(Sp.fieldAt s n).2.1)&&decide ((Sp.fieldAt s n).2.1<=2))=true->
   bif decide ((n:Int)>0)then
    ((0:Int)<=IntKind.i64.wrap ((n:Int)-1)/\IntKind.i64.wrap ((n:Int)-1)<(s.length:Int))/\
      bif !Op.bytesLess (s.getD (IntKind.i64.wrap ((n:Int)-1)).toNat ([],0,())).fst (s.getD (Int.toNat (n:Int)) ([],0,())).fst then(false,())=(gy s,())
      else NX ((s,s,(s.length:Int),()),()) I μ ((IntKind.i64.wrap ((n:Int)+1),()),()) (((n:Int),()),())
   else NX ((s,s,(s.length:Int),()),()) I μ ((IntKind.i64.wrap ((n:Int)+1),()),()) (((n:Int),()),()):=by
   intro h2 h3;refine af (λh4=>?_) λh4=>⟨rfl,next (fJ hJ ?_)⟩
   .have h4:0<n:=by have:=fG h4;omega
    rw[wU h4 (by omega)];refine⟨⟨by omega,by omega⟩,af (λh5=>no ?_) λh5=>⟨rfl,next (fJ hJ ?_)⟩⟩
    .have h5:Op.bytesLess (Sp.fieldAt s (n-1)).1 (Sp.fieldAt s n).1=false:=dQ h5;unfold kY;rw[h2,h3,h5,auB h4];rfl
    .have h5:Op.bytesLess (Sp.fieldAt s (n-1)).1 (Sp.fieldAt s n).1=true:=bP h5;unfold kY;rw[h2,h3,h5,auB h4];rfl
   .have h4:¬0<n:=by have:=fZ h4;omega
    unfold kY;rw[h2,h3,auD h4];rfl
  refine dn (by omega) ⟨⟨by omega,by omega⟩,trivial,af (λh2=>no ?_) λh2=>af (λh3=>af (λh4=>no ?_) λh4=>?_) λh3=>?_⟩
  .have h2:jQ (Sp.fieldAt s n).1=false:=dQ h2;unfold kY;rw[h2];rfl
  .have h2:jQ (Sp.fieldAt s n).1=true:=bP h2;have h3:(decide (1<=(Sp.fieldAt s n).2.1)&&decide ((Sp.fieldAt s n).2.1<=2))=false:=aqu h3 h4;unfold kY;rw[h2,h3];rfl
  .have h2:jQ (Sp.fieldAt s n).1=true:=bP h2;have h3:(decide (1<=(Sp.fieldAt s n).2.1)&&decide ((Sp.fieldAt s n).2.1<=2))=true:=aog (.inr h4);exact rest h2 h3
  .have h2:jQ (Sp.fieldAt s n).1=true:=bP h2;have h3:(decide (1<=(Sp.fieldAt s n).2.1)&&decide ((Sp.fieldAt s n).2.1<=2))=true:=aog (.inl h3);exact rest h2 h3
 .dsimp only;refine dw (by omega) (congrArg (·,()) ?_);unfold gy;rw[oh hJ];rfl
theorem SY:OK vX.e:=by
 refine PA.ok mixed (au [BZ.e,rJ.e] ⟨aam,Jt,trivial⟩) H0 (by kernel_rfl) (show∀s name v0 v1 v2,vX.goal (S9 s name v0 v1 v2) (s,name,(v0,v1,v2,()),())from ?_);intro fs s k n w hin hp;dsimp only[vX]at hp ⊢;refine⟨trivial,af (λh=>af (λh2=>⟨trivial,?_⟩) λh2=>?_) λh=>?_⟩
 .exact congrArg (·,()) (auS.2 (by simp only[awD,ne_eq]at h2;simp[jy,h,h2]))
 .exact congrArg (·,()) (auS.2 (by simp at h2;simp[jy,h2]))
 .exact congrArg (·,()) (auS.2 (by simp[jy,h]))
theorem Ee:OK oV.e:=by
 refine PA.ok mixed (au [qm.e,yx.e,kT.e,vX.e] ⟨IC,Kr,pV,SY,trivial⟩) Ye (by kernel_rfl) (show∀s f0 f1 f2 f3 f4,oV.goal (V5 s f0 f1 f2 f3 f4) (s,(f0,f1,f2,f3,f4,()),())from ?_);intro fs f0 f1 f2 f3 f4 hin hp;dsimp only[oV]at hp ⊢;have hlen:f4.length<=maxLen:=hin.2.1.2.2.2.2.1.1;rw[maxLen_eq]at hlen;refine iL f4.length hlen (λn=>∀i,i<n->kz fs f4 i=true) (λi hi=>by omega) (λI μ n hn hJ next=>?_) λI μ hJ=>?_
 .dsimp only;have no:kz fs f4 n=false->(false,())=(dD fs (f0,f1,f2,f3,f4,()),()):=λh=>by rw[ah8 (f:=(f0,f1,f2,f3,f4,())) hn h]
  refine dn (by omega) ⟨⟨by omega,by omega⟩,af (λh4=>?_) λh4=>⟨trivial,af (λh2=>no ?_) λh2=>⟨rfl,next (fJ hJ ?_)⟩⟩⟩
  .have h4:0<n:=by have:=fG h4;omega
   rw[wU h4 (by omega)];refine⟨⟨by omega,by omega⟩,af (λh5=>no ?_) λh5=>⟨trivial,af (λh2=>no ?_) λh2=>⟨rfl,next (fJ hJ ?_)⟩⟩⟩
   .have h5:Op.bytesLess (dG f4 (n-1)).1 (dG f4 n).1=false:=dQ h5;unfold kz;rw[h5,auB h4];exact au5 _
   .have h2:jy fs (dG f4 n).1 (dG f4 n).2.1 (dG f4 n).2.2.1 (dG f4 n).2.2.2.1=false:=dQ h2;unfold kz;rw[h2];rfl
   .have h2:jy fs (dG f4 n).1 (dG f4 n).2.1 (dG f4 n).2.2.1 (dG f4 n).2.2.2.1=true:=bP h2;have h5:Op.bytesLess (dG f4 (n-1)).1 (dG f4 n).1=true:=bP h5;unfold kz;rw[h2,h5,auB h4];rfl
  .have h2:jy fs (dG f4 n).1 (dG f4 n).2.1 (dG f4 n).2.2.1 (dG f4 n).2.2.2.1=false:=dQ h2;unfold kz;rw[h2];rfl
  .have h2:jy fs (dG f4 n).1 (dG f4 n).2.1 (dG f4 n).2.2.1 (dG f4 n).2.2.2.1=true:=bP h2;have h4:¬0<n:=by have:=fZ h4;omega
   unfold kz;rw[h2,auD h4];rfl
 .dsimp only;have ha:jY fs f4=true:=oh hJ;refine dw (by omega) ⟨trivial,af (λh1=>⟨trivial,af (λh2=>⟨trivial,af (λh3=>⟨trivial,?_⟩) λh3=>?_⟩) λh2=>?_⟩) λh1=>?_⟩
  all_goals refine congrArg (·,()) ?_
  .show gy fs=(jY fs f4&&gy fs&&(decide (1<=f0)&&decide (f0<=60))&&(decide (0<=f1)&&decide (f1<=2))&&(decide (0<=f3)&&decide (f3<=60)));rw[ha,h1,h2,h3];cases gy fs<;>rfl
  .show false=(jY fs f4&&gy fs&&(decide (1<=f0)&&decide (f0<=60))&&(decide (0<=f1)&&decide (f1<=2))&&(decide (0<=f3)&&decide (f3<=60)));rw[h3,au5]
  .show false=(jY fs f4&&gy fs&&(decide (1<=f0)&&decide (f0<=60))&&(decide (0<=f1)&&decide (f1<=2))&&(decide (0<=f3)&&decide (f3<=60)));rw[h2,au5,awt]
  .show false=(jY fs f4&&gy fs&&(decide (1<=f0)&&decide (f0<=60))&&(decide (0<=f1)&&decide (f1<=2))&&(decide (0<=f3)&&decide (f3<=60)));rw[h1,au5,awt,awt]
theorem wF:OK lq.e:=by
 refine PA.ok mixed (au [kT.e,qm.e,oV.e] ⟨pV,IC,Ee,trivial⟩) V6 (by kernel_rfl) (show∀s0 s1 s2,lq.goal (UF s0 s1 s2) ((s0,s1,s2,()),())from ?_);intro s0 s1 s2 hin hp;dsimp only[lq]at hp ⊢;have hlen:s1.length<=maxLen:=hin.1.2.1.1;rw[maxLen_eq]at hlen;refine iL s1.length hlen (λn=>∀i,i<n->kR (s0,s1,s2,()) i=true) (λi hi=>by omega) (λI μ n hn hJ next=>?_) λI μ hJ=>?_
 .dsimp only;have no:kR (s0,s1,s2,()) n=false->(false,())=(aB (s0,s1,s2,()),()):=λh=>by rw[aeF (s:=(s0,s1,s2,())) hn h]
  refine dn (by omega) ⟨⟨by omega,by omega⟩,trivial,af (λh2=>no ?_) λh2=>af (λh3=>no ?_) λh3=>af (λh4=>?_) λh4=>⟨rfl,next (fJ hJ ?_)⟩⟩
  .have h2:dD s0 (Sp.fileAt s1 n)=false:=dQ h2;show(dD s0 (Sp.fileAt s1 n)&&_&&_)=false;rw[h2];rfl
  .have h2:dD s0 (Sp.fileAt s1 n)=true:=bP h2;have h3:¬(Sp.fileAt s1 n).1<s2:=by have h3:(Sp.fileAt s1 n).1>=s2:=fG h3;omega
   show(dD s0 (Sp.fileAt s1 n)&&decide ((Sp.fileAt s1 n).1<s2)&&_)=false;rw[h2,auD h3];rfl
  .have h2:dD s0 (Sp.fileAt s1 n)=true:=bP h2;have h3:(Sp.fileAt s1 n).1<s2:=by have h3:¬(Sp.fileAt s1 n).1>=s2:=fZ h3;omega
   have h4:0<n:=by have:=fG h4;omega
   rw[wU h4 (by omega)];refine⟨⟨by omega,by omega⟩,af (λh5=>no ?_) λh5=>⟨rfl,next (fJ hJ ?_)⟩⟩
   .have h5:¬(Sp.fileAt s1 (n-1)).1<(Sp.fileAt s1 n).1:=by have h5:(Sp.fileAt s1 (n-1)).1>=(Sp.fileAt s1 n).1:=fG h5;omega
    show(dD s0 (Sp.fileAt s1 n)&&decide ((Sp.fileAt s1 n).1<s2)&&!(decide (0<n)&&!decide ((Sp.fileAt s1 (n-1)).1<(Sp.fileAt s1 n).1)))=false;rw[h2,auB h3,auB h4,auD h5];rfl
   .have h5:(Sp.fileAt s1 (n-1)).1<(Sp.fileAt s1 n).1:=by have h5:¬(Sp.fileAt s1 (n-1)).1>=(Sp.fileAt s1 n).1:=fZ h5;omega
    show(dD s0 (Sp.fileAt s1 n)&&decide ((Sp.fileAt s1 n).1<s2)&&!(decide (0<n)&&!decide ((Sp.fileAt s1 (n-1)).1<(Sp.fileAt s1 n).1)))=true;rw[h2,auB h3,auB h4,auB h5];rfl
  .have h2:dD s0 (Sp.fileAt s1 n)=true:=bP h2;have h3:(Sp.fileAt s1 n).1<s2:=by have h3:¬(Sp.fileAt s1 n).1>=s2:=fZ h3;omega
   have h4:¬0<n:=by have:=fZ h4;omega
   show(dD s0 (Sp.fileAt s1 n)&&decide ((Sp.fileAt s1 n).1<s2)&&!(decide (0<n)&&!decide ((Sp.fileAt s1 (n-1)).1<(Sp.fileAt s1 n).1)))=true;rw[h2,auB h3,auD h4];rfl
 .dsimp only;have ha:jd s1.length (kR (s0,s1,s2,()))=true:=oh hJ;refine dw (by omega) ⟨trivial,af (λh1=>af (λh2=>⟨trivial,?_⟩) λh2=>?_) λh1=>?_⟩
  .refine congrArg (·,()) ?_;show _=(jd s1.length (kR (s0,s1,s2,()))&&gy s0&&decide ((s1.length:Int)<=12)&&(decide (1<=s2)&&decide (s2<=61)));rw[ha,h1,h2];rfl
  .refine congrArg (·,()) ?_;show _=(jd s1.length (kR (s0,s1,s2,()))&&gy s0&&decide ((s1.length:Int)<=12)&&(decide (1<=s2)&&decide (s2<=61)));rw[ha,h1,h2];rfl
  .refine congrArg (·,()) ?_;show _=(jd s1.length (kR (s0,s1,s2,()))&&gy s0&&decide ((s1.length:Int)<=12)&&(decide (1<=s2)&&decide (s2<=61)));rw[ha,h1];rfl
theorem Ku{α:Type}{l:List α}{lo:Nat}{news:List α}(h:lo+news.length<=l.length):(bZ l lo news).length=l.length:=by unfold bZ;simp only[auy,aut,au2];omega
theorem Qw{α:Type}{l:List α}{lo k:Nat}{news:List α}(hk:k<=lo)(h:lo<=l.length):(bZ l lo news).take k=l.take k:=by unfold bZ;rw[avb,avx (by rw[aut];omega),awd,awC hk]
theorem akk{α:Type}{l:List α}{lo k:Nat}{news:List α}(hk:k=lo+news.length)(h:lo<=l.length):(bZ l lo news).take k=l.take lo++news:=by
 unfold bZ;have:(l.take lo++news).length=k:=by rw[auy,aut];omega
 rw[avx (by omega),← this,auO]
theorem aao:OK Ci.e:=by
 refine XA.ok mixed (au [qo.e] ⟨Di,trivial⟩) acL (λ⟨l,_⟩ _=>⟨((l,()),()),rfl⟩) (by kernel_rfl) (show∀l,Ci.goal (aap l) (l,())from ?_);intro l hin hp;dsimp only[Ci]at hp ⊢;obtain⟨h1,h2⟩:l.length<=1000/\∀f∈l,bV f:=hp;refine dM (λi(x:List aK)=>(((),i,()),x,())) (λy=>y.1.2.1) (λ_ _=>rfl) l.length (by omega) (λn x=>x=l.take n) (by simp) (λI μ n x hn hJ next=>?_) λI μ x hJ=>?_
 .subst hJ;have hl:(l.take n).length<=n:=by rw[aut];omega
  dsimp only;refine dn (by omega) ⟨⟨by omega,by omega⟩,h2 _ (getD_mem (d:=((0:Int),(0:Int),false,(0:Int),[],())) hn),by rw[bY];simp only[auv,auz];omega,rfl,next _ ?_⟩;exact(Sp.take_succ' l n (0,0,false,0,[],()) hn).symm
 .subst hJ;dsimp only;refine dw (by omega) ?_;show List.take l.length l=l;rw[auO]
theorem vS:OK lU.e:=by refine XA.ok mixed (au [Ci.e,pY.e] ⟨aao,LZ,trivial⟩) acM (λ⟨(a,l,nx,_),_⟩ _=>⟨(((a,l,nx,()),()),()),rfl⟩) (by kernel_rfl) (show∀s0 s1 s2,lU.goal (aaq s0 s1 s2) ((s0,s1,s2,()),())from ?_);intro s0 s1 s2 hin hp;dsimp only[lU]at hp ⊢;obtain⟨h0,h1,h2⟩:s0.length<=1000/\s1.length<=1000/\∀f∈s1,bV f:=hp;refine⟨h0,⟨h1,h2⟩,?_⟩;rintro⟨⟨x,⟨⟩⟩,⟨⟩⟩ e;have e:x=s1:=e;subst e;exact rfl
end Go.Proofs.Tryz
