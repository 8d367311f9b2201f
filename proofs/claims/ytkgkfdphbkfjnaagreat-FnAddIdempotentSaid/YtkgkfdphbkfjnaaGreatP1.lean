import Derived.Test.YtkgkfdphbkfjnaaGreatV1
import Derived.Test.YtkgkfdphbkfjnaaGreatSp
import Derived.Test.YtkgkfdphbkfjnaaGreatV2
import Derived.Test.YtkgkfdphbkfjnaaGreatFwC
namespace Go.Proofs.Tryz
open Go Go.Fw Go.IntWalk Sp
theorem aqo(x y:Int)(m:Nat)(hm:m<9223372036854775807)(hy:(BitVec.ofInt 64 y).toNat=m):0<=bitsOf .and .i64 x y/\bitsOf .and .i64 x y<=m:=by
 have h:(BitVec.ofInt 64 x&&&BitVec.ofInt 64 y).toNat<=m:=by rw[BitVec.toNat_and,hy];exact Nat.and_le_right
 show 0<=IntKind.i64.wrap ((BitVec.ofInt 64 x&&&BitVec.ofInt 64 y).toNat:Int)/\IntKind.i64.wrap ((BitVec.ofInt 64 x&&&BitVec.ofInt 64 y).toNat:Int)<=m;generalize (BitVec.ofInt 64 x&&&BitVec.ofInt 64 y).toNat=z at h ⊢;rw[fQ _ (by omega)];omega
theorem aqp(x:Int):0<=bitsOf .and .i64 x 255/\bitsOf .and .i64 x 255<=255:=aqo x 255 255 (by omega) (by decide)
theorem Vu:OK EC.e:=by
 refine QA.ok mixed (ax [] trivial) akP (λ⟨_,⟨⟩⟩ _=>⟨([],0,0,()),rfl⟩) (by kernel_rfl) (show∀code,EC.goal (aiO code) (code,())from ?_);intro code hin hp;dsimp only[EC]at hp ⊢;have hp:code.length<=1048576:=hp;refine⟨λy=>∃n:Nat,y.1.2.1=n/\n<=code.length,λy=>((code.length:Int)-y.1.2.1).toNat,⟨0,rfl,by omega⟩,?_⟩;rintro⟨⟨h,_,⟨⟩⟩,⟨⟩⟩ ⟨n,rfl,hn⟩;dsimp only;refine af (λhc=>?_) λhc=>?_
 .simp only[axj]at hc;cases decide ((n:Int)<4000)with
  |false=>exact rfl
  |true=>
   have e:IntKind.i64.wrap ((n:Int)+1)=((n+1:Nat):Int):=fQ _ (by omega);refine⟨?_,?_,?_,?_⟩
   .exact⟨by omega,hc⟩
   .exact rfl
   .exact⟨n+1,e,by omega⟩
   show((code.length:Int)-IntKind.i64.wrap ((n:Int)+1)).toNat<((code.length:Int)-n).toNat;rw[e];omega
 .exact rfl
theorem agu:OK Gu.e:=by
 refine XA.ok mixed (ax [] trivial) H0 (λ_ _=>⟨(((0:Int),()),(([],0,0,()),())),⟨by decide,by decide,by decide⟩⟩) (by kernel_rfl) (show∀c0 c1 c2,Gu.goal (agv c0 c1 c2) ((c0,c1,c2,()),())from ?_);intro b i h hin hp;dsimp only[Gu]at hp ⊢;have hp:0<=i:=hp;refine⟨by decide,by decide,af (λhc=>?_) λhc=>?_⟩<;>simp only[axj,axT]at hc
 .have hl:b.length<=maxLen:=hin.1.1.1;rw[maxLen_eq]at hl;refine⟨⟨hp,hc⟩,?_,aqp _⟩;show 0<=IntKind.i64.wrap (i+1);rw[fQ _ (by omega)];omega
 .exact⟨hp,aqp _⟩
theorem tmod_lt{a n:Int}(ha:0<=a)(hn:0<n):0<=a.tmod n/\a.tmod n<n:=⟨azV n ha,Int.tmod_lt_of_pos a hn⟩
theorem eH:OK dL.e:=by
 refine XA.ok mixed (ax [Gu.e] ⟨agu,trivial⟩) H0 (λ⟨_,n,⟨⟩⟩ _=>⟨(((0:Int),()),(([],0,0,()),())),⟨axv _,axv _,λh=>h,λ_=>rfl⟩⟩) (by kernel_rfl) (show∀c0 c1 c2 n,dL.goal (aeC c0 c1 c2 n) ((c0,c1,c2,()),n,())from ?_);intro b i h n hin hp;dsimp only[dL]at hp ⊢;have hp:0<=i:=hp;refine af (λhc=>?_) λhc=>?_<;>simp only[axj,axT]at hc
 .exact⟨hp,axv _,λh=>(by omega),λ_=>rfl⟩
 .refine af (λhc2=>?_) λhc2=>?_
  .refine⟨hp,?_⟩;rintro⟨⟨x,⟨⟩⟩,⟨b',i',h',⟨⟩⟩,⟨⟩⟩ ⟨h1,h2,h3⟩;dsimp only at h1 h2 h3 ⊢;have:=tmod_lt h2 (show 0<n by omega);exact⟨by omega,h1,this.1,λ_=>this.2,λh=>(by omega)⟩
  .refine⟨hp,?_⟩;rintro⟨⟨x1,⟨⟩⟩,⟨b1,i1,g1,⟨⟩⟩,⟨⟩⟩ ⟨h1,h2,h3⟩;refine⟨h1,?_⟩;rintro⟨⟨x2,⟨⟩⟩,⟨b2,i2,g2,⟨⟩⟩,⟨⟩⟩ ⟨k1,k2,k3⟩;refine⟨k1,?_⟩;rintro⟨⟨x3,⟨⟩⟩,⟨b3,i3,g3,⟨⟩⟩,⟨⟩⟩ ⟨l1,l2,l3⟩;refine⟨l1,?_⟩;rintro⟨⟨x4,⟨⟩⟩,⟨b4,i4,g4,⟨⟩⟩,⟨⟩⟩ ⟨m1,m2,m3⟩;dsimp only at*;rw[fQ (x1*16777216) (by omega),fQ (x2*65536) (by omega),fQ (x3*256) (by omega),fQ (x1*16777216+x2*65536) (by omega),fQ (x1*16777216+x2*65536+x3*256) (by omega),fQ (x1*16777216+x2*65536+x3*256+x4) (by omega)];have:=tmod_lt (a:=x1*16777216+x2*65536+x3*256+x4) (n:=n) (by omega) (by omega);exact⟨by omega,m1,this.1,λ_=>this.2,λh=>(by omega)⟩
theorem AA:OK mP.e:=by refine XA.ok mixed (ax [dL.e] ⟨eH,trivial⟩) H0 (λ_ _=>⟨((false,()),(([],0,0,()),())),axv _⟩) (by kernel_rfl) (show∀c0 c1 c2 n,mP.goal (agw c0 c1 c2 n) ((c0,c1,c2,()),n,())from ?_);intro b i h n hin hp;dsimp only[mP]at hp ⊢;refine⟨hp,?_⟩;rintro⟨⟨x,⟨⟩⟩,⟨b',i',h',⟨⟩⟩,⟨⟩⟩ ⟨h1,_⟩;exact h1
theorem kQ:OK jq.e:=by refine XA.ok mixed (ax [dL.e] ⟨eH,trivial⟩) H0 (λ⟨_,l,⟨⟩⟩⟨_,hl⟩=>(match l,hl with|x::_,_=>⟨((x.1,()),(([],0,0,()),())),⟨axv _,aw5⟩⟩)) (by kernel_rfl) (show∀c0 c1 c2 list,jq.goal (agx c0 c1 c2 list) ((c0,c1,c2,()),list,())from ?_);intro b i h l hin hp;dsimp only[jq]at hp ⊢;obtain⟨hp,hl⟩:=hp;have hpos:0<l.length:=azA.2 hl;refine⟨hp,?_⟩;rintro⟨⟨x,⟨⟩⟩,⟨b',i',h',⟨⟩⟩,⟨⟩⟩ ⟨h1,h2,h3,_⟩;have h3:x<(l.length:Int):=h3 (by omega);refine⟨⟨h2,h3⟩,h1,?_⟩;exact getD_mem (by dsimp only at h2;omega)
theorem pY:OK kE.e:=by refine XA.ok mixed (ax [dL.e] ⟨eH,trivial⟩) H0 (λ⟨_,l,⟨⟩⟩⟨_,hl⟩=>(match l,hl with|x::_,_=>⟨((x.1,()),(([],0,0,()),())),⟨axv _,aw5⟩⟩)) (by kernel_rfl) (show∀c0 c1 c2 list,kE.goal (aaA c0 c1 c2 list) ((c0,c1,c2,()),list,())from ?_);intro b i h l hin hp;dsimp only[kE]at hp ⊢;obtain⟨hp,hl⟩:=hp;have hpos:0<l.length:=azA.2 hl;refine⟨hp,?_⟩;rintro⟨⟨x,⟨⟩⟩,⟨b',i',h',⟨⟩⟩,⟨⟩⟩ ⟨h1,h2,h3,_⟩;have h3:x<(l.length:Int):=h3 (by omega);refine⟨⟨h2,h3⟩,h1,?_⟩;exact getD_mem (by dsimp only at h2;omega)
theorem QF:OK zD.e:=by refine XA.ok mixed (ax [] trivial) agy (λ_ _=>⟨((Sp.usual,()),()),rfl⟩) (by kernel_rfl) (show zD.goal (aeD) (())from ?_);intro hin hp;dsimp only[zD]at hp ⊢;exact rfl
theorem Tf:OK Ce.e:=by refine XA.ok mixed (ax [jq.e] ⟨kQ,trivial⟩) H0 (λ_ _=>⟨(([],()),(([],0,0,()),())),⟨by decide,by decide⟩⟩) (by kernel_rfl) (show∀c0 c1 c2,Ce.goal (agz c0 c1 c2) ((c0,c1,c2,()),())from ?_);intro b i h hin hp;dsimp only[Ce]at hp ⊢;refine⟨⟨hp,by simp⟩,?_⟩;rintro⟨⟨x,⟨⟩⟩,⟨b',i',h',⟨⟩⟩,⟨⟩⟩ ⟨h1,h2⟩;refine⟨h1,?_⟩;exact(show∀y∈_,List.length y.1<=1 from by decide) _ h2
theorem aaB:Sp.usual.length=4:=rfl
theorem aiP:OK I4.e:=by
 refine XA.ok mixed (ax [jq.e,Ce.e,dL.e,zD.e] ⟨kQ,Tf,eH,QF,trivial⟩) akQ (λ_ _=>⟨(([],()),(([],0,0,()),())),⟨by decide,by decide⟩⟩) (by kernel_rfl) (show∀c0 c1 c2,I4.goal (aiQ c0 c1 c2) ((c0,c1,c2,()),())from ?_);intro b i h hin hp;dsimp only[I4]at hp ⊢;have hp:0<=i:=hp;refine⟨trivial,?_⟩;rintro⟨⟨_,⟨⟩⟩,⟨⟩⟩ rfl;dsimp only
 repeat' first
  |exact trivial
  |refine af (λ_=>?_) λ_=>?_
  |refine And.intro ?_ ?_
  |(intro r hr;simp only[]at hr)
  |intro r hr
 all_goals first
  |omega
  |(dsimp only at*;omega)
  |exact hr
  |(simp only[awS,ne_eq]at*;omega)
  |(simp only[axe,awT,awW,awU,awY,aaB];omega)
  |(rw[bM];simp only[axe,awT,awW,awU,awY,aaB];omega)
  |(simp only[axe,awT,awW,awU,awY,aaB]at*;omega)
  |exact(show∀y∈_,List.length y.1<=10 from by decide) _ hr.2
  |(simp;done)
  |skip
theorem Jw:OK uO.e:=by refine PA.ok mixed (ax [] trivial) H0 (by kernel_rfl) (show∀n,uO.goal (aeE n) (n,())from ?_);intro n hin hp;dsimp only[uO]at hp ⊢;exact rfl
theorem yV:OK lY.e:=by refine PA.ok mixed (ax [] trivial) H0 (by kernel_rfl) (show∀w,lY.goal (YP w) (w,())from ?_);intro n hin hp;dsimp only[lY]at hp ⊢;exact rfl
theorem aeF:OK FD.e:=by
 refine XA.ok mixed (ax [lY.e,jq.e,uO.e,dL.e] ⟨yV,kQ,Jw,eH,trivial⟩) H0 (λ_ _=>⟨((((0:Int),(0:Int),([]:List UInt8),()),()),(([],0,0,()),())),⟨by decide,by decide⟩⟩) (by kernel_rfl) (show∀c0 c1 c2,FD.goal (aeG c0 c1 c2) ((c0,c1,c2,()),())from ?_);intro b i h hin hp;dsimp only[FD]at hp ⊢;have hp:0<=i:=hp
 repeat' first
  |exact trivial
  |refine af (λ_=>?_) λ_=>?_
  |refine And.intro ?_ ?_
  |(intro r hr;simp only[]at hr)
  |intro r hr
 all_goals first
  |omega
  |(dsimp only at*;omega)
  |exact hr
  |(simp only[awS,ne_eq]at*;omega)
  |(simp only[axe,awT,awW,awU,awY];omega)
  |(rw[bM];simp only[axe,awT,awW,awU,awY];omega)
  |(simp only[axe,awT,awW,awU,awY]at*;omega)
  |exact(show∀y∈_,List.length y.1<=10 from by decide) _ hr.2
  |(simp;done)
  |skip
theorem Vw:OK ED.e:=by
 refine XA.ok mixed (ax [jq.e,kE.e,dL.e,FD.e] ⟨kQ,pY,eH,aeF,trivial⟩) H0 (λ_ _=>⟨((((0:Int),(0:Int),([]:List UInt8),()),()),(([],0,0,()),())),⟨by decide,by decide⟩⟩) (by kernel_rfl) (show∀c0 c1 c2,ED.goal (aiR c0 c1 c2) ((c0,c1,c2,()),())from ?_);intro b i h hin hp;dsimp only[ED]at hp ⊢;have hp:0<=i:=hp
 repeat' first
  |exact trivial
  |refine af (λ_=>?_) λ_=>?_
  |refine And.intro ?_ ?_
  |(intro r hr;simp only[]at hr)
  |intro r hr
 all_goals first
  |omega
  |(dsimp only at*;omega)
  |exact hr
  |(simp only[awS,ne_eq]at*;omega)
  |(simp only[axe,awT,awW,awU,awY];omega)
  |(rw[bM];simp only[axe,awT,awW,awU,awY];omega)
  |(simp only[axe,awT,awW,awU,awY]at*;omega)
  |exact(show∀y∈_,List.length y.1<=10 from by decide) _ hr.2
  |(simp;done)
  |skip
theorem jJ:OK jc.e:=by
 refine PA.ok mixed (ax [] trivial) H0 (by kernel_rfl) (show∀JU least most,jc.goal (akR JU least most) (JU,least,most,())from ?_);intro x a b hin hp;dsimp only[jc]at hp ⊢;refine af (λh=>?_) λh=>?_
 .have h:=gI h;show(decide (x<=b),())=(decide (a<=x)&&decide (x<=b),());rw[aw0 (show a<=x from h)];rfl
 .have h:=gY h;show(false,())=(decide (a<=x)&&decide (x<=b),());rw[aw1 (show ¬a<=x from h)];rfl
theorem sS:OK mG.e:=by
 refine PA.ok mixed (ax [] trivial) H0 (by kernel_rfl) (show∀n low high,mG.goal (aiS n low high) (n,low,high,())from ?_);intro x a b hin hp;dsimp only[mG]at hp ⊢;refine af (λh=>?_) λh=>?_
 .show(decide (x<=b),())=(decide (a<=x)&&decide (x<=b),());rw[h];rfl
 .show(false,())=(decide (a<=x)&&decide (x<=b),());rw[h];rfl
theorem Pv{s:List UInt8}{n:Nat}(hlt:n<s.length)(hl:Sp.lower s=true):97<=(s.getD n 0).toNat/\(s.getD n 0).toNat<=122:=by have:=axk.1 hl _ (getD_mem (d:=0) hlt);simpa using this
theorem Ti:OK Ci.e:=by
 refine PA.ok mixed (ax [jc.e] ⟨jJ,trivial⟩) aiT (by kernel_rfl) (show∀s most,Ci.goal (agA s most) (s,most,())from ?_);intro s most hin hp;dsimp only[Ci]at hp ⊢;have hlen:s.length<=maxLen:=hin.1;rw[maxLen_eq]at hlen;refine⟨λy=>∃n:Nat,y.1.1=n/\n<=s.length/\Sp.lower (s.take n)=true,λy=>((s.length:Int)-y.1.1).toNat,⟨0,rfl,by omega,rfl⟩,?_⟩;rintro⟨⟨_,⟨⟩⟩,⟨⟩⟩ ⟨n,rfl,hn,hJ⟩;dsimp only;refine af (λh=>?_) λh=>?_<;>simp only[axj,axT]at h
 .have hlt:n<s.length:=by omega
  rw[fQ _ (by omega),awX];refine⟨⟨by omega,by omega⟩,af (λh2=>?_) λh2=>⟨⟨by omega,by omega⟩,af (λh3=>?_) λh3=>?_⟩⟩<;>simp only[axj,axT]at*
  .cases hl:Sp.lower s with
   |false=>rfl
   |true=>have:=Pv hlt hl;omega
  .cases hl:Sp.lower s with
   |false=>rfl
   |true=>have:=Pv hlt hl;omega
  .refine⟨rfl,⟨n+1,by simp,by omega,?_⟩,by dsimp only;omega⟩;rw[Sp.take_succ' s n 0 hlt];unfold Sp.lower at hJ ⊢;rw[List.all_append,hJ];simp only[ax0,azS,ayN,aza,awP,axj];omega
 .have hge:n=s.length:=by omega
  rw[hge,aw9]at hJ;rw[hJ];exact⟨trivial,rfl⟩
theorem Dt:OK mQ.e:=by refine PA.ok mixed (ax [Ci.e] ⟨Ti,trivial⟩) H0 (by kernel_rfl) (show∀s,mQ.goal (Vx s) (s,())from ?_);intro s hin hp;dsimp only[mQ]at hp ⊢;exact⟨trivial,rfl⟩
theorem KW:OK rH.e:=by
 refine PA.ok mixed (ax [mQ.e,jc.e] ⟨Dt,jJ,trivial⟩) H0 (by kernel_rfl) (show∀v0 v1 v2,rH.goal (Xa v0 v1 v2) ((v0,v1,v2,()),())from ?_);intro k n s hin hp;dsimp only[rH]at hp ⊢;refine af (λh=>?_) λh=>af (λh2=>⟨trivial,af (λh3=>?_) λh3=>?_⟩) λh2=>af (λh3=>⟨trivial,af (λh4=>?_) λh4=>?_⟩) λh3=>?_
 .have e:k=0:=by simpa using h
  subst e;exact congrArg (·,()) (axf.2 (by simp[kH]))
 .have e:k=1:=by simpa using h2
  subst e;exact congrArg (·,()) (axf.2 (by simp only[awP,axj]at h3;simp[kH,h3]))
 .have e:k=1:=by simpa using h2
  subst e;exact congrArg (·,()) (axf.2 (by simp only[kH,h3];simp))
 .have e:k=2:=by simpa using h3
  subst e;exact congrArg (·,()) (axf.2 (by simp[kH,h4]))
 .have e:k=2:=by simpa using h3
  subst e;exact congrArg (·,()) (axf.2 (by simp[kH,h4]))
 .have e1:k≠0:=by simpa using h
  have e2:k≠1:=by simpa using h2
  have e3:k≠2:=by simpa using h3
  exact congrArg (·,()) (axf.2 (by simp[kH,e1,e2,e3]))
theorem Hw:OK ou.e:=by refine PA.ok mixed (ax [Ci.e] ⟨Ti,trivial⟩) H0 (by kernel_rfl) (show∀s,ou.goal (RJ s) (s,())from ?_);intro s hin hp;dsimp only[ou]at hp ⊢;exact⟨trivial,rfl⟩
theorem acB:OK DW.e:=by
 refine PA.ok mixed (ax [] trivial) aeH (by kernel_rfl) (show∀s name,DW.goal (acC s name) (s,name,())from ?_);intro s name hin hp;dsimp only[DW]at hp ⊢;have hlen:s.length<=maxLen:=hin.1.1;rw[maxLen_eq]at hlen;refine je s.length hlen (λn=>∀i,i<n->(s.getD i ([],0,())).1≠name) (λi hi=>by omega) (λI μ n hn hJ next=>?_) λI μ hJ=>?_
 .dsimp only;refine bU (by omega) ⟨⟨by omega,by omega⟩,af (λh=>⟨⟨by omega,by omega⟩,?_⟩) λh=>⟨rfl,next λi hi=>?_⟩⟩
  .exact congrArg (·,()) (aaC s n hn hJ (by simpa only[awX,awZ]using h)).symm
  .rcases aw8 i n with h'|h'
   .exact hJ i h'
   .have:i=n:=by omega
    subst this;have h2:((s.getD i ([],0,())).1==name)=false:=h;exactλe=>by rw[e]at h2;simp at h2
 .dsimp only;exact bV (by omega) (congrArg (·,()) (Uk s hJ).symm)
theorem JV:OK qp.e:=by
 refine PA.ok mixed (ax [jc.e,ou.e] ⟨jJ,Hw,trivial⟩) Xb (by kernel_rfl) (show∀s,qp.goal (Vy s) (s,())from ?_);intro s hin hp;dsimp only[qp]at hp ⊢;have hlen:s.length<=maxLen:=hin.1.1;rw[maxLen_eq]at hlen;refine je s.length hlen (λn=>∀i,i<n->lK s i=true) (λi hi=>by omega) (λI μ n hn hJ next=>?_) λI μ hJ=>?_
 .dsimp only;have no:lK s n=false->(false,())=(fO s,()):=λh=>by rw[adR hn h]
  refine bU (by omega) ⟨⟨by omega,by omega⟩,trivial,af (λh2=>no ?_) λh2=>⟨⟨by omega,by omega⟩,trivial,af (λh3=>no ?_) λh3=>af (λh4=>?_) λh4=>⟨rfl,next (eY hJ ?_)⟩⟩⟩
  .have h2:jY (Sp.fieldAt s n).1=false:=dY h2;unfold lK;rw[h2];rfl
  .have h2:jY (Sp.fieldAt s n).1=true:=dw h2;have h3:(decide (1<=(Sp.fieldAt s n).2.1)&&decide ((Sp.fieldAt s n).2.1<=2))=false:=dY h3;unfold lK;rw[h2,h3];rfl
  .have h2:jY (Sp.fieldAt s n).1=true:=dw h2;have h3:(decide (1<=(Sp.fieldAt s n).2.1)&&decide ((Sp.fieldAt s n).2.1<=2))=true:=dw h3;have h4:0<n:=by have:=gI h4;omega
   rw[xG h4 (by omega)];refine⟨⟨by omega,by omega⟩,⟨by omega,by omega⟩,af (λh5=>no ?_) λh5=>⟨rfl,next (eY hJ ?_)⟩⟩
   .have h5:Op.bytesLess (Sp.fieldAt s (n-1)).1 (Sp.fieldAt s n).1=false:=dY h5;unfold lK;rw[h2,h3,h5,aw0 h4];rfl
   .have h5:Op.bytesLess (Sp.fieldAt s (n-1)).1 (Sp.fieldAt s n).1=true:=dw h5;unfold lK;rw[h2,h3,h5,aw0 h4];rfl
  .have h2:jY (Sp.fieldAt s n).1=true:=dw h2;have h3:(decide (1<=(Sp.fieldAt s n).2.1)&&decide ((Sp.fieldAt s n).2.1<=2))=true:=dw h3;have h4:¬0<n:=by have:=gY h4;omega
   unfold lK;rw[h2,h3,aw1 h4];rfl
 .dsimp only;refine bV (by omega) (congrArg (·,()) ?_);unfold fO;rw[mr hJ];rfl
theorem Vz:OK wC.e:=by
 refine PA.ok mixed (ax [DW.e,rH.e] ⟨acB,KW,trivial⟩) H0 (by kernel_rfl) (show∀s name v0 v1 v2,wC.goal (VA s name v0 v1 v2) (s,name,(v0,v1,v2,()),())from ?_);intro fs s k n w hin hp;dsimp only[wC]at hp ⊢;refine⟨trivial,af (λh=>af (λh2=>⟨trivial,?_⟩) λh2=>?_) λh=>?_⟩
 .exact congrArg (·,()) (axf.2 (by simp only[ayR,ne_eq]at h2;simp[iO,h,h2]))
 .exact congrArg (·,()) (axf.2 (by simp at h2;simp[iO,h2]))
 .exact congrArg (·,()) (axf.2 (by simp[iO,h]))
theorem Fz:OK o9.e:=by
 refine PA.ok mixed (ax [jc.e,qp.e,wC.e] ⟨jJ,JV,Vz,trivial⟩) aaD (by kernel_rfl) (show∀s f0 f1 f2 f3 f4,o9.goal (YQ s f0 f1 f2 f3 f4) (s,(f0,f1,f2,f3,f4,()),())from ?_);intro fs f0 f1 f2 f3 f4 hin hp;dsimp only[o9]at hp ⊢;have hlen:f4.length<=maxLen:=hin.2.1.2.2.2.2.1.1;rw[maxLen_eq]at hlen;refine je f4.length hlen (λn=>∀i,i<n->kM fs f4 i=true) (λi hi=>by omega) (λI μ n hn hJ next=>?_) λI μ hJ=>?_
 .dsimp only;have no:kM fs f4 n=false->(false,())=(bT fs (f0,f1,f2,f3,f4,()),()):=λh=>by rw[aki (f:=(f0,f1,f2,f3,f4,())) hn h]
  refine bU (by omega) ⟨⟨by omega,by omega⟩,⟨by omega,by omega⟩,trivial,af (λh2=>no ?_) λh2=>af (λh4=>?_) λh4=>⟨rfl,next (eY hJ ?_)⟩⟩
  .have h2:iO fs (cu f4 n).1 (cu f4 n).2.1 (cu f4 n).2.2.1 (cu f4 n).2.2.2.1=false:=dY h2;unfold kM;rw[h2];rfl
  .have h2:iO fs (cu f4 n).1 (cu f4 n).2.1 (cu f4 n).2.2.1 (cu f4 n).2.2.2.1=true:=dw h2;have h4:0<n:=by have:=gI h4;omega
   rw[xG h4 (by omega)];refine⟨⟨by omega,by omega⟩,⟨by omega,by omega⟩,af (λh5=>no ?_) λh5=>⟨rfl,next (eY hJ ?_)⟩⟩
   .have h5:Op.bytesLess (cu f4 (n-1)).1 (cu f4 n).1=false:=dY h5;unfold kM;rw[h2,h5,aw0 h4];rfl
   .have h5:Op.bytesLess (cu f4 (n-1)).1 (cu f4 n).1=true:=dw h5;unfold kM;rw[h2,h5,aw0 h4];rfl
  .have h2:iO fs (cu f4 n).1 (cu f4 n).2.1 (cu f4 n).2.2.1 (cu f4 n).2.2.2.1=true:=dw h2;have h4:¬0<n:=by have:=gY h4;omega
   unfold kM;rw[h2,aw1 h4];rfl
 .dsimp only;have ha:iy fs f4=true:=mr hJ;refine bV (by omega) ⟨trivial,af (λh1=>⟨trivial,af (λh2=>⟨trivial,af (λh3=>⟨trivial,?_⟩) λh3=>?_⟩) λh2=>?_⟩) λh1=>?_⟩
  .refine congrArg (·,()) ?_;unfold bT;rw[ha,h1,h2,h3];rfl
  .refine congrArg (·,()) ?_;unfold bT;rw[ha,h1,h2,h3];rfl
  .refine congrArg (·,()) ?_;unfold bT;rw[ha,h1,h2];rfl
  .refine congrArg (·,()) ?_;unfold bT;rw[ha,h1];rfl
theorem ni:OK jB.e:=by
 refine PA.ok mixed (ax [jc.e,qp.e,o9.e] ⟨jJ,JV,Fz,trivial⟩) YR (by kernel_rfl) (show∀s0 s1 s2,jB.goal (Xc s0 s1 s2) ((s0,s1,s2,()),())from ?_);intro s0 s1 s2 hin hp;dsimp only[jB]at hp ⊢;have hlen:s1.length<=maxLen:=hin.1.2.1.1;rw[maxLen_eq]at hlen;refine je s1.length hlen (λn=>∀i,i<n->kZ (s0,s1,s2,()) i=true) (λi hi=>by omega) (λI μ n hn hJ next=>?_) λI μ hJ=>?_
 .dsimp only;have no:kZ (s0,s1,s2,()) n=false->(false,())=(aC (s0,s1,s2,()),()):=λh=>by rw[agB (s:=(s0,s1,s2,())) hn h]
  refine bU (by omega) ⟨⟨by omega,by omega⟩,trivial,af (λh2=>no ?_) λh2=>⟨⟨by omega,by omega⟩,af (λh3=>no ?_) λh3=>af (λh4=>?_) λh4=>⟨rfl,next (eY hJ ?_)⟩⟩⟩
  .have h2:bT s0 (Sp.fileAt s1 n)=false:=dY h2;show(bT s0 (Sp.fileAt s1 n)&&_&&_)=false;rw[h2];rfl
  .have h2:bT s0 (Sp.fileAt s1 n)=true:=dw h2;have h3:¬(Sp.fileAt s1 n).1<s2:=by have h3:(Sp.fileAt s1 n).1>=s2:=gI h3;omega
   show(bT s0 (Sp.fileAt s1 n)&&decide ((Sp.fileAt s1 n).1<s2)&&_)=false;rw[h2,aw1 h3];rfl
  .have h2:bT s0 (Sp.fileAt s1 n)=true:=dw h2;have h3:(Sp.fileAt s1 n).1<s2:=by have h3:¬(Sp.fileAt s1 n).1>=s2:=gY h3;omega
   have h4:0<n:=by have:=gI h4;omega
   rw[xG h4 (by omega)];refine⟨⟨by omega,by omega⟩,⟨by omega,by omega⟩,af (λh5=>no ?_) λh5=>⟨rfl,next (eY hJ ?_)⟩⟩
   .have h5:¬(Sp.fileAt s1 (n-1)).1<(Sp.fileAt s1 n).1:=by have h5:(Sp.fileAt s1 (n-1)).1>=(Sp.fileAt s1 n).1:=gI h5;omega
    show(bT s0 (Sp.fileAt s1 n)&&decide ((Sp.fileAt s1 n).1<s2)&&!(decide (0<n)&&!decide ((Sp.fileAt s1 (n-1)).1<(Sp.fileAt s1 n).1)))=false;rw[h2,aw0 h3,aw0 h4,aw1 h5];rfl
   .have h5:(Sp.fileAt s1 (n-1)).1<(Sp.fileAt s1 n).1:=by have h5:¬(Sp.fileAt s1 (n-1)).1>=(Sp.fileAt s1 n).1:=gY h5;omega
    show(bT s0 (Sp.fileAt s1 n)&&decide ((Sp.fileAt s1 n).1<s2)&&!(decide (0<n)&&!decide ((Sp.fileAt s1 (n-1)).1<(Sp.fileAt s1 n).1)))=true;rw[h2,aw0 h3,aw0 h4,aw0 h5];rfl
  .have h2:bT s0 (Sp.fileAt s1 n)=true:=dw h2;have h3:(Sp.fileAt s1 n).1<s2:=by have h3:¬(Sp.fileAt s1 n).1>=s2:=gY h3;omega
   have h4:¬0<n:=by have:=gY h4;omega
   show(bT s0 (Sp.fileAt s1 n)&&decide ((Sp.fileAt s1 n).1<s2)&&!(decide (0<n)&&!decide ((Sp.fileAt s1 (n-1)).1<(Sp.fileAt s1 n).1)))=true;rw[h2,aw0 h3,aw1 h4];rfl
 .dsimp only;have ha:jK s1.length (kZ (s0,s1,s2,()))=true:=mr hJ;refine bV (by omega) ⟨trivial,af (λh1=>af (λh2=>⟨trivial,?_⟩) λh2=>?_) λh1=>?_⟩
  .refine congrArg (·,()) ?_;show _=(jK s1.length (kZ (s0,s1,s2,()))&&fO s0&&decide ((s1.length:Int)<=12)&&(decide (1<=s2)&&decide (s2<=61)));rw[ha,h1,h2];rfl
  .refine congrArg (·,()) ?_;show _=(jK s1.length (kZ (s0,s1,s2,()))&&fO s0&&decide ((s1.length:Int)<=12)&&(decide (1<=s2)&&decide (s2<=61)));rw[ha,h1,h2];rfl
  .refine congrArg (·,()) ?_;show _=(jK s1.length (kZ (s0,s1,s2,()))&&fO s0&&decide ((s1.length:Int)<=12)&&(decide (1<=s2)&&decide (s2<=61)));rw[ha,h1];rfl
theorem aaE:OK BD.e:=by
 refine PA.ok mixed (ax [] trivial) acD (by kernel_rfl) (show∀a b,BD.goal (aaF a b) (a,b,())from ?_);intro a b hin hp;dsimp only[BD]at hp ⊢;have hlen:a.length<=maxLen:=hin.1.1;rw[maxLen_eq]at hlen;refine af (λh=>?_) λh=>?_
 .have h:(a.length:Int)≠b.length:=by simpa using h
  exact congrArg (·,()) (aw1 λe=>h (by rw[e])).symm
 .have h:(a.length:Int)=b.length:=by simpa using h
  exact VB (K:=λr=>r=(decide (a=b),())) (λx y=>!(x.1==y.1&&(x.2.1==y.2.1&&true))) (λx y=>by simp[ayE]) _ a b _ hlen (by omega) (λe=>by rw[aw1 e]) λe=>by rw[aw0 e]
theorem OO:OK xR.e:=by
 refine PA.ok mixed (ax [] trivial) aeI (by kernel_rfl) (show∀a b,xR.goal (acE a b) (a,b,())from ?_);intro a b hin hp;dsimp only[xR]at hp ⊢;have hlen:a.length<=maxLen:=hin.1.1;rw[maxLen_eq]at hlen;refine af (λh=>?_) λh=>?_
 .have h:(a.length:Int)≠b.length:=by simpa using h
  exact congrArg (·,()) (aw1 λe=>h (by rw[e])).symm
 .have h:(a.length:Int)=b.length:=by simpa using h
  exact VB (K:=λr=>r=(decide (a=b),())) (λx y=>!(x.1==y.1&&(x.2.1==y.2.1&&(x.2.2.1==y.2.2.1&&(x.2.2.2.1==y.2.2.2.1&&true))))) (λx y=>by simp[ayE]) _ a b _ hlen (by omega) (λe=>by rw[aw1 e]) λe=>by rw[aw0 e]
theorem aeJ:OK FH.e:=by
 refine PA.ok mixed (ax [xR.e] ⟨OO,trivial⟩) H0 (by kernel_rfl) (show∀a0 a1 a2 a3 a4 b0 b1 b2 b3 b4,FH.goal (aeK a0 a1 a2 a3 a4 b0 b1 b2 b3 b4) ((a0,a1,a2,a3,a4,()),(b0,b1,b2,b3,b4,()),())from ?_);intro a0 a1 a2 a3 a4 b0 b1 b2 b3 b4 hin hp;dsimp only[FH]at hp ⊢;refine af (λh0=>af (λh1=>af (λh2=>af (λh3=>⟨trivial,?_⟩) λh3=>?_) λh2=>?_) λh1=>?_) λh0=>?_
 all_goals refine congrArg (·,()) (axf.2 ?_)
 .simp only[awZ]at h0 h1 h2 h3;subst h0 h1 h2 h3;simp
 .have h3:a3≠b3:=by simpa using h3
  simp[h3]
 .have h2:a2≠b2:=by simpa using h2
  simp[h2]
 .have h1:a1≠b1:=by simpa using h1
  simp[h1]
 .have h0:a0≠b0:=by simpa using h0
  simp[h0]
theorem acF:OK DY.e:=by
 refine PA.ok mixed (ax [FH.e] ⟨aeJ,trivial⟩) aeL (by kernel_rfl) (show∀a b,DY.goal (acG a b) (a,b,())from ?_);intro a b hin hp;dsimp only[DY]at hp ⊢;have hlen:a.length<=maxLen:=hin.1.1;rw[maxLen_eq]at hlen;refine af (λh=>?_) λh=>?_
 .have h:(a.length:Int)≠b.length:=by simpa using h
  exact congrArg (·,()) (aw1 λe=>h (by rw[e])).symm
 .have h:(a.length:Int)=b.length:=by simpa using h
  exact aeM (K:=λr=>r=(decide (a=b),())) (λx y=>!decide ((x.1,x.2.1,x.2.2.1,x.2.2.2.1,x.2.2.2.2.1,())=(y.1,y.2.1,y.2.2.1,y.2.2.2.1,y.2.2.2.2.1,()))) (λx y=>by simp[ayE]) _ a b _ hlen (by omega) (λe=>by rw[aw1 e]) λe=>by rw[aw0 e]
theorem acH:OK DZ.e:=by
 refine PA.ok mixed (ax [DY.e,BD.e] ⟨acF,aaE,trivial⟩) H0 (by kernel_rfl) (show∀a0 a1 a2 b0 b1 b2,DZ.goal (acI a0 a1 a2 b0 b1 b2) ((a0,a1,a2,()),(b0,b1,b2,()),())from ?_);intro a0 a1 a2 b0 b1 b2 hin hp;dsimp only[DZ]at hp ⊢;refine⟨trivial,af (λh0=>⟨trivial,af (λh1=>?_) λh1=>?_⟩) λh0=>?_⟩
 all_goals refine congrArg (·,()) (axf.2 ?_)
 .have h0:=gI h0;have h1:=gI h1;subst h0 h1;simp
 .have h1:=gY h1;simp[h1]
 .have h0:=gY h0;simp[h0]
theorem vG:OK mW.e:=by refine PA.ok mixed (ax [] trivial) aiU (by kernel_rfl) (show∀f0 f1 f2 f3 f4,mW.goal (agC f0 f1 f2 f3 f4) ((f0,f1,f2,f3,f4,()),())from ?_);intro f0 f1 f2 f3 f4 hin hp;dsimp only[mW]at hp ⊢;have hp:f4.length<=1000:=hp;exact⟨by rw[bM];omega,rfl⟩
theorem EM:OK lS.e:=by refine PA.ok mixed (ax [] trivial) Px (by kernel_rfl) (show∀s,lS.goal (Ox s) (s,())from ?_);intro l hin hp;dsimp only[lS]at hp ⊢;intro g hg;have hp:l.length<=1000:=hp;refine af (λh=>?_) λh=>⟨by rw[bM];omega,rfl⟩;have:=axS.1 (hg h);rw[this]
theorem Py:OK qy.e:=by refine PA.ok mixed (ax [] trivial) QG (by kernel_rfl) (show∀s,qy.goal (Pz s) (s,())from ?_);intro l hin hp;dsimp only[qy]at hp ⊢;intro g hg;have hp:l.length<=1000:=hp;refine af (λh=>?_) λh=>⟨by rw[bM];omega,rfl⟩;have:=axS.1 (hg h);rw[this]
theorem yu:OK nM.e:=by refine PA.ok mixed (ax [qy.e] ⟨Py,trivial⟩) agD (by kernel_rfl) (show∀f0 f1 f2 f3 f4,nM.goal (aeN f0 f1 f2 f3 f4) ((f0,f1,f2,f3,f4,()),())from ?_);intro f0 f1 f2 f3 f4 hin hp;dsimp only[nM]at hp ⊢;exact⟨hp,rfl⟩
theorem Hl:OK vK.e:=by refine PA.ok mixed (ax [mG.e] ⟨sS,trivial⟩) H0 (by kernel_rfl) (show∀n,vK.goal (aiV n) (n,())from ?_);intro n hin hp;dsimp only[vK]at hp ⊢;exact⟨trivial,rfl⟩
theorem En:OK qx.e:=by
 refine PA.ok mixed (ax [] trivial) agE (by kernel_rfl) (show∀s0 s1 s2 id,qx.goal (aeO s0 s1 s2 id) ((s0,s1,s2,()),id,())from ?_);intro s0 s1 s2 id hin hp;dsimp only[qx]at hp ⊢;have hlen:s1.length<=maxLen:=hin.1.2.1.1;rw[maxLen_eq]at hlen;refine je s1.length hlen (λn=>∀i,i<n->(Sp.fileAt s1 i).1≠id) (λi hi=>by omega) (λI μ n hn hJ next=>?_) λI μ hJ=>?_
 .dsimp only;refine bU (by omega) ⟨⟨by omega,by omega⟩,af (λh=>?_) λh=>⟨rfl,next λi hi=>?_⟩⟩
  .have h:(Sp.fileAt s1 n).1=id:=gI h;exact congrArg (·,()) (Sp.MV hn hJ h).symm
  .rcases aw8 i n with h'|h'
   .exact hJ i h'
   .have:i=n:=by omega
    subst this;have h:¬(Sp.fileAt s1 i).1=id:=gY h;exact h
 .dsimp only;exact bV (by omega) (congrArg (·,()) (Xd hJ).symm)
theorem agF{s:List aF}{u:Int}{n:Nat}(hn:n<s.length):JH (s.take (n+1)) u=JH (s.take n) u++(if(Sp.fileAt s n).2.1=u then[((Sp.fileAt s n).1,())]else[]):=by
 unfold JH;rw[Sp.take_succ' s n (0,0,false,0,[],()) hn,aya,axz];congr 1;show List.map _ (List.filter _ [Sp.fileAt s n])=_;by_cases h:(Sp.fileAt s n).2.1=u
 .rw[axO (by simpa using h),if_pos h];rfl
 .rw[axW (by simpa using h),if_neg h];rfl
theorem aqr(s:List aF)(u:Int):(JH s u).length<=s.length:=by unfold JH;rw[aw4];exact axh ..
theorem Ny{s:List aF}(p:aF->Bool){n:Nat}(hn:n<s.length):(s.take (n+1)).filter p=(s.take n).filter p++(if p (Sp.fileAt s n)=true then[Sp.fileAt s n]else[]):=by
 rw[Sp.take_succ' s n (0,0,false,0,[],()) hn,aya];congr 1;show List.filter _ [Sp.fileAt s n]=_;by_cases h:p (Sp.fileAt s n)=true
 .rw[axO h,if_pos h];rfl
 .rw[axW h,if_neg h];rfl
theorem Tj(s:List aF)(p:aF->Bool)(n:Nat):((s.take n).filter p).length<=n:=by have:=axh p (s.take n);rw[awT]at this;omega
def jH(fs:List aF)(n:Nat):List aF:=(fs.take n).map (Sp.unlink fs)++fs.drop n
theorem Gh(fs:List aF){n:Nat}(hn:n<=fs.length):(jH fs n).length=fs.length:=by unfold jH;rw[awW,aw4,awT,axt];omega
theorem amq(fs:List aF)(n:Nat):(jH fs n).map (·.1)=fs.map (·.1):=by unfold jH;rw[axz,ayn];have:((·.1) ∘ Sp.unlink fs:aF->Int)=(·.1):=rfl;rw[this,← axz,ayh]
theorem Ul(fs:List aF){n:Nat}(hn:n<fs.length):(jH fs n).getD n (0,0,false,0,[],())=Sp.fileAt fs n:=by unfold jH Sp.fileAt;rw[awR,axl (by simp;omega),aw4,awT,ayt (by omega),ayY,axs,ayd,← awR]
theorem YI(fs:List aF){n:Nat}(hn:n<fs.length):jH fs (n+1)=(jH fs n).set n (Sp.unlink fs (Sp.fileAt fs n)):=by unfold jH;rw[drop_cons fs n (0,0,false,0,[],()) hn,Sp.take_succ' fs n (0,0,false,0,[],()) hn,axz,List.set_append_right _ _ (by simp;omega),aw4,awT,ayt (by omega),ayY,List.set_cons_zero,axA];rfl
theorem set_self{fs:List aF}{n:Nat}(hn:n<fs.length):fs.set n (fs.getD n (0,0,false,0,[],()))=fs:=by
 refine ay3 (by simp) λi h1 h2=>?_;rw[List.getElem_set];split
 .next e=>subst e;rw[awR,awV hn];rfl
 .rfl
theorem Jk(fs:List aF){n:Nat}(hn:n<fs.length):
 (Sp.place (jH fs n) (Sp.fileAt fs n).2.2.2.1<0->jH fs (n+1)=(jH fs n).set n ((Sp.fileAt fs n).1,(Sp.fileAt fs n).2.1,(Sp.fileAt fs n).2.2.1,0,(Sp.fileAt fs n).2.2.2.2.1,()))/\
 (¬Sp.place (jH fs n) (Sp.fileAt fs n).2.2.2.1<0->jH fs (n+1)=jH fs n):=by
 rw[aqs _ (amq fs n)];refine⟨λh=>?_,λh=>?_⟩
 .rw[YI fs hn];unfold Sp.unlink;rw[aw0 h];rfl
 .rw[YI fs hn];have e:Sp.unlink fs (Sp.fileAt fs n)=(jH fs n).getD n (0,0,false,0,[],()):=by rw[Ul fs hn];unfold Sp.unlink;rw[aw1 h];rfl
  rw[e];exact set_self (by rw[Gh fs (by omega)];exact hn)
theorem aaG(fs:List aF):jH fs fs.length=fs.map (Sp.unlink fs):=by unfold jH;rw[aw9,azT,axK]
theorem Eo{s:List aS}(p:aS->Bool){n:Nat}(hn:n<s.length):(s.take (n+1)).filter p=(s.take n).filter p++(if p (cu s n)=true then[cu s n]else[]):=by
 rw[Sp.take_succ' s n ([],0,0,[],()) hn,aya];congr 1;show List.filter _ [cu s n]=_;by_cases h:p (cu s n)=true
 .rw[axO h,if_pos h];rfl
 .rw[axW h,if_neg h];rfl
theorem Tm(s:List aS)(p:aS->Bool)(n:Nat):((s.take n).filter p).length<=n:=by have:=axh p (s.take n);rw[awT]at this;omega
theorem aaH(al:List aS)(name:Sp.Bytes)(n:Int)(s:Sp.Bytes):dU al name 0 n s=al.filter (fV name):=rfl
theorem agG{al:List aS}{name:Sp.Bytes}{k n:Int}{s:Sp.Bytes}(hk:k≠0){l:List aS}(hl:l=al.filter (fV name)){m:Nat}(hm:m<=l.length)
 (h1:∀i,i<m->gJ name (cu l i)=true) (h2:m<l.length->gJ name (cu l m)=false):
 List.drop 0 (List.take m l)++[(name,k,n,s,())]++List.drop m (List.take l.length l)=dU al name k n s:=by
 obtain⟨e1,e2⟩:=QI (d:=(([]:List UInt8),(0:Int),(0:Int),([]:List UInt8),())) l m hm h1 h2;unfold dU xH;rw[aw1 hk,← hl];show _=l.takeWhile (gJ name)++_::l.dropWhile (gJ name);rw[e1,e2,aw9,ax3,axA];rfl
theorem Tn:OK Cj.e:=by
 refine XA.ok mixed (ax [] trivial) aiW (λ⟨(i,o,s,l,a,_),name,(k,n,w,_),_⟩ _=>⟨(((i,o,s,l,dU a name k n w,()),()),()),⟨rfl,rfl,rfl,rfl,rfl⟩⟩) (by kernel_rfl) (show∀f0 f1 f2 f3 f4 name v0 v1 v2,Cj.goal (agH f0 f1 f2 f3 f4 name v0 v1 v2) ((f0,f1,f2,f3,f4,()),name,(v0,v1,v2,()),())from ?_);intro f0 f1 f2 f3 f4 name k n s hin hp;dsimp only[Cj]at hp ⊢;have hp:f4.length<=1000:=hp;refine bZ (λi(x:List aS)=>(((),i,()),x,())) (λy=>y.1.2.1) (λ_ _=>rfl) f4.length (by omega) (λm l=>l=(f4.take m).filter (fV name)) (by simp) (λI μ m l hm hJ next=>?_) λI μ l hJ=>?_
 .subst hJ;have hl:=Tm f4 (fV name) m;dsimp only;refine bU (by omega) ⟨⟨by omega,by omega⟩,af (λh=>⟨⟨by omega,by omega⟩,by rw[bM];simp only[awU,awY];omega,rfl,next _ ?_⟩) λh=>⟨rfl,next _ ?_⟩⟩
  .rw[Eo _ hm,if_pos (show fV name (cu f4 m)=true from h)];rfl
  .rw[Eo _ hm,if_neg (show ¬fV name (cu f4 m)=true fromλh'=>by have h:fV name (cu f4 m)=false:=h;rw[h]at h';cases h'),axK]
 .rw[aw9]at hJ;have hl:l.length<=1000:=by rw[hJ];have:=axh (fV name) f4;omega
  dsimp only;refine bV (by omega) (af (λh=>?_) λh=>?_)
  .have hk:k≠0:=by simpa using h
   have fin:∀m:Nat,m<=l.length->(∀i,i<m->gJ name (cu l i)=true)->(m<l.length->gJ name (cu l m)=false)->
    ((0:Int)<=m/\(m:Int)<=l.length)/\0+(List.drop 0 (List.take m l)).length<=big/\(List.drop 0 (List.take m l)).length+[(name,k,n,s,())].length<=big/\((0:Int)<=m/\(m:Int)<=l.length)/\
    (List.drop 0 (List.take m l)++[(name,k,n,s,())]).length+(List.drop m (List.take l.length l)).length<=big/\
    (f0=f0/\f1=f1/\f2=f2/\f3=f3/\List.drop 0 (List.take m l)++[(name,k,n,s,())]++List.drop m (List.take l.length l)=dU f4 name k n s):=by
    intro m hm h1 h2;refine⟨⟨by omega,by omega⟩,?_,?_,⟨by omega,by omega⟩,?_,rfl,rfl,rfl,rfl,agG hk hJ hm h1 h2⟩
    all_goals
     rw[bM];simp only[awW,axt,awT,awU,awY];omega
   refine je l.length (by omega) (λm=>∀i,i<m->gJ name (cu l i)=true) (λi hi=>by omega) (λI μ m hm hJ2 next=>?_) λI μ hJ2=>?_
   .dsimp only;refine bU (by omega) ⟨⟨by omega,by omega⟩,hm,af (λh2=>⟨rfl,next (eY (f:=λi=>gJ name (cu l i)) hJ2 h2)⟩) λh2=>?_⟩;exact fin m (by omega) hJ2 λ_=>h2
   .dsimp only;exact bV (by omega) (fin l.length (aw7 _) hJ2 λh'=>by omega)
  .have hk:k=0:=by simpa using h
   subst hk;exact⟨rfl,rfl,rfl,rfl,by rw[aaH];exact hJ⟩
theorem aeP:OK FI.e:=by refine XA.ok mixed (ax [] trivial) agI (λ⟨s,_⟩ _=>⟨(((s,[],1,()),()),()),⟨rfl,rfl,rfl⟩⟩) (by kernel_rfl) (show∀s,FI.goal (aeQ s) (s,())from ?_);intro s hin hp;dsimp only[FI]at hp ⊢;have hp:s.length<=1000:=hp;exact⟨by rw[bM];omega,rfl,rfl,rfl⟩
theorem AB:OK pq.e:=by
 refine XA.ok mixed (ax [mW.e] ⟨vG,trivial⟩) aiX (λ⟨(a,l,nx,_),_⟩ _=>⟨(((a,l,nx,()),()),()),rfl⟩) (by kernel_rfl) (show∀s0 s1 s2,pq.goal (agJ s0 s1 s2) ((s0,s1,s2,()),())from ?_);intro s0 s1 s2 hin hp;dsimp only[pq]at hp ⊢;obtain⟨h0,h1,h2⟩:s0.length<=1000/\s1.length<=1000/\∀f∈s1,bY f:=hp;refine⟨by rw[bM];omega,?_⟩;refine bZ (λi(x:List aF)=>((i,()),((),(),s2,()),x,())) (λy=>y.1.1) (λ_ _=>rfl) s1.length (by omega) (λn l=>l=s1.take n) (by simp) (λI μ n l hn hJ next=>?_) λI μ l hJ=>?_
 .subst hJ;have hl:(s1.take n).length<=n:=by rw[awT];omega
  dsimp only;refine bU (by omega) ⟨⟨by omega,by omega⟩,h2 _ (getD_mem (d:=((0:Int),(0:Int),false,(0:Int),[],())) hn),by rw[bM];simp only[awU,awY];omega,rfl,next _ ?_⟩;exact(Sp.take_succ' s1 n (0,0,false,0,[],()) hn).symm
 .subst hJ;dsimp only;refine bV (by omega) ?_;rw[aw9]
theorem NZ:OK vT.e:=by
 refine XA.ok mixed (ax [o9.e,jB.e,mW.e,pq.e] ⟨Fz,ni,vG,AB,trivial⟩) acJ (λ⟨s,f,_⟩ _=>⟨((((dD s f).1.1,(dD s f).1.2.1,(dD s f).1.2.2.1,()),(dD s f).2.1,(dD s f).2.2,()),()),⟨rfl,rfl,rfl,rfl,rfl⟩⟩) (by kernel_rfl) (show∀s0 s1 s2 f0 f1 f2 f3 f4,vT.goal (aaI s0 s1 s2 f0 f1 f2 f3 f4) ((s0,s1,s2,()),(f0,f1,f2,f3,f4,()),())from ?_);intro s0 s1 s2 f0 f1 f2 f3 f4 hin hp;dsimp only[vT]at hp ⊢;refine⟨hp.1,?_⟩;rintro⟨⟨⟨a,l,nx,⟨⟩⟩,⟨⟩⟩,⟨⟩⟩ e;obtain⟨rfl,rfl,rfl⟩:a=s0/\l=s1/\nx=s2:=by simpa using e
 have hs:l.length<=1000:=hp.1.2.1;have no:¬(aC (a,l,nx,())=true/\l.length<12/\bT a (nx,f1,f2,f3,f4,())=true)->dD (a,l,nx,()) (f0,f1,f2,f3,f4,())=((a,l,nx,()),0,false):=λh=>by
  rcases o5 (a,l,nx,()) (f0,f1,f2,f3,f4,())with⟨e,_⟩|⟨h1,h2,h3,_⟩
  .exact e
  .exact(h ⟨h1,h2,h3⟩).elim
 refine⟨hp.2,trivial,af (λh1=>?_) λh1=>af (λh2=>?_) λh2=>⟨trivial,af (λh3=>?_) λh3=>?_⟩⟩
 .have:=no λh=>by have h1:=dY h1;have:=h.1;rw[show aC (a,l,nx,())=false from h1]at this;cases this
  dsimp only;rw[this];exact⟨rfl,rfl,rfl,rfl,rfl⟩
 .have:=no λh=>by have h2:(l.length:Int)>=12:=gI h2;omega
  dsimp only;rw[this];exact⟨rfl,rfl,rfl,rfl,rfl⟩
 .have:=no λh=>by have h3:=dY h3;have:=h.2.2;rw[show bT a (nx,f1,f2,f3,f4,())=false from h3]at this;cases this
  dsimp only;rw[this];exact⟨rfl,rfl,rfl,rfl,rfl⟩
 .have g1:aC (a,l,nx,())=true:=dw h1;have g2:l.length<12:=by have h2:¬(l.length:Int)>=12:=gY h2;omega
  have g3:bT a (nx,f1,f2,f3,f4,())=true:=dw h3;rcases o5 (a,l,nx,()) (f0,f1,f2,f3,f4,())with⟨_,e⟩|⟨_,_,_,e⟩
  .exact(e ⟨g1,g2,g3⟩).elim
  .have hnx:=(jU.1 g1).2.2.2;have w:IntKind.i64.wrap (nx+1)=nx+1:=fQ _ (by have h5:nx<=61:=hnx.2;have h6:1<=nx:=hnx.1;omega);refine⟨by rw[bM];simp only[awU,awY];omega,?_⟩;dsimp only;rw[e,w];exact⟨rfl,rfl,rfl,rfl,rfl⟩
theorem aaJ:OK BF.e:=by
 refine XA.ok mixed (ax [jB.e,qx.e,pq.e] ⟨ni,En,AB,trivial⟩) acK (λ⟨s,id,_⟩ _=>⟨((((fM s id).1.1,(fM s id).1.2.1,(fM s id).1.2.2.1,()),(fM s id).2,()),()),⟨rfl,rfl,rfl,rfl⟩⟩) (by kernel_rfl) (show∀s0 s1 s2 id,BF.goal (aaK s0 s1 s2 id) ((s0,s1,s2,()),id,())from ?_);intro s0 s1 s2 id hin hp;dsimp only[BF]at hp ⊢;refine⟨hp,?_⟩;rintro⟨⟨⟨a,l,nx,⟨⟩⟩,⟨⟩⟩,⟨⟩⟩ e;obtain⟨rfl,rfl,rfl⟩:a=s0/\l=s1/\nx=s2:=by simpa using e
 have hs:l.length<=1000:=hp.2.1;have no:¬(aC (a,l,nx,())=true/\0<=Sp.place l id)->fM (a,l,nx,()) id=((a,l,nx,()),false):=λh=>by
  rcases yw (a,l,nx,()) id with⟨e,_⟩|⟨n,hn,h1,h2,_⟩
  .exact e
  .exact(h ⟨h2,by have h1:Sp.place l id=n:=h1;omega⟩).elim
 refine⟨trivial,trivial,af (λh1=>?_) λh1=>af (λh2=>?_) λh2=>?_⟩
 .have:=no λh=>by have h1:=dY h1;have:=h.1;rw[show aC (a,l,nx,())=false from h1]at this;cases this
  dsimp only;rw[this];exact⟨rfl,rfl,rfl,rfl⟩
 .have:=no λh=>by have h2:Sp.place l id<0:=gI h2;omega
  dsimp only;rw[this];exact⟨rfl,rfl,rfl,rfl⟩
 .have g1:aC (a,l,nx,())=true:=dw h1;have g2:0<=Sp.place l id:=by have h2:¬Sp.place l id<0:=gY h2;omega
  rcases yw (a,l,nx,()) id with⟨_,e⟩|⟨n,hn,hpl,_,e⟩
  .exact(e ⟨g1,g2⟩).elim
  .have hn:n<l.length:=hn;have hpl:Sp.place l id=n:=hpl;have w:IntKind.i64.wrap ((n:Int)+1)=((n+1:Nat):Int):=fQ _ (by omega);dsimp only;rw[hpl,e,w,awX,awX,ax3,aw9,bM];refine⟨⟨by omega,by omega⟩,by rw[awT];omega,⟨by omega,by omega⟩,by rw[awT,axt];omega,rfl,?_,rfl,rfl⟩;exact(List.eraseIdx_eq_take_drop_succ ..).symm
def acp(L:List (List aS))(name:Sp.Bytes)(vals:List (Int×Int×Sp.Bytes)):List (List aS):=L++L.flatMap λa=>vals.map λv=>dU a name v.1 v.2.1 v.2.2
theorem xq{L:List (List aS)}{name:Sp.Bytes}{vals:List (Int×Int×Sp.Bytes)}{a:List aS}(h:a∈L):a∈acp L name vals:=axM _ h
theorem Tq{L:List (List aS)}{name:Sp.Bytes}{vals:List (Int×Int×Sp.Bytes)}{a:List aS}(h:a∈L){k n:Int}{s:Sp.Bytes}(hv:(k,n,s)∈vals):dU a name k n s∈acp L name vals:=
 ax5 _ (List.mem_flatMap.2 ⟨a,h,axX.2 ⟨(k,n,s),hv,rfl⟩⟩)
def ints:List (Int×Int×Sp.Bytes):=[(1,0,[]),(1,1,[]),(1,2,[]),(1,3,[])]
def names:List (Int×Int×Sp.Bytes):=[(2,0,[105,110,107]),(2,0,[115,101,97])]
def tags:List (Int×Int×Sp.Bytes):=[(2,0,[114,101,100]),(2,0,[98,108,117,101])]
def agK:List (List aS):=acp [[]] [97] ints
def agL:List (List aS):=acp agK [98] ints
def agM:List (List aS):=acp agL [110] names
def agN:List (List aS):=acp agM [116] tags
theorem arC:(agN.all λa=>iy Sp.usual a&&decide (a.length<=4))=true:=by kernel_rfl
theorem Tt{a:List aS}(h:a∈agN):iy Sp.usual a=true/\a.length<=4:=by have:=axk.1 arC a h;simpa using this
theorem asR{a:List aS}(h:a∈agK):a.length<=4:=(Tt (xq (xq (xq h)))).2
theorem asT{a:List aS}(h:a∈agL):a.length<=4:=(Tt (xq (xq h))).2
theorem asU{a:List aS}(h:a∈agM):a.length<=4:=(Tt (xq h)).2
theorem amr{x:Int}(h0:0<=x)(h1:x<4):((1:Int),x,([]:Sp.Bytes))∈ints:=by rcases(show x=0\/x=1\/x=2\/x=3 by omega)with h|h|h|h<;>subst h<;>simp[ints]
theorem aqt{w:Sp.Bytes}(h:(w,())∈[(([105,110,107]:Sp.Bytes),()),([115,101,97],())]):((2:Int),(0:Int),w)∈names:=by simp only[axi,Prod.mk.injEq,azE,List.not_mem_nil,or_false]at h;rcases h with h|h<;>subst h<;>simp[names]
theorem arD{w:Sp.Bytes}(h:(w,())∈[(([114,101,100]:Sp.Bytes),()),([98,108,117,101],())]):((2:Int),(0:Int),w)∈tags:=by simp only[axi,Prod.mk.injEq,azE,List.not_mem_nil,or_false]at h;rcases h with h|h<;>subst h<;>simp[tags]
def Head(id:Int)(f:Int×Int×Bool×Int×Unit×Unit):Prop:=f.1=id/\0<=f.2.1/\f.2.1<=2/\0<=f.2.2.2.1/\f.2.2.2.1<=6
theorem KX:OK xw.e:=by
 refine XA.ok mixed (ax [lY.e,jq.e,Cj.e,uO.e,mP.e,dL.e] ⟨yV,kQ,Tn,Jw,AA,eH,trivial⟩) aiY (λ⟨_,id,_⟩ _=>⟨(((id,0,false,0,[],()),()),(([],0,0,()),())),⟨by dsimp only;decide,rfl,by dsimp only;decide,by dsimp only;decide,by dsimp only;decide,by dsimp only;decide,rfl,by dsimp only;decide⟩⟩) (by kernel_rfl) (show∀c0 c1 c2 id,xw.goal (agO c0 c1 c2 id) ((c0,c1,c2,()),id,())from ?_);intro b i h id hin hp;dsimp only[xw]at hp ⊢;have hp:0<=i:=hp;refine⟨hp,?_⟩;rintro⟨⟨x0,⟨⟩⟩,⟨b0,i0,g0,⟨⟩⟩,⟨⟩⟩ ⟨p0,q0,q1,_⟩;refine⟨p0,?_⟩;rintro⟨⟨x1,⟨⟩⟩,⟨b1,i1,g1,⟨⟩⟩,⟨⟩⟩ p1;have q1:x0<3:=q1 (by decide);have q0:0<=x0:=q0;refine⟨λy=>0<=y.2.1.2.1/\Head id y.2.2.1,⟨p1,?_⟩,?_⟩
 .rintro⟨⟨x3,⟨⟩⟩,⟨b3,i3,g3,⟨⟩⟩,⟨⟩⟩ p3;refine af (λ_=>⟨p3,?_⟩) λ_=>⟨rfl,p3,rfl,q0,(show x0<=2 by omega),axv _,(show(0:Int)<=6 by decide)⟩;rintro⟨⟨x4,⟨⟩⟩,⟨b4,i4,g4,⟨⟩⟩,⟨⟩⟩ ⟨p4,q4,q5,_⟩;have q5:x4<7:=q5 (by decide);exact⟨rfl,p4,rfl,q0,(show x0<=2 by omega),q4,(show x4<=6 by omega)⟩
 rintro⟨⟨⟩,⟨b5,i5,g5,⟨⟩⟩,f5,⟨⟩⟩ ⟨p5,H5⟩;refine⟨λy=>0<=y.2.1.2.1/\Head id y.2.2.1/\y.2.2.2.1∈agK,⟨p5,?_⟩,?_⟩
 .rintro⟨⟨x7,⟨⟩⟩,⟨b7,i7,g7,⟨⟩⟩,⟨⟩⟩ p7;refine af (λ_=>⟨p7,?_⟩) λ_=>⟨rfl,p7,H5,xq aw5⟩;rintro⟨⟨x8,⟨⟩⟩,⟨b8,i8,g8,⟨⟩⟩,⟨⟩⟩ ⟨p8,q8,q9,_⟩;refine⟨trivial,(show(0:Nat)<=1000 by decide),?_⟩;rintro⟨⟨⟨d,o,s,l,a,⟨⟩⟩,⟨⟩⟩,⟨⟩⟩ ⟨e1,e2,e3,e4,e5⟩;refine⟨rfl,p8,?_,?_⟩
  .exact⟨(show d=id from(show d=f5.1 from e1).trans H5.1),by rw[show o=f5.2.1 from e2];exact H5.2.1,by rw[show o=f5.2.1 from e2];exact H5.2.2.1,by rw[show l=f5.2.2.2.1 from e4];exact H5.2.2.2.1,by rw[show l=f5.2.2.2.1 from e4];exact H5.2.2.2.2⟩
  .have e5:a=dU [] [97] 1 x8 []:=e5;show a∈agK;rw[e5];exact Tq aw5 (amr q8 (q9 (by decide)))
 rintro⟨⟨⟩,⟨b11,i11,g11,⟨⟩⟩,f11,a11,⟨⟩⟩ ⟨p11,H11,m11⟩;refine⟨λy=>0<=y.2.1.2.1/\Head id y.2.2.1/\y.2.2.2.1∈agL,⟨p11,?_⟩,?_⟩
 .rintro⟨⟨x7,⟨⟩⟩,⟨b7,i7,g7,⟨⟩⟩,⟨⟩⟩ p7;refine af (λ_=>⟨p7,?_⟩) λ_=>⟨rfl,p7,H11,xq m11⟩;rintro⟨⟨x8,⟨⟩⟩,⟨b8,i8,g8,⟨⟩⟩,⟨⟩⟩ ⟨p8,q8,q9,_⟩;refine⟨trivial,aw2 (asR m11) (by decide),?_⟩;rintro⟨⟨⟨d,o,s,l,a,⟨⟩⟩,⟨⟩⟩,⟨⟩⟩ ⟨e1,e2,e3,e4,e5⟩;refine⟨rfl,p8,?_,?_⟩
  .exact⟨(show d=id from(show d=f11.1 from e1).trans H11.1),by rw[show o=f11.2.1 from e2];exact H11.2.1,by rw[show o=f11.2.1 from e2];exact H11.2.2.1,by rw[show l=f11.2.2.2.1 from e4];exact H11.2.2.2.1,by rw[show l=f11.2.2.2.1 from e4];exact H11.2.2.2.2⟩
  .have e5:a=dU a11 [98] 1 x8 []:=e5;show a∈agL;rw[e5];exact Tq m11 (amr q8 (q9 (by decide)))
 rintro⟨⟨⟩,⟨b17,i17,g17,⟨⟩⟩,f17,a17,⟨⟩⟩ ⟨p17,H17,m17⟩;refine⟨λy=>0<=y.2.1.2.1/\Head id y.2.2.1/\y.2.2.2.1∈agM,⟨p17,?_⟩,?_⟩
 .rintro⟨⟨x7,⟨⟩⟩,⟨b7,i7,g7,⟨⟩⟩,⟨⟩⟩ p7;refine af (λ_=>⟨⟨p7,by simp⟩,?_⟩) λ_=>⟨rfl,p7,H17,xq m17⟩;rintro⟨⟨x8,⟨⟩⟩,⟨b8,i8,g8,⟨⟩⟩,⟨⟩⟩ ⟨p8,q8⟩;refine⟨trivial,aw2 (asT m17) (by decide),?_⟩;rintro⟨⟨⟨d,o,s,l,a,⟨⟩⟩,⟨⟩⟩,⟨⟩⟩ ⟨e1,e2,e3,e4,e5⟩;refine⟨rfl,p8,?_,?_⟩
  .exact⟨(show d=id from(show d=f17.1 from e1).trans H17.1),by rw[show o=f17.2.1 from e2];exact H17.2.1,by rw[show o=f17.2.1 from e2];exact H17.2.2.1,by rw[show l=f17.2.2.2.1 from e4];exact H17.2.2.2.1,by rw[show l=f17.2.2.2.1 from e4];exact H17.2.2.2.2⟩
  .have e5:a=dU a17 [110] 2 0 x8:=e5;show a∈agM;rw[e5];exact Tq m17 (aqt q8)
 rintro⟨⟨⟩,⟨b23,i23,g23,⟨⟩⟩,f23,a23,⟨⟩⟩ ⟨p23,H23,m23⟩;refine⟨λy=>0<=y.2.1.2.1/\Head id y.2.2.1/\y.2.2.2.1∈agN,⟨p23,?_⟩,?_⟩
 .rintro⟨⟨x7,⟨⟩⟩,⟨b7,i7,g7,⟨⟩⟩,⟨⟩⟩ p7;refine af (λ_=>⟨⟨p7,by simp⟩,?_⟩) λ_=>⟨rfl,p7,H23,xq m23⟩;rintro⟨⟨x8,⟨⟩⟩,⟨b8,i8,g8,⟨⟩⟩,⟨⟩⟩ ⟨p8,q8⟩;refine⟨trivial,aw2 (asU m23) (by decide),?_⟩;rintro⟨⟨⟨d,o,s,l,a,⟨⟩⟩,⟨⟩⟩,⟨⟩⟩ ⟨e1,e2,e3,e4,e5⟩;refine⟨rfl,p8,?_,?_⟩
  .exact⟨(show d=id from(show d=f23.1 from e1).trans H23.1),by rw[show o=f23.2.1 from e2];exact H23.2.1,by rw[show o=f23.2.1 from e2];exact H23.2.2.1,by rw[show l=f23.2.2.2.1 from e4];exact H23.2.2.2.1,by rw[show l=f23.2.2.2.1 from e4];exact H23.2.2.2.2⟩
  .have e5:a=dU a23 [116] 2 0 x8:=e5;show a∈agN;rw[e5];exact Tq m23 (arD q8)
 rintro⟨⟨⟩,⟨b29,i29,g29,⟨⟩⟩,f29,a29,⟨⟩⟩ ⟨p29,H29,m29⟩;have hm:=Tt m29;exact⟨p29,H29.1,H29.2.1,H29.2.2.1,H29.2.2.2.1,H29.2.2.2.2,hm.1,hm.2⟩
theorem adS(al:List aS)(name:Sp.Bytes)(k n:Int)(s:Sp.Bytes):(dU al name k n s).length<=al.length+1:=by
 have hf:=axh (fV name) al;unfold dU;cases decide (k=0)with
 |true=>show(al.filter _).length<=_;omega
 |false=>show(xH _ _).length<=_;unfold xH;have:=congrArg List.length (aye (p:=gJ name) (l:=al.filter (fV name)));rw[awW]at this;rw[awW,awU];show((al.filter (fV name)).takeWhile (gJ name)).length+(((al.filter (fV name)).dropWhile (gJ name)).length+1)<=_;omega
theorem aiZ:OK I5.e:=by
 refine XA.ok mixed (ax [Cj.e,lY.e,ED.e,Ce.e,kE.e,xw.e,dL.e] ⟨Tn,yV,Vw,Tf,pY,KX,eH,trivial⟩) akS (λ_ _=>⟨(((0,0,false,0,[],()),()),(([],0,0,()),())),⟨by decide,by decide⟩⟩) (by kernel_rfl) (show∀c0 c1 c2,I5.goal (ai0 c0 c1 c2) ((c0,c1,c2,()),())from ?_);intro b i h hin hp;dsimp only[I5]at hp ⊢;have hp:0<=i:=hp;refine⟨hp,?_⟩;rintro⟨⟨x0,⟨⟩⟩,⟨b0,i0,g0,⟨⟩⟩,⟨⟩⟩ ⟨p0,_⟩;refine⟨p0,?_⟩;rintro⟨⟨⟨d,o,s,l,a,⟨⟩⟩,⟨⟩⟩,⟨b1,i1,g1,⟨⟩⟩,⟨⟩⟩ ⟨p1,_,_,_,_,_,_,ha⟩;have ha:a.length<=4:=ha;refine⟨p1,?_⟩;rintro⟨⟨x2,⟨⟩⟩,⟨b2,i2,g2,⟨⟩⟩,⟨⟩⟩ ⟨p2,_⟩;refine af (λ_=>⟨⟨p2,by simp⟩,?_⟩) λ_=>af (λ_=>⟨⟨p2,by simp⟩,?_⟩) λ_=>af (λ_=>⟨⟨p2,by simp⟩,?_⟩) λ_=>af (λ_=>⟨p2,?_⟩) λ_=>af (λ_=>⟨trivial,(show a.length<=1000 by omega),?_⟩) λ_=>⟨p2,(show a.length<=10 by omega)⟩
 .rintro⟨⟨x3,⟨⟩⟩,⟨b3,i3,g3,⟨⟩⟩,⟨⟩⟩ ⟨p3,_⟩;exact⟨p3,(show a.length<=10 by omega)⟩
 .rintro⟨⟨x3,⟨⟩⟩,⟨b3,i3,g3,⟨⟩⟩,⟨⟩⟩ ⟨p3,_⟩;exact⟨p3,(show a.length<=10 by omega)⟩
 .rintro⟨⟨x3,⟨⟩⟩,⟨b3,i3,g3,⟨⟩⟩,⟨⟩⟩ ⟨p3,_⟩;exact⟨p3,(show a.length<=10 by omega)⟩
 .rintro⟨⟨x3,⟨⟩⟩,⟨b3,i3,g3,⟨⟩⟩,⟨⟩⟩ ⟨p3,_⟩;refine⟨p3,?_⟩;rintro⟨⟨⟨k,n,w,⟨⟩⟩,⟨⟩⟩,⟨b4,i4,g4,⟨⟩⟩,⟨⟩⟩ ⟨p4,_⟩;refine⟨(show a.length+1<=big by rw[bM];omega),p4,?_⟩;show(a++[_]).length<=10;rw[awW,awU,awY];omega
 .rintro⟨⟨⟨d',o',s',l',a',⟨⟩⟩,⟨⟩⟩,⟨⟩⟩ ⟨_,_,_,_,e5⟩;refine⟨p2,?_⟩;have e5:a'=dU a [97] 2 0 [114,101,100]:=e5;show a'.length<=10;rw[e5];have:=adS a [97] 2 0 [114,101,100];omega
theorem arE:fO Sp.usual=true:=by kernel_rfl
theorem arF:aC (Sp.usual,[],1,())=true:=by kernel_rfl
theorem anq:bn (Sp.usual,[],1,()):=⟨by decide,by decide,λf hf=>by cases hf⟩
theorem QJ{a:List fD}{l:List aF}{nx:Int}{X:bP}(h1:a=X.1)(h2:l=X.2.1)(h3:nx=X.2.2.1):((a,l,nx,()):bP)=X:=by subst h1 h2 h3;rfl
theorem ams(s:bP)(f:aF):(dD s f).1.1=s.1/\((dD s f).1.2.1.length:Int)-(dD s f).1.2.2.1=s.2.1.length-s.2.2.1:=by
 rcases o5 s f with⟨e,_⟩|⟨_,_,_,e⟩
 .rw[e];exact⟨rfl,rfl⟩
 .rw[e];refine⟨rfl,?_⟩;show((s.2.1++[(s.2.2.1,f.2)]).length:Int)-(s.2.2.1+1)=_;rw[awW,awU,awY];omega
theorem aaL(s:bP)(id:Int):(fM s id).1.1=s.1/\(fM s id).1.2.2.1=s.2.2.1/\s.2.1.length<=(fM s id).1.2.1.length+1:=by
 rcases yw s id with⟨e,_⟩|⟨n,hn,_,_,e⟩
 .rw[e];exact⟨rfl,rfl,Nat.le_succ _⟩
 .rw[e];refine⟨rfl,rfl,?_⟩;show s.2.1.length<=(s.2.1.eraseIdx n).length+1;rw[azb hn];omega
structure tH(k:Int)(s:bP):Prop where
 sch:s.1=Sp.usual
 ok:aC s=true
 nx:s.2.2.1<=s.2.1.length+k
 small:bn s
theorem tH.create{k:Int}{s:bP}(h:tH k s){f:aF}(hf:bY f):tH k (dD s f).1:=by obtain⟨h1,h2⟩:=ams s f;exact⟨h1.trans h.sch,ai1 f h.ok,by have:=h.nx;omega,akT h.small hf⟩
theorem tH.delete{k:Int}{s:bP}(h:tH k s)(id:Int):tH (k+1) (fM s id).1:=by obtain⟨h1,h2,h3⟩:=aaL s id;exact⟨h1.trans h.sch,ai2 id h.ok,by have:=h.nx;omega,akU id h.small⟩
theorem tH.more{k k':Int}{s:bP}(h:tH k s)(hk:k<=k'):tH k' s:=⟨h.sch,h.ok,by have:=h.nx;omega,h.small⟩
theorem tH.grows{s:bP}(h:tH 2 s)(hl:s.2.1.length<12){f:aF}(ho:0<=f.2.1/\f.2.1<=2)(hk:0<=f.2.2.2.1/\f.2.2.2.1<=6)(ha:iy Sp.usual f.2.2.2.2.1=true):(dD s f).1.2.1.length=s.2.1.length+1:=by
 have hnx:=(jU.1 h.ok).2.2.2;have h2:=h.nx;have hf:bT s.1 (s.2.2.1,f.2)=true:=by rw[h.sch];show(iy Sp.usual f.2.2.2.2.1&&fO Sp.usual&&(decide (1<=s.2.2.1)&&decide (s.2.2.1<=60))&&(decide (0<=f.2.1)&&decide (f.2.1<=2))&&(decide (0<=f.2.2.2.1)&&decide (f.2.2.2.1<=60)))=true;rw[ha,arE,aw0 hnx.1,aw0 (by omega),aw0 ho.1,aw0 ho.2,aw0 hk.1,aw0 (by omega)];rfl
 rcases o5 s f with⟨_,e⟩|⟨_,_,_,e⟩
 .exact(e ⟨h.ok,hl,hf⟩).elim
 .rw[e];show(s.2.1++[_]).length=_;rw[awW];rfl
theorem QK:aC (Sp.usual,[(1,0,false,0,[],())],2,())=true/\bn (Sp.usual,[(1,0,false,0,[],())],2,()):=⟨by kernel_rfl,by decide,by decide,λf hf=>by rw[axH.1 hf];exact axp _⟩
theorem tH.one{s:bP}(h:tH 1 s){f:aF}(ho:0<=f.2.1/\f.2.1<=2)(hk:0<=f.2.2.2.1/\f.2.2.2.1<=6)(ha:iy Sp.usual f.2.2.2.2.1=true):0<(dD s f).1.2.1.length:=by
 by_cases hl:s.2.1.length<12
 .rw[(h.more (show(1:Int)<=2 by decide)).grows hl ho hk ha];omega
 .rcases o5 s f with⟨e,_⟩|⟨_,_,_,e⟩
  .rw[e];show 0<s.2.1.length;omega
  .rw[e];show 0<(s.2.1++[_]).length;rw[awW,List.length_singleton];omega
theorem Jy:OK uP.e:=by
 refine XA.ok mixed (ax [BF.e,mP.e,vT.e,xw.e,dL.e,FI.e,zD.e] ⟨aaJ,AA,NZ,KX,eH,aeP,QF,trivial⟩) agP (λ_ _=>⟨(((Sp.usual,[(1,0,false,0,[],())],2,()),()),(([],0,0,()),())),⟨by decide,rfl,QK.1,by decide,QK.2,by decide⟩⟩) (by kernel_rfl) (show∀c0 c1 c2,uP.goal (aeR c0 c1 c2) ((c0,c1,c2,()),())from ?_);intro b i h hin hp;dsimp only[uP]at hp ⊢;have hp:0<=i:=hp;refine⟨trivial,?_⟩;rintro⟨⟨u,⟨⟩⟩,⟨⟩⟩ hu;have hu:u=Sp.usual:=hu;subst hu;refine⟨(show Sp.usual.length<=1000 by decide),?_⟩;rintro⟨⟨⟨a,l,nx,⟨⟩⟩,⟨⟩⟩,⟨⟩⟩ ⟨e1,e2,e3⟩;have e1:a=Sp.usual:=e1;have e2:l=[]:=e2;have e3:nx=1:=e3;subst e1 e2 e3;refine⟨λy=>0<=y.2.1.2.1/\(0<=y.1.1/\y.1.1<=7)/\tH 1 (y.2.2.2.1,y.2.2.2.2.1,y.2.2.1.2.2.1,())/\(0<y.1.1->0<y.2.2.2.2.1.length),λy=>(8-y.1.1).toNat,⟨hp,⟨(show(0:Int)<=0 by decide),(show(0:Int)<=7 by decide)⟩,⟨rfl,arF,(show(1:Int)<=((0:Nat):Int)+1 by decide),anq⟩,λh=>absurd h (Int.lt_irrefl 0)⟩,?_⟩;rintro⟨⟨n,⟨⟩⟩,⟨b0,i0,g0,⟨⟩⟩,⟨⟨⟩,⟨⟩,nx,⟨⟩⟩,a,l,⟨⟩⟩ ⟨p0,⟨k0,k1⟩,D,hne⟩;have p0:0<=i0:=p0;have k0:0<=n:=k0;have k1:n<=7:=k1;have D:tH 1 (a,l,nx,()):=D;have hne:0<n->0<l.length:=hne;refine⟨p0,?_⟩;rintro⟨⟨x1,⟨⟩⟩,⟨b1,i1,g1,⟨⟩⟩,⟨⟩⟩ ⟨p1,q0,q1,_⟩;have q1:x1<7:=q1 (by decide);have q0:0<=x1:=q0;have w:IntKind.i64.wrap (1+x1)=1+x1:=fQ _ (by omega);dsimp only;rw[w];refine af (λhc=>⟨p1,?_⟩) λhc=>af (λh2=>⟨p1,?_⟩) λh2=>?_
 .have hc:=gI hc;have wn:IntKind.i64.wrap (n+1)=n+1:=fQ _ (by omega);rw[wn];rintro⟨⟨⟨d,o,s,lk,al,⟨⟩⟩,⟨⟩⟩,⟨b2,i2,g2,⟨⟩⟩,⟨⟩⟩ ⟨p2,_,o1,o2,k3,k4,hat,ha⟩;have hf:bY (d,o,s,lk,al,()):=(show al.length<=1000 from aw2 ha (by decide));refine⟨⟨D.small,hf⟩,?_⟩;rintro⟨⟨⟨a3,l3,nx3,⟨⟩⟩,id3,ok3,⟨⟩⟩,⟨⟩⟩ ⟨e1,e2,e3,_⟩;have e:((a3,l3,nx3,()):bP)=(dD (a,l,nx,()) (d,o,s,lk,al,())).1:=QJ e1 e2 e3;refine⟨rfl,⟨p2,⟨(show 0<=n+1 by omega),(show n+1<=7 by omega)⟩,?_,λ_=>?_⟩,?_⟩
  .show tH 1 (a3,l3,nx3,());rw[e];exact D.create hf
  .have:=D.one (f:=(d,o,s,lk,al,())) ⟨o1,o2⟩ ⟨k3,k4⟩ hat;rw[← e]at this;exact this
  .show(8-(n+1)).toNat<(8-n).toNat;omega
 .rintro⟨⟨x3,⟨⟩⟩,⟨b3,i3,g3,⟨⟩⟩,⟨⟩⟩ p3;have h2:(l.length:Int)>2:=gI h2;refine af (λ_=>⟨⟨by decide,(show(1:Int)<l.length by omega)⟩,(show 1<l.length by omega),D.small,?_⟩) λ_=>?_
  .rintro⟨⟨⟨a3,l3,nx3,⟨⟩⟩,ok3,⟨⟩⟩,⟨⟩⟩ ⟨e1,e2,e3,_⟩;have e:=QJ e1 e2 e3;have D':=D.delete (List.getD l (Int.toNat 1) (0,0,false,0,[],())).1;have D':tH 2 (a3,l3,nx3,()):=by have e:((a3,l3,nx3,()):bP)=(fM (a,l,nx,()) (List.getD l (Int.toNat 1) (0,0,false,0,[],())).1).1:=e;rw[e];exact D'
   refine⟨p3,D'.sch,D'.ok,D'.nx,D'.small,?_⟩;have:=(aaL (a,l,nx,()) (List.getD l (Int.toNat 1) (0,0,false,0,[],())).1).2.2;have e2:l3=(fM (a,l,nx,()) (List.getD l (Int.toNat 1) (0,0,false,0,[],())).1).1.2.1:=e2;rw[← e2]at this;have this:l.length<=l3.length+1:=this;show 0<l3.length;omega
  .have D':=D.more (show(1:Int)<=2 by decide);exact⟨p3,D'.sch,D'.ok,D'.nx,D'.small,hne (by have:=gY hc;omega)⟩
 .have D':=D.more (show(1:Int)<=2 by decide);exact⟨p1,D'.sch,D'.ok,D'.nx,D'.small,hne (by have:=gY hc;omega)⟩
theorem adT:OK J8.e:=by refine PA.ok mixed (ax [] trivial) H0 (by kernel_rfl) (show∀code,J8.goal (anr code) (code,())from ?_);intro b hin hp;dsimp only[J8]at hp ⊢;exact rfl
theorem Du:OK mV.e:=by
 refine PA.ok mixed (ax [mG.e] ⟨sS,trivial⟩) Xe (by kernel_rfl) (show∀s,mV.goal (VD s) (s,())from ?_);intro s hin hp;dsimp only[mV]at hp ⊢;have hlen:s.length<=maxLen:=hin.1;rw[maxLen_eq]at hlen;refine⟨λy=>∃n:Nat,y.1.1=n/\n<=s.length/\Sp.lower (s.take n)=true,λy=>((s.length:Int)-y.1.1).toNat,⟨0,rfl,by omega,rfl⟩,?_⟩;rintro⟨⟨_,⟨⟩⟩,⟨⟩⟩ ⟨n,rfl,hn,hJ⟩;dsimp only;refine af (λh=>?_) λh=>?_<;>simp only[axj,axT]at h
 .have hlt:n<s.length:=by omega
  rw[fQ _ (by omega),awX];refine⟨⟨by omega,by omega⟩,af (λh2=>?_) λh2=>⟨⟨by omega,by omega⟩,af (λh3=>?_) λh3=>?_⟩⟩<;>simp only[axj,axT]at*
  .unfold iV;cases hl:Sp.lower s with
   |false=>rfl
   |true=>have:=Pv hlt hl;omega
  .unfold iV;cases hl:Sp.lower s with
   |false=>rfl
   |true=>have:=Pv hlt hl;omega
  .refine⟨rfl,⟨n+1,by simp,by omega,?_⟩,by dsimp only;omega⟩;rw[Sp.take_succ' s n 0 hlt];unfold Sp.lower at hJ ⊢;rw[List.all_append,hJ];simp only[ax0,azS,ayN,aza,awP,axj];omega
 .have hge:n=s.length:=by omega
  rw[hge,aw9]at hJ;unfold iV;rw[hJ];exact⟨trivial,rfl⟩
theorem KY:OK rJ.e:=by
 refine PA.ok mixed (ax [mV.e,mG.e] ⟨Du,sS,trivial⟩) H0 (by kernel_rfl) (show∀v0 v1 v2,rJ.goal (Xf v0 v1 v2) ((v0,v1,v2,()),())from ?_);intro k n s hin hp;dsimp only[rJ]at hp ⊢;refine af (λh=>?_) λh=>af (λh2=>⟨trivial,af (λh3=>?_) λh3=>?_⟩) λh2=>af (λh3=>⟨trivial,af (λh4=>?_) λh4=>?_⟩) λh3=>?_
 .have e:k=0:=by simpa using h
  subst e;exact congrArg (·,()) (axf.2 (by simp[kH]))
 .have e:k=1:=by simpa using h2
  subst e;exact congrArg (·,()) (axf.2 (by simp only[awP,axj]at h3;simp[kH,h3]))
 .have e:k=1:=by simpa using h2
  subst e;exact congrArg (·,()) (axf.2 (by simp only[kH,h3];simp))
 .have e:k=2:=by simpa using h3
  subst e;exact congrArg (·,()) (axf.2 (by simp[kH,h4]))
 .have e:k=2:=by simpa using h3
  subst e;exact congrArg (·,()) (axf.2 (by simp[kH,h4]))
 .have e1:k≠0:=by simpa using h
  have e2:k≠1:=by simpa using h2
  have e3:k≠2:=by simpa using h3
  exact congrArg (·,()) (axf.2 (by simp[kH,e1,e2,e3]))
theorem Hy:OK oz.e:=by
 refine PA.ok mixed (ax [] trivial) H0 (by kernel_rfl) (show∀s,oz.goal (RN s) (s,())from ?_);intro s hin hp;dsimp only[oz]at hp ⊢;refine af (λh=>?_) λh=>?_
 .have h:(s.length:Int)=1:=gI h
  match s,h with
  |[c],_=>
   refine⟨⟨by decide,(by show(0:Int)<1;decide)⟩,af (λh2=>⟨⟨by decide,(by show(0:Int)<1;decide)⟩,?_⟩) λh2=>?_⟩
   .have h2:(c.toNat:Int)>=97:=gI h2;refine congrArg (·,()) (axf.2 ?_);simp only[jY,Sp.lower,ax0,azS,ayN,awP,axj,awU,awY];constructor
    .intro h3;have h3:(c.toNat:Int)<=122:=h3;exact⟨⟨⟨by omega,by omega⟩,by decide⟩,by decide⟩
    .rintro⟨⟨⟨_,h4⟩,_⟩,_⟩;show(c.toNat:Int)<=122;omega
   .have h2:¬(c.toNat:Int)>=97:=gY h2;refine congrArg (·,()) (axf.2 ?_);simp only[jY,Sp.lower,ax0,azS,ayN,awP,axj];constructor
    .intro h3;cases h3
    .rintro⟨⟨⟨h4,_⟩,_⟩,_⟩;omega
 .have h:¬(s.length:Int)=1:=gY h;refine congrArg (·,()) (axf.2 ?_);simp only[jY,awP,axj];constructor
  .intro h3;cases h3
  .rintro⟨⟨_,h4⟩,h5⟩;omega
theorem acL:OK DX.e:=by
 refine PA.ok mixed (ax [] trivial) aeS (by kernel_rfl) (show∀s name,DX.goal (acM s name) (s,name,())from ?_);intro s name hin hp;dsimp only[DX]at hp ⊢;have hlen:s.length<=maxLen:=hin.1.1;rw[maxLen_eq]at hlen;refine je s.length hlen (λn=>∀i,i<n->(s.getD i ([],0,())).1≠name) (λi hi=>by omega) (λI μ n hn hJ next=>?_) λI μ hJ=>?_
 .dsimp only;refine bU (by omega) ⟨⟨by omega,by omega⟩,af (λh=>?_) λh=>⟨rfl,next λi hi=>?_⟩⟩
  .exact congrArg (·,()) (aaC s n hn hJ (by simpa only[awX,awZ]using h)).symm
  .rcases aw8 i n with h'|h'
   .exact hJ i h'
   .have:i=n:=by omega
    subst this;have h2:((s.getD i ([],0,())).1==name)=false:=h;exactλe=>by rw[e]at h2;simp at h2
 .dsimp only;exact bV (by omega) (congrArg (·,()) (Uk s hJ).symm)
theorem aqv{k:Int}(h:(k !=1)=false\/(k !=2)=false):(decide (1<=k)&&decide (k<=2))=true:=by have:k=1\/k=2:=h.imp (by simp) (by simp);rcases this with h|h<;>subst h<;>rfl
theorem asV{k:Int}(h1:(k !=1)=true)(h2:(k !=2)=true):(decide (1<=k)&&decide (k<=2))=false:=by
 have h1:k≠1:=by simpa using h1
 have h2:k≠2:=by simpa using h2
 rw[Bool.and_eq_false_iff];by_cases h:k<1
 .left;exact aw1 (by omega)
 .right;exact aw1 (by omega)
theorem JW:OK qw.e:=by
 refine PA.ok mixed (ax [oz.e] ⟨Hy,trivial⟩) Xg (by kernel_rfl) (show∀s,qw.goal (VE s) (s,())from ?_);intro s hin hp;dsimp only[qw]at hp ⊢;have hlen:s.length<=maxLen:=hin.1.1;rw[maxLen_eq]at hlen;refine je s.length hlen (λn=>∀i,i<n->lK s i=true) (λi hi=>by omega) (λI μ n hn hJ next=>?_) λI μ hJ=>?_
 .dsimp only;have no:lK s n=false->(false,())=(fO s,()):=λh=>by rw[adR hn h]
  have rest:jY (Sp.fieldAt s n).1=true->(decide (1<=(Sp.fieldAt s n).2.1)&&decide ((Sp.fieldAt s n).2.1<=2))=true->
   bif decide ((n:Int)>0)then
    ((0:Int)<=IntKind.i64.wrap ((n:Int)-1)/\IntKind.i64.wrap ((n:Int)-1)<(s.length:Int))/\
      bif !Op.bytesLess (s.getD (IntKind.i64.wrap ((n:Int)-1)).toNat ([],0,())).fst (s.getD (Int.toNat (n:Int)) ([],0,())).fst then(false,())=(fO s,())
      else NX ((s,s,(s.length:Int),()),()) I μ ((IntKind.i64.wrap ((n:Int)+1),()),()) (((n:Int),()),())
   else NX ((s,s,(s.length:Int),()),()) I μ ((IntKind.i64.wrap ((n:Int)+1),()),()) (((n:Int),()),()):=by
   intro h2 h3;refine af (λh4=>?_) λh4=>⟨rfl,next (eY hJ ?_)⟩
   .have h4:0<n:=by have:=gI h4;omega
    rw[xG h4 (by omega)];refine⟨⟨by omega,by omega⟩,af (λh5=>no ?_) λh5=>⟨rfl,next (eY hJ ?_)⟩⟩
    .have h5:Op.bytesLess (Sp.fieldAt s (n-1)).1 (Sp.fieldAt s n).1=false:=dY h5;unfold lK;rw[h2,h3,h5,aw0 h4];rfl
    .have h5:Op.bytesLess (Sp.fieldAt s (n-1)).1 (Sp.fieldAt s n).1=true:=dw h5;unfold lK;rw[h2,h3,h5,aw0 h4];rfl
   .have h4:¬0<n:=by have:=gY h4;omega
    unfold lK;rw[h2,h3,aw1 h4];rfl
  refine bU (by omega) ⟨⟨by omega,by omega⟩,trivial,af (λh2=>no ?_) λh2=>af (λh3=>af (λh4=>no ?_) λh4=>?_) λh3=>?_⟩
  .have h2:jY (Sp.fieldAt s n).1=false:=dY h2;unfold lK;rw[h2];rfl
  .have h2:jY (Sp.fieldAt s n).1=true:=dw h2;have h3:(decide (1<=(Sp.fieldAt s n).2.1)&&decide ((Sp.fieldAt s n).2.1<=2))=false:=asV h3 h4;unfold lK;rw[h2,h3];rfl
  .have h2:jY (Sp.fieldAt s n).1=true:=dw h2;have h3:(decide (1<=(Sp.fieldAt s n).2.1)&&decide ((Sp.fieldAt s n).2.1<=2))=true:=aqv (.inr h4);exact rest h2 h3
  .have h2:jY (Sp.fieldAt s n).1=true:=dw h2;have h3:(decide (1<=(Sp.fieldAt s n).2.1)&&decide ((Sp.fieldAt s n).2.1<=2))=true:=aqv (.inl h3);exact rest h2 h3
 .dsimp only;refine bV (by omega) (congrArg (·,()) ?_);unfold fO;rw[mr hJ];rfl
theorem VF:OK wE.e:=by
 refine PA.ok mixed (ax [DX.e,rJ.e] ⟨acL,KY,trivial⟩) H0 (by kernel_rfl) (show∀s name v0 v1 v2,wE.goal (VG s name v0 v1 v2) (s,name,(v0,v1,v2,()),())from ?_);intro fs s k n w hin hp;dsimp only[wE]at hp ⊢;refine⟨trivial,af (λh=>af (λh2=>⟨trivial,?_⟩) λh2=>?_) λh=>?_⟩
 .exact congrArg (·,()) (axf.2 (by simp only[ayR,ne_eq]at h2;simp[iO,h,h2]))
 .exact congrArg (·,()) (axf.2 (by simp at h2;simp[iO,h2]))
 .exact congrArg (·,()) (axf.2 (by simp[iO,h]))
theorem MB:OK tK.e:=by
 refine PA.ok mixed (ax [qw.e,vK.e,mG.e,wE.e] ⟨JW,Hl,sS,VF,trivial⟩) aaM (by kernel_rfl) (show∀s f0 f1 f2 f3 f4,tK.goal (YS s f0 f1 f2 f3 f4) (s,(f0,f1,f2,f3,f4,()),())from ?_);intro fs f0 f1 f2 f3 f4 hin hp;dsimp only[tK]at hp ⊢;have hlen:f4.length<=maxLen:=hin.2.1.2.2.2.2.1.1;rw[maxLen_eq]at hlen;refine je f4.length hlen (λn=>∀i,i<n->kM fs f4 i=true) (λi hi=>by omega) (λI μ n hn hJ next=>?_) λI μ hJ=>?_
 .dsimp only;have no:kM fs f4 n=false->(false,())=(bT fs (f0,f1,f2,f3,f4,()),()):=λh=>by rw[aki (f:=(f0,f1,f2,f3,f4,())) hn h]
  refine bU (by omega) ⟨⟨by omega,by omega⟩,af (λh4=>?_) λh4=>⟨trivial,af (λh2=>no ?_) λh2=>⟨rfl,next (eY hJ ?_)⟩⟩⟩
  .have h4:0<n:=by have:=gI h4;omega
   rw[xG h4 (by omega)];refine⟨⟨by omega,by omega⟩,af (λh5=>no ?_) λh5=>⟨trivial,af (λh2=>no ?_) λh2=>⟨rfl,next (eY hJ ?_)⟩⟩⟩
   .have h5:Op.bytesLess (cu f4 (n-1)).1 (cu f4 n).1=false:=dY h5;unfold kM;rw[h5,aw0 h4];exact axx _
   .have h2:iO fs (cu f4 n).1 (cu f4 n).2.1 (cu f4 n).2.2.1 (cu f4 n).2.2.2.1=false:=dY h2;unfold kM;rw[h2];rfl
   .have h2:iO fs (cu f4 n).1 (cu f4 n).2.1 (cu f4 n).2.2.1 (cu f4 n).2.2.2.1=true:=dw h2;have h5:Op.bytesLess (cu f4 (n-1)).1 (cu f4 n).1=true:=dw h5;unfold kM;rw[h2,h5,aw0 h4];rfl
  .have h2:iO fs (cu f4 n).1 (cu f4 n).2.1 (cu f4 n).2.2.1 (cu f4 n).2.2.2.1=false:=dY h2;unfold kM;rw[h2];rfl
  .have h2:iO fs (cu f4 n).1 (cu f4 n).2.1 (cu f4 n).2.2.1 (cu f4 n).2.2.2.1=true:=dw h2;have h4:¬0<n:=by have:=gY h4;omega
   unfold kM;rw[h2,aw1 h4];rfl
 .dsimp only;have ha:iy fs f4=true:=mr hJ;refine bV (by omega) ⟨trivial,af (λh1=>⟨trivial,af (λh2=>⟨trivial,af (λh3=>⟨trivial,?_⟩) λh3=>?_⟩) λh2=>?_⟩) λh1=>?_⟩
  all_goals refine congrArg (·,()) ?_
  .show fO fs=(iy fs f4&&fO fs&&(decide (1<=f0)&&decide (f0<=60))&&(decide (0<=f1)&&decide (f1<=2))&&(decide (0<=f3)&&decide (f3<=60)));rw[ha,h1,h2,h3];cases fO fs<;>rfl
  .show false=(iy fs f4&&fO fs&&(decide (1<=f0)&&decide (f0<=60))&&(decide (0<=f1)&&decide (f1<=2))&&(decide (0<=f3)&&decide (f3<=60)));rw[h3,axx]
  .show false=(iy fs f4&&fO fs&&(decide (1<=f0)&&decide (f0<=60))&&(decide (0<=f1)&&decide (f1<=2))&&(decide (0<=f3)&&decide (f3<=60)));rw[h2,axx,ayl]
  .show false=(iy fs f4&&fO fs&&(decide (1<=f0)&&decide (f0<=60))&&(decide (0<=f1)&&decide (f1<=2))&&(decide (0<=f3)&&decide (f3<=60)));rw[h1,axx,ayl,ayl]
theorem Ep:OK oh.e:=by
 refine PA.ok mixed (ax [mG.e,qw.e,tK.e] ⟨sS,JW,MB,trivial⟩) YT (by kernel_rfl) (show∀s0 s1 s2,oh.goal (Xh s0 s1 s2) ((s0,s1,s2,()),())from ?_);intro s0 s1 s2 hin hp;dsimp only[oh]at hp ⊢;have hlen:s1.length<=maxLen:=hin.1.2.1.1;rw[maxLen_eq]at hlen;refine je s1.length hlen (λn=>∀i,i<n->kZ (s0,s1,s2,()) i=true) (λi hi=>by omega) (λI μ n hn hJ next=>?_) λI μ hJ=>?_
 .dsimp only;have no:kZ (s0,s1,s2,()) n=false->(false,())=(aC (s0,s1,s2,()),()):=λh=>by rw[agB (s:=(s0,s1,s2,())) hn h]
  refine bU (by omega) ⟨⟨by omega,by omega⟩,trivial,af (λh2=>no ?_) λh2=>af (λh3=>no ?_) λh3=>af (λh4=>?_) λh4=>⟨rfl,next (eY hJ ?_)⟩⟩
  .have h2:bT s0 (Sp.fileAt s1 n)=false:=dY h2;show(bT s0 (Sp.fileAt s1 n)&&_&&_)=false;rw[h2];rfl
  .have h2:bT s0 (Sp.fileAt s1 n)=true:=dw h2;have h3:¬(Sp.fileAt s1 n).1<s2:=by have h3:(Sp.fileAt s1 n).1>=s2:=gI h3;omega
   show(bT s0 (Sp.fileAt s1 n)&&decide ((Sp.fileAt s1 n).1<s2)&&_)=false;rw[h2,aw1 h3];rfl
  .have h2:bT s0 (Sp.fileAt s1 n)=true:=dw h2;have h3:(Sp.fileAt s1 n).1<s2:=by have h3:¬(Sp.fileAt s1 n).1>=s2:=gY h3;omega
   have h4:0<n:=by have:=gI h4;omega
   rw[xG h4 (by omega)];refine⟨⟨by omega,by omega⟩,af (λh5=>no ?_) λh5=>⟨rfl,next (eY hJ ?_)⟩⟩
   .have h5:¬(Sp.fileAt s1 (n-1)).1<(Sp.fileAt s1 n).1:=by have h5:(Sp.fileAt s1 (n-1)).1>=(Sp.fileAt s1 n).1:=gI h5;omega
    show(bT s0 (Sp.fileAt s1 n)&&decide ((Sp.fileAt s1 n).1<s2)&&!(decide (0<n)&&!decide ((Sp.fileAt s1 (n-1)).1<(Sp.fileAt s1 n).1)))=false;rw[h2,aw0 h3,aw0 h4,aw1 h5];rfl
   .have h5:(Sp.fileAt s1 (n-1)).1<(Sp.fileAt s1 n).1:=by have h5:¬(Sp.fileAt s1 (n-1)).1>=(Sp.fileAt s1 n).1:=gY h5;omega
    show(bT s0 (Sp.fileAt s1 n)&&decide ((Sp.fileAt s1 n).1<s2)&&!(decide (0<n)&&!decide ((Sp.fileAt s1 (n-1)).1<(Sp.fileAt s1 n).1)))=true;rw[h2,aw0 h3,aw0 h4,aw0 h5];rfl
  .have h2:bT s0 (Sp.fileAt s1 n)=true:=dw h2;have h3:(Sp.fileAt s1 n).1<s2:=by have h3:¬(Sp.fileAt s1 n).1>=s2:=gY h3;omega
   have h4:¬0<n:=by have:=gY h4;omega
   show(bT s0 (Sp.fileAt s1 n)&&decide ((Sp.fileAt s1 n).1<s2)&&!(decide (0<n)&&!decide ((Sp.fileAt s1 (n-1)).1<(Sp.fileAt s1 n).1)))=true;rw[h2,aw0 h3,aw1 h4];rfl
 .dsimp only;have ha:jK s1.length (kZ (s0,s1,s2,()))=true:=mr hJ;refine bV (by omega) ⟨trivial,af (λh1=>af (λh2=>⟨trivial,?_⟩) λh2=>?_) λh1=>?_⟩
  .refine congrArg (·,()) ?_;show _=(jK s1.length (kZ (s0,s1,s2,()))&&fO s0&&decide ((s1.length:Int)<=12)&&(decide (1<=s2)&&decide (s2<=61)));rw[ha,h1,h2];rfl
  .refine congrArg (·,()) ?_;show _=(jK s1.length (kZ (s0,s1,s2,()))&&fO s0&&decide ((s1.length:Int)<=12)&&(decide (1<=s2)&&decide (s2<=61)));rw[ha,h1,h2];rfl
  .refine congrArg (·,()) ?_;show _=(jK s1.length (kZ (s0,s1,s2,()))&&fO s0&&decide ((s1.length:Int)<=12)&&(decide (1<=s2)&&decide (s2<=61)));rw[ha,h1];rfl
theorem Xi{α:Type}{l:List α}{lo:Nat}{news:List α}(h:lo+news.length<=l.length):(dF l lo news).length=l.length:=by unfold dF;simp only[awW,awT,axt];omega
theorem aaN{α:Type}{l:List α}{lo k:Nat}{news:List α}(hk:k<=lo)(h:lo<=l.length):(dF l lo news).take k=l.take k:=by unfold dF;rw[axA,axV (by rw[awT];omega),ayy,ayt hk]
theorem arG{α:Type}{l:List α}{lo k:Nat}{news:List α}(hk:k=lo+news.length)(h:lo<=l.length):(dF l lo news).take k=l.take lo++news:=by
 unfold dF;have:(l.take lo++news).length=k:=by rw[awW,awT];omega
 rw[axV (by omega),← this,aw9]
theorem acN:OK D5.e:=by
 refine XA.ok mixed (ax [nM.e] ⟨yu,trivial⟩) aeT (λ⟨l,_⟩ _=>⟨((l,()),()),rfl⟩) (by kernel_rfl) (show∀l,D5.goal (acO l) (l,())from ?_);intro l hin hp;dsimp only[D5]at hp ⊢;obtain⟨h1,h2⟩:l.length<=1000/\∀f∈l,bY f:=hp;refine bZ (λi(x:List aF)=>(((),i,()),x,())) (λy=>y.1.2.1) (λ_ _=>rfl) l.length (by omega) (λn x=>x=l.take n) (by simp) (λI μ n x hn hJ next=>?_) λI μ x hJ=>?_
 .subst hJ;have hl:(l.take n).length<=n:=by rw[awT];omega
  dsimp only;refine bU (by omega) ⟨⟨by omega,by omega⟩,h2 _ (getD_mem (d:=((0:Int),(0:Int),false,(0:Int),[],())) hn),by rw[bM];simp only[awU,awY];omega,rfl,next _ ?_⟩;exact(Sp.take_succ' l n (0,0,false,0,[],()) hn).symm
 .subst hJ;dsimp only;refine bV (by omega) ?_;show List.take l.length l=l;rw[aw9]
theorem Ib:OK sF.e:=by refine XA.ok mixed (ax [D5.e,lS.e] ⟨acN,EM,trivial⟩) aeU (λ⟨(a,l,nx,_),_⟩ _=>⟨(((a,l,nx,()),()),()),rfl⟩) (by kernel_rfl) (show∀s0 s1 s2,sF.goal (acP s0 s1 s2) ((s0,s1,s2,()),())from ?_);intro s0 s1 s2 hin hp;dsimp only[sF]at hp ⊢;obtain⟨h0,h1,h2⟩:s0.length<=1000/\s1.length<=1000/\∀f∈s1,bY f:=hp;refine⟨h0,⟨h1,h2⟩,?_⟩;rintro⟨⟨x,⟨⟩⟩,⟨⟩⟩ e;have e:x=s1:=e;subst e;exact rfl
end Go.Proofs.Tryz
namespace Go.Proofs.Tryz
open Go Go.Fw Go.IntWalk Sp
theorem abx:OK BG.e:=by
 refine XA.ok mixed (ax [jq.e] ⟨kQ,trivial⟩) H0 (λ_ _=>⟨((([]:List UInt8),()),(([],0,0,()),())),⟨by decide,by decide⟩⟩) (by kernel_rfl) (show∀c0 c1 c2,BG.goal (aby c0 c1 c2) ((c0,c1,c2,()),())from ?_);intro b i h hin hp;dsimp only[BG]at hp ⊢;have hp:0<=i:=hp
 repeat' first
  |exact trivial
  |refine af (λ_=>?_) λ_=>?_
  |refine And.intro ?_ ?_
  |(intro r hr;simp only[]at hr)
  |intro r hr
 all_goals first
  |omega
  |(dsimp only at*;omega)
  |exact hr
  |(simp only[awS,ne_eq]at*;omega)
  |(simp only[axe,awT,awW,awU,awY];omega)
  |(rw[bM];simp only[axe,awT,awW,awU,awY];omega)
  |(simp only[axe,awT,awW,awU,awY]at*;omega)
  |exact(show∀y∈_,List.length y.1<=10 from by decide) _ hr.2
  |(simp;done)
  |skip
theorem TJ:OK xA.e:=by
 refine XA.ok mixed (ax [BG.e,lY.e,uO.e,jq.e,dL.e] ⟨abx,yV,Jw,kQ,eH,trivial⟩) H0 (λ_ _=>⟨((((0:Int),(0:Int),(0:Int),([]:List UInt8),(0:Int),(0:Int),([]:List UInt8),()),()),(([],0,0,()),())),⟨by decide,trivial⟩⟩) (by kernel_rfl) (show∀c0 c1 c2,xA.goal (ahj c0 c1 c2) ((c0,c1,c2,()),())from ?_);intro b i h hin hp;dsimp only[xA]at hp ⊢;have hp:0<=i:=hp
 repeat' first
  |exact trivial
  |refine af (λ_=>?_) λ_=>?_
  |refine And.intro ?_ ?_
  |(intro r hr;simp only[]at hr)
  |intro r hr
 all_goals first
  |omega
  |(dsimp only at*;omega)
  |exact hr
  |(simp only[awS,ne_eq]at*;omega)
  |(simp only[axe,awT,awW,awU,awY];omega)
  |(rw[bM];simp only[axe,awT,awW,awU,awY];omega)
  |(simp only[axe,awT,awW,awU,awY]at*;omega)
  |exact(show∀y∈_,List.length y.1<=10 from by decide) _ hr.2
  |(simp;done)
  |skip
theorem VQ[kz](XI:iP prog G yR CB):iP prog G KR Ik:=by
 refine VR (ax [(yR,.eff (oH qA) CB),dL.e,xA.e,mP.e] ⟨⟨XI,Vr⟩,eH,TJ,AA,trivial⟩) (λ⟨_,q,deep,_,_⟩ _=>⟨((q++[(0,0,0,[],0,0,[],())],()),(([],0,0,()),())),⟨by decide,by simp,by simp⟩⟩) ?_;intro b i h q deep not hin hp;obtain⟨⟨hp1,hp2,hp3,hp4⟩,hp5⟩:=hp;have hw:IntKind.i64.wrap (deep-1)=deep-1:=fQ _ (by omega);refine⟨λy=>0<=y.2.1.2.1/\0<deep,?_⟩;dsimp only;rw[hw]
 repeat' first
  |exact trivial
  |refine af (λ_=>?_) λ_=>?_
  |refine And.intro ?_ ?_
  |(intro r hr;simp only[]at hr)
  |intro r hr
 all_goals first
  |omega
  |(dsimp only at*;omega)
  |exact hr
  |(simp only[awS,ne_eq]at*;omega)
  |(simp only[axe,awT,awW,awU,awY];omega)
  |(rw[bM];simp only[axe,awT,awW,awU,awY];omega)
  |(simp only[axe,awT,awW,awU,awY]at*;omega)
  |exact(show∀y∈_,List.length y.1<=10 from by decide) _ hr.2
  |(simp;done)
  |skip
theorem ahk:iP prog G aiN aed:=
 aiD (λn=>@LY ⟨n⟩) (λn=>@wF ⟨n⟩) (by rintro⟨⟨b,i,h,⟨⟩⟩,q,deep,not,⟨⟩⟩ h;exact azh _ h.2) (by rintro _ ⟨⟨b,i,h,⟨⟩⟩,q,deep,not,⟨⟩⟩;rfl) (by rintro⟨⟨b,i,h,⟨⟩⟩,q,deep,not,⟨⟩⟩ h;exact⟨_,h,ay6 _⟩) (by rintro _ ⟨⟨b,i,h,⟨⟩⟩,q,deep,not,⟨⟩⟩;rfl) λn h=>@VQ ⟨n⟩ h
theorem Lr:iP prog G yU CG:=
 aqa (F:=U0) (F':=LZ) (by decide) ahk (λa x h=>⟨h.1,h.2.1,h.2.2,(show∀z:Int,0<=z->z<=4->0+2*z.toNat<=900 fromλz _ _=>by omega) _ h.2.1 h.2.2⟩) λa x h=>rfl
theorem Zl:OK zF.e:=by
 refine XA.ok mixed (ax [(yU,.eff (oH qB) CG),dL.e] ⟨⟨Lr,JS⟩,eH,trivial⟩) abz (λ_ _=>⟨(([(0,0,0,[],0,0,[],())],()),(([],0,0,()),())),⟨by decide,by decide,by decide⟩⟩) (by kernel_rfl) (show∀c0 c1 c2,zF.goal (Zm c0 c1 c2) ((c0,c1,c2,()),())from ?_);intro b i h hin hp;dsimp only[zF]at hp ⊢;have hp:0<=i:=hp
 repeat' first
  |exact trivial
  |refine af (λ_=>?_) λ_=>?_
  |refine And.intro ?_ ?_
  |(intro r hr;simp only[]at hr)
  |intro r hr
 all_goals first
  |omega
  |(dsimp only at*;omega)
  |exact hr
  |(simp only[awS,ne_eq]at*;omega)
  |(simp only[axe,awT,awW,awU,awY];omega)
  |(rw[bM];simp only[axe,awT,awW,awU,awY];omega)
  |(simp only[axe,awT,awW,awU,awY]at*;omega)
  |exact(show∀y∈_,List.length y.1<=10 from by decide) _ hr.2
  |(simp;done)
  |skip
theorem EU:OK lT.e:=by
 refine XA.ok mixed (ax [(yU,.eff (oH qB) CG),dL.e] ⟨⟨Lr,JS⟩,eH,trivial⟩) PE (λ_ _=>⟨(([(0,0,0,[],0,0,[],())],()),(([],0,0,()),())),⟨by decide,by decide,by decide⟩⟩) (by kernel_rfl) (show∀c0 c1 c2,lT.goal (OB c0 c1 c2) ((c0,c1,c2,()),())from ?_);intro b i h hin hp;dsimp only[lT]at hp ⊢;have hp:0<=i:=hp
 repeat' first
  |exact trivial
  |refine af (λ_=>?_) λ_=>?_
  |refine And.intro ?_ ?_
  |(intro r hr;simp only[]at hr)
  |intro r hr
 all_goals first
  |omega
  |(dsimp only at*;omega)
  |exact hr
  |(simp only[awS,ne_eq]at*;omega)
  |(simp only[axe,awT,awW,awU,awY];omega)
  |(rw[bM];simp only[axe,awT,awW,awU,awY];omega)
  |(simp only[axe,awT,awW,awU,awY]at*;omega)
  |exact(show∀y∈_,List.length y.1<=10 from by decide) _ hr.2
  |(simp;done)
  |skip
theorem ajg:OK I8.e:=by
 refine XA.ok mixed (ax [ED.e,xA.e,jq.e,kE.e,dL.e,zF.e] ⟨Vw,TJ,kQ,pY,eH,Zl,trivial⟩) akZ (λ_ _=>⟨(([],()),(([],0,0,()),())),⟨by decide,by decide⟩⟩) (by kernel_rfl) (show∀c0 c1 c2,I8.goal (ajh c0 c1 c2) ((c0,c1,c2,()),())from ?_);intro b i h hin hp;dsimp only[I8]at hp ⊢;have hp:0<=i:=hp
 repeat' first
  |exact trivial
  |refine af (λ_=>?_) λ_=>?_
  |refine And.intro ?_ ?_
  |(intro r hr;simp only[]at hr)
  |intro r hr
 all_goals first
  |omega
  |(dsimp only at*;omega)
  |exact hr
  |(simp only[awS,ne_eq]at*;omega)
  |(simp only[axe,awT,awW,awU,awY];omega)
  |(rw[bM];simp only[axe,awT,awW,awU,awY];omega)
  |(simp only[axe,awT,awW,awU,awY]at*;omega)
  |exact(show∀y∈_,List.length y.1<=10 from by decide) _ hr.2
  |(simp;done)
  |skip
theorem Es:aI []:=⟨by simp,λx hx=>by cases hx⟩
theorem La{d:List aV}{x:aV}(h:aI d)(hl:d.length<1000)(hx:x.2.1.length<=1000):aI (d++[x]):=
 ⟨by simp;omega,λy hy=>by rcases axb.1 hy with hy|hy;exact h.2 y hy;rw[axH.1 hy];exact hx⟩
theorem ahl{d:List aV}{x:aV}(n:Nat)(h:aI d)(hx:x.2.1.length<=1000):aI (d.set n x):=
 ⟨by simp;exact h.1,λy hy=>by rcases azi hy with hy|hy;exact h.2 y hy;rw[hy];exact hx⟩
theorem ant{d:List aV}(n:Nat)(h:aI d):aI (d.take n):=
 ⟨by rw[awT];have:=h.1;omega,λy hy=>h.2 y (ay2 hy)⟩
theorem aqG{d:List aV}(h:aI d){n:Nat}(hn:n<d.length):(d.getD n ([],[],())).2.1.length<=1000:=h.2 _ (getD_mem hn)
theorem TB:OK CJ.e:=by
 refine XA.ok mixed (ax [lT.e,dL.e] ⟨EU,eH,trivial⟩) aji (λ_ _=>⟨(([([],[],())],()),(([],0,0,()),())),⟨by decide,by decide,by decide,by decide,by decide⟩⟩) (by kernel_rfl) (show∀c0 c1 c2,CJ.goal (ahm c0 c1 c2) ((c0,c1,c2,()),())from ?_);intro b i h hin hp;dsimp only[CJ]at hp ⊢;have hp:0<=i:=hp;refine⟨λy=>0<=y.2.1.2.1/\y.1.2.1=y.2.2.1.length/\y.2.2.1.length<=4/\aI y.2.2.1,λy=>(4-y.1.2.1).toNat,⟨hp,rfl,by simp,Es⟩,?_⟩;rintro⟨⟨_,k,_⟩,⟨b1,i1,h1,_⟩,l,_⟩ ⟨q1,q2,q3,q4⟩;dsimp only at q1 q2 q3 q4 ⊢;refine⟨q1,?_⟩;rintro⟨⟨r,_⟩,⟨b2,i2,h2,_⟩,_⟩ ⟨e1,e2,e3,_⟩;dsimp only at e1 e2 e3 ⊢;have e3:=e3 (by omega);rw[fQ (1+r) (by omega),fQ (k+1) (by omega)];refine af (λhc=>?_) λhc=>?_
 .have hc:=gI hc;refine⟨⟨by omega,by simp only[awU,awY];omega⟩,by simp only[awU,awY];omega,e1,?_⟩;rintro⟨⟨x,_⟩,⟨b3,i3,h3,_⟩,_⟩ ⟨g1,g2,g3⟩;dsimp only at g1 g2 g3 ⊢;refine⟨by rw[bM];simp only[awU,awY];omega,rfl,⟨g1,by simp;omega,by simp;omega,La q4 (by omega) (by dsimp only;omega)⟩,by omega⟩
 .have hc:=gY hc;exact⟨e1,by omega,by omega,q4⟩
theorem ajj:OK I9.e:=by
 refine XA.ok mixed (ax [lT.e,I8.e,jq.e,dL.e,CJ.e] ⟨EU,ajg,kQ,eH,TB,trivial⟩) ak0 (λ_ _=>⟨(([],()),(([],0,0,()),())),⟨by decide,by decide,Es⟩⟩) (by kernel_rfl) (show∀c0 c1 c2,I9.goal (ajk c0 c1 c2) ((c0,c1,c2,()),())from ?_);intro b i h hin hp;dsimp only[I9]at hp ⊢;have hp:0<=i:=hp;refine⟨hp,?_⟩;rintro⟨⟨d,_⟩,⟨b1,i1,h1,_⟩,_⟩ ⟨q1,q2,q3,q4⟩;dsimp only at q1 q2 q3 q4 ⊢;refine⟨q1,?_⟩;rintro⟨⟨r,_⟩,⟨b2,i2,h2,_⟩,_⟩ ⟨e1,e2,e3,_⟩;dsimp only at e1 e2 e3 ⊢;have e3:=e3 (by omega);refine⟨e1,?_⟩;rintro⟨⟨s,_⟩,⟨b3,i3,h3,_⟩,_⟩ ⟨f1,f2,f3,_⟩;dsimp only at f1 f2 f3 ⊢;have hn:r.toNat<d.length:=by omega
 refine af (λ_=>⟨⟨f1,by simp⟩,?_⟩) λ_=>af (λ_=>⟨f1,?_⟩) λ_=>af (λ_=>?_) λ_=>af (λ_=>?_) λ_=>?_
 .rintro⟨⟨x,_⟩,⟨b4,i4,h4,_⟩,_⟩ ⟨g1,g2⟩;exact⟨⟨e2,e3⟩,hn,g1,by simp;omega,ahl _ q4 (aqG q4 hn)⟩
 .rintro⟨⟨x,_⟩,⟨b4,i4,h4,_⟩,_⟩ ⟨g1,g2⟩;exact⟨⟨e2,e3⟩,hn,g1,by simp;omega,ahl _ q4 (by dsimp only at g2 ⊢;omega)⟩
 .refine⟨λy=>0<=y.2.1.2.1/\y.2.2.1.length<=6/\aI y.2.2.1,λy=>6-y.2.2.1.length,⟨f1,by dsimp only;omega,q4⟩,?_⟩;rintro⟨_,⟨b4,i4,h4,_⟩,l,_⟩ ⟨g1,g2,g3⟩;dsimp only at g1 g2 g3 ⊢;refine⟨g1,?_⟩;rintro⟨⟨r',_⟩,⟨b5,i5,h5,_⟩,_⟩ ⟨k1,k2,k3,_⟩;dsimp only at k1 k2 k3 ⊢;have k3:=k3 (by omega);rw[fQ (5+r') (by omega)];refine af (λhc=>?_) λhc=>?_
  .have hc:=gI hc;refine⟨⟨by omega,by simp only[awU,awY];omega⟩,k1,?_⟩;rintro⟨⟨x,_⟩,⟨b6,i6,h6,_⟩,_⟩ ⟨m1,m2,m3⟩;dsimp only at m1 m2 m3 ⊢;refine⟨by rw[bM];simp only[awU,awY];omega,rfl,⟨m1,by simp;omega,La g3 (by omega) (by dsimp only;omega)⟩,by simp;omega⟩
  .exact⟨k1,by omega,g3⟩
 .exact⟨f1,by simp,Es⟩
 .exact⟨f1,by omega,q4⟩
end Go.Proofs.Tryz
namespace Go.Proofs.Tryz
open Go Go.Fw Go.IntWalk Sp
theorem PI(n0 n1 n2:Int)(n3:Sp.Bytes)(n4 n5:Int)(n6:Sp.Bytes)(a:Int):kT (n0,n1,n2,n3,n4,n5,n6,()) a=
 (bif n0==1 then(n1==0&&n2==0)&&(n3==[]&&(n4==0&&(n5==0&&n6==[])))else bif n0==2 then(n1==0&&n2==0)&&(n4==0&&(n5==0&&n6==[]))&&jY n3 else
 bif n0==3 then(n1==0&&n2==0)&&jY n3&&kH n4 n5 n6&&!(n4==0)else bif n0==4 then(n1==0&&n2==0)&&jY n3&&kH n4 n5 n6&&n4==1 else
 bif n0==5 then(decide (0<=n1)&&decide (n1<=a-1)&&decide (0<a))&&n2==0&&(n3==[]&&(n4==0&&(n5==0&&n6==[])))else
 bif n0==6||n0==7 then(decide (0<=n1)&&decide (n1<=a-1)&&decide (0<a))&&(decide (0<=n2)&&decide (n2<=a-1))&&(n3==[]&&(n4==0&&(n5==0&&n6==[])))else
 bif n0==8||n0==9 then(n1==0&&n2==0)&&(n4==0&&(n5==0&&n6==[]))&&iV n3 else false):=rfl
theorem Zq:OK zH.e:=by
 refine PA.ok mixed (ax [mV.e,mG.e,rJ.e,oz.e] ⟨Du,sS,KY,Hy,trivial⟩) abE (by kernel_rfl) (show∀n0 n1 n2 n3 n4 n5 n6 at',zH.goal (MJ n0 n1 n2 n3 n4 n5 n6 at') ((n0,n1,n2,n3,n4,n5,n6,()),at',())from ?_);intro n0 n1 n2 n3 n4 n5 n6 a hin hp;dsimp only[zH]at hp ⊢;have ha:-9223372036854775808<=a/\a<=9223372036854775807:=hin.2.1;show MJ n0 n1 n2 n3 n4 n5 n6 a λr=>r=(kT (n0,n1,n2,n3,n4,n5,n6,()) a,());rw[PI];have w:0<a->IntKind.i64.wrap (a-1)=a-1:=λh=>fQ _ (by omega);refine af (λ_=>?_) λ_=>af (λ_=>af (λ_=>⟨trivial,?_⟩) λ_=>?_) λ_=>⟨λy=>y=((n0==3||n0==4,()),()),?_,?_⟩
 .first|(simp_all;done)|(simp_all;grind)
 .first|(simp_all;done)|(simp_all;grind)
 .first|(simp_all;done)|(simp_all;grind)
 .refine af (λ_=>⟨rfl,?_⟩) λ_=>⟨rfl,?_⟩<;>first|(simp_all;done)|(simp_all;grind)
 .rintro _ rfl;refine af (λ_=>?_) λ_=>af (λ_=>af (λ_=>af (λh=>⟨trivial,?_⟩) λ_=>?_) λ_=>?_) λ_=>⟨λy=>y=((n0==6||n0==7,()),()),?_,?_⟩
  .refine af (λ_=>⟨trivial,af (λ_=>⟨trivial,af (λ_=>af (λ_=>af (λ_=>?_) λ_=>?_) λ_=>?_) λ_=>?_⟩) λ_=>?_⟩) λ_=>?_
   all_goals first|(simp_all;done)|(simp_all;grind)
  .rw[w (gI h)]
   first|(simp_all;done)|(simp_all;grind)
  .first|(simp_all;done)|(simp_all;grind)
  .first|(simp_all;done)|(simp_all;grind)
  .refine af (λ_=>⟨rfl,?_⟩) λ_=>⟨rfl,?_⟩<;>first|(simp_all;done)|(simp_all;grind)
  .rintro _ rfl;refine af (λ_=>af (λ_=>af (λh=>⟨trivial,?_⟩) λ_=>?_) λ_=>?_) λ_=>?_
   .rw[w (gI h)];refine af (λ_=>⟨trivial,?_⟩) λ_=>?_<;>first|(simp_all;done)|(simp_all;grind)
   .first|(simp_all;done)|(simp_all;grind)
   .first|(simp_all;done)|(simp_all;grind)
   .refine af (λ_=>af (λ_=>af (λ_=>⟨trivial,?_⟩) λ_=>?_) λ_=>?_) λ_=>af (λ_=>af (λ_=>⟨trivial,?_⟩) λ_=>?_) λ_=>?_
    all_goals first|(simp_all;done)|(simp_all;grind)
theorem Zr:OK zG.e:=by
 refine PA.ok mixed (ax [mQ.e,rH.e,ou.e,jc.e] ⟨Dt,KW,Hw,jJ,trivial⟩) abG (by kernel_rfl) (show∀n0 n1 n2 n3 n4 n5 n6 at',zG.goal (MK n0 n1 n2 n3 n4 n5 n6 at') ((n0,n1,n2,n3,n4,n5,n6,()),at',())from ?_);intro n0 n1 n2 n3 n4 n5 n6 a hin hp;dsimp only[zG]at hp ⊢;have ha:-9223372036854775808<=a/\a<=9223372036854775807:=hin.2.1;show MK n0 n1 n2 n3 n4 n5 n6 a λr=>r=(kT (n0,n1,n2,n3,n4,n5,n6,()) a,());rw[PI];have w:0<a->IntKind.i64.wrap (a-1)=a-1:=λh=>fQ _ (by omega);refine⟨λy=>y=((decide (0<=n1)&&decide (n1<=a-1)&&decide (0<a),()),()),⟨trivial,?_⟩,?_⟩
 .by_cases h:0<a
  .dsimp only;rw[w h];refine af (λ_=>⟨rfl,?_⟩) λ_=>⟨rfl,?_⟩<;>first|(simp_all;done)|(simp_all;grind)
  .dsimp only;refine af (λ_=>⟨rfl,?_⟩) λ_=>⟨rfl,?_⟩<;>first|(simp_all;done)|(simp_all;grind)
 .rintro _ rfl;refine⟨λy=>y=(((decide (0<=n1)&&decide (n1<=a-1)&&decide (0<a))&&(decide (0<=n2)&&decide (n2<=a-1)),()),()),?_,?_⟩
  .refine af (λh=>⟨trivial,rfl,?_⟩) λh=>⟨rfl,?_⟩
   .have h:(decide (0<=n1)&&decide (n1<=a-1)&&decide (0<a))=true:=h;have h2:0<a:=by simp at h;omega
    rw[w h2,h,aza]
   .have h:(decide (0<=n1)&&decide (n1<=a-1)&&decide (0<a))=false:=h;rw[h,ayl]
  .rintro _ rfl;dsimp only;generalize (decide (0<=n1)&&decide (n1<=a-1)&&decide (0<a))=kids;generalize (decide (0<=n2)&&decide (n2<=a-1))=two
   repeat' first
    |exact trivial
    |refine af (λ_=>?_) λ_=>?_
    |refine And.intro trivial ?_
   all_goals first|(simp_all;done)|(simp_all;grind)
end Go.Proofs.Tryz
namespace Go.Proofs.Tryz
open Go Go.Fw Go.IntWalk Sp
theorem FT:OK sG.e:=by
 refine PA.ok mixed (ax [] trivial) ajB (by kernel_rfl) (show∀a b,sG.goal (ahX a b) (a,b,())from ?_);intro a b hin hp;dsimp only[sG]at hp ⊢;have hlen:a.length<=maxLen:=hin.1.1;rw[maxLen_eq]at hlen;refine af (λh=>?_) λh=>?_
 .have h:(a.length:Int)≠b.length:=by simpa using h
  exact congrArg (·,()) (aw1 λe=>h (by rw[e])).symm
 .have h:(a.length:Int)=b.length:=by simpa using h
  exact VB (K:=λr=>r=(decide (a=b),())) (λx y=>x.1 !=y.1) (λx y=>by simp[ayE]) _ a b _ hlen (by omega) (λe=>by rw[aw1 e]) λe=>by rw[aw0 e]
theorem adt:OK D6.e:=by
 refine PA.ok mixed (ax [] trivial) afB (by kernel_rfl) (show∀a b,D6.goal (adu a b) (a,b,())from ?_);intro a b hin hp;dsimp only[D6]at hp ⊢;have hlen:a.length<=maxLen:=hin.1.1;rw[maxLen_eq]at hlen;refine af (λh=>?_) λh=>?_
 .have h:(a.length:Int)≠b.length:=by simpa using h
  exact congrArg (·,()) (aw1 λe=>h (by rw[e])).symm
 .have h:(a.length:Int)=b.length:=by simpa using h
  exact VB (K:=λr=>r=(decide (a=b),())) (λx y=>!(x.1==y.1&&(x.2.1==y.2.1&&(x.2.2.1==y.2.2.1&&(x.2.2.2.1==y.2.2.2.1&&(x.2.2.2.2.1==y.2.2.2.2.1&&(x.2.2.2.2.2.1==y.2.2.2.2.2.1&&(x.2.2.2.2.2.2.1==y.2.2.2.2.2.2.1&&true)))))))) (λx y=>by simp[ayE]) _ a b _ hlen (by omega) (λe=>by rw[aw1 e]) λe=>by rw[aw0 e]
theorem ahY:OK Gv.e:=by
 refine PA.ok mixed (ax [D6.e] ⟨adt,trivial⟩) H0 (by kernel_rfl) (show∀a0 a1 b0 b1,Gv.goal (ahZ a0 a1 b0 b1) ((a0,a1,()),(b0,b1,()),())from ?_);intro a0 a1 b0 b1 hin hp;dsimp only[Gv]at hp ⊢;refine af (λh0=>⟨trivial,?_⟩) λh0=>?_
 all_goals refine congrArg (·,()) (axf.2 ?_)
 .simp only[awZ]at h0;subst h0;simp
 .have h0:a0≠b0:=by simpa using h0
  simp[h0]
theorem afn:OK FK.e:=by
 refine PA.ok mixed (ax [Gv.e] ⟨ahY,trivial⟩) ah0 (by kernel_rfl) (show∀a b,FK.goal (afC a b) (a,b,())from ?_);intro a b hin hp;dsimp only[FK]at hp ⊢;have hlen:a.length<=maxLen:=hin.1.1;rw[maxLen_eq]at hlen;refine af (λh=>?_) λh=>?_
 .have h:(a.length:Int)≠b.length:=by simpa using h
  exact congrArg (·,()) (aw1 λe=>h (by rw[e])).symm
 .have h:(a.length:Int)=b.length:=by simpa using h
  exact aeM (K:=λr=>r=(decide (a=b),())) (λx y=>!decide ((x.1,x.2.1,())=(y.1,y.2.1,()))) (λx y=>by simp[ayE]) _ a b _ hlen (by omega) (λe=>by rw[aw1 e]) λe=>by rw[aw0 e]
theorem QV:OK zK.e:=by refine PA.ok mixed (ax [] trivial) H0 (by kernel_rfl) (show∀n0 n1 n2 n3 n4 n5 n6,zK.goal (afD n0 n1 n2 n3 n4 n5 n6) ((n0,n1,n2,n3,n4,n5,n6,()),())from ?_);intro n0 n1 n2 n3 n4 n5 n6 hin hp;dsimp only[zK]at hp ⊢;exact af (λh=>by rw[h];rfl) λh=>by rw[h];rfl
theorem PX:OK qC.e:=by refine PA.ok mixed (ax [] trivial) Rx (by kernel_rfl) (show∀s,qC.goal (PY s) (s,())from ?_);intro s hin hp;dsimp only[qC]at hp ⊢;have hp:s.length<=1000:=hp;refineλg hg=>af (λh=>?_) λh=>⟨by rw[bM];omega,rfl⟩;have:=hg h;rw[List.eq_nil_of_length_eq_zero this]
theorem TM:OK CQ.e:=by refine PA.ok mixed (ax [qC.e] ⟨PX,trivial⟩) ajC (by kernel_rfl) (show∀x0 x1,CQ.goal (ah1 x0 x1) ((x0,x1,()),())from ?_);intro x0 x1 hin hp;dsimp only[CQ]at hp ⊢;exact⟨hp,rfl⟩
theorem o6{d:List aV}(h:aI d){n:Nat}(hn:n<d.length):(d.getD n ([],[],())).2.1.length<=1000:=h.2 _ (getD_mem hn)
theorem Rf:OK zQ.e:=by
 refine PA.ok mixed (ax [CQ.e] ⟨TM,trivial⟩) ah2 (by kernel_rfl) (show∀d,zQ.goal (afE d) (d,())from ?_);intro d hin hp;dsimp only[zQ]at hp ⊢;have hp:aI d:=hp;have hlen:d.length<=1000:=hp.1;refine bZ (λi(x:List aV)=>(((),i,()),x,())) (λy=>y.1.2.1) (λ_ _=>rfl) d.length (by omega) (λn l=>l=d.take n) (by simp) (λI μ n l hn hJ next=>?_) λI μ l hJ=>?_
 .subst hJ;have hl:(d.take n).length<=n:=by rw[awT];omega
  dsimp only;refine bU (by omega) ⟨⟨by omega,by omega⟩,o6 hp hn,by rw[bM];simp only[awU,awY];omega,rfl,next _ ?_⟩;exact(Sp.take_succ' d n ([],[],()) hn).symm
 .subst hJ;dsimp only;refine bV (by omega) ?_;rw[aw9]
theorem TF:OK CS.e:=by
 refine PA.ok mixed (ax [] trivial) ajD (by kernel_rfl) (show∀d,CS.goal (ah3 d) (d,())from ?_);intro d hin hp;dsimp only[CS]at hp ⊢;have hp:aI d:=hp;have hlen:d.length<=1000:=hp.1;refine bZ (λi(x:List aV)=>(((),i,()),x,())) (λy=>y.1.2.1) (λ_ _=>rfl) d.length (by omega) (λn l=>l=d.take n) (by simp) (λI μ n l hn hJ next=>?_) λI μ l hJ=>?_
 .subst hJ;have hl:(d.take n).length<=n:=by rw[awT];omega
  dsimp only;refine bU (by omega) ⟨⟨by omega,by omega⟩,⟨by omega,by omega⟩,by rw[bM];have:=o6 hp hn;show 0+(d.getD n ([],[],())).2.1.length<=_;omega,by rw[bM];simp only[awU,awY];omega,rfl,next _ ?_⟩;exact(Sp.take_succ' d n ([],[],()) hn).symm
 .subst hJ;dsimp only;refine bV (by omega) ?_;rw[aw9]
end Go.Proofs.Tryz
namespace Go.Proofs.Tryz
open Go Go.Fw Go.IntWalk Sp
theorem X7(a:Int)(x:bI):(Sp.refsOf a x:Int)=(if(x.1=6\/x.1=7\/x.1=5)/\x.2.1=a then 1 else 0)+(if(x.1=6\/x.1=7)/\x.2.2.1=a then 1 else 0):=by unfold Sp.refsOf gZ;by_cases h6:x.1=6<;>by_cases h7:x.1=7<;>by_cases h5:x.1=5<;>by_cases hl:x.2.1=a<;>by_cases hr:x.2.2.1=a<;>simp[cond_eq_ite,h6,h7,h5,hl,hr]
theorem as4(a:Int)(x:bI):Sp.refsOf a x<=2:=by have:=X7 a x;split at this<;>split at this<;>omega
def oL(q:List bI)(a:Int)(n:Nat):Nat:=((q.take n).map (Sp.refsOf a)).sum
theorem UL(q:List bI)(a:Int){n:Nat}(hn:n<q.length):oL q a (n+1)=oL q a n+Sp.refsOf a (Sp.nodeAt q n):=by unfold oL;rw[Sp.take_succ' q n (0,0,0,[],0,0,[],()) hn];simp only[axz,List.sum_append,axm,List.map_nil,ayP,List.sum_nil,ayd];rfl
theorem abN(q:List bI)(a:Int):∀n,n<=q.length->oL q a n<=2*n
 |0,_=>by simp[oL]
 |n+1,h=>by rw[UL q a (by omega)];have:=abN q a n (by omega);have:=as4 a (Sp.nodeAt q n);omega
theorem ah4(q:List bI)(a:Int):oL q a q.length=nN q a:=by unfold oL nN;rw[aw9]
theorem Sj:OK sZ.e:=by
 refine PA.ok mixed (ax [] trivial) UM (by kernel_rfl) (show∀q at',sZ.goal (Sl q at') (q,at',())from ?_);intro q a hin hp;dsimp only[sZ]at hp ⊢;have hp:q.length<=1000000:=hp;refine bZ (λi(c:Int)=>((c,i,()),())) (λy=>y.1.2.1) (λ_ _=>rfl) q.length (by omega) (λn c=>c=(oL q a n:Int)) rfl (λI μ n c hn hJ next=>?_) λI μ c hJ=>?_
 .subst hJ;have hs:=UL q a hn;have hb:=abN q a n (by omega);have hr:=X7 a (Sp.nodeAt q n);dsimp only;rw[awX];have e:q.getD n (0,0,0,[],0,0,[],())=Sp.nodeAt q n:=rfl;rw[e];have w1:IntKind.i64.wrap ((oL q a n:Int)+1)=(oL q a n:Int)+1:=fQ _ (by omega);have w2:IntKind.i64.wrap ((oL q a n:Int)+1+1)=(oL q a n:Int)+1+1:=fQ _ (by omega);refine bU (by omega) ⟨⟨by omega,by omega⟩,af (λh6=>⟨λy=>y=(((oL q a n:Int)+(if(Sp.nodeAt q n).2.1=a then 1 else 0),()),()),⟨⟨by omega,by omega⟩,af (λhl=>⟨rfl,?_⟩) λhl=>⟨rfl,?_⟩⟩,?_⟩) λh6=>⟨⟨by omega,by omega⟩,λy=>y=(((oL q a n:Int)+(if((Sp.nodeAt q n).1=7\/(Sp.nodeAt q n).1=5)/\(Sp.nodeAt q n).2.1=a then 1 else 0),()),()),?_,?_⟩⟩
  .simp only[awZ]at hl;rw[w1,if_pos hl]
  .simp only[awS]at hl;rw[if_neg hl,ay0]
  .rintro _ rfl;simp only[awZ]at h6;refine⟨⟨by omega,by omega⟩,af (λhrr=>⟨rfl,next _ ?_⟩) λhrr=>⟨rfl,next _ ?_⟩⟩
   all_goals
    dsimp only;simp only[awZ,awS,ne_eq]at hrr;by_cases hl:(Sp.nodeAt q n).2.1=a<;>simp[h6,hl,hrr]at hr<;>simp only[hl,if_true,azk,ay0,w1,w2]<;>omega
  .simp only[awS,ne_eq]at h6;refine af (λh7=>⟨⟨by omega,by omega⟩,af (λhl=>⟨rfl,?_⟩) λhl=>⟨rfl,?_⟩⟩) λh7=>⟨⟨by omega,by omega⟩,af (λh5=>⟨⟨by omega,by omega⟩,af (λhl=>⟨rfl,?_⟩) λhl=>⟨rfl,?_⟩⟩) λh5=>⟨rfl,?_⟩⟩
   all_goals simp_all
  .rintro _ rfl;simp only[awS,ne_eq]at h6;refine af (λh7=>⟨⟨by omega,by omega⟩,af (λhrr=>⟨rfl,next _ ?_⟩) λhrr=>⟨rfl,next _ ?_⟩⟩) λh7=>⟨rfl,next _ ?_⟩
   .simp only[awZ]at h7 hrr;by_cases hl:(Sp.nodeAt q n).2.1=a<;>simp[h6,h7,hl,hrr]at hr<;>simp only[h7,hl,true_or,and_self,and_false,if_true,azk,ay0,w1,w2]<;>omega
   .simp only[awZ,awS,ne_eq]at h7 hrr;by_cases hl:(Sp.nodeAt q n).2.1=a<;>simp[h6,h7,hl,hrr]at hr<;>simp only[h7,hl,true_or,and_self,and_false,if_true,azk,ay0,w1,w2]<;>omega
   .simp only[awS,ne_eq]at h7;dsimp only;by_cases h5:(Sp.nodeAt q n).1=5<;>by_cases hl:(Sp.nodeAt q n).2.1=a<;>simp[h6,h7,h5,hl]at hr<;>simp[h7,h5,hl]<;>omega
 .dsimp only;refine bV (by omega) ?_;rw[hJ,ah4]
theorem Sm:OK tq.e:=by
 refine PA.ok mixed (ax [] trivial) UN (by kernel_rfl) (show∀q at',tq.goal (Sr q at') (q,at',())from ?_);intro q a hin hp;dsimp only[tq]at hp ⊢;have hp:q.length<=1000000:=hp;refine bZ (λi(c:Int)=>((c,i,()),())) (λy=>y.1.2.1) (λ_ _=>rfl) q.length (by omega) (λn c=>c=(oL q a n:Int)) rfl (λI μ n c hn hJ next=>?_) λI μ c hJ=>?_
 .subst hJ;have hs:=UL q a hn;have hb:=abN q a n (by omega);have hr:=X7 a (Sp.nodeAt q n);dsimp only;rw[awX];have e:q.getD n (0,0,0,[],0,0,[],())=Sp.nodeAt q n:=rfl;rw[e];have w1:IntKind.i64.wrap ((oL q a n:Int)+1)=(oL q a n:Int)+1:=fQ _ (by omega);have w2:IntKind.i64.wrap ((oL q a n:Int)+1+1)=(oL q a n:Int)+1+1:=fQ _ (by omega);refine bU (by omega) ⟨⟨by omega,by omega⟩,af (λh6=>⟨λy=>y=(((oL q a n:Int)+(if(Sp.nodeAt q n).2.1=a then 1 else 0),()),()),af (λhl=>⟨rfl,?_⟩) λhl=>⟨rfl,?_⟩,?_⟩) λh6=>⟨λy=>y=(((oL q a n:Int)+(if((Sp.nodeAt q n).1=7\/(Sp.nodeAt q n).1=5)/\(Sp.nodeAt q n).2.1=a then 1 else 0),()),()),?_,?_⟩⟩
  .simp only[awZ]at hl;rw[w1,if_pos hl]
  .simp only[awS]at hl;rw[if_neg hl,ay0]
  .rintro _ rfl;simp only[awZ]at h6;refine af (λhrr=>⟨rfl,next _ ?_⟩) λhrr=>⟨rfl,next _ ?_⟩
   all_goals
    dsimp only;simp only[awZ,awS,ne_eq]at hrr;by_cases hl:(Sp.nodeAt q n).2.1=a<;>simp[h6,hl,hrr]at hr<;>simp only[hl,if_true,azk,ay0,w1,w2]<;>omega
  .simp only[awS,ne_eq]at h6;refine af (λhl=>af (λh7=>⟨rfl,?_⟩) λh7=>af (λh5=>⟨rfl,?_⟩) λh5=>⟨rfl,?_⟩) λhl=>⟨rfl,?_⟩
   all_goals simp_all
  .rintro _ rfl;simp only[awS,ne_eq]at h6;refine af (λhrr=>af (λh7=>⟨rfl,next _ ?_⟩) λh7=>⟨rfl,next _ ?_⟩) λhrr=>⟨rfl,next _ ?_⟩
   .simp only[awZ]at h7 hrr;by_cases hl:(Sp.nodeAt q n).2.1=a<;>simp[h6,h7,hl,hrr]at hr<;>simp only[h7,hl,true_or,and_self,and_false,if_true,azk,ay0,w1,w2]<;>omega
   .simp only[awS,ne_eq]at h7;dsimp only;by_cases h5:(Sp.nodeAt q n).1=5<;>by_cases hl:(Sp.nodeAt q n).2.1=a<;>simp[h6,h7,h5,hl]at hr<;>simp[h7,h5,hl]<;>omega
   .simp only[awS,ne_eq]at hrr;dsimp only;by_cases h7:(Sp.nodeAt q n).1=7<;>by_cases h5:(Sp.nodeAt q n).1=5<;>by_cases hl:(Sp.nodeAt q n).2.1=a<;>simp[h6,h7,h5,hl,hrr]at hr<;>simp[h7,h5,hl]<;>omega
 .dsimp only;refine bV (by omega) ?_;rw[hJ,ah4]
theorem ah5{q:List bI}{n:Nat}(hn:n<q.length)(h:mF q n=false):aZ q=false:=by unfold aZ;rw[zC hn h];rfl
theorem qN:OK kC.e:=by
 refine PA.ok mixed (ax [jc.e,sZ.e,zG.e] ⟨jJ,Sj,Zr,trivial⟩) ZB (by kernel_rfl) (show∀q,kC.goal (X8 q) (q,())from ?_);intro q hin hp;dsimp only[kC]at hp ⊢;have hp:q.length<=1000000:=hp;refine je q.length (by omega) (λn=>∀i,i<n->mF q i=true) (λi hi=>by omega) (λI μ n hn hJ next=>?_) λI μ hJ=>?_
 .dsimp only;have no:mF q n=false->(false,())=(aZ q,()):=λh=>by rw[ah5 hn h]
  rw[xG (show 0<q.length by omega) (by omega)];refine bU (by omega) ⟨⟨by omega,by omega⟩,trivial,af (λh2=>no ?_) λh2=>af (λh3=>⟨hp,af (λh4=>no ?_) λh4=>⟨rfl,next (eY hJ ?_)⟩⟩) λh3=>⟨rfl,next (eY hJ ?_)⟩⟩
  .have h2:kT (Sp.nodeAt q n) n=false:=dY h2;unfold mF;rw[h2];rfl
  .have h2:kT (Sp.nodeAt q n) n=true:=dw h2;have h4:(nN q n:Int)≠1:=by simpa using h4
   have h3:(n:Int)<(q.length:Int)-1:=by have:=gI h3;omega
   unfold mF;simp only[h3,h2];simp;omega
  .have h2:kT (Sp.nodeAt q n) n=true:=dw h2;have h4:(nN q n:Int)=1:=by simpa using h4
   have h4:nN q n=1:=by omega
   unfold mF;simp[h2,h4]
  .have h2:kT (Sp.nodeAt q n) n=true:=dw h2;have h3:¬(n:Int)<(q.length:Int)-1:=by have:=gY h3;omega
   unfold mF;simp[h2,h3]
 .dsimp only;refine bV (by omega) ⟨trivial,congrArg (·,()) ?_⟩;unfold aZ;rw[mr hJ];rfl
theorem qM:OK kD.e:=by
 refine PA.ok mixed (ax [mG.e,tq.e,zH.e] ⟨sS,Sm,Zq,trivial⟩) ZC (by kernel_rfl) (show∀q,kD.goal (X9 q) (q,())from ?_);intro q hin hp;dsimp only[kD]at hp ⊢;have hp:q.length<=1000000:=hp;refine je q.length (by omega) (λn=>∀i,i<n->mF q i=true) (λi hi=>by omega) (λI μ n hn hJ next=>?_) λI μ hJ=>?_
 .dsimp only;have no:mF q n=false->(false,())=(aZ q,()):=λh=>by rw[ah5 hn h]
  rw[xG (show 0<q.length by omega) (by omega)];refine bU (by omega) ⟨⟨by omega,by omega⟩,trivial,af (λh2=>no ?_) λh2=>af (λh3=>⟨hp,af (λh4=>no ?_) λh4=>⟨rfl,next (eY hJ ?_)⟩⟩) λh3=>⟨rfl,next (eY hJ ?_)⟩⟩
  .have h2:kT (Sp.nodeAt q n) n=false:=dY h2;unfold mF;rw[h2];rfl
  .have h2:kT (Sp.nodeAt q n) n=true:=dw h2;have h4:(nN q n:Int)≠1:=by simpa using h4
   have h3:(n:Int)<(q.length:Int)-1:=by have:=gI h3;omega
   unfold mF;simp only[h3,h2];simp;omega
  .have h2:kT (Sp.nodeAt q n) n=true:=dw h2;have h4:(nN q n:Int)=1:=by simpa using h4
   have h4:nN q n=1:=by omega
   unfold mF;simp[h2,h4]
  .have h2:kT (Sp.nodeAt q n) n=true:=dw h2;have h3:¬(n:Int)<(q.length:Int)-1:=by have:=gY h3;omega
   unfold mF;simp[h2,h3]
 .dsimp only;refine bV (by omega) ⟨trivial,congrArg (·,()) ?_⟩;unfold aZ;rw[mr hJ];rfl
theorem aku{d:List aV}{n:Nat}(hn:n<d.length)(h:ny d n=false):gm d=false:=by unfold gm;rw[zC hn h];rfl
theorem YU:OK zI.e:=by
 refine PA.ok mixed (ax [kC.e,mQ.e] ⟨qN,Dt,trivial⟩) abO (by kernel_rfl) (show∀d,zI.goal (ZE d) (d,())from ?_);intro d hin hp;dsimp only[zI]at hp ⊢;have hp:aI d:=hp;have hlen:d.length<=1000:=hp.1;refine je d.length (by omega) (λn=>∀i,i<n->ny d i=true) (λi hi=>by omega) (λI μ n hn hJ next=>?_) λI μ hJ=>?_
 .dsimp only;have no:ny d n=false->(false,())=(gm d,()):=λh=>by rw[aku hn h]
  have hq:(dN d n).2.1.length<=1000000:=aw2 (o6 hp hn) (by omega);refine bU (by omega) ⟨⟨by omega,by omega⟩,trivial,af (λh2=>no ?_) λh2=>⟨⟨by omega,by omega⟩,hq,af (λh3=>no ?_) λh3=>af (λh4=>?_) λh4=>⟨rfl,next (eY hJ ?_)⟩⟩⟩
  .have h2:iV (dN d n).1=false:=dY h2;unfold ny;rw[h2];rfl
  .have h3:aZ (dN d n).2.1=false:=dY h3;unfold ny;rw[h3];simp
  .have h2:iV (dN d n).1=true:=dw h2;have h3:aZ (dN d n).2.1=true:=dw h3;have h4:0<n:=by have:=gI h4;omega
   rw[xG h4 (by omega)];refine⟨⟨by omega,by omega⟩,⟨by omega,by omega⟩,af (λh5=>no ?_) λh5=>⟨rfl,next (eY hJ ?_)⟩⟩
   .have h5:Op.bytesLess (dN d (n-1)).1 (dN d n).1=false:=dY h5;unfold ny;rw[h2,h3,h5,aw0 h4];rfl
   .have h5:Op.bytesLess (dN d (n-1)).1 (dN d n).1=true:=dw h5;unfold ny;rw[h2,h3,h5,aw0 h4];rfl
  .have h2:iV (dN d n).1=true:=dw h2;have h3:aZ (dN d n).2.1=true:=dw h3;have h4:¬0<n:=by have:=gY h4;omega
   unfold ny;rw[h2,h3,aw1 h4];rfl
 .dsimp only;refine bV (by omega) (congrArg (·,()) ?_);unfold gm;rw[mr hJ];rfl
theorem YW:OK zJ.e:=by
 refine PA.ok mixed (ax [kD.e,mV.e] ⟨qM,Du,trivial⟩) abP (by kernel_rfl) (show∀d,zJ.goal (ZF d) (d,())from ?_);intro d hin hp;dsimp only[zJ]at hp ⊢;have hp:aI d:=hp;have hlen:d.length<=1000:=hp.1;refine je d.length (by omega) (λn=>∀i,i<n->ny d i=true) (λi hi=>by omega) (λI μ n hn hJ next=>?_) λI μ hJ=>?_
 .dsimp only;have no:ny d n=false->(false,())=(gm d,()):=λh=>by rw[aku hn h]
  have hq:(dN d n).2.1.length<=1000000:=aw2 (o6 hp hn) (by omega);refine bU (by omega) ⟨⟨by omega,by omega⟩,trivial,af (λh2=>no ?_) λh2=>af (λh4=>?_) λh4=>⟨hq,af (λh3=>no ?_) λh3=>⟨rfl,next (eY hJ ?_)⟩⟩⟩
  .have h2:iV (dN d n).1=false:=dY h2;unfold ny;rw[h2];rfl
  .have h2:iV (dN d n).1=true:=dw h2;have h4:0<n:=by have:=gI h4;omega
   rw[xG h4 (by omega)];refine⟨⟨by omega,by omega⟩,af (λh5=>no ?_) λh5=>⟨hq,af (λh3=>no ?_) λh3=>⟨rfl,next (eY hJ ?_)⟩⟩⟩
   .have h5:Op.bytesLess (dN d (n-1)).1 (dN d n).1=false:=dY h5;unfold ny;rw[h5,aw0 h4];simp
   .have h3:aZ (dN d n).2.1=false:=dY h3;unfold ny;rw[h3];simp
   .have h3:aZ (dN d n).2.1=true:=dw h3;have h5:Op.bytesLess (dN d (n-1)).1 (dN d n).1=true:=dw h5;unfold ny;rw[h2,h3,h5,aw0 h4];rfl
  .have h3:aZ (dN d n).2.1=false:=dY h3;unfold ny;rw[h3];simp
  .have h2:iV (dN d n).1=true:=dw h2;have h3:aZ (dN d n).2.1=true:=dw h3;have h4:¬0<n:=by have:=gY h4;omega
   unfold ny;rw[h2,h3,aw1 h4];rfl
 .dsimp only;refine bV (by omega) (congrArg (·,()) ?_);unfold gm;rw[mr hJ];rfl
end Go.Proofs.Tryz
namespace Go.Proofs.Tryz
open Go Go.Fw Go.IntWalk Sp
theorem akv{S:Type}{B:((Int×Unit)×S->Prop)->((Int×Unit)×S->Nat)->(Int×Unit)×S->Prop}(len:Nat)(hlen:len<=9223372036854775807)(J:Nat->S->Prop){s0:S}(h0:J len s0)
 (hstep:∀I μ(n:Nat)(s:S),n<len->J (n+1) s->(∀s',J n s'->I ((IntKind.i64.wrap ((n:Int)-1),()),s')/\μ ((IntKind.i64.wrap ((n:Int)-1),()),s')<μ (((n:Int),()),s))->B I μ (((n:Int),()),s))
 (hend:∀I μ s,J 0 s->B I μ ((-1,()),s)):∃I,∃μ,I ((IntKind.i64.wrap ((len:Int)-1),()),s0)/\∀y,I y->B I μ y:=by
 have w:∀n:Nat,n<=len->IntKind.i64.wrap ((n:Int)-1)=(n:Int)-1:=λn hn=>fQ _ (by omega);refine⟨λy=>∃(n:Nat)(s:S),y=(((n:Int)-1,()),s)/\n<=len/\J n s,λy=>(y.1.1+1).toNat,⟨len,s0,by rw[w len (aw7 _)],aw7 _,h0⟩,?_⟩;rintro _ ⟨n,s,rfl,hn,hJ⟩;cases n with
 |zero=>exact hend _ _ s hJ
 |succ n=>
  have e:((n+1:Nat):Int)-1=n:=by omega
  rw[e];refine hstep _ _ n s hn hJ λs' hJ'=>?_;rw[w n (by omega)];refine⟨⟨n,s',rfl,by omega,hJ'⟩,?_⟩;show((n:Int)-1+1).toNat<((n:Int)+1).toNat;omega
theorem getD_set_ne{α:Type}(l:List α)(i n:Nat)(x d:α)(h:i≠n):(l.set i x).getD n d=l.getD n d:=by rw[awR,awR,axL h]
theorem PZ{x:bI}{a:Int}(h:kT x a=true)(h2:x.1=5\/x.1=6\/x.1=7):0<=x.2.1/\x.2.1<a:=by obtain⟨x0,x1,x2,x3,x4,x5,x6,_⟩:=x;rw[PI]at h;rcases h2 with rfl|rfl|rfl<;>simp at h<;>exact⟨h.1.1.1.1,by dsimp only;omega⟩
theorem P5{x:bI}{a:Int}(h:kT x a=true)(h2:x.1=6\/x.1=7):0<=x.2.2.1/\x.2.2.1<a:=by obtain⟨x0,x1,x2,x3,x4,x5,x6,_⟩:=x;rw[PI]at h;rcases h2 with rfl|rfl<;>simp at h<;>exact⟨h.1.2.1,by dsimp only;omega⟩
theorem ah6{q:List bI}(h:aZ q=true){n:Nat}(hn:n<q.length):kT (Sp.nodeAt q n) n=true:=by unfold aZ at h;simp only[awP]at h;have:=adZ.1 h.1 n hn;unfold mF at this;simp only[awP]at this;exact this.1
theorem xu{q:List bI}(h:aZ q=true):1<=q.length/\q.length<=9:=by unfold aZ at h;simp only[awP,axj]at h;omega
theorem ad1{q:List bI}{n:Nat}{out:List (Bool×Unit)}(h:(Sp.nodeAt q n).1=5):kW q n out=out.set (Sp.nodeAt q n).2.1.toNat (true,()):=by unfold kW;simp[h]
theorem ad2{q:List bI}{n:Nat}{out:List (Bool×Unit)}(h:(Sp.nodeAt q n).1=6\/(Sp.nodeAt q n).1=7):kW q n out=(out.set (Sp.nodeAt q n).2.1.toNat ((out.getD n (false,())).1,())).set (Sp.nodeAt q n).2.2.1.toNat ((out.getD n (false,())).1,()):=by unfold kW gZ;rcases h with h|h<;>simp[h]
theorem abQ{q:List bI}{n:Nat}{out:List (Bool×Unit)}(h5:(Sp.nodeAt q n).1≠5)(h6:(Sp.nodeAt q n).1≠6)(h7:(Sp.nodeAt q n).1≠7):kW q n out=out:=by unfold kW gZ;dsimp only;rw[awS.2 h5,awS.2 h6,awS.2 h7];rfl
theorem IW(q:List bI):∀(n:Nat)(out:List (Bool×Unit)),(jr q n out).length=out.length
 |0,out=>rfl
 |n+1,out=>by
  rw[jr,IW q n];unfold kW;simp only[cond_eq_ite];split
  .simp
  .split<;>simp
theorem anA{q:List bI}(h:aZ q=true):(Sp.negated q).length=q.length:=by unfold Sp.negated;rw[h];show(jr q _ _).length=_;rw[IW];simp
theorem Ya:OK yC.e:=by
 refine PA.ok mixed (ax [kD.e] ⟨qM,trivial⟩) ZG (by kernel_rfl) (show∀q,yC.goal (Yb q) (q,())from ?_);intro q hin hp;dsimp only[yC]at hp ⊢;have hp:q.length<=1000:=hp;refine⟨by omega,af (λh=>?_) λh=>⟨⟨by omega,by omega,by rw[bM];omega⟩,?_⟩⟩
 .have h:=dY h;unfold Sp.negated;rw[h];rfl
 have hok:=dw h;have hR:Sp.negated q=jr q q.length (List.replicate q.length (false,())):=by unfold Sp.negated;rw[hok];rfl
 refine akv q.length (by omega) (λn(s:List (Bool×Unit)×Unit)=>s.1.length=q.length/\jr q n s.1=Sp.negated q) ⟨by simp,hR.symm⟩ (λI μ n s hn hJ next=>?_) λI μ s hJ=>?_
 .obtain⟨out,⟨⟩⟩:=s;obtain⟨hl,hJ⟩:=hJ;have hl:out.length=q.length:=hl;have hJ:jr q n (kW q n out)=Sp.negated q:=hJ;have hk:=ah6 hok hn;have e:q.getD n (0,0,0,[],0,0,[],())=Sp.nodeAt q n:=rfl;dsimp only;rw[awX,e];simp only[axe];refine bU (by omega) ⟨⟨by omega,by omega⟩,by omega,?_⟩;by_cases h5:(Sp.nodeAt q n).1=5
  .have hb:=PZ hk (.inl h5);simp only[h5,Int.reduceBEq,azF,ay4];have fin:jr q n (out.set (Sp.nodeAt q n).2.1.toNat (true,()))=Sp.negated q:=by rw[← ad1 h5];exact hJ
   refine af (λ_=>⟨⟨by omega,by omega⟩,⟨by omega,by omega⟩,⟨by omega,by omega⟩,by omega,trivial,next _ ⟨by simp[hl],fin⟩⟩) λ_=>⟨⟨by omega,by omega⟩,⟨by omega,by omega⟩,⟨by omega,by omega⟩,⟨by omega,by omega⟩,by omega,trivial,next _ ⟨by simp[hl],fin⟩⟩
  by_cases Wh:(Sp.nodeAt q n).1=6\/(Sp.nodeAt q n).1=7
  .have hb:=PZ hk (.inr Wh);have hb2:=P5 hk Wh;have fin:∀b,(out.getD n (false,())).1=b->jr q n ((out.set (Sp.nodeAt q n).2.1.toNat (b,())).set (Sp.nodeAt q n).2.2.1.toNat (b,()))=Sp.negated q:=λb hb=>by rw[← hb,← ad2 Wh];exact hJ
   rcases Wh with h6|h6
   all_goals
    simp only[h6,Int.reduceBEq,azF,ay4];refine af (λhc=>⟨⟨by omega,by omega⟩,⟨by omega,by omega⟩,⟨by omega,by omega⟩,⟨by omega,by omega⟩,by omega,⟨by omega,by omega⟩,by omega,trivial,next _ ⟨by simp[hl],fin true hc⟩⟩) λhc=>⟨⟨by omega,by omega⟩,⟨by omega,by omega⟩,⟨by omega,by omega⟩,⟨by omega,by omega⟩,⟨by omega,by omega⟩,by omega,⟨by omega,by omega⟩,by omega,trivial,next _ ⟨by simp[hl],fin false hc⟩⟩
  .have h6:(Sp.nodeAt q n).1≠6:=λh=>Wh (.inl h);have h7:(Sp.nodeAt q n).1≠7:=λh=>Wh (.inr h);have fin:jr q n out=Sp.negated q:=by rw[abQ h5 h6 h7]at hJ;exact hJ
   simp only[awS.2 h5,awS.2 h6,awS.2 h7,ay4];exact af (λ_=>⟨⟨by omega,by omega⟩,rfl,next _ ⟨hl,fin⟩⟩) λ_=>⟨⟨by omega,by omega⟩,⟨by omega,by omega⟩,rfl,next _ ⟨hl,fin⟩⟩
 .obtain⟨out,⟨⟩⟩:=s;obtain⟨hl,hJ⟩:=hJ;dsimp only;refine bV (by omega) ?_;have hJ:out=Sp.negated q:=hJ;rw[hJ]
theorem Yc:OK yB.e:=by
 refine PA.ok mixed (ax [kC.e] ⟨qN,trivial⟩) ZH (by kernel_rfl) (show∀q,yB.goal (Yd q) (q,())from ?_);intro q hin hp;dsimp only[yB]at hp ⊢;have hp:q.length<=1000:=hp;refine⟨by omega,af (λh=>?_) λh=>⟨⟨by omega,by omega,by rw[bM];omega⟩,?_⟩⟩
 .have h:=dY h;unfold Sp.negated;rw[h];rfl
 have hok:=dw h;have hR:Sp.negated q=jr q q.length (List.replicate q.length (false,())):=by unfold Sp.negated;rw[hok];rfl
 refine akv q.length (by omega) (λn(s:List (Bool×Unit)×Unit)=>s.1.length=q.length/\jr q n s.1=Sp.negated q) ⟨by simp,hR.symm⟩ (λI μ n s hn hJ next=>?_) λI μ s hJ=>?_
 .obtain⟨out,⟨⟩⟩:=s;obtain⟨hl,hJ⟩:=hJ;have hl:out.length=q.length:=hl;have hJ:jr q n (kW q n out)=Sp.negated q:=hJ;have hk:=ah6 hok hn;have e:q.getD n (0,0,0,[],0,0,[],())=Sp.nodeAt q n:=rfl;dsimp only;rw[awX,e];simp only[axe];refine bU (by omega) ⟨⟨by omega,by omega⟩,?_⟩;by_cases h5:(Sp.nodeAt q n).1=5
  .have hb:=PZ hk (.inl h5);simp only[h5,Int.reduceBEq,azF,ay4];have fin:jr q n (out.set (Sp.nodeAt q n).2.1.toNat (true,()))=Sp.negated q:=by rw[← ad1 h5];exact hJ
   exact⟨⟨by omega,by omega⟩,by omega,trivial,next _ ⟨by simp[hl],fin⟩⟩
  by_cases Wh:(Sp.nodeAt q n).1=6\/(Sp.nodeAt q n).1=7
  .have hb:=PZ hk (.inr Wh);have hb2:=P5 hk Wh;have hne:(Sp.nodeAt q n).2.1.toNat≠n:=by omega
   have fin:jr q n ((out.set (Sp.nodeAt q n).2.1.toNat ((out.getD n (false,())).1,())).set (Sp.nodeAt q n).2.2.1.toNat ((out.getD n (false,())).1,()))=Sp.negated q:=by rw[← ad2 Wh];exact hJ
   rcases Wh with h6|h6
   all_goals
    simp only[h6,Int.reduceBEq,azF,ay4,getD_set_ne _ _ _ _ _ hne];exact⟨⟨by omega,by omega⟩,by omega,⟨by omega,by omega⟩,by omega,⟨by omega,by omega⟩,by omega,⟨by omega,by omega⟩,by omega,trivial,next _ ⟨by simp[hl],fin⟩⟩
  .have h6:(Sp.nodeAt q n).1≠6:=λh=>Wh (.inl h);have h7:(Sp.nodeAt q n).1≠7:=λh=>Wh (.inr h);have fin:jr q n out=Sp.negated q:=by rw[abQ h5 h6 h7]at hJ;exact hJ
   simp only[awS.2 h5,awS.2 h6,awS.2 h7,ay4];exact⟨rfl,next _ ⟨hl,fin⟩⟩
 .obtain⟨out,⟨⟩⟩:=s;obtain⟨hl,hJ⟩:=hJ;dsimp only;refine bV (by omega) ?_;have hJ:out=Sp.negated q:=hJ;rw[hJ]
end Go.Proofs.Tryz
