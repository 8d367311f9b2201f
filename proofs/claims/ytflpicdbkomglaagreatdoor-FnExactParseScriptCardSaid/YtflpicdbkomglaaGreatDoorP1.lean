import Derived.Test.YtflpicdbkomglaaGreatDoorV1
import Derived.Test.YtflpicdbkomglaaGreatDoorSp
import Derived.Test.YtflpicdbkomglaaGreatDoorV2
import Derived.Test.YtflpicdbkomglaaGreatDoorFwC
import Derived.Test.YtflpicdbkomglaaGreatDoorV5
import Derived.Test.YtflpicdbkomglaaGreatDoorL4
import Derived.Test.YtflpicdbkomglaaGreatDoorV20
import Derived.Test.YtflpicdbkomglaaGreatDoorV22
import Derived.Test.YtflpicdbkomglaaGreatDoorV21
namespace Go.Proofs.Tryz
open Go Go.Fw Go.IntWalk Sp
theorem afT(x y:Int)(m:Nat)(hm:m<9223372036854775807)(hy:(BitVec.ofInt 64 y).toNat=m):0<=bitsOf .and .i64 x y/\bitsOf .and .i64 x y<=m:=by
 have h:(BitVec.ofInt 64 x&&&BitVec.ofInt 64 y).toNat<=m:=by rw[BitVec.toNat_and,hy];exact Nat.and_le_right
 show 0<=IntKind.i64.wrap ((BitVec.ofInt 64 x&&&BitVec.ofInt 64 y).toNat:Int)/\IntKind.i64.wrap ((BitVec.ofInt 64 x&&&BitVec.ofInt 64 y).toNat:Int)<=m;generalize (BitVec.ofInt 64 x&&&BitVec.ofInt 64 y).toNat=z at h ⊢;rw[iC _ (by omega)];omega
theorem afU(x:Int):0<=bitsOf .and .i64 x 255/\bitsOf .and .i64 x 255<=255:=afT x 255 255 (by omega) (by decide)
theorem ahJ:OK D9.e:=by
 refine XA.ok mixed (aY [] trivial) H0 (λ_ _=>⟨(((0:Int),()),(([],0,0,()),())),⟨by decide,by decide,by decide⟩⟩) (by kernel_rfl) (show∀c0 c1 c2,D9.goal (WJ c0 c1 c2) ((c0,c1,c2,()),())from ?_);intro b i h hin hp;dsimp only[D9]at hp ⊢;have hp:0<=i:=hp;refine⟨by decide,by decide,af (λhc=>?_) λhc=>?_⟩<;>simp only[anA,an5]at hc
 .have hl:b.length<=maxLen:=hin.1.1.1;rw[maxLen_eq]at hl;refine⟨⟨hp,hc⟩,?_,afU _⟩;show 0<=IntKind.i64.wrap (i+1);rw[iC _ (by omega)];omega
 .exact⟨hp,afU _⟩
theorem Vl:OK yB.e:=by refine PA.ok mixed (aY [] trivial) H0 (by kernel_rfl) (show∀n,yB.goal (Vm n) (n,())from ?_);intro n hin hp;dsimp only[yB]at hp ⊢;exact rfl
theorem O0:OK tH.e:=by refine PA.ok mixed (aY [] trivial) H0 (by kernel_rfl) (show∀w,tH.goal (O1 w) (w,())from ?_);intro n hin hp;dsimp only[tH]at hp ⊢;exact rfl
theorem jZ:OK iq.e:=by
 refine PA.ok mixed (aY [] trivial) H0 (by kernel_rfl) (show∀OU least most,iq.goal (Z9 OU least most) (OU,least,most,())from ?_);intro x a b hin hp;dsimp only[iq]at hp ⊢;refine af (λh=>?_) λh=>?_
 .have h:=kH h;show(decide (x<=b),())=(decide (a<=x)&&decide (x<=b),());rw[anF (show a<=x from h)];rfl
 .have h:=jC h;show(false,())=(decide (a<=x)&&decide (x<=b),());rw[anM (show ¬a<=x from h)];rfl
theorem mM:OK jl.e:=by
 refine PA.ok mixed (aY [] trivial) H0 (by kernel_rfl) (show∀n low high,jl.goal (Yo n low high) (n,low,high,())from ?_);intro x a b hin hp;dsimp only[jl]at hp ⊢;refine af (λh=>?_) λh=>?_
 .show(decide (x<=b),())=(decide (a<=x)&&decide (x<=b),());rw[h];rfl
 .show(false,())=(decide (a<=x)&&decide (x<=b),());rw[h];rfl
theorem Gu{s:List UInt8}{n:Nat}(hlt:n<s.length)(hl:Sp.lower s=true):97<=(s.getD n 0).toNat/\(s.getD n 0).toNat<=122:=by have:=anI.1 hl _ (getD_mem (d:=0) hlt);simpa using this
theorem JC:OK vC.e:=by
 refine PA.ok mixed (aY [iq.e] ⟨jZ,trivial⟩) Yp (by kernel_rfl) (show∀s most,vC.goal (WL s most) (s,most,())from ?_);intro s most hin hp;dsimp only[vC]at hp ⊢;have hlen:s.length<=maxLen:=hin.1;rw[maxLen_eq]at hlen;refine⟨λy=>∃n:Nat,y.1.1=n/\n<=s.length/\Sp.lower (s.take n)=true,λy=>((s.length:Int)-y.1.1).toNat,⟨0,rfl,by omega,rfl⟩,?_⟩;rintro⟨⟨_,⟨⟩⟩,⟨⟩⟩ ⟨n,rfl,hn,hJ⟩;dsimp only;refine af (λh=>?_) λh=>?_<;>simp only[anA,an5]at h
 .have hlt:n<s.length:=by omega
  rw[iC _ (by omega),anY];refine⟨⟨by omega,by omega⟩,af (λh2=>?_) λh2=>⟨⟨by omega,by omega⟩,af (λh3=>?_) λh3=>?_⟩⟩<;>simp only[anA,an5]at*
  .cases hl:Sp.lower s with
   |false=>rfl
   |true=>have:=Gu hlt hl;omega
  .cases hl:Sp.lower s with
   |false=>rfl
   |true=>have:=Gu hlt hl;omega
  .refine⟨rfl,⟨n+1,by simp,by omega,?_⟩,by dsimp only;omega⟩;rw[Sp.take_succ' s n 0 hlt];unfold Sp.lower at hJ ⊢;rw[aqx,hJ];simp only[aox,aqt,an6,anQ,anl,anA];omega
 .have hge:n=s.length:=by omega
  rw[hge,aoQ]at hJ;rw[hJ];exact⟨trivial,rfl⟩
theorem pR:OK je.e:=by refine PA.ok mixed (aY [vC.e] ⟨JC,trivial⟩) H0 (by kernel_rfl) (show∀s,je.goal (LD s) (s,())from ?_);intro s hin hp;dsimp only[je]at hp ⊢;exact⟨trivial,rfl⟩
theorem qL:OK jw.e:=by
 refine PA.ok mixed (aY [je.e,iq.e] ⟨pR,jZ,trivial⟩) H0 (by kernel_rfl) (show∀v0 v1 v2,jw.goal (NC v0 v1 v2) ((v0,v1,v2,()),())from ?_);intro k n s hin hp;dsimp only[jw]at hp ⊢;refine af (λh=>?_) λh=>af (λh2=>⟨trivial,af (λh3=>?_) λh3=>?_⟩) λh2=>af (λh3=>⟨trivial,af (λh4=>?_) λh4=>?_⟩) λh3=>?_
 .have e:k=0:=by simpa using h
  subst e;exact congrArg (·,()) (an0.2 (by simp[bg]))
 .have e:k=1:=by simpa using h2
  subst e;exact congrArg (·,()) (an0.2 (by simp only[anl,anA]at h3;simp[bg,h3]))
 .have e:k=1:=by simpa using h2
  subst e;exact congrArg (·,()) (an0.2 (by simp only[bg,h3];simp))
 .have e:k=2:=by simpa using h3
  subst e;exact congrArg (·,()) (an0.2 (by simp[bg,h4]))
 .have e:k=2:=by simpa using h3
  subst e;exact congrArg (·,()) (an0.2 (by simp[bg,h4]))
 .have e1:k≠0:=by simpa using h
  have e2:k≠1:=by simpa using h2
  have e3:k≠2:=by simpa using h3
  exact congrArg (·,()) (an0.2 (by simp[bg,e1,e2,e3]))
theorem zO:OK lq.e:=by refine PA.ok mixed (aY [vC.e] ⟨JC,trivial⟩) H0 (by kernel_rfl) (show∀s,lq.goal (I9 s) (s,())from ?_);intro s hin hp;dsimp only[lq]at hp ⊢;exact⟨trivial,rfl⟩
theorem set_self{fs:List bQ}{n:Nat}(hn:n<fs.length):fs.set n (fs.getD n (0,0,false,0,[],()))=fs:=by
 refine aqs (by simp) λi h1 h2=>?_;rw[List.getElem_set];split
 .next e=>subst e;rw[anz,anu hn];rfl
 .rfl
def names:List (Int×Int×Sp.Bytes):=[(2,0,[105,110,107]),(2,0,[115,101,97])]
theorem agU:Ij Sp.usual=true:=by kernel_rfl
structure ND(k:Int)(s:vZ):Prop where
 sch:s.1=Sp.usual
 ok:yc s=true
 nx:s.2.2.1<=s.2.1.length+k
 small:ai2 s
theorem ND.more{k k':Int}{s:vZ}(h:ND k s)(hk:k<=k'):ND k' s:=⟨h.sch,h.ok,by have:=h.nx;omega,h.small⟩
theorem ND.grows{s:vZ}(h:ND 2 s)(hl:s.2.1.length<12){f:bQ}(ho:0<=f.2.1/\f.2.1<=2)(hk:0<=f.2.2.2.1/\f.2.2.2.1<=6)(ha:SB Sp.usual f.2.2.2.2.1=true):(zA s f).1.2.1.length=s.2.1.length+1:=by
 have hnx:=(ac0.1 h.ok).2.2.2;have h2:=h.nx;have hf:E5 s.1 (s.2.2.1,f.2)=true:=by rw[h.sch];show(SB Sp.usual f.2.2.2.2.1&&Ij Sp.usual&&(decide (1<=s.2.2.1)&&decide (s.2.2.1<=60))&&(decide (0<=f.2.1)&&decide (f.2.1<=2))&&(decide (0<=f.2.2.2.1)&&decide (f.2.2.2.1<=60)))=true;rw[ha,agU,anF hnx.1,anF (by omega),anF ho.1,anF ho.2,anF hk.1,anF (by omega)];rfl
 rcases Ik s f with⟨_,e⟩|⟨_,_,_,e⟩
 .exact(e ⟨h.ok,hl,hf⟩).elim
 .rw[e];show(s.2.1++[_]).length=_;rw[anm];rfl
theorem ND.one{s:vZ}(h:ND 1 s){f:bQ}(ho:0<=f.2.1/\f.2.1<=2)(hk:0<=f.2.2.2.1/\f.2.2.2.1<=6)(ha:SB Sp.usual f.2.2.2.2.1=true):0<(zA s f).1.2.1.length:=by
 by_cases hl:s.2.1.length<12
 .rw[(h.more (show(1:Int)<=2 by decide)).grows hl ho hk ha];omega
 .rcases Ik s f with⟨e,_⟩|⟨_,_,_,e⟩
  .rw[e];show 0<s.2.1.length;omega
  .rw[e];show 0<(s.2.1++[_]).length;rw[anm,List.length_singleton];omega
theorem pU:OK jf.e:=by
 refine PA.ok mixed (aY [jl.e] ⟨mM,trivial⟩) NG (by kernel_rfl) (show∀s,jf.goal (LG s) (s,())from ?_);intro s hin hp;dsimp only[jf]at hp ⊢;have hlen:s.length<=maxLen:=hin.1;rw[maxLen_eq]at hlen;refine⟨λy=>∃n:Nat,y.1.1=n/\n<=s.length/\Sp.lower (s.take n)=true,λy=>((s.length:Int)-y.1.1).toNat,⟨0,rfl,by omega,rfl⟩,?_⟩;rintro⟨⟨_,⟨⟩⟩,⟨⟩⟩ ⟨n,rfl,hn,hJ⟩;dsimp only;refine af (λh=>?_) λh=>?_<;>simp only[anA,an5]at h
 .have hlt:n<s.length:=by omega
  rw[iC _ (by omega),anY];refine⟨⟨by omega,by omega⟩,af (λh2=>?_) λh2=>⟨⟨by omega,by omega⟩,af (λh3=>?_) λh3=>?_⟩⟩<;>simp only[anA,an5]at*
  .unfold aF;cases hl:Sp.lower s with
   |false=>rfl
   |true=>have:=Gu hlt hl;omega
  .unfold aF;cases hl:Sp.lower s with
   |false=>rfl
   |true=>have:=Gu hlt hl;omega
  .refine⟨rfl,⟨n+1,by simp,by omega,?_⟩,by dsimp only;omega⟩;rw[Sp.take_succ' s n 0 hlt];unfold Sp.lower at hJ ⊢;rw[aqx,hJ];simp only[aox,aqt,an6,anQ,anl,anA];omega
 .have hge:n=s.length:=by omega
  rw[hge,aoQ]at hJ;unfold aF;rw[hJ];exact⟨trivial,rfl⟩
theorem qM:OK jy.e:=by
 refine PA.ok mixed (aY [jf.e,jl.e] ⟨pU,mM,trivial⟩) H0 (by kernel_rfl) (show∀v0 v1 v2,jy.goal (NH v0 v1 v2) ((v0,v1,v2,()),())from ?_);intro k n s hin hp;dsimp only[jy]at hp ⊢;refine af (λh=>?_) λh=>af (λh2=>⟨trivial,af (λh3=>?_) λh3=>?_⟩) λh2=>af (λh3=>⟨trivial,af (λh4=>?_) λh4=>?_⟩) λh3=>?_
 .have e:k=0:=by simpa using h
  subst e;exact congrArg (·,()) (an0.2 (by simp[bg]))
 .have e:k=1:=by simpa using h2
  subst e;exact congrArg (·,()) (an0.2 (by simp only[anl,anA]at h3;simp[bg,h3]))
 .have e:k=1:=by simpa using h2
  subst e;exact congrArg (·,()) (an0.2 (by simp only[bg,h3];simp))
 .have e:k=2:=by simpa using h3
  subst e;exact congrArg (·,()) (an0.2 (by simp[bg,h4]))
 .have e:k=2:=by simpa using h3
  subst e;exact congrArg (·,()) (an0.2 (by simp[bg,h4]))
 .have e1:k≠0:=by simpa using h
  have e2:k≠1:=by simpa using h2
  have e3:k≠2:=by simpa using h3
  exact congrArg (·,()) (an0.2 (by simp[bg,e1,e2,e3]))
theorem zQ:OK lC.e:=by
 refine PA.ok mixed (aY [] trivial) H0 (by kernel_rfl) (show∀s,lC.goal (Ja s) (s,())from ?_);intro s hin hp;dsimp only[lC]at hp ⊢;refine af (λh=>?_) λh=>?_
 .have h:(s.length:Int)=1:=kH h
  match s,h with
  |[c],_=>
   refine⟨⟨by decide,(by show(0:Int)<1;decide)⟩,af (λh2=>⟨⟨by decide,(by show(0:Int)<1;decide)⟩,?_⟩) λh2=>?_⟩
   .have h2:(c.toNat:Int)>=97:=kH h2;refine congrArg (·,()) (an0.2 ?_);simp only[eP,Sp.lower,aox,aqt,an6,anl,anA,ano,anw];constructor
    .intro h3;have h3:(c.toNat:Int)<=122:=h3;exact⟨⟨⟨by omega,by omega⟩,by decide⟩,by decide⟩
    .rintro⟨⟨⟨_,h4⟩,_⟩,_⟩;show(c.toNat:Int)<=122;omega
   .have h2:¬(c.toNat:Int)>=97:=jC h2;refine congrArg (·,()) (an0.2 ?_);simp only[eP,Sp.lower,aox,aqt,an6,anl,anA];constructor
    .intro h3;cases h3
    .rintro⟨⟨⟨h4,_⟩,_⟩,_⟩;omega
 .have h:¬(s.length:Int)=1:=jC h;refine congrArg (·,()) (an0.2 ?_);simp only[eP,anl,anA];constructor
  .intro h3;cases h3
  .rintro⟨⟨_,h4⟩,h5⟩;omega
end Go.Proofs.Tryz
namespace Go.Proofs.Tryz
open Go Go.Fw Go.IntWalk Sp
theorem WM(n0 n1 n2:Int)(n3:Sp.Bytes)(n4 n5:Int)(n6:Sp.Bytes)(a:Int):eG (n0,n1,n2,n3,n4,n5,n6,()) a=
 (bif n0==1 then(n1==0&&n2==0)&&(n3==[]&&(n4==0&&(n5==0&&n6==[])))else bif n0==2 then(n1==0&&n2==0)&&(n4==0&&(n5==0&&n6==[]))&&eP n3 else
 bif n0==3 then(n1==0&&n2==0)&&eP n3&&bg n4 n5 n6&&!(n4==0)else bif n0==4 then(n1==0&&n2==0)&&eP n3&&bg n4 n5 n6&&n4==1 else
 bif n0==5 then(decide (0<=n1)&&decide (n1<=a-1)&&decide (0<a))&&n2==0&&(n3==[]&&(n4==0&&(n5==0&&n6==[])))else
 bif n0==6||n0==7 then(decide (0<=n1)&&decide (n1<=a-1)&&decide (0<a))&&(decide (0<=n2)&&decide (n2<=a-1))&&(n3==[]&&(n4==0&&(n5==0&&n6==[])))else
 bif n0==8||n0==9 then(n1==0&&n2==0)&&(n4==0&&(n5==0&&n6==[]))&&aF n3 else false):=rfl
theorem O3:OK tK.e:=by
 refine PA.ok mixed (aY [jf.e,jl.e,jy.e,lC.e] ⟨pU,mM,qM,zQ,trivial⟩) QK (by kernel_rfl) (show∀n0 n1 n2 n3 n4 n5 n6 at',tK.goal (DY n0 n1 n2 n3 n4 n5 n6 at') ((n0,n1,n2,n3,n4,n5,n6,()),at',())from ?_);intro n0 n1 n2 n3 n4 n5 n6 a hin hp;dsimp only[tK]at hp ⊢;have ha:-9223372036854775808<=a/\a<=9223372036854775807:=hin.2.1;show DY n0 n1 n2 n3 n4 n5 n6 a λr=>r=(eG (n0,n1,n2,n3,n4,n5,n6,()) a,());rw[WM];have w:0<a->IntKind.i64.wrap (a-1)=a-1:=λh=>iC _ (by omega);refine af (λ_=>?_) λ_=>af (λ_=>af (λ_=>⟨trivial,?_⟩) λ_=>?_) λ_=>⟨λy=>y=((n0==3||n0==4,()),()),?_,?_⟩
 .first|(simp_all;done)|(simp_all;grind)
 .first|(simp_all;done)|(simp_all;grind)
 .first|(simp_all;done)|(simp_all;grind)
 .refine af (λ_=>⟨rfl,?_⟩) λ_=>⟨rfl,?_⟩<;>first|(simp_all;done)|(simp_all;grind)
 .rintro _ rfl;refine af (λ_=>?_) λ_=>af (λ_=>af (λ_=>af (λh=>⟨trivial,?_⟩) λ_=>?_) λ_=>?_) λ_=>⟨λy=>y=((n0==6||n0==7,()),()),?_,?_⟩
  .refine af (λ_=>⟨trivial,af (λ_=>⟨trivial,af (λ_=>af (λ_=>af (λ_=>?_) λ_=>?_) λ_=>?_) λ_=>?_⟩) λ_=>?_⟩) λ_=>?_
   all_goals first|(simp_all;done)|(simp_all;grind)
  .rw[w (kH h)]
   first|(simp_all;done)|(simp_all;grind)
  .first|(simp_all;done)|(simp_all;grind)
  .first|(simp_all;done)|(simp_all;grind)
  .refine af (λ_=>⟨rfl,?_⟩) λ_=>⟨rfl,?_⟩<;>first|(simp_all;done)|(simp_all;grind)
  .rintro _ rfl;refine af (λ_=>af (λ_=>af (λh=>⟨trivial,?_⟩) λ_=>?_) λ_=>?_) λ_=>?_
   .rw[w (kH h)];refine af (λ_=>⟨trivial,?_⟩) λ_=>?_<;>first|(simp_all;done)|(simp_all;grind)
   .first|(simp_all;done)|(simp_all;grind)
   .first|(simp_all;done)|(simp_all;grind)
   .refine af (λ_=>af (λ_=>af (λ_=>⟨trivial,?_⟩) λ_=>?_) λ_=>?_) λ_=>af (λ_=>af (λ_=>⟨trivial,?_⟩) λ_=>?_) λ_=>?_
    all_goals first|(simp_all;done)|(simp_all;grind)
theorem O4:OK tJ.e:=by
 refine PA.ok mixed (aY [je.e,jw.e,lq.e,iq.e] ⟨pR,qL,zO,jZ,trivial⟩) QL (by kernel_rfl) (show∀n0 n1 n2 n3 n4 n5 n6 at',tJ.goal (DZ n0 n1 n2 n3 n4 n5 n6 at') ((n0,n1,n2,n3,n4,n5,n6,()),at',())from ?_);intro n0 n1 n2 n3 n4 n5 n6 a hin hp;dsimp only[tJ]at hp ⊢;have ha:-9223372036854775808<=a/\a<=9223372036854775807:=hin.2.1;show DZ n0 n1 n2 n3 n4 n5 n6 a λr=>r=(eG (n0,n1,n2,n3,n4,n5,n6,()) a,());rw[WM];have w:0<a->IntKind.i64.wrap (a-1)=a-1:=λh=>iC _ (by omega);refine⟨λy=>y=((decide (0<=n1)&&decide (n1<=a-1)&&decide (0<a),()),()),⟨trivial,?_⟩,?_⟩
 .by_cases h:0<a
  .dsimp only;rw[w h];refine af (λ_=>⟨rfl,?_⟩) λ_=>⟨rfl,?_⟩<;>first|(simp_all;done)|(simp_all;grind)
  .dsimp only;refine af (λ_=>⟨rfl,?_⟩) λ_=>⟨rfl,?_⟩<;>first|(simp_all;done)|(simp_all;grind)
 .rintro _ rfl;refine⟨λy=>y=(((decide (0<=n1)&&decide (n1<=a-1)&&decide (0<a))&&(decide (0<=n2)&&decide (n2<=a-1)),()),()),?_,?_⟩
  .refine af (λh=>⟨trivial,rfl,?_⟩) λh=>⟨rfl,?_⟩
   .have h:(decide (0<=n1)&&decide (n1<=a-1)&&decide (0<a))=true:=h;have h2:0<a:=by simp at h;omega
    rw[w h2,h,anQ]
   .have h:(decide (0<=n1)&&decide (n1<=a-1)&&decide (0<a))=false:=h;rw[h,aoa]
  .rintro _ rfl;dsimp only;generalize (decide (0<=n1)&&decide (n1<=a-1)&&decide (0<a))=kids;generalize (decide (0<=n2)&&decide (n2<=a-1))=two
   repeat' first
    |exact trivial
    |refine af (λ_=>?_) λ_=>?_
    |refine And.intro trivial ?_
   all_goals first|(simp_all;done)|(simp_all;grind)
end Go.Proofs.Tryz
namespace Go.Proofs.Tryz
open Go Go.Fw Go.IntWalk Sp
theorem NI(a:Int)(x:aC):(Sp.refsOf a x:Int)=(if(x.1=6\/x.1=7\/x.1=5)/\x.2.1=a then 1 else 0)+(if(x.1=6\/x.1=7)/\x.2.2.1=a then 1 else 0):=by unfold Sp.refsOf jI;by_cases h6:x.1=6<;>by_cases h7:x.1=7<;>by_cases h5:x.1=5<;>by_cases hl:x.2.1=a<;>by_cases hr:x.2.2.1=a<;>simp[cond_eq_ite,h6,h7,h5,hl,hr]
theorem aik(a:Int)(x:aC):Sp.refsOf a x<=2:=by have:=NI a x;split at this<;>split at this<;>omega
def lF(q:List aC)(a:Int)(n:Nat):Nat:=((q.take n).map (Sp.refsOf a)).sum
theorem J4(q:List aC)(a:Int){n:Nat}(hn:n<q.length):lF q a (n+1)=lF q a n+Sp.refsOf a (Sp.nodeAt q n):=by unfold lF;rw[Sp.take_succ' q n (0,0,0,[],0,0,[],()) hn];simp only[ao5,List.sum_append,anP,List.map_nil,aqm,List.sum_nil,aoW];rfl
theorem QM(q:List aC)(a:Int):∀n,n<=q.length->lF q a n<=2*n
 |0,_=>by simp[lF]
 |n+1,h=>by rw[J4 q a (by omega)];have:=QM q a n (by omega);have:=aik a (Sp.nodeAt q n);omega
theorem WN(q:List aC)(a:Int):lF q a q.length=kS q a:=by unfold lF kS;rw[aoQ]
theorem Jb:OK oG.e:=by
 refine PA.ok mixed (aY [] trivial) J5 (by kernel_rfl) (show∀q at',oG.goal (Jc q at') (q,at',())from ?_);intro q a hin hp;dsimp only[oG]at hp ⊢;have hp:q.length<=2000000:=hp;refine oC (λi(c:Int)=>((c,i,()),())) (λy=>y.1.2.1) (λ_ _=>rfl) q.length (by omega) (λn c=>c=(lF q a n:Int)) rfl (λI μ n c hn hJ next=>?_) λI μ c hJ=>?_
 .subst hJ;have hs:=J4 q a hn;have hb:=QM q a n (by omega);have hr:=NI a (Sp.nodeAt q n);dsimp only;rw[anY];have e:q.getD n (0,0,0,[],0,0,[],())=Sp.nodeAt q n:=rfl;rw[e];have w1:IntKind.i64.wrap ((lF q a n:Int)+1)=(lF q a n:Int)+1:=iC _ (by omega);have w2:IntKind.i64.wrap ((lF q a n:Int)+1+1)=(lF q a n:Int)+1+1:=iC _ (by omega);refine qN (by omega) ⟨⟨by omega,by omega⟩,af (λh6=>⟨λy=>y=(((lF q a n:Int)+(if(Sp.nodeAt q n).2.1=a then 1 else 0),()),()),⟨⟨by omega,by omega⟩,af (λhl=>⟨rfl,?_⟩) λhl=>⟨rfl,?_⟩⟩,?_⟩) λh6=>⟨⟨by omega,by omega⟩,λy=>y=(((lF q a n:Int)+(if((Sp.nodeAt q n).1=7\/(Sp.nodeAt q n).1=5)/\(Sp.nodeAt q n).2.1=a then 1 else 0),()),()),?_,?_⟩⟩
  .simp only[anH]at hl;rw[w1,if_pos hl]
  .simp only[ann]at hl;rw[if_neg hl,apw]
  .rintro _ rfl;simp only[anH]at h6;refine⟨⟨by omega,by omega⟩,af (λhrr=>⟨rfl,next _ ?_⟩) λhrr=>⟨rfl,next _ ?_⟩⟩
   all_goals
    dsimp only;simp only[anH,ann,ne_eq]at hrr;by_cases hl:(Sp.nodeAt q n).2.1=a<;>simp[h6,hl,hrr]at hr<;>simp only[hl,if_true,apI,apw,w1,w2]<;>omega
  .simp only[ann,ne_eq]at h6;refine af (λh7=>⟨⟨by omega,by omega⟩,af (λhl=>⟨rfl,?_⟩) λhl=>⟨rfl,?_⟩⟩) λh7=>⟨⟨by omega,by omega⟩,af (λh5=>⟨⟨by omega,by omega⟩,af (λhl=>⟨rfl,?_⟩) λhl=>⟨rfl,?_⟩⟩) λh5=>⟨rfl,?_⟩⟩
   all_goals simp_all
  .rintro _ rfl;simp only[ann,ne_eq]at h6;refine af (λh7=>⟨⟨by omega,by omega⟩,af (λhrr=>⟨rfl,next _ ?_⟩) λhrr=>⟨rfl,next _ ?_⟩⟩) λh7=>⟨rfl,next _ ?_⟩
   .simp only[anH]at h7 hrr;by_cases hl:(Sp.nodeAt q n).2.1=a<;>simp[h6,h7,hl,hrr]at hr<;>simp only[h7,hl,true_or,and_self,and_false,if_true,apI,apw,w1,w2]<;>omega
   .simp only[anH,ann,ne_eq]at h7 hrr;by_cases hl:(Sp.nodeAt q n).2.1=a<;>simp[h6,h7,hl,hrr]at hr<;>simp only[h7,hl,true_or,and_self,and_false,if_true,apI,apw,w1,w2]<;>omega
   .simp only[ann,ne_eq]at h7;dsimp only;by_cases h5:(Sp.nodeAt q n).1=5<;>by_cases hl:(Sp.nodeAt q n).2.1=a<;>simp[h6,h7,h5,hl]at hr<;>simp[h7,h5,hl]<;>omega
 .dsimp only;refine qO (by omega) ?_;rw[hJ,WN]
theorem Jd:OK oH.e:=by
 refine PA.ok mixed (aY [] trivial) J6 (by kernel_rfl) (show∀q at',oH.goal (Je q at') (q,at',())from ?_);intro q a hin hp;dsimp only[oH]at hp ⊢;have hp:q.length<=2000000:=hp;refine oC (λi(c:Int)=>((c,i,()),())) (λy=>y.1.2.1) (λ_ _=>rfl) q.length (by omega) (λn c=>c=(lF q a n:Int)) rfl (λI μ n c hn hJ next=>?_) λI μ c hJ=>?_
 .subst hJ;have hs:=J4 q a hn;have hb:=QM q a n (by omega);have hr:=NI a (Sp.nodeAt q n);dsimp only;rw[anY];have e:q.getD n (0,0,0,[],0,0,[],())=Sp.nodeAt q n:=rfl;rw[e];have w1:IntKind.i64.wrap ((lF q a n:Int)+1)=(lF q a n:Int)+1:=iC _ (by omega);have w2:IntKind.i64.wrap ((lF q a n:Int)+1+1)=(lF q a n:Int)+1+1:=iC _ (by omega);refine qN (by omega) ⟨⟨by omega,by omega⟩,af (λh6=>⟨λy=>y=(((lF q a n:Int)+(if(Sp.nodeAt q n).2.1=a then 1 else 0),()),()),af (λhl=>⟨rfl,?_⟩) λhl=>⟨rfl,?_⟩,?_⟩) λh6=>⟨λy=>y=(((lF q a n:Int)+(if((Sp.nodeAt q n).1=7\/(Sp.nodeAt q n).1=5)/\(Sp.nodeAt q n).2.1=a then 1 else 0),()),()),?_,?_⟩⟩
  .simp only[anH]at hl;rw[w1,if_pos hl]
  .simp only[ann]at hl;rw[if_neg hl,apw]
  .rintro _ rfl;simp only[anH]at h6;refine af (λhrr=>⟨rfl,next _ ?_⟩) λhrr=>⟨rfl,next _ ?_⟩
   all_goals
    dsimp only;simp only[anH,ann,ne_eq]at hrr;by_cases hl:(Sp.nodeAt q n).2.1=a<;>simp[h6,hl,hrr]at hr<;>simp only[hl,if_true,apI,apw,w1,w2]<;>omega
  .simp only[ann,ne_eq]at h6;refine af (λhl=>af (λh7=>⟨rfl,?_⟩) λh7=>af (λh5=>⟨rfl,?_⟩) λh5=>⟨rfl,?_⟩) λhl=>⟨rfl,?_⟩
   all_goals simp_all
  .rintro _ rfl;simp only[ann,ne_eq]at h6;refine af (λhrr=>af (λh7=>⟨rfl,next _ ?_⟩) λh7=>⟨rfl,next _ ?_⟩) λhrr=>⟨rfl,next _ ?_⟩
   .simp only[anH]at h7 hrr;by_cases hl:(Sp.nodeAt q n).2.1=a<;>simp[h6,h7,hl,hrr]at hr<;>simp only[h7,hl,true_or,and_self,and_false,if_true,apI,apw,w1,w2]<;>omega
   .simp only[ann,ne_eq]at h7;dsimp only;by_cases h5:(Sp.nodeAt q n).1=5<;>by_cases hl:(Sp.nodeAt q n).2.1=a<;>simp[h6,h7,h5,hl]at hr<;>simp[h7,h5,hl]<;>omega
   .simp only[ann,ne_eq]at hrr;dsimp only;by_cases h7:(Sp.nodeAt q n).1=7<;>by_cases h5:(Sp.nodeAt q n).1=5<;>by_cases hl:(Sp.nodeAt q n).2.1=a<;>simp[h6,h7,h5,hl,hrr]at hr<;>simp[h7,h5,hl]<;>omega
 .dsimp only;refine qO (by omega) ?_;rw[hJ,WN]
theorem WO{q:List aC}{n:Nat}(hn:n<q.length)(h:kR q n=false):aH q=false:=by unfold aH;rw[aac hn h];rfl
theorem Dq:OK oh.e:=by
 refine PA.ok mixed (aY [iq.e,oG.e,tJ.e] ⟨jZ,Jb,O4,trivial⟩) O5 (by kernel_rfl) (show∀q,oh.goal (NJ q) (q,())from ?_);intro q hin hp;dsimp only[oh]at hp ⊢;have hp:q.length<=2000000:=hp;refine GZ q.length (by omega) (λn=>∀i,i<n->kR q i=true) (λi hi=>by omega) (λI μ n hn hJ next=>?_) λI μ hJ=>?_
 .dsimp only;have no:kR q n=false->(false,())=(aH q,()):=λh=>by rw[WO hn h]
  rw[adH (show 0<q.length by omega) (by omega)];refine qN (by omega) ⟨⟨by omega,by omega⟩,trivial,af (λh2=>no ?_) λh2=>af (λh3=>⟨hp,af (λh4=>no ?_) λh4=>⟨rfl,next (Ba hJ ?_)⟩⟩) λh3=>⟨rfl,next (Ba hJ ?_)⟩⟩
  .have h2:eG (Sp.nodeAt q n) n=false:=jX h2;unfold kR;rw[h2];rfl
  .have h2:eG (Sp.nodeAt q n) n=true:=iD h2;have h4:(kS q n:Int)≠1:=by simpa using h4
   have h3:(n:Int)<(q.length:Int)-1:=by have:=kH h3;omega
   unfold kR;simp only[h3,h2];simp;omega
  .have h2:eG (Sp.nodeAt q n) n=true:=iD h2;have h4:(kS q n:Int)=1:=by simpa using h4
   have h4:kS q n=1:=by omega
   unfold kR;simp[h2,h4]
  .have h2:eG (Sp.nodeAt q n) n=true:=iD h2;have h3:¬(n:Int)<(q.length:Int)-1:=by have:=jC h3;omega
   unfold kR;simp[h2,h3]
 .dsimp only;refine qO (by omega) ⟨trivial,congrArg (·,()) ?_⟩;unfold aH;rw[QN hJ];rfl
theorem wZ:OK iJ.e:=by
 refine PA.ok mixed (aY [jl.e,oH.e,tK.e] ⟨mM,Jd,O3,trivial⟩) O6 (by kernel_rfl) (show∀q,iJ.goal (NK q) (q,())from ?_);intro q hin hp;dsimp only[iJ]at hp ⊢;have hp:q.length<=2000000:=hp;refine GZ q.length (by omega) (λn=>∀i,i<n->kR q i=true) (λi hi=>by omega) (λI μ n hn hJ next=>?_) λI μ hJ=>?_
 .dsimp only;have no:kR q n=false->(false,())=(aH q,()):=λh=>by rw[WO hn h]
  rw[adH (show 0<q.length by omega) (by omega)];refine qN (by omega) ⟨⟨by omega,by omega⟩,trivial,af (λh2=>no ?_) λh2=>af (λh3=>⟨hp,af (λh4=>no ?_) λh4=>⟨rfl,next (Ba hJ ?_)⟩⟩) λh3=>⟨rfl,next (Ba hJ ?_)⟩⟩
  .have h2:eG (Sp.nodeAt q n) n=false:=jX h2;unfold kR;rw[h2];rfl
  .have h2:eG (Sp.nodeAt q n) n=true:=iD h2;have h4:(kS q n:Int)≠1:=by simpa using h4
   have h3:(n:Int)<(q.length:Int)-1:=by have:=kH h3;omega
   unfold kR;simp only[h3,h2];simp;omega
  .have h2:eG (Sp.nodeAt q n) n=true:=iD h2;have h4:(kS q n:Int)=1:=by simpa using h4
   have h4:kS q n=1:=by omega
   unfold kR;simp[h2,h4]
  .have h2:eG (Sp.nodeAt q n) n=true:=iD h2;have h3:¬(n:Int)<(q.length:Int)-1:=by have:=jC h3;omega
   unfold kR;simp[h2,h3]
 .dsimp only;refine qO (by omega) ⟨trivial,congrArg (·,()) ?_⟩;unfold aH;rw[QN hJ];rfl
end Go.Proofs.Tryz
namespace Go.Proofs.Tryz
open Go Go.Fw Go.IntWalk
theorem Gv:OK mW.e:=by refine PA.ok mixed (aY [] trivial) Il (by kernel_rfl) (show∀s1 s2,mW.goal (Gw s1 s2) (s1,s2,())from ?_);intro a b hin hp;dsimp only[mW]at hp ⊢;exact eqL (K:=λr=>r=(decide (a=b),())) (λx y=>!(x.1==y.1&&(x.2.1==y.2.1&&(x.2.2.1==y.2.2.1&&(x.2.2.2.1==y.2.2.2.1&&true))))) (λx y=>by simp[aqc]) _ a b _ hin.1.1 rfl
theorem Gx:OK mX.e:=by refine PA.ok mixed (aY [] trivial) Io (by kernel_rfl) (show∀s1 s2,mX.goal (Gy s1 s2) (s1,s2,())from ?_);intro a b hin hp;dsimp only[mX]at hp ⊢;exact eqL (K:=λr=>r=(decide (a=b),())) (λx y=>!(x.1==y.1&&(x.2.1==y.2.1&&(x.2.2.1==y.2.2.1&&(x.2.2.2.1==y.2.2.2.1&&(x.2.2.2.2.1==y.2.2.2.2.1&&(x.2.2.2.2.2.1==y.2.2.2.2.2.1&&(x.2.2.2.2.2.2.1==y.2.2.2.2.2.2.1&&true)))))))) (λx y=>by simp[aqc]) _ a b _ hin.1.1 rfl
theorem QO:OK uQ.e:=by
 refine PA.ok mixed (aY [mW.e] ⟨Gv,trivial⟩) H0 (by kernel_rfl) (show∀a0 a1 a2 a3 a4 b0 b1 b2 b3 b4,uQ.goal (QS a0 a1 a2 a3 a4 b0 b1 b2 b3 b4) ((a0,a1,a2,a3,a4,()),(b0,b1,b2,b3,b4,()),())from ?_);intro a0 a1 a2 a3 a4 b0 b1 b2 b3 b4 hin hp;dsimp only[uQ]at hp ⊢;refine af (λh0=>af (λh1=>af (λh2=>af (λh3=>⟨trivial,?_⟩) λh3=>?_) λh2=>?_) λh1=>?_) λh0=>?_
 all_goals refine congrArg (·,()) (an0.2 ?_)
 .simp only[anH]at h0 h1 h2 h3;subst h0 h1 h2 h3;simp
 .have h3:a3≠b3:=by simpa using h3
  simp[h3]
 .have h2:a2≠b2:=by simpa using h2
  simp[h2]
 .have h1:a1≠b1:=by simpa using h1
  simp[h1]
 .have h0:a0≠b0:=by simpa using h0
  simp[h0]
theorem NM:OK rX.e:=by refine PA.ok mixed (aY [mX.e] ⟨Gx,trivial⟩) H0 (by kernel_rfl) (show∀a b,rX.goal (NP a b) (a,b,())from ?_);intro a b hin hp;dsimp only[rX]at hp ⊢;exact⟨trivial,rfl⟩
theorem O7:OK tN.e:=by refine PA.ok mixed (aY [] trivial) H0 (by kernel_rfl) (show∀s,tN.goal (O8 s) (s,())from ?_);intro w hin hp;dsimp only[tN]at hp ⊢;exact rfl
end Go.Proofs.Tryz
namespace Go.Proofs.Tryz
open Go Go.Fw Go.IntWalk Sp
theorem vg:OK lS.e:=by refine PA.ok mixed (aY [(Eg,.pure Bl)] ⟨⟨WI,Vh⟩,trivial⟩) H0 (by kernel_rfl) (show∀n,lS.goal (Tq n) (n,())from ?_);intro n hin hp;dsimp only[lS]at hp ⊢;exact⟨hin.1,rfl⟩
theorem Tt:OK wL.e:=by
 refine PA.ok mixed (aY [] trivial) H0 (by kernel_rfl) (show∀OU,wL.goal (Tv OU) (OU,())from ?_);intro x hin hp;dsimp only[wL]at hp ⊢;obtain⟨h0,h1⟩:=hp;refine af (λh=>?_) λh=>?_<;>simp only[anA,an5]at h
 .rw[i64_in (48+x) (by omega),u8_in (48+x) (by omega)]
 .omega
theorem LH{c:Int}(h:¬c.tmod 10<0):c.tmod 10=((c.natAbs%10:Nat):Int):=by have:(c.tmod 10).natAbs=c.natAbs%10:=aqv c 10;omega
theorem ac1{c:Int}(h:c.tmod 10<0):0-c.tmod 10=((c.natAbs%10:Nat):Int):=by have:(c.tmod 10).natAbs=c.natAbs%10:=aqv c 10;omega
theorem JD(k:Nat):byteRow [((48:Int)+(k:Int),())]=[UInt8.ofNat (48+k)]:=by
 have:((48:Int)+(k:Int)).toNat=48+k:=by omega
 simp[byteRow,UR,this]
theorem WQ{n c:Nat}{s:List UInt8}(hc:c≠0)(hJ:Lib.decDigits n=(if c=0 then[]else Lib.decDigits c)++s):
 Lib.decDigits n=(if c / 10=0 then[]else Lib.decDigits (c / 10))++(UInt8.ofNat (48+c%10)::s):=by
 rw[hJ,if_neg hc,Yq c];simp
theorem qA:OK jO.e:=by
 refine PA.ok mixed (aY [wL.e] ⟨Tt,trivial⟩) Vo (by kernel_rfl) (show∀n,jO.goal (Tz n) (n,())from ?_);intro n hin hp;dsimp only[jO]at hp ⊢;have h0:(-9223372036854775808:Int)<=n/\n<=9223372036854775807:=hin.1;have hL:=Lib.itoa_length_le n h0.1 h0.2;have hD:(Lib.decDigits n.natAbs).length<=21:=by
  unfold Lib.itoa at hL;split at hL
  .simp at hL;omega
  .rw[show n.natAbs=n.toNat by omega];exact hL
 refine af (λh=>?_) λh=>?_
 .have:n=0:=by simpa using h
  subst this;simp[Lib.itoa,Lib.decDigits]
 .have hn0:n≠0:=by simpa using h
  refine⟨λy=>-9223372036854775808<=y.1.1/\y.1.1<=9223372036854775807/\Lib.decDigits n.natAbs=(if y.1.1.natAbs=0 then[]else Lib.decDigits y.1.1.natAbs)++y.1.2.1,λy=>y.1.1.natAbs,⟨h0.1,h0.2,?_⟩,?_⟩
  .show _=(if n.natAbs=0 then _ else _)++_;rw[if_neg (by omega)];simp
  rintro⟨⟨c,s,⟨⟩⟩,⟨⟩⟩ ⟨hc1,hc2,hJ⟩;dsimp only at hc1 hc2 hJ ⊢;have hs:s.length<=21:=by rw[hJ,anm]at hD;omega
  have hq:(c.tdiv 10).natAbs=c.natAbs / 10:=Int.natAbs_tdiv c 10;have hrow:∀k:Nat,(byteRow [((48:Int)+(k:Int),())]).length=1:=λk=>by rw[JD];rfl
  refine af (λh=>?_) λh=>?_
  .have hc:c.natAbs≠0:=by simp at h;omega
   have hstep:=WQ hc hJ;have hm:c.natAbs%10<10:=apV _ (by decide);have hlt:c.natAbs / 10<c.natAbs:=Nat.div_lt_self (by omega) (by decide);have hw:IntKind.i64.wrap (c.tdiv 10)=c.tdiv 10:=iC _ (by omega);refine⟨by decide,af (λhd=>?_) λhd=>?_⟩<;>simp only[anA,an5]at hd
   .have e:=ac1 hd;rw[iC (0-c.tmod 10) (by omega),e,hw,JD];refine⟨⟨by omega,by omega⟩,by simp only[ano,anw];rw[maxLen_eq];omega,by decide,rfl,⟨by dsimp only;omega,by dsimp only;omega,?_⟩,?_⟩
    .show _=(if(c.tdiv 10).natAbs=0 then[]else Lib.decDigits (c.tdiv 10).natAbs)++_;rw[hq];exact hstep
    .show(c.tdiv 10).natAbs<c.natAbs;rw[hq];exact hlt
   .have e:=LH hd;rw[e,hw,JD];refine⟨⟨by omega,by omega⟩,by simp only[ano,anw];rw[maxLen_eq];omega,by decide,rfl,⟨by dsimp only;omega,by dsimp only;omega,?_⟩,?_⟩
    .show _=(if(c.tdiv 10).natAbs=0 then[]else Lib.decDigits (c.tdiv 10).natAbs)++_;rw[hq];exact hstep
    .show(c.tdiv 10).natAbs<c.natAbs;rw[hq];exact hlt
  .have hc:c=0:=by simpa using h
   subst hc;have hJ:Lib.decDigits n.natAbs=s:=by simpa using hJ
   subst hJ;refine af (λhd=>?_) λhd=>?_<;>simp only[anA,an5]at hd
   .refine⟨by simp only[ano,anw];rw[maxLen_eq];omega,?_⟩;rw[Lib.itoa,if_pos hd];rfl
   .rw[Lib.itoa,if_neg hd,show n.toNat=n.natAbs by omega]
theorem JE:OK vI.e:=by refine PA.ok mixed (aY [] trivial) H0 (by kernel_rfl) (show∀a0 a1 a2 b0 b1 b2,vI.goal (JF a0 a1 a2 b0 b1 b2) ((a0,a1,a2,()),(b0,b1,b2,()),())from ?_);intro a0 a1 a2 b0 b1 b2 hin hp;dsimp only[vI]at hp ⊢;have e:vJ (a0,a1,a2,()) (b0,b1,b2,())=((a0==b0)&&(a1==b1)&&(a2==b2)):=an0.2 (by simp[vJ,apR]);simp only[JF,e,bne];cases (a0==b0)<;>cases (a1==b1)<;>cases (a2==b2)<;>simp
theorem Yr:OK AP.e:=by refine PA.ok mixed (aY [vI.e] ⟨JE,trivial⟩) H0 (by kernel_rfl) (show∀a0 a1 a2 a3 b0 b1 b2 b3,AP.goal (LJ a0 a1 a2 a3 b0 b1 b2 b3) ((a0,a1,a2,a3,()),(b0,b1,b2,b3,()),())from ?_);intro a0 a1 a2 a3 b0 b1 b2 b3 hin hp;dsimp only[AP]at hp ⊢;have e:KG (a0,a1,a2,a3,()) (b0,b1,b2,b3,())=((a0==b0)&&(vJ (a1,a2,a3,()) (b1,b2,b3,()))):=an0.2 (by simp[KG,vJ,apR]);simp only[LJ,e,bne];cases (a0==b0)<;>cases (vJ (a1,a2,a3,()) (b1,b2,b3,()))<;>simp
theorem Yt:OK AQ.e:=by refine PA.ok mixed (aY [vI.e] ⟨JE,trivial⟩) H0 (by kernel_rfl) (show∀a0 a1 a2 a3 a4 a5 a6 b0 b1 b2 b3 b4 b5 b6,AQ.goal (LK a0 a1 a2 a3 a4 a5 a6 b0 b1 b2 b3 b4 b5 b6) ((a0,a1,a2,a3,a4,a5,a6,()),(b0,b1,b2,b3,b4,b5,b6,()),())from ?_);intro a0 a1 a2 a3 a4 a5 a6 b0 b1 b2 b3 b4 b5 b6 hin hp;dsimp only[AQ]at hp ⊢;have e:KH (a0,a1,a2,a3,a4,a5,a6,()) (b0,b1,b2,b3,b4,b5,b6,())=((a0==b0)&&(a1==b1)&&(a2==b2)&&(a3==b3)&&(vJ (a4,a5,a6,()) (b4,b5,b6,()))):=an0.2 (by simp[KH,vJ,apR]);simp only[LK,e,bne];cases (a0==b0)<;>cases (a1==b1)<;>cases (a2==b2)<;>cases (a3==b3)<;>cases (vJ (a4,a5,a6,()) (b4,b5,b6,()))<;>simp
theorem WR:OK zl.e:=by refine PA.ok mixed (aY [AP.e] ⟨Yr,trivial⟩) Yu (by kernel_rfl) (show∀a b,zl.goal (WS a b) (a,b,())from ?_);intro a b hin hp;dsimp only[zl]at hp ⊢;exact WT (K:=λr=>r=(BL a b,())) KG (λx y=>by simp[KG]) _ a b _ (by have h:=hin.1.1;rw[maxLen_eq]at h;exact h) (λz hz=>by have:z=BL a b:=an0.2 (hz.trans (by simp[BL]));rw[this])
theorem WU:OK zn.e:=by refine PA.ok mixed (aY [AQ.e] ⟨Yt,trivial⟩) Yv (by kernel_rfl) (show∀a b,zn.goal (WV a b) (a,b,())from ?_);intro a b hin hp;dsimp only[zn]at hp ⊢;exact WT (K:=λr=>r=(BM a b,())) KH (λx y=>by simp[KH]) _ a b _ (by have h:=hin.1.1;rw[maxLen_eq]at h;exact h) (λz hz=>by have:z=BM a b:=an0.2 (hz.trans (by simp[BM]));rw[this])
theorem Yw:OK AU.e:=by refine PA.ok mixed (aY [zl.e] ⟨WR,trivial⟩) H0 (by kernel_rfl) (show∀a0 a1 a2 a3 a4 b0 b1 b2 b3 b4,AU.goal (LM a0 a1 a2 a3 a4 b0 b1 b2 b3 b4) ((a0,a1,a2,a3,a4,()),(b0,b1,b2,b3,b4,()),())from ?_);intro a0 a1 a2 a3 a4 b0 b1 b2 b3 b4 hin hp;dsimp only[AU]at hp ⊢;have e:Hg (a0,a1,a2,a3,a4,()) (b0,b1,b2,b3,b4,())=((a0==b0)&&(a1==b1)&&(a2==b2)&&(a3==b3)&&(BL a4 b4)):=an0.2 (by simp[Hg,BL,apR]);simp only[LM,e,bne];cases (a0==b0)<;>cases (a1==b1)<;>cases (a2==b2)<;>cases (a3==b3)<;>cases (BL a4 b4)<;>simp
theorem aad:OK CO.e:=by refine PA.ok mixed (aY [zn.e] ⟨WU,trivial⟩) H0 (by kernel_rfl) (show∀a0 a1 b0 b1,CO.goal (OV a0 a1 b0 b1) ((a0,a1,()),(b0,b1,()),())from ?_);intro a0 a1 b0 b1 hin hp;dsimp only[CO]at hp ⊢;have e:MO (a0,a1,()) (b0,b1,())=((a0==b0)&&(BM a1 b1)):=an0.2 (by simp[MO,BM,apR]);simp only[OV,e,bne];cases (a0==b0)<;>cases (BM a1 b1)<;>simp
theorem Vp:OK yD.e:=by refine PA.ok mixed (aY [CO.e,AU.e] ⟨aad,Yw,trivial⟩) H0 (by kernel_rfl) (show∀a0 a1 a2 a3 a4 a5 a6 a7 a8 b0 b1 b2 b3 b4 b5 b6 b7 b8,yD.goal (Ip a0 a1 a2 a3 a4 a5 a6 a7 a8 b0 b1 b2 b3 b4 b5 b6 b7 b8) ((a0,a1,a2,a3,a4,a5,a6,a7,a8,()),(b0,b1,b2,b3,b4,b5,b6,b7,b8,()),())from ?_);intro a0 a1 a2 a3 a4 a5 a6 a7 a8 b0 b1 b2 b3 b4 b5 b6 b7 b8 hin hp;dsimp only[yD]at hp ⊢;have e:Ea (a0,a1,a2,a3,a4,a5,a6,a7,a8,()) (b0,b1,b2,b3,b4,b5,b6,b7,b8,())=((a0==b0)&&(Hg (a1,a2,a3,a4,a5,()) (b1,b2,b3,b4,b5,()))&&(a6==b6)&&(MO (a7,a8,()) (b7,b8,()))):=an0.2 (by simp[Ea,Hg,MO,apR]);simp only[Ip,e,bne];cases (a0==b0)<;>cases (Hg (a1,a2,a3,a4,a5,()) (b1,b2,b3,b4,b5,()))<;>cases (a6==b6)<;>cases (MO (a7,a8,()) (b7,b8,()))<;>simp
theorem ai4{p q:Bool}{K:Bool×Unit->Prop}(h:K ((p&&q),())):bif p then K (q,())else K (false,()):=by cases p<;>exact h
theorem LQ:OK qE.e:=by refine PA.ok mixed (aY [iq.e] ⟨jZ,trivial⟩) H0 (by kernel_rfl) (show∀a0 a1 a2 a3 a4,qE.goal (LU a0 a1 a2 a3 a4) ((a0,a1,a2,a3,a4,()),())from ?_);intro a0 a1 a2 a3 a4 hin hp;dsimp only[qE]at hp ⊢;exact⟨trivial,ai4 (K:=λr=>r=(_,())) rfl⟩
theorem LV:OK qF.e:=by refine PA.ok mixed (aY [jl.e] ⟨mM,trivial⟩) H0 (by kernel_rfl) (show∀a0 a1 a2 a3 a4,qF.goal (LW a0 a1 a2 a3 a4) ((a0,a1,a2,a3,a4,()),())from ?_);intro a0 a1 a2 a3 a4 hin hp;dsimp only[qF]at hp ⊢;exact⟨trivial,ai4 (K:=λr=>r=(_,())) rfl⟩
theorem xg:OK lg.e:=by refine PA.ok mixed (aY [jl.e] ⟨mM,trivial⟩) H0 (by kernel_rfl) (show∀n,lg.goal (NQ n) (n,())from ?_);intro n hin hp;dsimp only[lg]at hp ⊢;exact⟨trivial,rfl⟩
theorem Uu:∀(l:Sp.LI)(k:Int),0<=k->decide (Sp.idxFrom k l>=0)=!iO l
 |[],k,h=>by simp[Sp.idxFrom,iO]
 |x::r,k,h=>by
  have ih:=Uu r (k+1) (by omega);unfold iO at ih ⊢;rw[Sp.idxFrom,aox];cases hx:aN x.1 with
  |true=>rw[if_pos rfl,ih];rfl
  |false=>rw[if_neg (by simp)];simp[h]
theorem wo:OK fV.e:=by
 refine PA.ok mixed (aY [lg.e] ⟨xg,trivial⟩) wG (by kernel_rfl) (show∀s,fV.goal (wu s) (s,(()),())from ?_);intro s hin hp;dsimp only[fV]at hp ⊢;have hlen:s.length<=maxLen:=hin.1.1;rw[maxLen_eq]at hlen;refine⟨λy=>∃n:Nat,y.1.1=n/\n<=s.length/\Sp.idxOf s=Sp.idxFrom n (s.drop n),λy=>((s.length:Int)-y.1.1).toNat,⟨0,rfl,by omega,rfl⟩,?_⟩;rintro⟨⟨_,⟨⟩⟩,⟨⟩⟩ ⟨n,rfl,hn,hJ⟩;dsimp only;refine af (λh=>?_) λh=>?_<;>simp only[anA,an5]at h
 .have hlt:n<s.length:=by omega
  rw[drop_cons s n (0,()) hlt,Sp.idxFrom]at hJ;rw[iC _ (by omega),anY];refine⟨⟨by omega,by omega⟩,trivial,af (λh2=>?_) λh2=>?_⟩
  .rw[if_neg (by intro h3;rw[h3]at h2;cases h2)]at hJ;rw[hJ]
  .have h3:aN (s.getD n (0,())).1=true:=by simpa using h2
   rw[if_pos h3]at hJ;exact⟨rfl,⟨n+1,by simp,by omega,hJ⟩,by dsimp only;omega⟩
 .have hge:n=s.length:=by omega
  rw[hge,aoU]at hJ;rw[hJ];rfl
theorem uo:OK fE.e:=by refine PA.ok mixed (aY [fV.e,lg.e] ⟨wo,xg,trivial⟩) H0 (by kernel_rfl) (show∀s,fE.goal (uq s) (s,(()),())from ?_);intro s hin hp;dsimp only[fE]at hp ⊢;have h:decide (Sp.idxOf s>=0)=!iO s:=Uu s 0 (by omega);exact⟨trivial,by rw[h]⟩
theorem E8:OK qo.e:=by refine PA.ok mixed (aY [lg.e,fE.e] ⟨xg,uo,trivial⟩) H0 (by kernel_rfl) (show∀l,qo.goal (QU l) (l,())from ?_);intro l hin hp;dsimp only[qo]at hp ⊢;exact⟨trivial,by rw[Bool.not_not]⟩
theorem zB(n:Int)(h:(-9223372036854775808:Int)<=n/\n<=(9223372036854775807:Int)):(Lib.itoa n).length<=21:=Lib.itoa_length_le n h.1 h.2
theorem le_max{n:Nat}(h:n<=9000000):n<=maxLen:=by rw[maxLen_eq];omega
theorem NR:OK sD.e:=by
 refine PA.ok mixed (aY [jO.e,qE.e,je.e,iq.e] ⟨qA,LQ,pR,jZ,trivial⟩) O9 (by kernel_rfl) (show∀a0 a1 a2 a3 a4,sD.goal (NS a0 a1 a2 a3 a4) ((a0,a1,a2,a3,a4,()),())from ?_);intro k u c n a hin hp;dsimp only[sD]at hp ⊢;have hn:n.length<=1048576:=hp;have hu:=zB u hin.1.2.1;have ha:=zB a hin.1.2.2.2.2.1;refine⟨trivial,?_⟩;intro r0;refine⟨trivial,?_⟩;intro r1;refine⟨trivial,?_⟩;have e0:aN u=r0:=rfl;have e1:aN a=r1:=rfl;unfold fF;rw[e0,e1]
 clear_value r0 r1
 cases hv:jS k c.length with
 |false=>exact⟨λ_=>False,⟨trivial,rfl⟩,λ_ h=>h.elim⟩
 |true=>
 refine⟨λ_=>(decide ((c.length:Int)>0)&&decide (k>2))=false,⟨trivial,?_⟩,λ_ hj=>?_⟩
 .cases decide ((c.length:Int)>0)<;>cases decide (k>2)<;>first|exact rfl|exact⟨rfl,rfl⟩
 simp only[hj,aon,an2];clear hj hv hp hin;refine aT ((((k==1)&&(r0&&((a==0)&&(n==[])))),()),()) (by cases (k==1)<;>cases r0<;>cases (a==0)<;>exact⟨by trivial,rfl⟩) ?_;refine af (λh=>?_) λh=>?_
 .have h:((k==1)&&(r0&&((a==0)&&(n==[]))))=true:=h;simp only[h,aom];exact⟨trivial,le_max (by simp only[anm,ano,anw];omega),trivial⟩
 replace h:((k==1)&&(r0&&((a==0)&&(n==[]))))=false:=h
 simp only[h,an2];clear h;refine aT ((((k==2)&&(r0&&(r1&&(n==[])))),()),()) (by cases (k==2)<;>cases r0<;>cases r1<;>exact⟨by trivial,rfl⟩) ?_;refine af (λh=>?_) λh=>?_
 .have h:((k==2)&&(r0&&(r1&&(n==[]))))=true:=h;simp only[h,aom];exact⟨trivial,le_max (by simp only[anm,ano,anw];omega),le_max (by simp only[anm,ano,anw];omega),trivial,le_max (by simp only[anm,ano,anw];omega),trivial⟩
 replace h:((k==2)&&(r0&&(r1&&(n==[]))))=false:=h
 simp only[h,an2];clear h;refine aT ((((k==3)&&(r0&&((aF n)&&(a==0)))),()),()) (by cases (k==3)<;>cases r0<;>cases (aF n)<;>exact⟨by trivial,rfl⟩) ?_;refine af (λh=>?_) λh=>?_
 .have h:((k==3)&&(r0&&((aF n)&&(a==0))))=true:=h;simp only[h,aom];exact⟨trivial,le_max (by simp only[anm,ano,anw];omega),le_max (by simp only[anm,ano,anw];omega),le_max (by simp only[anm,ano,anw];omega),trivial⟩
 replace h:((k==3)&&(r0&&((aF n)&&(a==0))))=false:=h
 simp only[h,an2];clear h;refine aT ((((k==4)&&((u==0)&&(r1&&(n==[])))),()),()) (by cases (k==4)<;>cases (u==0)<;>cases r1<;>exact⟨by trivial,rfl⟩) ?_;refine af (λh=>?_) λh=>?_
 .have h:((k==4)&&((u==0)&&(r1&&(n==[]))))=true:=h;simp only[h,aom];exact⟨trivial,le_max (by simp only[anm,ano,anw];omega),trivial⟩
 replace h:((k==4)&&((u==0)&&(r1&&(n==[]))))=false:=h
 simp only[h,an2];clear h;refine aT ((((k==5)&&((u==0)&&(r1&&(n==[])))),()),()) (by cases (k==5)<;>cases (u==0)<;>cases r1<;>exact⟨by trivial,rfl⟩) ?_;refine af (λh=>?_) λh=>?_
 .have h:((k==5)&&((u==0)&&(r1&&(n==[]))))=true:=h;simp only[h,aom];exact⟨trivial,le_max (by simp only[anm,ano,anw];omega),trivial⟩
 replace h:((k==5)&&((u==0)&&(r1&&(n==[]))))=false:=h
 simp only[h,an2];clear h;refine aT ((((k==6)&&((u==0)&&((a==0)&&(n==[])))),()),()) (by cases (k==6)<;>cases (u==0)<;>cases (a==0)<;>exact⟨by trivial,rfl⟩) ?_;refine af (λh=>?_) λh=>?_
 .have h:((k==6)&&((u==0)&&((a==0)&&(n==[]))))=true:=h;simp only[h,aom]
 replace h:((k==6)&&((u==0)&&((a==0)&&(n==[]))))=false:=h
 simp only[h,an2];clear h;refine aT ((((k==7)&&(r0&&(r1&&(aF n)))),()),()) (by cases (k==7)<;>cases r0<;>cases r1<;>exact⟨by trivial,rfl⟩) ?_;refine af (λh=>?_) λh=>?_
 .have h:((k==7)&&(r0&&(r1&&(aF n))))=true:=h;simp only[h,aom];exact⟨trivial,le_max (by simp only[anm,ano,anw];omega),le_max (by simp only[anm,ano,anw];omega),le_max (by simp only[anm,ano,anw];omega),le_max (by simp only[anm,ano,anw];omega),trivial,le_max (by simp only[anm,ano,anw];omega),trivial⟩
 replace h:((k==7)&&(r0&&(r1&&(aF n))))=false:=h
 simp only[h,an2];clear h;refine aT ((((k==8)&&(r0&&(r1&&(aF n)))),()),()) (by cases (k==8)<;>cases r0<;>cases r1<;>exact⟨by trivial,rfl⟩) ?_;refine af (λh=>?_) λh=>?_
 .have h:((k==8)&&(r0&&(r1&&(aF n))))=true:=h;simp only[h,aom];exact⟨trivial,le_max (by simp only[anm,ano,anw];omega),le_max (by simp only[anm,ano,anw];omega),le_max (by simp only[anm,ano,anw];omega),le_max (by simp only[anm,ano,anw];omega),trivial,le_max (by simp only[anm,ano,anw];omega),trivial⟩
 replace h:((k==8)&&(r0&&(r1&&(aF n))))=false:=h
 simp only[h,an2]
theorem sJ(x y:List UInt8):Lib.join [x,y] [32]=x++[32]++y:=by simp[Lib.join_cons,Lib.joinTail]
theorem Bc(x y z:List UInt8):Lib.join [x,y,z] [32]=x++[32]++y++[32]++z:=by simp[Lib.join_cons,Lib.joinTail]
theorem NT(x y z w:List UInt8):Lib.join [x,y,z,w] [32]=x++[32]++y++[32]++z++[32]++w:=by simp[Lib.join_cons,Lib.joinTail]
theorem ahK(x:List UInt8):Lib.join [x] [32]=x:=by simp[Lib.join_cons,Lib.joinTail]
theorem nG{α:Type}[BEq α][LawfulBEq α]{x y:α}(h:x≠y):(x==y)=false/\(y==x)=false/\(x !=y)=true/\(y !=x)=true:=by
 have h1:(x==y)=false:=by simpa using h
 have h2:(y==x)=false:=by simpa using apa h
 exact⟨h1,h2,by simp[bne,h1],by simp[bne,h2]⟩
theorem NU:OK sF.e:=by
 refine PA.ok mixed (aY [(lZ,.pure jL),jf.e,qo.e,qF.e,lS.e] ⟨⟨um,rJ⟩,pU,E8,LV,vg,trivial⟩) Pe (by kernel_rfl) (show∀a0 a1 a2 a3 a4,sF.goal (fG a0 a1 a2 a3 a4) ((a0,a1,a2,a3,a4,()),())from ?_);intro k u c n a hin hp;dsimp only[sF]at hp ⊢;have hn:n.length<=1048576:=hp;have hu:=zB u hin.1.2.1;have ha:=zB a hin.1.2.2.2.2.1;clear hin hp;have eU:iO [(u,()),(a,())]=(aN u&&aN a):=by simp[iO]
 have i0:aN 0=true:=rfl;by_cases k1:k=1
 .subst k1;simp only[fG,Int.reduceBEq,aom,an2];refine aT _ ⟨by trivial,by trivial,rfl⟩ (aT _ ⟨by trivial,rfl⟩ (aT _ ⟨by trivial,rfl⟩ ⟨trivial,?_⟩));dsimp only;rw[eU];unfold fF;simp only[Int.reduceBEq,anQ,aoa,an2,Int.reduceGT,apG,apx,an6,anJ];generalize decide ((c.length:Int)>0)=z;generalize jS 1 c.length=v;by_cases hn:n=[]
  rotate_left
  .cases v<;>cases z<;>simp[hn,nG hn]
  subst hn;by_cases ha:a=0
  rotate_left
  .cases v<;>cases z<;>simp[ha,nG ha]
  subst ha;simp only[i0,anQ,an6,ao4,aol,aon,an2,aor,aom];cases v<;>cases z<;>cases (aN u)<;>simp only[aon,aor,aom,an2,ao3,an6,anJ,anQ]<;>first
   |rfl
   |exact⟨⟨by show 2<=140737488355328;omega,by show(Lib.join [_,_] [32]).length<=_;rw[sJ];simp only[anm,ano,anw]<;>omega⟩,by show(Lib.join [_,_] [32],())=_;rw[sJ];rfl⟩
 by_cases k2:k=2
 .subst k2;simp only[fG,Int.reduceBEq,aom,an2];refine aT _ ⟨by trivial,by trivial,by trivial,rfl⟩ (aT _ ⟨by trivial,rfl⟩ (aT _ ⟨by trivial,rfl⟩ ⟨trivial,?_⟩));dsimp only;rw[eU];unfold fF;simp only[Int.reduceBEq,anQ,aoa,an2,Int.reduceGT,apG,apx,an6,anJ];generalize decide ((c.length:Int)>0)=z;generalize jS 2 c.length=v;by_cases hn:n=[]
  rotate_left
  .cases v<;>cases z<;>simp[hn,nG hn]
  subst hn;simp only[i0,anQ,an6,ao4,aol,aon,an2,aor,aom];cases v<;>cases z<;>cases (aN u)<;>cases (aN a)<;>simp only[aon,aor,aom,an2,ao3,an6,anJ,anQ]<;>first
   |rfl
   |exact⟨⟨by show 3<=140737488355328;omega,by show(Lib.join [_,_,_] [32]).length<=_;rw[Bc];simp only[anm,ano,anw]<;>omega⟩,by show(Lib.join [_,_,_] [32],())=_;rw[Bc];rfl⟩
 by_cases k3:k=3
 .subst k3;simp only[fG,Int.reduceBEq,aom,an2];refine aT _ ⟨by trivial,by trivial,rfl⟩ (aT _ ⟨by trivial,rfl⟩ (aT _ ⟨by trivial,rfl⟩ ⟨trivial,?_⟩));dsimp only;rw[eU];unfold fF;simp only[Int.reduceBEq,anQ,aoa,an2,Int.reduceGT,apG,apx,an6,anJ];generalize decide ((c.length:Int)>0)=z;generalize jS 3 c.length=v;by_cases ha:a=0
  rotate_left
  .cases v<;>cases z<;>simp[ha,nG ha]
  subst ha;simp only[i0,anQ,an6,ao4,aol,aon,an2,aor,aom];cases v<;>cases z<;>cases (aN u)<;>cases (aF n)<;>simp only[aon,aor,aom,an2,ao3,an6,anJ,anQ]<;>first
   |rfl
   |exact⟨⟨by show 3<=140737488355328;omega,by show(Lib.join [_,_,_] [32]).length<=_;rw[Bc];simp only[anm,ano,anw]<;>omega⟩,by show(Lib.join [_,_,_] [32],())=_;rw[Bc];rfl⟩
 by_cases k4:k=4
 .subst k4;simp only[fG,Int.reduceBEq,aom,an2];refine aT _ ⟨by trivial,by trivial,rfl⟩ (aT _ ⟨by trivial,rfl⟩ (aT _ ⟨by trivial,rfl⟩ ⟨trivial,?_⟩));dsimp only;rw[eU];unfold fF;simp only[Int.reduceBEq,anQ,aoa,an2,Int.reduceGT,apG,apx,an6,anJ];generalize decide ((c.length:Int)>0)=z;generalize jS 4 c.length=v;by_cases hu:u=0
  rotate_left
  .cases v<;>cases z<;>simp[hu,nG hu]
  subst hu;by_cases hn:n=[]
  rotate_left
  .cases v<;>cases z<;>simp[hn,nG hn]
  subst hn;simp only[i0,anQ,an6,ao4,aol,aon,an2,aor,aom];cases v<;>cases z<;>cases (aN a)<;>simp only[aon,aor,aom,an2,ao3,an6,anJ,anQ]<;>first
   |rfl
   |exact⟨⟨by show 2<=140737488355328;omega,by show(Lib.join [_,_] [32]).length<=_;rw[sJ];simp only[anm,ano,anw]<;>omega⟩,by show(Lib.join [_,_] [32],())=_;rw[sJ];rfl⟩
 by_cases k5:k=5
 .subst k5;simp only[fG,Int.reduceBEq,aom,an2];refine aT _ ⟨by trivial,⟨by decide,by simp⟩,by simp,by trivial,rfl⟩ (aT _ ⟨by trivial,rfl⟩ (aT _ ⟨by trivial,rfl⟩ ⟨trivial,?_⟩));dsimp only;rw[eU];unfold fF;simp only[Int.reduceBEq,anQ,aoa,an2,Int.reduceGT,apG,apx,an6,anJ];generalize decide ((c.length:Int)>0)=z;generalize jS 5 c.length=v;by_cases hu:u=0
  rotate_left
  .cases v<;>cases z<;>simp[hu,nG hu]
  subst hu;by_cases hn:n=[]
  rotate_left
  .cases v<;>cases z<;>simp[hn,nG hn]
  subst hn;simp only[i0,anQ,an6,ao4,aol,aon,an2,aor,aom];cases v<;>cases z<;>cases (aN a)<;>simp only[aon,aor,aom,an2,ao3,an6,anJ,anQ]<;>first
   |rfl
   |exact⟨⟨by show 2<=140737488355328;omega,by show(Lib.join [_,_] [32]).length<=_;rw[sJ];simp only[anm,ano,anw]<;>omega⟩,by show(Lib.join [_,_] [32],())=_;rw[sJ];rfl⟩
 by_cases k6:k=6
 .subst k6;simp only[fG,Int.reduceBEq,aom,an2];refine aT _ ⟨by trivial,rfl⟩ (aT _ ⟨by trivial,rfl⟩ (aT _ ⟨by trivial,rfl⟩ ⟨trivial,?_⟩));dsimp only;rw[eU];unfold fF;simp only[Int.reduceBEq,anQ,aoa,an2,Int.reduceGT,apG,apx,an6,anJ];generalize decide ((c.length:Int)>0)=z;generalize jS 6 c.length=v;by_cases hu:u=0
  rotate_left
  .cases v<;>cases z<;>simp[hu,nG hu]
  subst hu;by_cases hn:n=[]
  rotate_left
  .cases v<;>cases z<;>simp[hn,nG hn]
  subst hn;by_cases ha:a=0
  rotate_left
  .cases v<;>cases z<;>simp[ha,nG ha]
  subst ha;simp only[i0,anQ,an6,ao4,aol,aon,an2,aor,aom];cases v<;>cases z<;>simp only[aon,aor,aom,an2,ao3,an6,anJ,anQ]<;>first
   |rfl
   |exact⟨⟨by show 1<=140737488355328;omega,by show(Lib.join [_] [32]).length<=_;rw[ahK];simp only[anm,ano,anw]<;>omega⟩,by show(Lib.join [_] [32],())=_;rw[ahK]⟩
 by_cases k7:k=7
 .subst k7;simp only[fG,Int.reduceBEq,aom,an2];refine aT _ ⟨by trivial,by trivial,by trivial,rfl⟩ (aT _ ⟨by trivial,rfl⟩ (aT _ ⟨by trivial,rfl⟩ ⟨trivial,?_⟩));dsimp only;rw[eU];unfold fF;simp only[Int.reduceBEq,anQ,aoa,an2,Int.reduceGT,apG,apx,an6,anJ];generalize decide ((c.length:Int)>0)=z;generalize jS 7 c.length=v;simp only[i0,anQ,an6,ao4,aol,aon,an2,aor,aom];cases v<;>cases z<;>cases (aN u)<;>cases (aN a)<;>cases (aF n)<;>simp only[aon,aor,aom,an2,ao3,an6,anJ,anQ]<;>first
   |rfl
   |exact⟨⟨by show 4<=140737488355328;omega,by show(Lib.join [_,_,_,_] [32]).length<=_;rw[NT];simp only[anm,ano,anw]<;>omega⟩,by show(Lib.join [_,_,_,_] [32],())=_;rw[NT];rfl⟩
 by_cases k8:k=8
 .subst k8;simp only[fG,Int.reduceBEq,aom,an2];refine aT _ ⟨by trivial,by trivial,by trivial,rfl⟩ (aT _ ⟨by trivial,rfl⟩ (aT _ ⟨by trivial,rfl⟩ ⟨trivial,?_⟩));dsimp only;rw[eU];unfold fF;simp only[Int.reduceBEq,anQ,aoa,an2,Int.reduceGT,apG,apx,an6,anJ];generalize decide ((c.length:Int)>0)=z;generalize jS 8 c.length=v;simp only[i0,anQ,an6,ao4,aol,aon,an2,aor,aom];cases v<;>cases z<;>cases (aN u)<;>cases (aN a)<;>cases (aF n)<;>simp only[aon,aor,aom,an2,ao3,an6,anJ,anQ]<;>first
   |rfl
   |exact⟨⟨by show 4<=140737488355328;omega,by show(Lib.join [_,_,_,_] [32]).length<=_;rw[NT];simp only[anm,ano,anw]<;>omega⟩,by show(Lib.join [_,_,_,_] [32],())=_;rw[NT];rfl⟩
 have hv:jS k c.length=false:=by
  unfold jS;by_cases h1:1<=k
  .by_cases h2:k<=8
   .omega
   .simp[h2]
  .simp[h1]
 simp only[fG,nG k1,nG k2,nG k3,nG k4,nG k5,nG k6,nG k7,nG k8,an2];refine aT _ ⟨by trivial,rfl⟩ (aT _ ⟨by trivial,rfl⟩ (aT _ ⟨by trivial,rfl⟩ ⟨trivial,?_⟩));unfold fF;rw[hv];rfl
theorem FV:OK rq.e:=by
 refine PA.ok mixed (aY [jO.e] ⟨qA,trivial⟩) Vq (by kernel_rfl) (show∀text,rq.goal (TA text) (text,())from ?_);intro text hin hp;dsimp only[rq]at hp ⊢;refine af (λh=>?_) λh=>?_
 .exact Iq (QG (by have:=kH h;omega))
 .have hl:text.length<=10:=by have:=jC h;omega
  refine oC (mk:=λi v=>((v,i,()),())) (λy=>y.1.2.1) (λ_ _=>rfl) text.length (by omega)
   (λn v=>v=ja (text.take n)/\∀i,i<n->48<=(text.getD i 0).toNat/\(text.getD i 0).toNat<=57) ⟨rfl,λi hi=>absurd hi (aod _)⟩ (λI μ n v hn hJ next=>?_) λI μ v hJ=>?_
  .obtain⟨rfl,hd⟩:=hJ;obtain⟨b0,b1⟩:=abC hn hl hd;dsimp only;rw[anY];refine qN (by omega) ⟨⟨by omega,by omega⟩,af (λh2=>?_) λh2=>⟨⟨by omega,by omega⟩,af (λh3=>?_) λh3=>⟨⟨by omega,by omega⟩,rfl,?_⟩⟩⟩
   .exact Iq (JG hn (by have:=kH h2;omega))
   .exact Iq (JG hn (by have:=kH h3;omega))
   .have g2:=jC h2;have g3:=jC h3;have w1:IntKind.i64.wrap (10*ja (text.take n))=10*ja (text.take n):=iC _ (by omega);have w2:IntKind.i64.wrap ((text.getD n 0).toNat:Int)=(text.getD n 0).toNat:=iC _ (by omega);have w3:IntKind.i64.wrap (10*ja (text.take n)+(text.getD n 0).toNat)=10*ja (text.take n)+(text.getD n 0).toNat:=iC _ (by omega);have w4:IntKind.i64.wrap (10*ja (text.take n)+(text.getD n 0).toNat-48)=10*ja (text.take n)+(text.getD n 0).toNat-48:=iC _ (by omega);refine next _ ⟨?_,λi hi=>?_⟩
    .rw[w1,w2,w3,w4,ac3 hn];omega
    .rcases anL i n with h5|h5
     .exact hd i h5
     .rw[show i=n by omega];omega
  .obtain⟨rfl,hd⟩:=hJ;dsimp only;rw[aos (anr _)];refine qO (by omega) (af (λh2=>?_) λh2=>⟨trivial,af (λh3=>?_) λh3=>?_⟩)
   .refine Iq ?_;cases hk:aQ text with
    |false=>rfl
    |true=>have:=(wX.1 (AA.1 hk).1).2;have:=kH h2;omega
   .refine Iq ?_;cases hk:aQ text with
    |false=>rfl
    |true=>exact absurd (AA.1 hk).2 (ne_of_beq_false (jX h3))
   .have e:=anH.1 (iD h3);have h0:0<=ja text:=(Ir text.length text rfl (λb hb=>by obtain⟨i,hi,rfl⟩:=aoL.1 hb;have:=hd i hi;rw[anz,anu hi]at this;exact this)).1;have:=Nz (wX.2 ⟨h0,by have:=jC h2;omega⟩) e;rw[this.1,this.2]
theorem sK:OK jP.e:=by
 refine PA.ok mixed (aY [] trivial) QV (by kernel_rfl) (show∀line,jP.goal (Pg line) (line,())from ?_);intro line hin hp;dsimp only[jP]at hp ⊢;have hp:line.length<=1048576:=hp;refine af (λh=>?_) λh=>?_
 .exact(Bz λhh=>by have:=kH h;omega).symm
 .have hl:line.length<=600:=by have:=jC h;omega
  refine oC (mk:=λi(s:Int×Sp.LS)=>(((),s.1,i,()),s.2,())) (λy=>y.1.2.2.1) (λ_ _=>rfl) (line.length+1) (by omega)
   (λn s=>∃b:Nat,s.1=b/\Sp.splitAt line n b s.2) (s0:=((0:Int),[])) ⟨0,rfl,abD line⟩ (λI μ n s hn hJ next=>?_) λI μ s hJ=>?_
  .obtain⟨b,out⟩:=s;obtain⟨b,rfl,hs⟩:=hJ;dsimp only at hs ⊢;have hb:=hs.1;have hout:=hs.2.2.1;have hw:IntKind.i64.wrap ((n:Int)+1)=((n+1:Nat):Int):=iC _ (by omega);rw[anY,anY];refine qN (by omega) ⟨λ_=>n<line.length->oq (line.getD n 0)=true,?_,λ_ hj=>?_⟩
   .refine af (λh2=>⟨⟨by omega,by have:=kH h2;omega⟩,af (λh3=>?_) λh3=>⟨⟨by omega,by have:=kH h2;omega⟩,af (λh4=>?_) λh4=>⟨rfl,λ_=>?_⟩⟩⟩) λh2=>⟨rfl,λhh=>?_⟩
    .exact(Bz λhh=>by have h5:=xk.1 (Vr hh.2.1 (show n<line.length by have:=kH h2;omega));have:=kH h3;omega).symm
    .exact(Bz λhh=>by have h5:=xk.1 (Vr hh.2.1 (show n<line.length by have:=kH h2;omega));have:=kH h4;omega).symm
    .exact xk.2 ⟨by have:=jC h3;omega,by have:=jC h4;omega⟩
    .have:=jC h2;omega
   .have tail:(n<line.length->oq (line.getD n 0)=true/\line.getD n 0=32)->
     bif decide ((b:Int)<n)then((0:Int)<=b/\(b:Int)<=n/\(n:Int)<=line.length)/\List.length out+[(List.drop b (List.take n line),())].length<=big/\(((line,()),())=((line,()),()))/\
         I (((),IntKind.i64.wrap ((n:Int)+1),IntKind.i64.wrap ((n:Int)+1),()),out++[(List.drop b (List.take n line),())],())/\μ (((),IntKind.i64.wrap ((n:Int)+1),IntKind.i64.wrap ((n:Int)+1),()),out++[(List.drop b (List.take n line),())],())<μ (((),(b:Int),(n:Int),()),out,())
      else(((line,()),())=((line,()),()))/\I (((),IntKind.i64.wrap ((n:Int)+1),IntKind.i64.wrap ((n:Int)+1),()),out,())/\μ (((),IntKind.i64.wrap ((n:Int)+1),IntKind.i64.wrap ((n:Int)+1),()),out,())<μ (((),(b:Int),(n:Int),()),out,()):=by
     intro ho;refine af (λh3=>⟨⟨by omega,by omega,by omega⟩,?_,rfl,?_⟩) λh3=>⟨rfl,?_⟩
     .rw[afF];show _+1<=_;omega
     .exact next (IntKind.i64.wrap ((n:Int)+1),out++[((line.take n).drop b,())]) ⟨n+1,hw,abE hs (by omega) (by have:=kH h3;omega) ho⟩
     .exact next (IntKind.i64.wrap ((n:Int)+1),out) ⟨n+1,hw,abG hs (by omega) (by have:=jC h3;omega) ho⟩
    refine af (λh2=>⟨⟨by omega,by have:=kH h2;omega⟩,af (λh3=>⟨rfl,?_⟩) λh3=>?_⟩) λh2=>?_
    .have hn2:n<line.length:=by have:=kH h2;omega
     exact next ((b:Int),out) ⟨b,rfl,abH hs hn2 (hj hn2) λe=>by rw[e]at h3;revert h3;decide⟩
    .refine tail λhn2=>⟨hj hn2,?_⟩;have h3:((line.getD n 0).toNat:Int)=32:=by simpa using h3
     exact aqd.1 (by show _=32;omega)
    .exact tail λhn2=>by have:=jC h2;omega
  .obtain⟨b,out⟩:=s;obtain⟨b,rfl,hs⟩:=hJ;dsimp only at hs ⊢;obtain⟨h1,h2⟩:=ac4 hs;subst h2;refine qO (by omega) (af (λh2=>?_) λh2=>?_)
   .exact(Bz λhh=>by have:=kH h2;rw[nH]at this;omega).symm
   .exact(Zw (mV.2 ⟨hl,h1,by have:=jC h2;rw[nH]at this;omega⟩)).symm
theorem Dt:OK qV.e:=by
 refine PA.ok mixed (aY [] trivial) Yx (by kernel_rfl) (show∀p,qV.goal (WW p) (p,())from ?_);intro p hin hp;dsimp only[qV]at hp ⊢;have hp1:p.length<=1000:=hp.1;have hp2:(dX p).length<=2097152:=hp.2;refine oC (mk:=λi s=>((s,i,()),())) (λy=>y.1.2.1) (λ_ _=>rfl) p.length (by omega) (λn s=>s=dX (p.take n)) rfl (λI μ n s hn hJ next=>?_) λI μ s hJ=>?_
 .subst hJ;have e:=aeO hn;have hle:=aae p (n+1);have hll:=congrArg List.length e;have h1:([32]:Sp.Bytes).length=1:=rfl;dsimp only;rw[anY];refine qN (by omega) (af (λh2=>?_) λh2=>?_)
  .have hn0:n≠0:=by have:=kH h2;omega
   rw[if_neg hn0]at e hll;rw[anm,anm,h1]at hll;refine⟨?_,⟨by omega,by omega⟩,?_,rfl,next _ e.symm⟩
   .rw[maxLen_eq,h1];omega
   .rw[maxLen_eq,anm,h1];omega
  .have hn0:n=0:=by have:=jC h2;omega
   subst hn0;refine⟨⟨by omega,by omega⟩,?_,rfl,next _ e.symm⟩;have h0:(dX (p.take 0)).length=0:=rfl;rw[maxLen_eq,h0];rw[if_pos rfl,aoh]at hll;omega
 .subst hJ;dsimp only;refine qO (by omega) ?_;rw[aos (anr _)]
theorem yw:OK iW.e:=by
 refine PA.ok mixed (aY [(wY,.pure tV),jl.e] ⟨⟨FU,EZ⟩,mM,trivial⟩) QW (by kernel_rfl) (show∀line,iW.goal (Ph line) (line,())from ?_);intro line hin hp;dsimp only[iW]at hp ⊢;refine af (λh=>?_) λh=>?_
 .exact(Bz λhh=>by have:=kH h;omega).symm
 .have hl:line.length<=600:=by have:=jC h;omega
  refine GZ line.length (by omega) (λn=>∀i,i<n->oq (line.getD i 0)=true) (λi hi=>absurd hi (aod _)) (λI μ n hn hJ next=>?_) λI μ hJ=>?_
  .dsimp only;rw[anY,aeP];refine qN (by omega) ⟨⟨by omega,by omega⟩,trivial,af (λh2=>?_) λh2=>⟨rfl,next λi hi=>?_⟩⟩
   .exact(Bz λhh=>by have:=Vr hh.2.1 hn;rw[jX h2]at this;cases this).symm
   .rcases anL i n with h5|h5
    .exact hJ i h5
    .rw[show i=n by omega];exact iD h2
  .dsimp only;have hall:=abI hJ;refine qO (by omega) ⟨⟨hp,abJ hall⟩,af (λh2=>?_) λh2=>?_⟩
   .exact(Bz λhh=>by have:=kH h2;rw[nH]at this;omega).symm
   .exact(Zw (mV.2 ⟨hl,hall,by have:=jC h2;rw[nH]at this;omega⟩)).symm
theorem yH:OK lV.e:=by
 refine PA.ok mixed (aY [] trivial) H0 (by kernel_rfl) (show∀p at',lV.goal (WX p at') (p,at',())from ?_);intro w i hin hp;dsimp only[lV]at hp ⊢;refine af (λh=>?_) λh=>⟨⟨hp,by have:=jC h;omega⟩,?_⟩
 .rw[nU (kH h)]
 .rw[jb (by have:=jC h;omega)]
theorem Ej:OK sS.e:=by
 refine PA.ok mixed (aY [] trivial) H0 (by kernel_rfl) (show∀w i,sS.goal (Yy w i) (w,i,())from ?_);intro w i hin hp;dsimp only[sS]at hp ⊢;refine af (λh=>?_) λh=>⟨⟨hp,by have:=jC h;omega⟩,?_⟩
 .rw[nU (kH h)]
 .rw[jb (by have:=jC h;omega)]
theorem Em:OK sU.e:=by refine PA.ok mixed (aY [rq.e,lV.e] ⟨FV,yH,trivial⟩) H0 (by kernel_rfl) (show∀p at',sU.goal (Yz p at') (p,at',())from ?_);intro w i hin hp;dsimp only[sU]at hp ⊢;exact⟨hp,trivial,rfl⟩
theorem Iu:OK tX.e:=by refine PA.ok mixed (aY [(rH,.pure oM),sS.e] ⟨⟨zY,yV⟩,Ej,trivial⟩) H0 (by kernel_rfl) (show∀w i,tX.goal (Vs w i) (w,i,())from ?_);intro w i hin hp;dsimp only[tX]at hp ⊢;exact⟨hp,trivial,rfl⟩
theorem J7:OK oW.e:=by
 refine PA.ok mixed (aY [] trivial) LX (by kernel_rfl) (show∀s1 s2,oW.goal (J8 s1 s2) (s1,s2,())from ?_);intro a b hin hp;dsimp only[oW]at hp ⊢;have hlen:a.length<=maxLen:=hin.1.1;rw[maxLen_eq]at hlen;refine af (λh=>?_) λh=>?_
 .have h:(a.length:Int)≠b.length:=by simpa using h
  exact congrArg (·,()) (anM λe=>h (by rw[e])).symm
 .have h:(a.length:Int)=b.length:=by simpa using h
  exact YA (K:=λr=>r=(decide (a=b),())) (λx y=>!(x.1==y.1)) (λx y=>by simp[aqc]) _ a b _ hlen (by omega) (λe=>by rw[anM e]) λe=>by rw[anF e]
theorem Fa:OK qj.e:=by
 refine PA.ok mixed (aY [oW.e,(wY,.pure tV)] ⟨J7,⟨FU,EZ⟩,trivial⟩) H0 (by kernel_rfl) (show∀text w,qj.goal (QX text w) (text,w,())from ?_);intro text w hin hp;dsimp only[qj]at hp ⊢;refine af (λh=>⟨hp,trivial,?_⟩) λh=>?_
 .rw[h,anQ]
 .rw[h,aoa]
theorem Pj:OK tY.e:=by
 refine PA.ok mixed (aY [qV.e,sD.e,lV.e,sU.e,jP.e] ⟨Dt,NR,yH,Em,sK,trivial⟩) QY (by kernel_rfl) (show∀line,tY.goal (Pm line) (line,())from ?_);intro line hin hp;dsimp only[tY]at hp ⊢;have hp:line.length<=1048576:=hp;refine⟨hp,λ_=>bZ line=true/\ai line≠[],?_,λ_ hj=>?_⟩
 .refine af (λh=>Fb (adI (jX h))) λh=>af (λh2=>?_) λh2=>⟨rfl,iD h,λe=>?_⟩
  .have h2:((ai line).length:Int)=0:=by simpa using h2
   refine Fb (adJ ?_);rw[← (ku (iD h)).1];exact anV.1 (by omega)
  .rw[e]at h2;revert h2;decide
 .obtain⟨hok,hne⟩:=hj;obtain⟨hw,hl1,hl2,hl3,hl4⟩:=ku hok;have hlen:0<(ai line).length:=aph.2 hne;have e0:(List.getD (ai line) (Int.toNat (0:Int)) ([],())).fst=Sp.wordAt (ai line) 0:=(jb (by omega)).symm;refine⟨λy=>y=((),((dL (ai line)).1,(dL (ai line)).2.1,(),(dL (ai line)).2.2.1,(dL (ai line)).2.2.2,()),()),⟨⟨by decide,by omega⟩,?_⟩,?_⟩
  .rw[e0];have n1:(0:Int)<=1:=by decide
   have n2:(0:Int)<=2:=by decide
   have n3:(0:Int)<=3:=by decide
   unfold dL;cases Sp.wordAt (ai line) 0==[99,111,109,109,105,116]with
   |true=>exact⟨n1,rfl,rfl⟩
   |false=>
   cases Sp.wordAt (ai line) 0==[99,114,97,115,104]with
   |true=>exact⟨n1,n2,rfl,rfl⟩
   |false=>
   cases Sp.wordAt (ai line) 0==[119,97,116,99,104]with
   |true=>exact⟨n1,n2,rfl,rfl⟩
   |false=>
   cases Sp.wordAt (ai line) 0==[112,105,110]with
   |true=>exact⟨n1,rfl,rfl⟩
   |false=>
   cases Sp.wordAt (ai line) 0==[117,110,112,105,110]with
   |true=>exact⟨n1,rfl,rfl⟩
   |false=>
   cases Sp.wordAt (ai line) 0==[99,111,108,108,101,99,116]with
   |true=>exact⟨rfl,rfl⟩
   |false=>
   cases Sp.wordAt (ai line) 0==[97,100,100]with
   |true=>exact⟨n1,n2,n3,rfl,rfl⟩
   |false=>
   cases Sp.wordAt (ai line) 0==[114,101,109,111,118,101]with
   |true=>exact⟨n1,n2,n3,rfl,rfl⟩
   |false=>exact⟨rfl,rfl⟩
  .rintro _ rfl;dsimp only;rw[hw];have hwne:(Sp.wordsOf line==[])=false:=ann.2 (by rw[← hw];exact hne);refine⟨hl3,af (λh=>?_) λh=>⟨⟨hl1,hl2⟩,af (λh2=>?_) λh2=>?_⟩⟩
   .refine Fb ?_;have h:(gK (dL (Sp.wordsOf line))==[])=true:=h;unfold cu;rw[h,aon,aoa,anJ]
   .refine Fb ?_;have h2:(gK (dL (Sp.wordsOf line))==dX (Sp.wordsOf line))=false:=jX h2;unfold cu;rw[h2,anJ,anJ]
   .refine adK ?_;have h:(gK (dL (Sp.wordsOf line))==[])=false:=h;have h2:(gK (dL (Sp.wordsOf line))==dX (Sp.wordsOf line))=true:=iD h2;unfold cu;rw[hok,hwne,h,h2];rfl
theorem Pn:OK lY.e:=by
 refine PA.ok mixed (aY [qj.e,sF.e,sS.e,tX.e,iW.e] ⟨Fa,NU,Ej,Iu,yw,trivial⟩) QZ (by kernel_rfl) (show∀line,lY.goal (Po line) (line,())from ?_);intro line hin hp;dsimp only[lY]at hp ⊢;have hp:line.length<=1048576:=hp;refine⟨hp,λ_=>bZ line=true/\ai line≠[],?_,λ_ hj=>?_⟩
 .refine af (λh=>Fb (adI (jX h))) λh=>af (λh2=>?_) λh2=>⟨rfl,iD h,λe=>?_⟩
  .have h2:((ai line).length:Int)=0:=by simpa using h2
   refine Fb (adJ ?_);rw[← (ku (iD h)).1];exact anV.1 (by omega)
  .rw[e]at h2;revert h2;decide
 .obtain⟨hok,hne⟩:=hj;obtain⟨hw,hl1,hl2,hl3,hl4⟩:=ku hok;have hlen:0<(ai line).length:=aph.2 hne;have hlen2:(0:Int)<((ai line).length:Int):=by omega
  have e0:(List.getD (ai line) (Int.toNat (0:Int)) ([],())).fst=Sp.wordAt (ai line) 0:=(jb (by omega)).symm;refine⟨λy=>y=((YB (ai line),()),((dL (ai line)).1,(dL (ai line)).2.1,(),(dL (ai line)).2.2.1,(dL (ai line)).2.2.2,()),()),⟨⟨by decide,hlen2⟩,?_⟩,?_⟩
  .rw[e0,hok];have n0:(0:Int)<=0:=by decide
   have n1:(0:Int)<=1:=by decide
   have n2:(0:Int)<=2:=by decide
   have n3:(0:Int)<=3:=by decide
   unfold dL YB xq zC zD Gz zF uw GH xu;cases Sp.wordAt (ai line) 0==[99,111,109,109,105,116]with
   |true=>exact⟨n1,rfl,rfl⟩
   |false=>
   cases Sp.wordAt (ai line) 0==[99,114,97,115,104]with
   |true=>exact⟨n1,n2,rfl,rfl⟩
   |false=>
   cases Sp.wordAt (ai line) 0==[119,97,116,99,104]with
   |true=>exact⟨n1,n2,rfl,rfl⟩
   |false=>
   refine⟨λy=>y=(((Sp.wordAt (ai line) 0==[112,105,110])||(Sp.wordAt (ai line) 0==[117,110,112,105,110]),()),()),?_,?_⟩
   .cases Sp.wordAt (ai line) 0==[112,105,110]<;>exact⟨rfl,rfl⟩
   rintro _ rfl;dsimp only;cases h4:Sp.wordAt (ai line) 0==[112,105,110]with
   |true=>
    have h5:(Sp.wordAt (ai line) 0==[117,110,112,105,110])=false:=by rw[anH.1 h4];decide
    rw[h5];exact⟨⟨n0,hlen2⟩,n1,rfl,rfl⟩
   |false=>
   cases Sp.wordAt (ai line) 0==[117,110,112,105,110]with
   |true=>exact⟨⟨n0,hlen2⟩,n1,rfl,rfl⟩
   |false=>
   cases Sp.wordAt (ai line) 0==[99,111,108,108,101,99,116]with
   |true=>exact⟨rfl,rfl⟩
   |false=>
   cases h7:Sp.wordAt (ai line) 0==[97,100,100]with
   |true=>
    have h8:(Sp.wordAt (ai line) 0==[114,101,109,111,118,101])=false:=by rw[anH.1 h7];decide
    rw[h8];exact⟨⟨n0,hlen2⟩,n1,n2,n3,rfl,rfl⟩
   |false=>
   cases Sp.wordAt (ai line) 0==[114,101,109,111,118,101]with
   |true=>exact⟨⟨n0,hlen2⟩,n1,n2,n3,rfl,rfl⟩
   |false=>exact⟨rfl,rfl⟩
  .rintro _ rfl;dsimp only;rw[hw];have hwne:(Sp.wordsOf line==[])=false:=ann.2 (by rw[← hw];exact hne);have heq:=aaf line;rw[hok,hwne,aor,anQ,anQ]at heq;refine af (λh=>?_) λh=>⟨hl3,⟨hl4,aag _⟩,af (λh2=>?_) λh2=>?_⟩
   .refine Fb ?_;rw[heq,jX h,aoa]
   .refine Fb ?_;have h2:(!(gK (dL (Sp.wordsOf line))==[])&&decide (Sp.wordsOf (gK (dL (Sp.wordsOf line)))=Sp.wordsOf line))=false:=jX h2;rw[heq,h2,anJ]
   .refine adK ?_;have h2:(!(gK (dL (Sp.wordsOf line))==[])&&decide (Sp.wordsOf (gK (dL (Sp.wordsOf line)))=Sp.wordsOf line))=true:=iD h2;rw[heq,h2,iD h];rfl
end Go.Proofs.Tryz
namespace Go.Proofs.Tryz
open Go Go.Fw Go.IntWalk Sp
theorem D5:OK lW.e:=by
 refine PA.ok mixed (aY [lS.e,jy.e] ⟨vg,qM,trivial⟩) H0 (by kernel_rfl) (show∀v0 v1 v2,lW.goal (Pq v0 v1 v2) ((v0,v1,v2,()),())from ?_);intro v0 v1 v2 hin hp;dsimp only[lW]at hp ⊢;refine⟨trivial,?_⟩;unfold bC;dsimp only;cases !bg v0 v1 v2 with
 |true=>exact rfl
 |false=>
 cases v0==1 with
 |true=>exact⟨trivial,rfl⟩
 |false=>cases v0==2<;>exact rfl
theorem yx:OK jQ.e:=by
 refine PA.ok mixed (aY [jO.e,jw.e] ⟨qA,qL,trivial⟩) H0 (by kernel_rfl) (show∀v0 v1 v2,jQ.goal (Pv v0 v1 v2) ((v0,v1,v2,()),())from ?_);intro v0 v1 v2 hin hp;dsimp only[jQ]at hp ⊢;refine⟨trivial,?_⟩;unfold bC;dsimp only;cases !bg v0 v1 v2 with
 |true=>exact rfl
 |false=>
 cases v0==1 with
 |true=>exact⟨trivial,rfl⟩
 |false=>cases v0==2<;>exact rfl
theorem YC{n:Int}(h:0<=n):bg 1 n []=decide (n<=999):=by unfold bg;simp[h]
theorem YD(s:List UInt8):bg 2 0 s=aF s:=by unfold bg;simp
theorem aeQ:aQ [45]=false:=by decide
theorem Vt:OK yE.e:=by refine PA.ok mixed (aY [] trivial) H0 (by kernel_rfl) (show∀n,yE.goal (Vu n) (n,())from ?_);intro n hin hp;dsimp only[yE]at hp ⊢;exact rfl
theorem Fe:OK kN.e:=by
 refine PA.ok mixed (aY [jy.e,tN.e,yE.e,(rH,.pure oM)] ⟨qM,O7,Vt,⟨zY,yV⟩,trivial⟩) H0 (by kernel_rfl) (show∀s,kN.goal (Q5 s) (s,())from ?_);intro s hin hp;dsimp only[kN]at hp ⊢;have h0:=(wX.1 (A8 s)).1;refine⟨trivial,?_⟩;unfold aW;cases hk:aQ s with
 |true=>
  refine⟨trivial,trivial,?_⟩;dsimp only;rw[YC h0];cases decide (Sp.parseNum s<=999)<;>exact rfl
 |false=>
  cases hs:s==[45]with
  |true=>exact⟨trivial,rfl⟩
  |false=>refine⟨trivial,trivial,?_⟩;dsimp only;rw[YD];cases aF s<;>exact rfl
theorem Fg:OK nN.e:=by
 refine PA.ok mixed (aY [jQ.e,jw.e,yB.e,tH.e,rq.e] ⟨yx,qL,Vl,O0,FV,trivial⟩) H0 (by kernel_rfl) (show∀s,nN.goal (Q7 s) (s,())from ?_);intro s hin hp;dsimp only[nN]at hp ⊢;have h0:=(wX.1 (A8 s)).1;unfold aW;refine af (λh=>?_) λh=>?_
 .have e:s=[45]:=anH.1 h;subst e;rw[aeQ,h];rfl
 rw[h];refine⟨trivial,trivial,?_⟩;cases hk:aQ s with
 |true=>
  refine⟨trivial,trivial,?_⟩;dsimp only;rw[YC h0];cases h9:decide (Sp.parseNum s<=999)with
  |false=>exact rfl
  |true=>
   refine⟨trivial,?_⟩;have e:bC (1,Sp.parseNum s,[],())=s:=by unfold bC;dsimp only;rw[YC h0,h9];exact(iL hk).1
   rw[e,aol];exact rfl
 |false=>
  refine⟨trivial,?_⟩;dsimp only;rw[YD];cases hv:aF s with
  |false=>exact rfl
  |true=>
   refine⟨trivial,?_⟩;have e:bC (2,0,s,())=s:=by unfold bC;dsimp only;rw[YD,hv];rfl
   rw[e,aol];exact rfl
theorem afV{op:Int}(h:(decide (1<=op)&&decide (op<=9))=false):dZ op=[63]:=by rw[Bool.and_eq_false_iff,an5,an5]at h;unfold dZ;rw[ann.2 (show op≠1 by omega),ann.2 (show op≠2 by omega),ann.2 (show op≠3 by omega),ann.2 (show op≠4 by omega),ann.2 (show op≠5 by omega),ann.2 (show op≠6 by omega),ann.2 (show op≠7 by omega),ann.2 (show op≠8 by omega),ann.2 (show op≠9 by omega)];rfl
theorem ahL{op:Int}(h:(decide (1<=op)&&decide (op<=9))=true):op=1\/op=2\/op=3\/op=4\/op=5\/op=6\/op=7\/op=8\/op=9:=by rw[anl,anA,anA]at h;omega
theorem FX:OK jR.e:=by
 refine PA.ok mixed (aY [jl.e] ⟨mM,trivial⟩) H0 (by kernel_rfl) (show∀op,jR.goal (TB op) (op,())from ?_);intro op hin hp;dsimp only[jR]at hp ⊢;refine⟨trivial,af (λh=>?_) λh=>?_⟩
 .exact congrArg (·,()) (afV (jX h)).symm
 .rcases ahL (iD h)with e|e|e|e|e|e|e|e|e<;>subst e<;>exact⟨by decide,rfl⟩
theorem FY:OK lT.e:=by
 refine PA.ok mixed (aY [iq.e] ⟨jZ,trivial⟩) H0 (by kernel_rfl) (show∀op,lT.goal (TD op) (op,())from ?_);intro op hin hp;dsimp only[lT]at hp ⊢;refine⟨trivial,af (λh=>?_) λh=>?_⟩
 .exact congrArg (·,()) (afV (jX h)).symm
 .rcases ahL (iD h)with e|e|e|e|e|e|e|e|e<;>subst e<;>exact⟨by decide,rfl⟩
theorem dH{n:Nat}(h:n<=100000000000):n<=maxLen:=by rw[maxLen_eq];omega
theorem pV{n:Nat}(h:n<=4000000000):n<=big:=by rw[afF];omega
theorem Du{n:Nat}(h:Nat.ble n 10=true):n<=big:=pV (anx (aoy h) (by decide))
theorem xO{n:Nat}(h:Nat.ble n 10=true):n<=140737488355328:=anx (aoy h) (by decide)
theorem Jf[oL](J9:gW prog G pG sO):gW prog G Az yM:=by
 refine Jg (aY [(lZ,.pure jL),(pG,.pure sO),lW.e,jR.e] ⟨⟨um,rJ⟩,⟨J9,I8⟩,D5,FX,trivial⟩) ?_;intro q i hin hp;obtain⟨⟨ho,h0,hl⟩,hf⟩:=hp;have hT:(Lib.join (bD (i.toNat+1) q i) [32]).length<=140737488355328:=anx (abK ho h0 hl) (by decide);have hlen:=(kz ho).2;have hn:=(nI ho (show i.toNat<q.length by omega)).1;refine⟨⟨h0,hl⟩,trivial,?_⟩;have eN:q.getD i.toNat (0,0,0,[],0,0,[],())=Sp.nodeAt q i.toNat:=rfl;dsimp only;rw[eN];rcases Zx hn with c|c|c
 .have e:=adL (q:=q) (i:=i) i.toNat c;rw[e]at hT ⊢;generalize Sp.nodeAt q i.toNat=n at c hT;obtain⟨op,l,r,s,v⟩:=n;dsimp only at c hT ⊢;rcases c with rfl|rfl|rfl|rfl|rfl|rfl
  .exact aT ((false,()),()) ⟨rfl,rfl⟩ ⟨⟨xO rfl,hT⟩,rfl⟩
  .exact aT ((true,()),()) ⟨rfl,rfl⟩ ⟨Du rfl,⟨xO rfl,hT⟩,rfl⟩
  .exact aT ((false,()),()) ⟨rfl,rfl⟩ ⟨trivial,Du rfl,⟨xO rfl,hT⟩,rfl⟩
  .exact aT ((false,()),()) ⟨rfl,rfl⟩ ⟨trivial,Du rfl,⟨xO rfl,hT⟩,rfl⟩
  .exact aT ((true,()),()) ⟨rfl,rfl⟩ ⟨Du rfl,⟨xO rfl,hT⟩,rfl⟩
  .exact aT ((true,()),()) ⟨rfl,rfl⟩ ⟨Du rfl,⟨xO rfl,hT⟩,rfl⟩
 .obtain⟨e,k0,k1⟩:=afW ho h0 hl c;rw[e]at hT ⊢;have e2:=WY (dZ 5) (BU (Sp.nodeAt q i.toNat).2.1.toNat q (Sp.nodeAt q i.toNat).2.1);rw[← e2]at hT ⊢;have hk:(aH q=true/\0<=(Sp.nodeAt q i.toNat).2.1/\(Sp.nodeAt q i.toNat).2.1<(q.length:Int))/\(Sp.nodeAt q i.toNat).2.1.toNat<jd:=⟨⟨ho,k0,by omega⟩,by omega⟩;rw[c];exact aT ((false,()),()) ⟨rfl,rfl⟩ ⟨hk,Du rfl,⟨xO rfl,hT⟩,rfl⟩
 .obtain⟨e,⟨k0,k1⟩,m0,m1⟩:=afX ho h0 hl c;rw[e]at hT ⊢;have e2:=WZ (dZ (Sp.nodeAt q i.toNat).1) (BU (Sp.nodeAt q i.toNat).2.1.toNat q (Sp.nodeAt q i.toNat).2.1) (BU (Sp.nodeAt q i.toNat).2.2.1.toNat q (Sp.nodeAt q i.toNat).2.2.1);rw[← e2]at hT ⊢;have hk:(aH q=true/\0<=(Sp.nodeAt q i.toNat).2.1/\(Sp.nodeAt q i.toNat).2.1<(q.length:Int))/\(Sp.nodeAt q i.toNat).2.1.toNat<jd:=⟨⟨ho,k0,by omega⟩,by omega⟩;have hm:(aH q=true/\0<=(Sp.nodeAt q i.toNat).2.2.1/\(Sp.nodeAt q i.toNat).2.2.1<(q.length:Int))/\(Sp.nodeAt q i.toNat).2.2.1.toNat<jd:=⟨⟨ho,m0,by omega⟩,by omega⟩;rcases c with c|c<;>rw[c]at hT ⊢
  .exact aT ((false,()),()) ⟨rfl,rfl⟩ ⟨hk,hm,Du rfl,⟨xO rfl,hT⟩,rfl⟩
  .exact aT ((false,()),()) ⟨rfl,rfl⟩ ⟨hk,hm,Du rfl,⟨xO rfl,hT⟩,rfl⟩
theorem TF:gW prog G Bv EN:=
 afD (λn=>@BH ⟨n⟩) (λn=>@Ad ⟨n⟩) (by rintro⟨q,at',⟨⟩⟩ h;exact aod _ h.2) (by rintro _ ⟨q,at',⟨⟩⟩;rfl) (by rintro⟨q,at',⟨⟩⟩ h;exact⟨_,h,ao8 _⟩) (by rintro _ ⟨q,at',⟨⟩⟩;rfl) λn h=>@Jf ⟨n⟩ h
theorem LY[oL](NV:gW prog G sG vF):gW prog G Dn Af:=by
 refine LZ (aY [(sG,.pure vF),jQ.e,lT.e] ⟨⟨NV,Lu⟩,yx,FY,trivial⟩) ?_;intro q i hin hp;obtain⟨⟨ho,h0,hl⟩,hf⟩:=hp;have hT:=abK ho h0 hl;have hlen:=(kz ho).2;have hn:=(nI ho (show i.toNat<q.length by omega)).1;refine⟨⟨h0,hl⟩,trivial,?_⟩;have eN:q.getD i.toNat (0,0,0,[],0,0,[],())=Sp.nodeAt q i.toNat:=rfl;dsimp only;rw[eN];rcases Zx hn with c|c|c
 .have e:=adL (q:=q) (i:=i) i.toNat c;rw[e]at hT ⊢;generalize Sp.nodeAt q i.toNat=n at c hT;obtain⟨op,l,r,s,v⟩:=n;dsimp only at c hT ⊢;rcases c with rfl|rfl|rfl|rfl|rfl|rfl
  .exact aT ((false,()),()) ⟨rfl,rfl⟩ rfl
  .have e2:Lib.join (iR (2,l,r,s,v)) [32]=dZ 2++[32]++s:=sJ _ _;rw[e2]at hT ⊢;simp only[anm]at hT;exact aT ((true,()),()) ⟨rfl,rfl⟩ ⟨dH (by omega),dH (by rw[anm];omega),rfl⟩
  .have e2:Lib.join (iR (3,l,r,s,v)) [32]=dZ 3++[32]++s++[32]++bC v:=Bc _ _ _;rw[e2]at hT ⊢;simp only[anm]at hT;exact aT ((false,()),()) ⟨rfl,rfl⟩ ⟨dH (by omega),dH (by simp only[anm];omega),dH (by simp only[anm];omega),trivial,dH (by simp only[anm];omega),rfl⟩
  .have e2:Lib.join (iR (4,l,r,s,v)) [32]=dZ 4++[32]++s++[32]++bC v:=Bc _ _ _;rw[e2]at hT ⊢;simp only[anm]at hT;exact aT ((false,()),()) ⟨rfl,rfl⟩ ⟨dH (by omega),dH (by simp only[anm];omega),dH (by simp only[anm];omega),trivial,dH (by simp only[anm];omega),rfl⟩
  .have e2:Lib.join (iR (8,l,r,s,v)) [32]=dZ 8++[32]++s:=sJ _ _;rw[e2]at hT ⊢;simp only[anm]at hT;exact aT ((true,()),()) ⟨rfl,rfl⟩ ⟨dH (by omega),dH (by rw[anm];omega),rfl⟩
  .have e2:Lib.join (iR (9,l,r,s,v)) [32]=dZ 9++[32]++s:=sJ _ _;rw[e2]at hT ⊢;simp only[anm]at hT;exact aT ((true,()),()) ⟨rfl,rfl⟩ ⟨dH (by omega),dH (by rw[anm];omega),rfl⟩
 .obtain⟨e,k0,k1⟩:=afW ho h0 hl c;rw[e]at hT ⊢;have e2:=WY (dZ 5) (BU (Sp.nodeAt q i.toNat).2.1.toNat q (Sp.nodeAt q i.toNat).2.1);rw[sJ]at e2;rw[← e2]at hT ⊢;simp only[anm]at hT;have hk:(aH q=true/\0<=(Sp.nodeAt q i.toNat).2.1/\(Sp.nodeAt q i.toNat).2.1<(q.length:Int))/\(Sp.nodeAt q i.toNat).2.1.toNat<jd:=⟨⟨ho,k0,by omega⟩,by omega⟩;rw[c];exact aT ((false,()),()) ⟨rfl,rfl⟩ ⟨dH (by omega),hk,dH (by simp only[anm];omega),rfl⟩
 .obtain⟨e,⟨k0,k1⟩,m0,m1⟩:=afX ho h0 hl c;rw[e]at hT ⊢;have e2:=WZ (dZ (Sp.nodeAt q i.toNat).1) (BU (Sp.nodeAt q i.toNat).2.1.toNat q (Sp.nodeAt q i.toNat).2.1) (BU (Sp.nodeAt q i.toNat).2.2.1.toNat q (Sp.nodeAt q i.toNat).2.2.1);rw[Bc]at e2;rw[← e2]at hT ⊢;simp only[anm]at hT;have hk:(aH q=true/\0<=(Sp.nodeAt q i.toNat).2.1/\(Sp.nodeAt q i.toNat).2.1<(q.length:Int))/\(Sp.nodeAt q i.toNat).2.1.toNat<jd:=⟨⟨ho,k0,by omega⟩,by omega⟩;have hm:(aH q=true/\0<=(Sp.nodeAt q i.toNat).2.2.1/\(Sp.nodeAt q i.toNat).2.2.1<(q.length:Int))/\(Sp.nodeAt q i.toNat).2.2.1.toNat<jd:=⟨⟨ho,m0,by omega⟩,by omega⟩;rcases c with c|c<;>rw[c]at hT ⊢
  .exact aT ((false,()),()) ⟨rfl,rfl⟩ ⟨dH (by omega),hk,dH (by simp only[anm];omega),dH (by simp only[anm];omega),hm,dH (by simp only[anm];omega),rfl⟩
  .exact aT ((false,()),()) ⟨rfl,rfl⟩ ⟨dH (by omega),hk,dH (by simp only[anm];omega),dH (by simp only[anm];omega),hm,dH (by simp only[anm];omega),rfl⟩
theorem W9:gW prog G Eh G9:=
 afD (λn=>@DR ⟨n⟩) (λn=>@CJ ⟨n⟩) (by rintro⟨q,at',⟨⟩⟩ h;exact aod _ h.2) (by rintro _ ⟨q,at',⟨⟩⟩;rfl) (by rintro⟨q,at',⟨⟩⟩ h;exact⟨_,h,ao8 _⟩) (by rintro _ ⟨q,at',⟨⟩⟩;rfl) λn h=>@LY ⟨n⟩ h
theorem abL{q:List aC}(h:aH q=true):bD (((q.length:Int)-1).toNat+1) q ((q.length:Int)-1)=bD 9 q ((q.length:Int)-1):=by have hl:=kz h;exact yX h _ _ _ (by omega) (by omega) (by omega) (by omega)
theorem D6:OK oN.e:=by
 refine PA.ok mixed (aY [(Bv,.pure EN),iJ.e] ⟨⟨TF,QJ⟩,wZ,trivial⟩) H0 (by kernel_rfl) (show∀q,oN.goal (Px q) (q,())from ?_);intro q hin hp;dsimp only[oN]at hp ⊢;have hp:q.length<=2000000:=hp;refine⟨hp,?_⟩;unfold Sp.textOf;cases h:aH q with
 |false=>exact rfl
 |true=>have hl:=kz h;have hw:IntKind.i64.wrap ((q.length:Int)-1)=(q.length:Int)-1:=iC _ (by omega);rw[hw];dsimp only;rw[abL h];exact⟨⟨rfl,by omega,by omega⟩,rfl⟩
theorem yA:OK lX.e:=by
 refine PA.ok mixed (aY [(Eh,.pure G9),oh.e] ⟨⟨W9,Vj⟩,Dq,trivial⟩) H0 (by kernel_rfl) (show∀q,lX.goal (Py q) (q,())from ?_);intro q hin hp;dsimp only[lX]at hp ⊢;have hp:q.length<=2000000:=hp;refine⟨hp,?_⟩;unfold Sp.textOf;cases h:aH q with
 |false=>exact rfl
 |true=>have hl:=kz h;have hw:IntKind.i64.wrap ((q.length:Int)-1)=(q.length:Int)-1:=iC _ (by omega);rw[hw];dsimp only;rw[abL h];exact⟨⟨rfl,by omega,by omega⟩,rfl⟩
end Go.Proofs.Tryz
