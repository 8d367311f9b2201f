import Derived.Test.YtflpicdbkomglaaGreatDoorV1
import Derived.Test.YtflpicdbkomglaaGreatDoorSp
import Derived.Test.YtflpicdbkomglaaGreatDoorV2
import Derived.Test.YtflpicdbkomglaaGreatDoorFwC
import Derived.Test.YtflpicdbkomglaaGreatDoorV5
import Derived.Test.YtflpicdbkomglaaGreatDoorL4
import Derived.Test.YtflpicdbkomglaaGreatDoorV20
import Derived.Test.YtflpicdbkomglaaGreatDoorV22
import Derived.Test.YtflpicdbkomglaaGreatDoorV21
namespace Go.Proofs.Tryz
open Go Go.Fw Go.IntWalk Sp
theorem adq(x y:Int)(m:Nat)(hm:m<9223372036854775807)(hy:(BitVec.ofInt 64 y).toNat=m):0<=bitsOf .and .i64 x y/\bitsOf .and .i64 x y<=m:=by
 have h:(BitVec.ofInt 64 x&&&BitVec.ofInt 64 y).toNat<=m:=by rw[BitVec.toNat_and,hy];exact Nat.and_le_right
 show 0<=IntKind.i64.wrap ((BitVec.ofInt 64 x&&&BitVec.ofInt 64 y).toNat:Int)/\IntKind.i64.wrap ((BitVec.ofInt 64 x&&&BitVec.ofInt 64 y).toNat:Int)<=m;generalize (BitVec.ofInt 64 x&&&BitVec.ofInt 64 y).toNat=z at h ⊢;rw[gq _ (by omega)];omega
theorem adr(x:Int):0<=bitsOf .and .i64 x 255/\bitsOf .and .i64 x 255<=255:=adq x 255 255 (by omega) (by decide)
theorem aeZ:OK Bq.e:=by
 refine XA.ok mixed (bf [] trivial) H0 (λ_ _=>⟨(((0:Int),()),(([],0,0,()),())),⟨by decide,by decide,by decide⟩⟩) (by kernel_rfl) (show∀c0 c1 c2,Bq.goal (Uf c0 c1 c2) ((c0,c1,c2,()),())from ?_);intro b i h hin hp;dsimp only[Bq]at hp ⊢;have hp:0<=i:=hp;refine⟨by decide,by decide,af (λhc=>?_) λhc=>?_⟩<;>simp only[akf,akA]at hc
 .have hl:b.length<=maxLen:=hin.1.1.1;rw[maxLen_eq]at hl;refine⟨⟨hp,hc⟩,?_,adr _⟩;show 0<=IntKind.i64.wrap (i+1);rw[gq _ (by omega)];omega
 .exact⟨hp,adr _⟩
theorem RQ:OK vW.e:=by refine PA.ok mixed (bf [] trivial) H0 (by kernel_rfl) (show∀n,vW.goal (RS n) (n,())from ?_);intro n hin hp;dsimp only[vW]at hp ⊢;exact rfl
theorem LZ:OK qG.e:=by refine PA.ok mixed (bf [] trivial) H0 (by kernel_rfl) (show∀w,qG.goal (L6 w) (w,())from ?_);intro n hin hp;dsimp only[qG]at hp ⊢;exact rfl
theorem lT:OK iD.e:=by
 refine PA.ok mixed (bf [] trivial) H0 (by kernel_rfl) (show∀LM least most,iD.goal (XH LM least most) (LM,least,most,())from ?_);intro x a b hin hp;dsimp only[iD]at hp ⊢;refine af (λh=>?_) λh=>?_
 .have h:=je h;show(decide (x<=b),())=(decide (a<=x)&&decide (x<=b),());rw[aku (show a<=x from h)];rfl
 .have h:=jT h;show(false,())=(decide (a<=x)&&decide (x<=b),());rw[aky (show ¬a<=x from h)];rfl
theorem mJ:OK jg.e:=by
 refine PA.ok mixed (bf [] trivial) H0 (by kernel_rfl) (show∀n low high,jg.goal (VO n low high) (n,low,high,())from ?_);intro x a b hin hp;dsimp only[jg]at hp ⊢;refine af (λh=>?_) λh=>?_
 .show(decide (x<=b),())=(decide (a<=x)&&decide (x<=b),());rw[h];rfl
 .show(false,())=(decide (a<=x)&&decide (x<=b),());rw[h];rfl
theorem D9{s:List UInt8}{n:Nat}(hlt:n<s.length)(hl:Sp.lower s=true):97<=(s.getD n 0).toNat/\(s.getD n 0).toNat<=122:=by have:=akk.1 hl _ (getD_mem (d:=0) hlt);simpa using this
theorem GH:OK rY.e:=by
 refine PA.ok mixed (bf [iD.e] ⟨lT,trivial⟩) VP (by kernel_rfl) (show∀s most,rY.goal (Ug s most) (s,most,())from ?_);intro s most hin hp;dsimp only[rY]at hp ⊢;have hlen:s.length<=maxLen:=hin.1;rw[maxLen_eq]at hlen;refine⟨λy=>∃n:Nat,y.1.1=n/\n<=s.length/\Sp.lower (s.take n)=true,λy=>((s.length:Int)-y.1.1).toNat,⟨0,rfl,by omega,rfl⟩,?_⟩;rintro⟨⟨_,⟨⟩⟩,⟨⟩⟩ ⟨n,rfl,hn,hJ⟩;dsimp only;refine af (λh=>?_) λh=>?_<;>simp only[akf,akA]at h
 .have hlt:n<s.length:=by omega
  rw[gq _ (by omega),akG];refine⟨⟨by omega,by omega⟩,af (λh2=>?_) λh2=>⟨⟨by omega,by omega⟩,af (λh3=>?_) λh3=>?_⟩⟩<;>simp only[akf,akA]at*
  .cases hl:Sp.lower s with
   |false=>rfl
   |true=>have:=D9 hlt hl;omega
  .cases hl:Sp.lower s with
   |false=>rfl
   |true=>have:=D9 hlt hl;omega
  .refine⟨rfl,⟨n+1,by simp,by omega,?_⟩,by dsimp only;omega⟩;rw[Sp.take_succ' s n 0 hlt];unfold Sp.lower at hJ ⊢;rw[amY,hJ];simp only[ak1,amV,alI,akV,aj0,akf];omega
 .have hge:n=s.length:=by omega
  rw[hge,alX]at hJ;rw[hJ];exact⟨trivial,rfl⟩
theorem sZ:OK jl.e:=by refine PA.ok mixed (bf [rY.e] ⟨GH,trivial⟩) H0 (by kernel_rfl) (show∀s,jl.goal (Jb s) (s,())from ?_);intro s hin hp;dsimp only[jl]at hp ⊢;exact⟨trivial,rfl⟩
theorem oP:OK iJ.e:=by
 refine PA.ok mixed (bf [jl.e,iD.e] ⟨sZ,lT,trivial⟩) H0 (by kernel_rfl) (show∀v0 v1 v2,iJ.goal (Ko v0 v1 v2) ((v0,v1,v2,()),())from ?_);intro k n s hin hp;dsimp only[iJ]at hp ⊢;refine af (λh=>?_) λh=>af (λh2=>⟨trivial,af (λh3=>?_) λh3=>?_⟩) λh2=>af (λh3=>⟨trivial,af (λh4=>?_) λh4=>?_⟩) λh3=>?_
 .have e:k=0:=by simpa using h
  subst e;exact congrArg (·,()) (akC.2 (by simp[aU]))
 .have e:k=1:=by simpa using h2
  subst e;exact congrArg (·,()) (akC.2 (by simp only[aj0,akf]at h3;simp[aU,h3]))
 .have e:k=1:=by simpa using h2
  subst e;exact congrArg (·,()) (akC.2 (by simp only[aU,h3];simp))
 .have e:k=2:=by simpa using h3
  subst e;exact congrArg (·,()) (akC.2 (by simp[aU,h4]))
 .have e:k=2:=by simpa using h3
  subst e;exact congrArg (·,()) (akC.2 (by simp[aU,h4]))
 .have e1:k≠0:=by simpa using h
  have e2:k≠1:=by simpa using h2
  have e3:k≠2:=by simpa using h3
  exact congrArg (·,()) (akC.2 (by simp[aU,e1,e2,e3]))
theorem xP:OK jQ.e:=by refine PA.ok mixed (bf [rY.e] ⟨GH,trivial⟩) H0 (by kernel_rfl) (show∀s,jQ.goal (FX s) (s,())from ?_);intro s hin hp;dsimp only[jQ]at hp ⊢;exact⟨trivial,rfl⟩
theorem set_self{fs:List bD}{n:Nat}(hn:n<fs.length):fs.set n (fs.getD n (0,0,false,0,[],()))=fs:=by
 refine amU (by simp) λi h1 h2=>?_;rw[List.getElem_set];split
 .next e=>subst e;rw[aj9,akd hn];rfl
 .rfl
def names:List (Int×Int×Sp.Bytes):=[(2,0,[105,110,107]),(2,0,[115,101,97])]
theorem aeg:E8 Sp.usual=true:=by kernel_rfl
structure Kq(k:Int)(s:tq):Prop where
 sch:s.1=Sp.usual
 ok:vM s=true
 nx:s.2.2.1<=s.2.1.length+k
 small:agm s
theorem Kq.more{k k':Int}{s:tq}(h:Kq k s)(hk:k<=k'):Kq k' s:=⟨h.sch,h.ok,by have:=h.nx;omega,h.small⟩
theorem Kq.grows{s:tq}(h:Kq 2 s)(hl:s.2.1.length<12){f:bD}(ho:0<=f.2.1/\f.2.1<=2)(hk:0<=f.2.2.2.1/\f.2.2.2.1<=6)(ha:Pg Sp.usual f.2.2.2.2.1=true):(xC s f).1.2.1.length=s.2.1.length+1:=by
 have hnx:=(aaw.1 h.ok).2.2.2;have h2:=h.nx;have hf:CV s.1 (s.2.2.1,f.2)=true:=by rw[h.sch];show(Pg Sp.usual f.2.2.2.2.1&&E8 Sp.usual&&(decide (1<=s.2.2.1)&&decide (s.2.2.1<=60))&&(decide (0<=f.2.1)&&decide (f.2.1<=2))&&(decide (0<=f.2.2.2.1)&&decide (f.2.2.2.1<=60)))=true;rw[ha,aeg,aku hnx.1,aku (by omega),aku ho.1,aku ho.2,aku hk.1,aku (by omega)];rfl
 rcases Fa s f with⟨_,e⟩|⟨_,_,_,e⟩
 .exact(e ⟨h.ok,hl,hf⟩).elim
 .rw[e];show(s.2.1++[_]).length=_;rw[aj1];rfl
theorem Kq.one{s:tq}(h:Kq 1 s){f:bD}(ho:0<=f.2.1/\f.2.1<=2)(hk:0<=f.2.2.2.1/\f.2.2.2.1<=6)(ha:Pg Sp.usual f.2.2.2.2.1=true):0<(xC s f).1.2.1.length:=by
 by_cases hl:s.2.1.length<12
 .rw[(h.more (show(1:Int)<=2 by decide)).grows hl ho hk ha];omega
 .rcases Fa s f with⟨e,_⟩|⟨_,_,_,e⟩
  .rw[e];show 0<s.2.1.length;omega
  .rw[e];show 0<(s.2.1++[_]).length;rw[aj1,List.length_singleton];omega
theorem tu:OK jm.e:=by
 refine PA.ok mixed (bf [jg.e] ⟨mJ,trivial⟩) Kr (by kernel_rfl) (show∀s,jm.goal (Jc s) (s,())from ?_);intro s hin hp;dsimp only[jm]at hp ⊢;have hlen:s.length<=maxLen:=hin.1;rw[maxLen_eq]at hlen;refine⟨λy=>∃n:Nat,y.1.1=n/\n<=s.length/\Sp.lower (s.take n)=true,λy=>((s.length:Int)-y.1.1).toNat,⟨0,rfl,by omega,rfl⟩,?_⟩;rintro⟨⟨_,⟨⟩⟩,⟨⟩⟩ ⟨n,rfl,hn,hJ⟩;dsimp only;refine af (λh=>?_) λh=>?_<;>simp only[akf,akA]at h
 .have hlt:n<s.length:=by omega
  rw[gq _ (by omega),akG];refine⟨⟨by omega,by omega⟩,af (λh2=>?_) λh2=>⟨⟨by omega,by omega⟩,af (λh3=>?_) λh3=>?_⟩⟩<;>simp only[akf,akA]at*
  .unfold aG;cases hl:Sp.lower s with
   |false=>rfl
   |true=>have:=D9 hlt hl;omega
  .unfold aG;cases hl:Sp.lower s with
   |false=>rfl
   |true=>have:=D9 hlt hl;omega
  .refine⟨rfl,⟨n+1,by simp,by omega,?_⟩,by dsimp only;omega⟩;rw[Sp.take_succ' s n 0 hlt];unfold Sp.lower at hJ ⊢;rw[amY,hJ];simp only[ak1,amV,alI,akV,aj0,akf];omega
 .have hge:n=s.length:=by omega
  rw[hge,alX]at hJ;unfold aG;rw[hJ];exact⟨trivial,rfl⟩
theorem oQ:OK iK.e:=by
 refine PA.ok mixed (bf [jm.e,jg.e] ⟨tu,mJ,trivial⟩) H0 (by kernel_rfl) (show∀v0 v1 v2,iK.goal (Kt v0 v1 v2) ((v0,v1,v2,()),())from ?_);intro k n s hin hp;dsimp only[iK]at hp ⊢;refine af (λh=>?_) λh=>af (λh2=>⟨trivial,af (λh3=>?_) λh3=>?_⟩) λh2=>af (λh3=>⟨trivial,af (λh4=>?_) λh4=>?_⟩) λh3=>?_
 .have e:k=0:=by simpa using h
  subst e;exact congrArg (·,()) (akC.2 (by simp[aU]))
 .have e:k=1:=by simpa using h2
  subst e;exact congrArg (·,()) (akC.2 (by simp only[aj0,akf]at h3;simp[aU,h3]))
 .have e:k=1:=by simpa using h2
  subst e;exact congrArg (·,()) (akC.2 (by simp only[aU,h3];simp))
 .have e:k=2:=by simpa using h3
  subst e;exact congrArg (·,()) (akC.2 (by simp[aU,h4]))
 .have e:k=2:=by simpa using h3
  subst e;exact congrArg (·,()) (akC.2 (by simp[aU,h4]))
 .have e1:k≠0:=by simpa using h
  have e2:k≠1:=by simpa using h2
  have e3:k≠2:=by simpa using h3
  exact congrArg (·,()) (akC.2 (by simp[aU,e1,e2,e3]))
theorem xQ:OK jR.e:=by
 refine PA.ok mixed (bf [] trivial) H0 (by kernel_rfl) (show∀s,jR.goal (FY s) (s,())from ?_);intro s hin hp;dsimp only[jR]at hp ⊢;refine af (λh=>?_) λh=>?_
 .have h:(s.length:Int)=1:=je h
  match s,h with
  |[c],_=>
   refine⟨⟨by decide,(by show(0:Int)<1;decide)⟩,af (λh2=>⟨⟨by decide,(by show(0:Int)<1;decide)⟩,?_⟩) λh2=>?_⟩
   .have h2:(c.toNat:Int)>=97:=je h2;refine congrArg (·,()) (akC.2 ?_);simp only[dK,Sp.lower,ak1,amV,alI,aj0,akf,aj6,akn];constructor
    .intro h3;have h3:(c.toNat:Int)<=122:=h3;exact⟨⟨⟨by omega,by omega⟩,by decide⟩,by decide⟩
    .rintro⟨⟨⟨_,h4⟩,_⟩,_⟩;show(c.toNat:Int)<=122;omega
   .have h2:¬(c.toNat:Int)>=97:=jT h2;refine congrArg (·,()) (akC.2 ?_);simp only[dK,Sp.lower,ak1,amV,alI,aj0,akf];constructor
    .intro h3;cases h3
    .rintro⟨⟨⟨h4,_⟩,_⟩,_⟩;omega
 .have h:¬(s.length:Int)=1:=jT h;refine congrArg (·,()) (akC.2 ?_);simp only[dK,aj0,akf];constructor
  .intro h3;cases h3
  .rintro⟨⟨_,h4⟩,h5⟩;omega
end Go.Proofs.Tryz
namespace Go.Proofs.Tryz
open Go Go.Fw Go.IntWalk Sp
theorem Uh(n0 n1 n2:Int)(n3:Sp.Bytes)(n4 n5:Int)(n6:Sp.Bytes)(a:Int):dI (n0,n1,n2,n3,n4,n5,n6,()) a=
 (bif n0==1 then(n1==0&&n2==0)&&(n3==[]&&(n4==0&&(n5==0&&n6==[])))else bif n0==2 then(n1==0&&n2==0)&&(n4==0&&(n5==0&&n6==[]))&&dK n3 else
 bif n0==3 then(n1==0&&n2==0)&&dK n3&&aU n4 n5 n6&&!(n4==0)else bif n0==4 then(n1==0&&n2==0)&&dK n3&&aU n4 n5 n6&&n4==1 else
 bif n0==5 then(decide (0<=n1)&&decide (n1<=a-1)&&decide (0<a))&&n2==0&&(n3==[]&&(n4==0&&(n5==0&&n6==[])))else
 bif n0==6||n0==7 then(decide (0<=n1)&&decide (n1<=a-1)&&decide (0<a))&&(decide (0<=n2)&&decide (n2<=a-1))&&(n3==[]&&(n4==0&&(n5==0&&n6==[])))else
 bif n0==8||n0==9 then(n1==0&&n2==0)&&(n4==0&&(n5==0&&n6==[]))&&aG n3 else false):=rfl
theorem L8:OK qI.e:=by
 refine PA.ok mixed (bf [jm.e,jg.e,iK.e,jR.e] ⟨tu,mJ,oQ,xQ,trivial⟩) N7 (by kernel_rfl) (show∀n0 n1 n2 n3 n4 n5 n6 at',qI.goal (Bf n0 n1 n2 n3 n4 n5 n6 at') ((n0,n1,n2,n3,n4,n5,n6,()),at',())from ?_);intro n0 n1 n2 n3 n4 n5 n6 a hin hp;dsimp only[qI]at hp ⊢;have ha:-9223372036854775808<=a/\a<=9223372036854775807:=hin.2.1;show Bf n0 n1 n2 n3 n4 n5 n6 a λr=>r=(dI (n0,n1,n2,n3,n4,n5,n6,()) a,());rw[Uh];have w:0<a->IntKind.i64.wrap (a-1)=a-1:=λh=>gq _ (by omega);refine af (λ_=>?_) λ_=>af (λ_=>af (λ_=>⟨trivial,?_⟩) λ_=>?_) λ_=>⟨λy=>y=((n0==3||n0==4,()),()),?_,?_⟩
 .first|(simp_all;done)|(simp_all;grind)
 .first|(simp_all;done)|(simp_all;grind)
 .first|(simp_all;done)|(simp_all;grind)
 .refine af (λ_=>⟨rfl,?_⟩) λ_=>⟨rfl,?_⟩<;>first|(simp_all;done)|(simp_all;grind)
 .rintro _ rfl;refine af (λ_=>?_) λ_=>af (λ_=>af (λ_=>af (λh=>⟨trivial,?_⟩) λ_=>?_) λ_=>?_) λ_=>⟨λy=>y=((n0==6||n0==7,()),()),?_,?_⟩
  .refine af (λ_=>⟨trivial,af (λ_=>⟨trivial,af (λ_=>af (λ_=>af (λ_=>?_) λ_=>?_) λ_=>?_) λ_=>?_⟩) λ_=>?_⟩) λ_=>?_
   all_goals first|(simp_all;done)|(simp_all;grind)
  .rw[w (je h)]
   first|(simp_all;done)|(simp_all;grind)
  .first|(simp_all;done)|(simp_all;grind)
  .first|(simp_all;done)|(simp_all;grind)
  .refine af (λ_=>⟨rfl,?_⟩) λ_=>⟨rfl,?_⟩<;>first|(simp_all;done)|(simp_all;grind)
  .rintro _ rfl;refine af (λ_=>af (λ_=>af (λh=>⟨trivial,?_⟩) λ_=>?_) λ_=>?_) λ_=>?_
   .rw[w (je h)];refine af (λ_=>⟨trivial,?_⟩) λ_=>?_<;>first|(simp_all;done)|(simp_all;grind)
   .first|(simp_all;done)|(simp_all;grind)
   .first|(simp_all;done)|(simp_all;grind)
   .refine af (λ_=>af (λ_=>af (λ_=>⟨trivial,?_⟩) λ_=>?_) λ_=>?_) λ_=>af (λ_=>af (λ_=>⟨trivial,?_⟩) λ_=>?_) λ_=>?_
    all_goals first|(simp_all;done)|(simp_all;grind)
theorem L9:OK qH.e:=by
 refine PA.ok mixed (bf [jl.e,iJ.e,jQ.e,iD.e] ⟨sZ,oP,xP,lT,trivial⟩) N8 (by kernel_rfl) (show∀n0 n1 n2 n3 n4 n5 n6 at',qH.goal (Bg n0 n1 n2 n3 n4 n5 n6 at') ((n0,n1,n2,n3,n4,n5,n6,()),at',())from ?_);intro n0 n1 n2 n3 n4 n5 n6 a hin hp;dsimp only[qH]at hp ⊢;have ha:-9223372036854775808<=a/\a<=9223372036854775807:=hin.2.1;show Bg n0 n1 n2 n3 n4 n5 n6 a λr=>r=(dI (n0,n1,n2,n3,n4,n5,n6,()) a,());rw[Uh];have w:0<a->IntKind.i64.wrap (a-1)=a-1:=λh=>gq _ (by omega);refine⟨λy=>y=((decide (0<=n1)&&decide (n1<=a-1)&&decide (0<a),()),()),⟨trivial,?_⟩,?_⟩
 .by_cases h:0<a
  .dsimp only;rw[w h];refine af (λ_=>⟨rfl,?_⟩) λ_=>⟨rfl,?_⟩<;>first|(simp_all;done)|(simp_all;grind)
  .dsimp only;refine af (λ_=>⟨rfl,?_⟩) λ_=>⟨rfl,?_⟩<;>first|(simp_all;done)|(simp_all;grind)
 .rintro _ rfl;refine⟨λy=>y=(((decide (0<=n1)&&decide (n1<=a-1)&&decide (0<a))&&(decide (0<=n2)&&decide (n2<=a-1)),()),()),?_,?_⟩
  .refine af (λh=>⟨trivial,rfl,?_⟩) λh=>⟨rfl,?_⟩
   .have h:(decide (0<=n1)&&decide (n1<=a-1)&&decide (0<a))=true:=h;have h2:0<a:=by simp at h;omega
    rw[w h2,h,akV]
   .have h:(decide (0<=n1)&&decide (n1<=a-1)&&decide (0<a))=false:=h;rw[h,alc]
  .rintro _ rfl;dsimp only;generalize (decide (0<=n1)&&decide (n1<=a-1)&&decide (0<a))=kids;generalize (decide (0<=n2)&&decide (n2<=a-1))=two
   repeat' first
    |exact trivial
    |refine af (λ_=>?_) λ_=>?_
    |refine And.intro trivial ?_
   all_goals first|(simp_all;done)|(simp_all;grind)
end Go.Proofs.Tryz
namespace Go.Proofs.Tryz
open Go Go.Fw Go.IntWalk Sp
theorem Ku(a:Int)(x:ax):(Sp.refsOf a x:Int)=(if(x.1=6\/x.1=7\/x.1=5)/\x.2.1=a then 1 else 0)+(if(x.1=6\/x.1=7)/\x.2.2.1=a then 1 else 0):=by unfold Sp.refsOf iV;by_cases h6:x.1=6<;>by_cases h7:x.1=7<;>by_cases h5:x.1=5<;>by_cases hl:x.2.1=a<;>by_cases hr:x.2.2.1=a<;>simp[cond_eq_ite,h6,h7,h5,hl,hr]
theorem afx(a:Int)(x:ax):Sp.refsOf a x<=2:=by have:=Ku a x;split at this<;>split at this<;>omega
def jU(q:List ax)(a:Int)(n:Nat):Nat:=((q.take n).map (Sp.refsOf a)).sum
theorem Hy(q:List ax)(a:Int){n:Nat}(hn:n<q.length):jU q a (n+1)=jU q a n+Sp.refsOf a (Sp.nodeAt q n):=by unfold jU;rw[Sp.take_succ' q n (0,0,0,[],0,0,[],()) hn];simp only[alv,List.sum_append,ako,List.map_nil,amP,List.sum_nil,alm];rfl
theorem N9(q:List ax)(a:Int):∀n,n<=q.length->jU q a n<=2*n
 |0,_=>by simp[jU]
 |n+1,h=>by rw[Hy q a (by omega)];have:=N9 q a n (by omega);have:=afx a (Sp.nodeAt q n);omega
theorem Ui(q:List ax)(a:Int):jU q a q.length=jF q a:=by unfold jU jF;rw[alX]
theorem FZ:OK mO.e:=by
 refine PA.ok mixed (bf [] trivial) Hz (by kernel_rfl) (show∀q at',mO.goal (F5 q at') (q,at',())from ?_);intro q a hin hp;dsimp only[mO]at hp ⊢;have hp:q.length<=2000000:=hp;refine uI (λi(c:Int)=>((c,i,()),())) (λy=>y.1.2.1) (λ_ _=>rfl) q.length (by omega) (λn c=>c=(jU q a n:Int)) rfl (λI μ n c hn hJ next=>?_) λI μ c hJ=>?_
 .subst hJ;have hs:=Hy q a hn;have hb:=N9 q a n (by omega);have hr:=Ku a (Sp.nodeAt q n);dsimp only;rw[akG];have e:q.getD n (0,0,0,[],0,0,[],())=Sp.nodeAt q n:=rfl;rw[e];have w1:IntKind.i64.wrap ((jU q a n:Int)+1)=(jU q a n:Int)+1:=gq _ (by omega);have w2:IntKind.i64.wrap ((jU q a n:Int)+1+1)=(jU q a n:Int)+1+1:=gq _ (by omega);refine uJ (by omega) ⟨⟨by omega,by omega⟩,af (λh6=>⟨λy=>y=(((jU q a n:Int)+(if(Sp.nodeAt q n).2.1=a then 1 else 0),()),()),⟨⟨by omega,by omega⟩,af (λhl=>⟨rfl,?_⟩) λhl=>⟨rfl,?_⟩⟩,?_⟩) λh6=>⟨⟨by omega,by omega⟩,λy=>y=(((jU q a n:Int)+(if((Sp.nodeAt q n).1=7\/(Sp.nodeAt q n).1=5)/\(Sp.nodeAt q n).2.1=a then 1 else 0),()),()),?_,?_⟩⟩
  .simp only[akq]at hl;rw[w1,if_pos hl]
  .simp only[aj2]at hl;rw[if_neg hl,alY]
  .rintro _ rfl;simp only[akq]at h6;refine⟨⟨by omega,by omega⟩,af (λhrr=>⟨rfl,next _ ?_⟩) λhrr=>⟨rfl,next _ ?_⟩⟩
   all_goals
    dsimp only;simp only[akq,aj2,ne_eq]at hrr;by_cases hl:(Sp.nodeAt q n).2.1=a<;>simp[h6,hl,hrr]at hr<;>simp only[hl,if_true,al7,alY,w1,w2]<;>omega
  .simp only[aj2,ne_eq]at h6;refine af (λh7=>⟨⟨by omega,by omega⟩,af (λhl=>⟨rfl,?_⟩) λhl=>⟨rfl,?_⟩⟩) λh7=>⟨⟨by omega,by omega⟩,af (λh5=>⟨⟨by omega,by omega⟩,af (λhl=>⟨rfl,?_⟩) λhl=>⟨rfl,?_⟩⟩) λh5=>⟨rfl,?_⟩⟩
   all_goals simp_all
  .rintro _ rfl;simp only[aj2,ne_eq]at h6;refine af (λh7=>⟨⟨by omega,by omega⟩,af (λhrr=>⟨rfl,next _ ?_⟩) λhrr=>⟨rfl,next _ ?_⟩⟩) λh7=>⟨rfl,next _ ?_⟩
   .simp only[akq]at h7 hrr;by_cases hl:(Sp.nodeAt q n).2.1=a<;>simp[h6,h7,hl,hrr]at hr<;>simp only[h7,hl,true_or,and_self,and_false,if_true,al7,alY,w1,w2]<;>omega
   .simp only[akq,aj2,ne_eq]at h7 hrr;by_cases hl:(Sp.nodeAt q n).2.1=a<;>simp[h6,h7,hl,hrr]at hr<;>simp only[h7,hl,true_or,and_self,and_false,if_true,al7,alY,w1,w2]<;>omega
   .simp only[aj2,ne_eq]at h7;dsimp only;by_cases h5:(Sp.nodeAt q n).1=5<;>by_cases hl:(Sp.nodeAt q n).2.1=a<;>simp[h6,h7,h5,hl]at hr<;>simp[h7,h5,hl]<;>omega
 .dsimp only;refine uK (by omega) ?_;rw[hJ,Ui]
theorem F6:OK mP.e:=by
 refine PA.ok mixed (bf [] trivial) HY (by kernel_rfl) (show∀q at',mP.goal (F7 q at') (q,at',())from ?_);intro q a hin hp;dsimp only[mP]at hp ⊢;have hp:q.length<=2000000:=hp;refine uI (λi(c:Int)=>((c,i,()),())) (λy=>y.1.2.1) (λ_ _=>rfl) q.length (by omega) (λn c=>c=(jU q a n:Int)) rfl (λI μ n c hn hJ next=>?_) λI μ c hJ=>?_
 .subst hJ;have hs:=Hy q a hn;have hb:=N9 q a n (by omega);have hr:=Ku a (Sp.nodeAt q n);dsimp only;rw[akG];have e:q.getD n (0,0,0,[],0,0,[],())=Sp.nodeAt q n:=rfl;rw[e];have w1:IntKind.i64.wrap ((jU q a n:Int)+1)=(jU q a n:Int)+1:=gq _ (by omega);have w2:IntKind.i64.wrap ((jU q a n:Int)+1+1)=(jU q a n:Int)+1+1:=gq _ (by omega);refine uJ (by omega) ⟨⟨by omega,by omega⟩,af (λh6=>⟨λy=>y=(((jU q a n:Int)+(if(Sp.nodeAt q n).2.1=a then 1 else 0),()),()),af (λhl=>⟨rfl,?_⟩) λhl=>⟨rfl,?_⟩,?_⟩) λh6=>⟨λy=>y=(((jU q a n:Int)+(if((Sp.nodeAt q n).1=7\/(Sp.nodeAt q n).1=5)/\(Sp.nodeAt q n).2.1=a then 1 else 0),()),()),?_,?_⟩⟩
  .simp only[akq]at hl;rw[w1,if_pos hl]
  .simp only[aj2]at hl;rw[if_neg hl,alY]
  .rintro _ rfl;simp only[akq]at h6;refine af (λhrr=>⟨rfl,next _ ?_⟩) λhrr=>⟨rfl,next _ ?_⟩
   all_goals
    dsimp only;simp only[akq,aj2,ne_eq]at hrr;by_cases hl:(Sp.nodeAt q n).2.1=a<;>simp[h6,hl,hrr]at hr<;>simp only[hl,if_true,al7,alY,w1,w2]<;>omega
  .simp only[aj2,ne_eq]at h6;refine af (λhl=>af (λh7=>⟨rfl,?_⟩) λh7=>af (λh5=>⟨rfl,?_⟩) λh5=>⟨rfl,?_⟩) λhl=>⟨rfl,?_⟩
   all_goals simp_all
  .rintro _ rfl;simp only[aj2,ne_eq]at h6;refine af (λhrr=>af (λh7=>⟨rfl,next _ ?_⟩) λh7=>⟨rfl,next _ ?_⟩) λhrr=>⟨rfl,next _ ?_⟩
   .simp only[akq]at h7 hrr;by_cases hl:(Sp.nodeAt q n).2.1=a<;>simp[h6,h7,hl,hrr]at hr<;>simp only[h7,hl,true_or,and_self,and_false,if_true,al7,alY,w1,w2]<;>omega
   .simp only[aj2,ne_eq]at h7;dsimp only;by_cases h5:(Sp.nodeAt q n).1=5<;>by_cases hl:(Sp.nodeAt q n).2.1=a<;>simp[h6,h7,h5,hl]at hr<;>simp[h7,h5,hl]<;>omega
   .simp only[aj2,ne_eq]at hrr;dsimp only;by_cases h7:(Sp.nodeAt q n).1=7<;>by_cases h5:(Sp.nodeAt q n).1=5<;>by_cases hl:(Sp.nodeAt q n).2.1=a<;>simp[h6,h7,h5,hl,hrr]at hr<;>simp[h7,h5,hl]<;>omega
 .dsimp only;refine uK (by omega) ?_;rw[hJ,Ui]
theorem Uj{q:List ax}{n:Nat}(hn:n<q.length)(h:jE q n=false):aC q=false:=by unfold aC;rw[XI hn h];rfl
theorem Au:OK lZ.e:=by
 refine PA.ok mixed (bf [iD.e,mO.e,qH.e] ⟨lT,FZ,L9,trivial⟩) Mc (by kernel_rfl) (show∀q,lZ.goal (Kv q) (q,())from ?_);intro q hin hp;dsimp only[lZ]at hp ⊢;have hp:q.length<=2000000:=hp;refine Ep q.length (by omega) (λn=>∀i,i<n->jE q i=true) (λi hi=>by omega) (λI μ n hn hJ next=>?_) λI μ hJ=>?_
 .dsimp only;have no:jE q n=false->(false,())=(aC q,()):=λh=>by rw[Uj hn h]
  rw[aa7 (show 0<q.length by omega) (by omega)];refine uJ (by omega) ⟨⟨by omega,by omega⟩,trivial,af (λh2=>no ?_) λh2=>af (λh3=>⟨hp,af (λh4=>no ?_) λh4=>⟨rfl,next (yU hJ ?_)⟩⟩) λh3=>⟨rfl,next (yU hJ ?_)⟩⟩
  .have h2:dI (Sp.nodeAt q n) n=false:=mM h2;unfold jE;rw[h2];rfl
  .have h2:dI (Sp.nodeAt q n) n=true:=jw h2;have h4:(jF q n:Int)≠1:=by simpa using h4
   have h3:(n:Int)<(q.length:Int)-1:=by have:=je h3;omega
   unfold jE;simp only[h3,h2];simp;omega
  .have h2:dI (Sp.nodeAt q n) n=true:=jw h2;have h4:(jF q n:Int)=1:=by simpa using h4
   have h4:jF q n=1:=by omega
   unfold jE;simp[h2,h4]
  .have h2:dI (Sp.nodeAt q n) n=true:=jw h2;have h3:¬(n:Int)<(q.length:Int)-1:=by have:=jT h3;omega
   unfold jE;simp[h2,h3]
 .dsimp only;refine uK (by omega) ⟨trivial,congrArg (·,()) ?_⟩;unfold aC;rw[Oa hJ];rfl
theorem uM:OK gy.e:=by
 refine PA.ok mixed (bf [jg.e,mP.e,qI.e] ⟨mJ,F6,L8,trivial⟩) Md (by kernel_rfl) (show∀q,gy.goal (Kw q) (q,())from ?_);intro q hin hp;dsimp only[gy]at hp ⊢;have hp:q.length<=2000000:=hp;refine Ep q.length (by omega) (λn=>∀i,i<n->jE q i=true) (λi hi=>by omega) (λI μ n hn hJ next=>?_) λI μ hJ=>?_
 .dsimp only;have no:jE q n=false->(false,())=(aC q,()):=λh=>by rw[Uj hn h]
  rw[aa7 (show 0<q.length by omega) (by omega)];refine uJ (by omega) ⟨⟨by omega,by omega⟩,trivial,af (λh2=>no ?_) λh2=>af (λh3=>⟨hp,af (λh4=>no ?_) λh4=>⟨rfl,next (yU hJ ?_)⟩⟩) λh3=>⟨rfl,next (yU hJ ?_)⟩⟩
  .have h2:dI (Sp.nodeAt q n) n=false:=mM h2;unfold jE;rw[h2];rfl
  .have h2:dI (Sp.nodeAt q n) n=true:=jw h2;have h4:(jF q n:Int)≠1:=by simpa using h4
   have h3:(n:Int)<(q.length:Int)-1:=by have:=je h3;omega
   unfold jE;simp only[h3,h2];simp;omega
  .have h2:dI (Sp.nodeAt q n) n=true:=jw h2;have h4:(jF q n:Int)=1:=by simpa using h4
   have h4:jF q n=1:=by omega
   unfold jE;simp[h2,h4]
  .have h2:dI (Sp.nodeAt q n) n=true:=jw h2;have h3:¬(n:Int)<(q.length:Int)-1:=by have:=jT h3;omega
   unfold jE;simp[h2,h3]
 .dsimp only;refine uK (by omega) ⟨trivial,congrArg (·,()) ?_⟩;unfold aC;rw[Oa hJ];rfl
end Go.Proofs.Tryz
namespace Go.Proofs.Tryz
open Go Go.Fw Go.IntWalk
theorem Ea:OK kV.e:=by refine PA.ok mixed (bf [] trivial) Fb (by kernel_rfl) (show∀s1 s2,kV.goal (Eb s1 s2) (s1,s2,())from ?_);intro a b hin hp;dsimp only[kV]at hp ⊢;exact eqL (K:=λr=>r=(decide (a=b),())) (λx y=>!(x.1==y.1&&(x.2.1==y.2.1&&(x.2.2.1==y.2.2.1&&(x.2.2.2.1==y.2.2.2.1&&true))))) (λx y=>by simp[amJ]) _ a b _ hin.1.1 rfl
theorem Ec:OK kW.e:=by refine PA.ok mixed (bf [] trivial) Fe (by kernel_rfl) (show∀s1 s2,kW.goal (Ed s1 s2) (s1,s2,())from ?_);intro a b hin hp;dsimp only[kW]at hp ⊢;exact eqL (K:=λr=>r=(decide (a=b),())) (λx y=>!(x.1==y.1&&(x.2.1==y.2.1&&(x.2.2.1==y.2.2.1&&(x.2.2.2.1==y.2.2.2.1&&(x.2.2.2.2.1==y.2.2.2.2.1&&(x.2.2.2.2.2.1==y.2.2.2.2.2.1&&(x.2.2.2.2.2.2.1==y.2.2.2.2.2.2.1&&true)))))))) (λx y=>by simp[amJ]) _ a b _ hin.1.1 rfl
theorem Ob:OK rF.e:=by
 refine PA.ok mixed (bf [kV.e] ⟨Ea,trivial⟩) H0 (by kernel_rfl) (show∀a0 a1 a2 a3 a4 b0 b1 b2 b3 b4,rF.goal (Oc a0 a1 a2 a3 a4 b0 b1 b2 b3 b4) ((a0,a1,a2,a3,a4,()),(b0,b1,b2,b3,b4,()),())from ?_);intro a0 a1 a2 a3 a4 b0 b1 b2 b3 b4 hin hp;dsimp only[rF]at hp ⊢;refine af (λh0=>af (λh1=>af (λh2=>af (λh3=>⟨trivial,?_⟩) λh3=>?_) λh2=>?_) λh1=>?_) λh0=>?_
 all_goals refine congrArg (·,()) (akC.2 ?_)
 .simp only[akq]at h0 h1 h2 h3;subst h0 h1 h2 h3;simp
 .have h3:a3≠b3:=by simpa using h3
  simp[h3]
 .have h2:a2≠b2:=by simpa using h2
  simp[h2]
 .have h1:a1≠b1:=by simpa using h1
  simp[h1]
 .have h0:a0≠b0:=by simpa using h0
  simp[h0]
theorem Ky:OK qh.e:=by refine PA.ok mixed (bf [kW.e] ⟨Ec,trivial⟩) H0 (by kernel_rfl) (show∀a b,qh.goal (Kz a b) (a,b,())from ?_);intro a b hin hp;dsimp only[qh]at hp ⊢;exact⟨trivial,rfl⟩
theorem Me:OK qJ.e:=by refine PA.ok mixed (bf [] trivial) H0 (by kernel_rfl) (show∀s,qJ.goal (MB s) (s,())from ?_);intro w hin hp;dsimp only[qJ]at hp ⊢;exact rfl
end Go.Proofs.Tryz
namespace Go.Proofs.Tryz
open Go Go.Fw Go.IntWalk Sp
theorem x9:OK mr.e:=by refine PA.ok mixed (bf [(BD,.pure y8)] ⟨⟨Ue,RJ⟩,trivial⟩) H0 (by kernel_rfl) (show∀n,mr.goal (PN n) (n,())from ?_);intro n hin hp;dsimp only[mr]at hp ⊢;exact⟨hin.1,rfl⟩
theorem PO:OK uf.e:=by
 refine PA.ok mixed (bf [] trivial) H0 (by kernel_rfl) (show∀LM,uf.goal (PS LM) (LM,())from ?_);intro x hin hp;dsimp only[uf]at hp ⊢;obtain⟨h0,h1⟩:=hp;refine af (λh=>?_) λh=>?_<;>simp only[akf,akA]at h
 .rw[i64_in (48+x) (by omega),u8_in (48+x) (by omega)]
 .omega
theorem Jd{c:Int}(h:¬c.tmod 10<0):c.tmod 10=((c.natAbs%10:Nat):Int):=by have:(c.tmod 10).natAbs=c.natAbs%10:=amW c 10;omega
theorem aax{c:Int}(h:c.tmod 10<0):0-c.tmod 10=((c.natAbs%10:Nat):Int):=by have:(c.tmod 10).natAbs=c.natAbs%10:=amW c 10;omega
theorem GI(k:Nat):byteRow [((48:Int)+(k:Int),())]=[UInt8.ofNat (48+k)]:=by
 have:((48:Int)+(k:Int)).toNat=48+k:=by omega
 simp[byteRow,Q5,this]
theorem Uk{n c:Nat}{s:List UInt8}(hc:c≠0)(hJ:Lib.decDigits n=(if c=0 then[]else Lib.decDigits c)++s):
 Lib.decDigits n=(if c / 10=0 then[]else Lib.decDigits (c / 10))++(UInt8.ofNat (48+c%10)::s):=by
 rw[hJ,if_neg hc,VQ c];simp
theorem rX:OK kE.e:=by
 refine PA.ok mixed (bf [uf.e] ⟨PO,trivial⟩) RU (by kernel_rfl) (show∀n,kE.goal (PU n) (n,())from ?_);intro n hin hp;dsimp only[kE]at hp ⊢;have h0:(-9223372036854775808:Int)<=n/\n<=9223372036854775807:=hin.1;have hL:=Lib.itoa_length_le n h0.1 h0.2;have hD:(Lib.decDigits n.natAbs).length<=21:=by
  unfold Lib.itoa at hL;split at hL
  .simp at hL;omega
  .rw[show n.natAbs=n.toNat by omega];exact hL
 refine af (λh=>?_) λh=>?_
 .have:n=0:=by simpa using h
  subst this;simp[Lib.itoa,Lib.decDigits]
 .have hn0:n≠0:=by simpa using h
  refine⟨λy=>-9223372036854775808<=y.1.1/\y.1.1<=9223372036854775807/\Lib.decDigits n.natAbs=(if y.1.1.natAbs=0 then[]else Lib.decDigits y.1.1.natAbs)++y.1.2.1,λy=>y.1.1.natAbs,⟨h0.1,h0.2,?_⟩,?_⟩
  .show _=(if n.natAbs=0 then _ else _)++_;rw[if_neg (by omega)];simp
  rintro⟨⟨c,s,⟨⟩⟩,⟨⟩⟩ ⟨hc1,hc2,hJ⟩;dsimp only at hc1 hc2 hJ ⊢;have hs:s.length<=21:=by rw[hJ,aj1]at hD;omega
  have hq:(c.tdiv 10).natAbs=c.natAbs / 10:=Int.natAbs_tdiv c 10;have hrow:∀k:Nat,(byteRow [((48:Int)+(k:Int),())]).length=1:=λk=>by rw[GI];rfl
  refine af (λh=>?_) λh=>?_
  .have hc:c.natAbs≠0:=by simp at h;omega
   have hstep:=Uk hc hJ;have hm:c.natAbs%10<10:=amo _ (by decide);have hlt:c.natAbs / 10<c.natAbs:=Nat.div_lt_self (by omega) (by decide);have hw:IntKind.i64.wrap (c.tdiv 10)=c.tdiv 10:=gq _ (by omega);refine⟨by decide,af (λhd=>?_) λhd=>?_⟩<;>simp only[akf,akA]at hd
   .have e:=aax hd;rw[gq (0-c.tmod 10) (by omega),e,hw,GI];refine⟨⟨by omega,by omega⟩,by simp only[aj6,akn];rw[maxLen_eq];omega,by decide,rfl,⟨by dsimp only;omega,by dsimp only;omega,?_⟩,?_⟩
    .show _=(if(c.tdiv 10).natAbs=0 then[]else Lib.decDigits (c.tdiv 10).natAbs)++_;rw[hq];exact hstep
    .show(c.tdiv 10).natAbs<c.natAbs;rw[hq];exact hlt
   .have e:=Jd hd;rw[e,hw,GI];refine⟨⟨by omega,by omega⟩,by simp only[aj6,akn];rw[maxLen_eq];omega,by decide,rfl,⟨by dsimp only;omega,by dsimp only;omega,?_⟩,?_⟩
    .show _=(if(c.tdiv 10).natAbs=0 then[]else Lib.decDigits (c.tdiv 10).natAbs)++_;rw[hq];exact hstep
    .show(c.tdiv 10).natAbs<c.natAbs;rw[hq];exact hlt
  .have hc:c=0:=by simpa using h
   subst hc;have hJ:Lib.decDigits n.natAbs=s:=by simpa using hJ
   subst hJ;refine af (λhd=>?_) λhd=>?_<;>simp only[akf,akA]at hd
   .refine⟨by simp only[aj6,akn];rw[maxLen_eq];omega,?_⟩;rw[Lib.itoa,if_pos hd];rfl
   .rw[Lib.itoa,if_neg hd,show n.toNat=n.natAbs by omega]
theorem GK:OK sG.e:=by refine PA.ok mixed (bf [] trivial) H0 (by kernel_rfl) (show∀a0 a1 a2 b0 b1 b2,sG.goal (GL a0 a1 a2 b0 b1 b2) ((a0,a1,a2,()),(b0,b1,b2,()),())from ?_);intro a0 a1 a2 b0 b1 b2 hin hp;dsimp only[sG]at hp ⊢;have e:sH (a0,a1,a2,()) (b0,b1,b2,())=((a0==b0)&&(a1==b1)&&(a2==b2)):=akC.2 (by simp[sH,amC]);simp only[GL,e,bne];cases (a0==b0)<;>cases (a1==b1)<;>cases (a2==b2)<;>simp
theorem VR:OK yM.e:=by refine PA.ok mixed (bf [sG.e] ⟨GK,trivial⟩) H0 (by kernel_rfl) (show∀a0 a1 a2 a3 b0 b1 b2 b3,yM.goal (Je a0 a1 a2 a3 b0 b1 b2 b3) ((a0,a1,a2,a3,()),(b0,b1,b2,b3,()),())from ?_);intro a0 a1 a2 a3 b0 b1 b2 b3 hin hp;dsimp only[yM]at hp ⊢;have e:Ip (a0,a1,a2,a3,()) (b0,b1,b2,b3,())=((a0==b0)&&(sH (a1,a2,a3,()) (b1,b2,b3,()))):=akC.2 (by simp[Ip,sH,amC]);simp only[Je,e,bne];cases (a0==b0)<;>cases (sH (a1,a2,a3,()) (b1,b2,b3,()))<;>simp
theorem VS:OK yN.e:=by refine PA.ok mixed (bf [sG.e] ⟨GK,trivial⟩) H0 (by kernel_rfl) (show∀a0 a1 a2 a3 a4 a5 a6 b0 b1 b2 b3 b4 b5 b6,yN.goal (Jf a0 a1 a2 a3 a4 a5 a6 b0 b1 b2 b3 b4 b5 b6) ((a0,a1,a2,a3,a4,a5,a6,()),(b0,b1,b2,b3,b4,b5,b6,()),())from ?_);intro a0 a1 a2 a3 a4 a5 a6 b0 b1 b2 b3 b4 b5 b6 hin hp;dsimp only[yN]at hp ⊢;have e:Iq (a0,a1,a2,a3,a4,a5,a6,()) (b0,b1,b2,b3,b4,b5,b6,())=((a0==b0)&&(a1==b1)&&(a2==b2)&&(a3==b3)&&(sH (a4,a5,a6,()) (b4,b5,b6,()))):=akC.2 (by simp[Iq,sH,amC]);simp only[Jf,e,bne];cases (a0==b0)<;>cases (a1==b1)<;>cases (a2==b2)<;>cases (a3==b3)<;>cases (sH (a4,a5,a6,()) (b4,b5,b6,()))<;>simp
theorem Ul:OK wZ.e:=by refine PA.ok mixed (bf [yM.e] ⟨VR,trivial⟩) VT (by kernel_rfl) (show∀a b,wZ.goal (Um a b) (a,b,())from ?_);intro a b hin hp;dsimp only[wZ]at hp ⊢;exact ads (K:=λr=>r=(zB a b,())) Ip (λx y=>by simp[Ip]) _ a b _ (by have h:=hin.1.1;rw[maxLen_eq]at h;exact h) (λz hz=>by have:z=zB a b:=akC.2 (hz.trans (by simp[zB]));rw[this])
theorem Un:OK xg.e:=by refine PA.ok mixed (bf [yN.e] ⟨VS,trivial⟩) VU (by kernel_rfl) (show∀a b,xg.goal (Uo a b) (a,b,())from ?_);intro a b hin hp;dsimp only[xg]at hp ⊢;exact ads (K:=λr=>r=(zC a b,())) Iq (λx y=>by simp[Iq]) _ a b _ (by have h:=hin.1.1;rw[maxLen_eq]at h;exact h) (λz hz=>by have:z=zC a b:=akC.2 (hz.trans (by simp[zC]));rw[this])
theorem VW:OK yO.e:=by refine PA.ok mixed (bf [wZ.e] ⟨Ul,trivial⟩) H0 (by kernel_rfl) (show∀a0 a1 a2 a3 a4 b0 b1 b2 b3 b4,yO.goal (Jg a0 a1 a2 a3 a4 b0 b1 b2 b3 b4) ((a0,a1,a2,a3,a4,()),(b0,b1,b2,b3,b4,()),())from ?_);intro a0 a1 a2 a3 a4 b0 b1 b2 b3 b4 hin hp;dsimp only[yO]at hp ⊢;have e:EF (a0,a1,a2,a3,a4,()) (b0,b1,b2,b3,b4,())=((a0==b0)&&(a1==b1)&&(a2==b2)&&(a3==b3)&&(zB a4 b4)):=akC.2 (by simp[EF,zB,amC]);simp only[Jg,e,bne];cases (a0==b0)<;>cases (a1==b1)<;>cases (a2==b2)<;>cases (a3==b3)<;>cases (zB a4 b4)<;>simp
theorem XJ:OK zU.e:=by refine PA.ok mixed (bf [xg.e] ⟨Un,trivial⟩) H0 (by kernel_rfl) (show∀a0 a1 b0 b1,zU.goal (LQ a0 a1 b0 b1) ((a0,a1,()),(b0,b1,()),())from ?_);intro a0 a1 b0 b1 hin hp;dsimp only[zU]at hp ⊢;have e:JF (a0,a1,()) (b0,b1,())=((a0==b0)&&(zC a1 b1)):=akC.2 (by simp[JF,zC,amC]);simp only[LQ,e,bne];cases (a0==b0)<;>cases (zC a1 b1)<;>simp
theorem RV:OK nO.e:=by refine PA.ok mixed (bf [zU.e,yO.e] ⟨XJ,VW,trivial⟩) H0 (by kernel_rfl) (show∀a0 a1 a2 a3 a4 a5 a6 a7 a8 b0 b1 b2 b3 b4 b5 b6 b7 b8,nO.goal (Fg a0 a1 a2 a3 a4 a5 a6 a7 a8 b0 b1 b2 b3 b4 b5 b6 b7 b8) ((a0,a1,a2,a3,a4,a5,a6,a7,a8,()),(b0,b1,b2,b3,b4,b5,b6,b7,b8,()),())from ?_);intro a0 a1 a2 a3 a4 a5 a6 a7 a8 b0 b1 b2 b3 b4 b5 b6 b7 b8 hin hp;dsimp only[nO]at hp ⊢;have e:QZ (a0,a1,a2,a3,a4,a5,a6,a7,a8,()) (b0,b1,b2,b3,b4,b5,b6,b7,b8,())=((a0==b0)&&(EF (a1,a2,a3,a4,a5,()) (b1,b2,b3,b4,b5,()))&&(a6==b6)&&(JF (a7,a8,()) (b7,b8,()))):=akC.2 (by simp[QZ,EF,JF,amC]);simp only[Fg,e,bne];cases (a0==b0)<;>cases (EF (a1,a2,a3,a4,a5,()) (b1,b2,b3,b4,b5,()))<;>cases (a6==b6)<;>cases (JF (a7,a8,()) (b7,b8,()))<;>simp
theorem uN:OK jP.e:=by refine PA.ok mixed (bf [jg.e] ⟨mJ,trivial⟩) H0 (by kernel_rfl) (show∀n,jP.goal (KA n) (n,())from ?_);intro n hin hp;dsimp only[jP]at hp ⊢;exact⟨trivial,rfl⟩
theorem QB:∀(l:Sp.LI)(k:Int),0<=k->decide (Sp.idxFrom k l>=0)=!ja l
 |[],k,h=>by simp[Sp.idxFrom,ja]
 |x::r,k,h=>by
  have ih:=QB r (k+1) (by omega);unfold ja at ih ⊢;rw[Sp.idxFrom,ak1];cases hx:aP x.1 with
  |true=>rw[if_pos rfl,ih];rfl
  |false=>rw[if_neg (by simp)];simp[h]
theorem tC:OK eU.e:=by
 refine PA.ok mixed (bf [jP.e] ⟨uN,trivial⟩) tX (by kernel_rfl) (show∀s,eU.goal (tH s) (s,(()),())from ?_);intro s hin hp;dsimp only[eU]at hp ⊢;have hlen:s.length<=maxLen:=hin.1.1;rw[maxLen_eq]at hlen;refine⟨λy=>∃n:Nat,y.1.1=n/\n<=s.length/\Sp.idxOf s=Sp.idxFrom n (s.drop n),λy=>((s.length:Int)-y.1.1).toNat,⟨0,rfl,by omega,rfl⟩,?_⟩;rintro⟨⟨_,⟨⟩⟩,⟨⟩⟩ ⟨n,rfl,hn,hJ⟩;dsimp only;refine af (λh=>?_) λh=>?_<;>simp only[akf,akA]at h
 .have hlt:n<s.length:=by omega
  rw[drop_cons s n (0,()) hlt,Sp.idxFrom]at hJ;rw[gq _ (by omega),akG];refine⟨⟨by omega,by omega⟩,trivial,af (λh2=>?_) λh2=>?_⟩
  .rw[if_neg (by intro h3;rw[h3]at h2;cases h2)]at hJ;rw[hJ]
  .have h3:aP (s.getD n (0,())).1=true:=by simpa using h2
   rw[if_pos h3]at hJ;exact⟨rfl,⟨n+1,by simp,by omega,hJ⟩,by dsimp only;omega⟩
 .have hge:n=s.length:=by omega
  rw[hge,amc]at hJ;rw[hJ];rfl
theorem qP:OK dU.e:=by refine PA.ok mixed (bf [eU.e,jP.e] ⟨tC,uN,trivial⟩) H0 (by kernel_rfl) (show∀s,dU.goal (qQ s) (s,(()),())from ?_);intro s hin hp;dsimp only[dU]at hp ⊢;have h:decide (Sp.idxOf s>=0)=!ja s:=QB s 0 (by omega);exact⟨trivial,by rw[h]⟩
theorem Oe:OK rM.e:=by refine PA.ok mixed (bf [jP.e,dU.e] ⟨uN,qP,trivial⟩) H0 (by kernel_rfl) (show∀l,rM.goal (Og l) (l,())from ?_);intro l hin hp;dsimp only[rM]at hp ⊢;exact⟨trivial,by rw[Bool.not_not]⟩
theorem Ur(n:Int)(h:(-9223372036854775808:Int)<=n/\n<=(9223372036854775807:Int)):(Lib.itoa n).length<=21:=Lib.itoa_length_le n h.1 h.2
theorem Ee(x y:List UInt8):Lib.join [x,y] [32]=x++[32]++y:=by simp[Lib.join_cons,Lib.joinTail]
theorem Ph(x y z:List UInt8):Lib.join [x,y,z] [32]=x++[32]++y++[32]++z:=by simp[Lib.join_cons,Lib.joinTail]
theorem Dz:OK pJ.e:=by
 refine PA.ok mixed (bf [kE.e] ⟨rX,trivial⟩) RX (by kernel_rfl) (show∀text,pJ.goal (PV text) (text,())from ?_);intro text hin hp;dsimp only[pJ]at hp ⊢;refine af (λh=>?_) λh=>?_
 .exact Fh (NY (by have:=je h;omega))
 .have hl:text.length<=10:=by have:=jT h;omega
  refine uI (mk:=λi v=>((v,i,()),())) (λy=>y.1.2.1) (λ_ _=>rfl) text.length (by omega)
   (λn v=>v=iq (text.take n)/\∀i,i<n->48<=(text.getD i 0).toNat/\(text.getD i 0).toNat<=57) ⟨rfl,λi hi=>absurd hi (ak0 _)⟩ (λI μ n v hn hJ next=>?_) λI μ v hJ=>?_
  .obtain⟨rfl,hd⟩:=hJ;obtain⟨b0,b1⟩:=Zb hn hl hd;dsimp only;rw[akG];refine uJ (by omega) ⟨⟨by omega,by omega⟩,af (λh2=>?_) λh2=>⟨⟨by omega,by omega⟩,af (λh3=>?_) λh3=>⟨⟨by omega,by omega⟩,rfl,?_⟩⟩⟩
   .exact Fh (GN hn (by have:=je h2;omega))
   .exact Fh (GN hn (by have:=je h3;omega))
   .have g2:=jT h2;have g3:=jT h3;have w1:IntKind.i64.wrap (10*iq (text.take n))=10*iq (text.take n):=gq _ (by omega);have w2:IntKind.i64.wrap ((text.getD n 0).toNat:Int)=(text.getD n 0).toNat:=gq _ (by omega);have w3:IntKind.i64.wrap (10*iq (text.take n)+(text.getD n 0).toNat)=10*iq (text.take n)+(text.getD n 0).toNat:=gq _ (by omega);have w4:IntKind.i64.wrap (10*iq (text.take n)+(text.getD n 0).toNat-48)=10*iq (text.take n)+(text.getD n 0).toNat-48:=gq _ (by omega);refine next _ ⟨?_,λi hi=>?_⟩
    .rw[w1,w2,w3,w4,aay hn];omega
    .rcases aks i n with h5|h5
     .exact hd i h5
     .rw[show i=n by omega];omega
  .obtain⟨rfl,hd⟩:=hJ;dsimp only;rw[akX (aj8 _)];refine uK (by omega) (af (λh2=>?_) λh2=>⟨trivial,af (λh3=>?_) λh3=>?_⟩)
   .refine Fh ?_;cases hk:aQ text with
    |false=>rfl
    |true=>have:=(uF.1 (yJ.1 hk).1).2;have:=je h2;omega
   .refine Fh ?_;cases hk:aQ text with
    |false=>rfl
    |true=>exact absurd (yJ.1 hk).2 (ne_of_beq_false (mM h3))
   .have e:=akq.1 (jw h3);have h0:0<=iq text:=(Fj text.length text rfl (λb hb=>by obtain⟨i,hi,rfl⟩:=alk.1 hb;have:=hd i hi;rw[aj9,akd hi]at this;exact this)).1;have:=J9 (uF.2 ⟨h0,by have:=jT h2;omega⟩) e;rw[this.1,this.2]
theorem Bh:OK ng.e:=by
 refine PA.ok mixed (bf [] trivial) Oh (by kernel_rfl) (show∀line,ng.goal (MC line) (line,())from ?_);intro line hin hp;dsimp only[ng]at hp ⊢;have hp:line.length<=1048576:=hp;refine af (λh=>?_) λh=>?_
 .exact(zl λhh=>by have:=je h;omega).symm
 .have hl:line.length<=600:=by have:=jT h;omega
  refine uI (mk:=λi(s:Int×Sp.LS)=>(((),s.1,i,()),s.2,())) (λy=>y.1.2.2.1) (λ_ _=>rfl) (line.length+1) (by omega)
   (λn s=>∃b:Nat,s.1=b/\Sp.splitAt line n b s.2) (s0:=((0:Int),[])) ⟨0,rfl,Zc line⟩ (λI μ n s hn hJ next=>?_) λI μ s hJ=>?_
  .obtain⟨b,out⟩:=s;obtain⟨b,rfl,hs⟩:=hJ;dsimp only at hs ⊢;have hb:=hs.1;have hout:=hs.2.2.1;have hw:IntKind.i64.wrap ((n:Int)+1)=((n+1:Nat):Int):=gq _ (by omega);rw[akG,akG];refine uJ (by omega) ⟨λ_=>n<line.length->l7 (line.getD n 0)=true,?_,λ_ hj=>?_⟩
   .refine af (λh2=>⟨⟨by omega,by have:=je h2;omega⟩,af (λh3=>?_) λh3=>⟨⟨by omega,by have:=je h2;omega⟩,af (λh4=>?_) λh4=>⟨rfl,λ_=>?_⟩⟩⟩) λh2=>⟨rfl,λhh=>?_⟩
    .exact(zl λhh=>by have h5:=uO.1 (RY hh.2.1 (show n<line.length by have:=je h2;omega));have:=je h3;omega).symm
    .exact(zl λhh=>by have h5:=uO.1 (RY hh.2.1 (show n<line.length by have:=je h2;omega));have:=je h4;omega).symm
    .exact uO.2 ⟨by have:=jT h3;omega,by have:=jT h4;omega⟩
    .have:=jT h2;omega
   .have tail:(n<line.length->l7 (line.getD n 0)=true/\line.getD n 0=32)->
     bif decide ((b:Int)<n)then((0:Int)<=b/\(b:Int)<=n/\(n:Int)<=line.length)/\List.length out+[(List.drop b (List.take n line),())].length<=big/\(((line,()),())=((line,()),()))/\
         I (((),IntKind.i64.wrap ((n:Int)+1),IntKind.i64.wrap ((n:Int)+1),()),out++[(List.drop b (List.take n line),())],())/\μ (((),IntKind.i64.wrap ((n:Int)+1),IntKind.i64.wrap ((n:Int)+1),()),out++[(List.drop b (List.take n line),())],())<μ (((),(b:Int),(n:Int),()),out,())
      else(((line,()),())=((line,()),()))/\I (((),IntKind.i64.wrap ((n:Int)+1),IntKind.i64.wrap ((n:Int)+1),()),out,())/\μ (((),IntKind.i64.wrap ((n:Int)+1),IntKind.i64.wrap ((n:Int)+1),()),out,())<μ (((),(b:Int),(n:Int),()),out,()):=by
     intro ho;refine af (λh3=>⟨⟨by omega,by omega,by omega⟩,?_,rfl,?_⟩) λh3=>⟨rfl,?_⟩
     .rw[ac7];show _+1<=_;omega
     .exact next (IntKind.i64.wrap ((n:Int)+1),out++[((line.take n).drop b,())]) ⟨n+1,hw,Zd hs (by omega) (by have:=je h3;omega) ho⟩
     .exact next (IntKind.i64.wrap ((n:Int)+1),out) ⟨n+1,hw,Ze hs (by omega) (by have:=jT h3;omega) ho⟩
    refine af (λh2=>⟨⟨by omega,by have:=je h2;omega⟩,af (λh3=>⟨rfl,?_⟩) λh3=>?_⟩) λh2=>?_
    .have hn2:n<line.length:=by have:=je h2;omega
     exact next ((b:Int),out) ⟨b,rfl,Zf hs hn2 (hj hn2) λe=>by rw[e]at h3;revert h3;decide⟩
    .refine tail λhn2=>⟨hj hn2,?_⟩;have h3:((line.getD n 0).toNat:Int)=32:=by simpa using h3
     exact UInt8.toNat_inj.1 (by show _=32;omega)
    .exact tail λhn2=>by have:=jT h2;omega
  .obtain⟨b,out⟩:=s;obtain⟨b,rfl,hs⟩:=hJ;dsimp only at hs ⊢;obtain⟨h1,h2⟩:=aaz hs;subst h2;refine uK (by omega) (af (λh2=>?_) λh2=>?_)
   .exact(zl λhh=>by have:=je h2;rw[lD]at this;omega).symm
   .exact(Xc (kU.2 ⟨hl,h1,by have:=jT h2;rw[lD]at this;omega⟩)).symm
theorem GR:OK rZ.e:=by
 refine PA.ok mixed (bf [] trivial) VX (by kernel_rfl) (show∀p,rZ.goal (Us p) (p,())from ?_);intro p hin hp;dsimp only[rZ]at hp ⊢;have hp1:p.length<=1000:=hp.1;have hp2:(eF p).length<=2097152:=hp.2;refine uI (mk:=λi s=>((s,i,()),())) (λy=>y.1.2.1) (λ_ _=>rfl) p.length (by omega) (λn s=>s=eF (p.take n)) rfl (λI μ n s hn hJ next=>?_) λI μ s hJ=>?_
 .subst hJ;have e:=acd hn;have hle:=XK p (n+1);have hll:=congrArg List.length e;have h1:([32]:Sp.Bytes).length=1:=rfl;dsimp only;rw[akG];refine uJ (by omega) (af (λh2=>?_) λh2=>?_)
  .have hn0:n≠0:=by have:=je h2;omega
   rw[if_neg hn0]at e hll;rw[aj1,aj1,h1]at hll;refine⟨?_,⟨by omega,by omega⟩,?_,rfl,next _ e.symm⟩
   .rw[maxLen_eq,h1];omega
   .rw[maxLen_eq,aj1,h1];omega
  .have hn0:n=0:=by have:=jT h2;omega
   subst hn0;refine⟨⟨by omega,by omega⟩,?_,rfl,next _ e.symm⟩;have h0:(eF (p.take 0)).length=0:=rfl;rw[maxLen_eq,h0];rw[if_pos rfl,akP]at hll;omega
 .subst hJ;dsimp only;refine uK (by omega) ?_;rw[akX (aj8 _)]
theorem Bj:OK iW.e:=by
 refine PA.ok mixed (bf [(uG,.pure qK),jg.e] ⟨⟨Dy,CU⟩,mJ,trivial⟩) Oi (by kernel_rfl) (show∀line,iW.goal (MF line) (line,())from ?_);intro line hin hp;dsimp only[iW]at hp ⊢;refine af (λh=>?_) λh=>?_
 .exact(zl λhh=>by have:=je h;omega).symm
 .have hl:line.length<=600:=by have:=jT h;omega
  refine Ep line.length (by omega) (λn=>∀i,i<n->l7 (line.getD i 0)=true) (λi hi=>absurd hi (ak0 _)) (λI μ n hn hJ next=>?_) λI μ hJ=>?_
  .dsimp only;rw[akG,ace];refine uJ (by omega) ⟨⟨by omega,by omega⟩,trivial,af (λh2=>?_) λh2=>⟨rfl,next λi hi=>?_⟩⟩
   .exact(zl λhh=>by have:=RY hh.2.1 hn;rw[mM h2]at this;cases this).symm
   .rcases aks i n with h5|h5
    .exact hJ i h5
    .rw[show i=n by omega];exact jw h2
  .dsimp only;have hall:=Zg hJ;refine uK (by omega) ⟨⟨hp,Zh hall⟩,af (λh2=>?_) λh2=>?_⟩
   .exact(zl λhh=>by have:=je h2;rw[lD]at this;omega).symm
   .exact(Xc (kU.2 ⟨hl,hall,by have:=jT h2;rw[lD]at this;omega⟩)).symm
theorem Aw:OK mD.e:=by
 refine PA.ok mixed (bf [] trivial) H0 (by kernel_rfl) (show∀p at',mD.goal (Ut p at') (p,at',())from ?_);intro w i hin hp;dsimp only[mD]at hp ⊢;refine af (λh=>?_) λh=>⟨⟨hp,by have:=jT h;omega⟩,?_⟩
 .rw[lU (je h)]
 .rw[jf (by have:=jT h;omega)]
theorem Jh:OK uV.e:=by
 refine PA.ok mixed (bf [] trivial) H0 (by kernel_rfl) (show∀w i,uV.goal (VY w i) (w,i,())from ?_);intro w i hin hp;dsimp only[uV]at hp ⊢;refine af (λh=>?_) λh=>⟨⟨hp,by have:=jT h;omega⟩,?_⟩
 .rw[lU (je h)]
 .rw[jf (by have:=jT h;omega)]
theorem Ji:OK uX.e:=by refine PA.ok mixed (bf [pJ.e,mD.e] ⟨Dz,Aw,trivial⟩) H0 (by kernel_rfl) (show∀p at',uX.goal (VZ p at') (p,at',())from ?_);intro w i hin hp;dsimp only[uX]at hp ⊢;exact⟨hp,trivial,rfl⟩
theorem RZ:OK vX.e:=by refine PA.ok mixed (bf [(pX,.pure mZ),uV.e] ⟨⟨xY,wO⟩,Jh,trivial⟩) H0 (by kernel_rfl) (show∀w i,vX.goal (Si w i) (w,i,())from ?_);intro w i hin hp;dsimp only[vX]at hp ⊢;exact⟨hp,trivial,rfl⟩
theorem H6:OK nI.e:=by
 refine PA.ok mixed (bf [] trivial) Jj (by kernel_rfl) (show∀s1 s2,nI.goal (H7 s1 s2) (s1,s2,())from ?_);intro a b hin hp;dsimp only[nI]at hp ⊢;have hlen:a.length<=maxLen:=hin.1.1;rw[maxLen_eq]at hlen;refine af (λh=>?_) λh=>?_
 .have h:(a.length:Int)≠b.length:=by simpa using h
  exact congrArg (·,()) (aky λe=>h (by rw[e])).symm
 .have h:(a.length:Int)=b.length:=by simpa using h
  exact V3 (K:=λr=>r=(decide (a=b),())) (λx y=>!(x.1==y.1)) (λx y=>by simp[amJ]) _ a b _ hlen (by omega) (λe=>by rw[aky e]) λe=>by rw[aku e]
theorem Oj:OK rG.e:=by
 refine PA.ok mixed (bf [nI.e,(uG,.pure qK)] ⟨H6,⟨Dy,CU⟩,trivial⟩) H0 (by kernel_rfl) (show∀text w,rG.goal (Ol text w) (text,w,())from ?_);intro text w hin hp;dsimp only[rG]at hp ⊢;refine af (λh=>⟨hp,trivial,?_⟩) λh=>?_
 .rw[h,akV]
 .rw[h,alc]
end Go.Proofs.Tryz
namespace Go.Proofs.Tryz
open Go Go.Fw Go.IntWalk Sp
theorem Bl:OK kH.e:=by
 refine PA.ok mixed (bf [mr.e,iK.e] ⟨x9,oQ,trivial⟩) H0 (by kernel_rfl) (show∀v0 v1 v2,kH.goal (MG v0 v1 v2) ((v0,v1,v2,()),())from ?_);intro v0 v1 v2 hin hp;dsimp only[kH]at hp ⊢;refine⟨trivial,?_⟩;unfold aV;dsimp only;cases !aU v0 v1 v2 with
 |true=>exact rfl
 |false=>
 cases v0==1 with
 |true=>exact⟨trivial,rfl⟩
 |false=>cases v0==2<;>exact rfl
theorem vU:OK iY.e:=by
 refine PA.ok mixed (bf [kE.e,iJ.e] ⟨rX,oP,trivial⟩) H0 (by kernel_rfl) (show∀v0 v1 v2,iY.goal (MH v0 v1 v2) ((v0,v1,v2,()),())from ?_);intro v0 v1 v2 hin hp;dsimp only[iY]at hp ⊢;refine⟨trivial,?_⟩;unfold aV;dsimp only;cases !aU v0 v1 v2 with
 |true=>exact rfl
 |false=>
 cases v0==1 with
 |true=>exact⟨trivial,rfl⟩
 |false=>cases v0==2<;>exact rfl
theorem V4{n:Int}(h:0<=n):aU 1 n []=decide (n<=999):=by unfold aU;simp[h]
theorem V5(s:List UInt8):aU 2 0 s=aG s:=by unfold aU;simp
theorem acf:aQ [45]=false:=by decide
theorem Sj:OK vZ.e:=by refine PA.ok mixed (bf [] trivial) H0 (by kernel_rfl) (show∀n,vZ.goal (Sl n) (n,())from ?_);intro n hin hp;dsimp only[vZ]at hp ⊢;exact rfl
theorem CW:OK jB.e:=by
 refine PA.ok mixed (bf [iK.e,qJ.e,vZ.e,(pX,.pure mZ)] ⟨oQ,Me,Sj,⟨xY,wO⟩,trivial⟩) H0 (by kernel_rfl) (show∀s,jB.goal (Om s) (s,())from ?_);intro s hin hp;dsimp only[jB]at hp ⊢;have h0:=(uF.1 (yS s)).1;refine⟨trivial,?_⟩;unfold aO;cases hk:aQ s with
 |true=>
  refine⟨trivial,trivial,?_⟩;dsimp only;rw[V4 h0];cases decide (Sp.parseNum s<=999)<;>exact rfl
 |false=>
  cases hs:s==[45]with
  |true=>exact⟨trivial,rfl⟩
  |false=>refine⟨trivial,trivial,?_⟩;dsimp only;rw[V5];cases aG s<;>exact rfl
theorem CX:OK lI.e:=by
 refine PA.ok mixed (bf [iY.e,iJ.e,vW.e,qG.e,pJ.e] ⟨vU,oP,RQ,LZ,Dz,trivial⟩) H0 (by kernel_rfl) (show∀s,lI.goal (Oo s) (s,())from ?_);intro s hin hp;dsimp only[lI]at hp ⊢;have h0:=(uF.1 (yS s)).1;unfold aO;refine af (λh=>?_) λh=>?_
 .have e:s=[45]:=akq.1 h;subst e;rw[acf,h];rfl
 rw[h];refine⟨trivial,trivial,?_⟩;cases hk:aQ s with
 |true=>
  refine⟨trivial,trivial,?_⟩;dsimp only;rw[V4 h0];cases h9:decide (Sp.parseNum s<=999)with
  |false=>exact rfl
  |true=>
   refine⟨trivial,?_⟩;have e:aV (1,Sp.parseNum s,[],())=s:=by unfold aV;dsimp only;rw[V4 h0,h9];exact(gG hk).1
   rw[e,ale];exact rfl
 |false=>
  refine⟨trivial,?_⟩;dsimp only;rw[V5];cases hv:aG s with
  |false=>exact rfl
  |true=>
   refine⟨trivial,?_⟩;have e:aV (2,0,s,())=s:=by unfold aV;dsimp only;rw[V5,hv];rfl
   rw[e,ale];exact rfl
theorem adt{op:Int}(h:(decide (1<=op)&&decide (op<=9))=false):dD op=[63]:=by rw[Bool.and_eq_false_iff,akA,akA]at h;unfold dD;rw[aj2.2 (show op≠1 by omega),aj2.2 (show op≠2 by omega),aj2.2 (show op≠3 by omega),aj2.2 (show op≠4 by omega),aj2.2 (show op≠5 by omega),aj2.2 (show op≠6 by omega),aj2.2 (show op≠7 by omega),aj2.2 (show op≠8 by omega),aj2.2 (show op≠9 by omega)];rfl
theorem ae0{op:Int}(h:(decide (1<=op)&&decide (op<=9))=true):op=1\/op=2\/op=3\/op=4\/op=5\/op=6\/op=7\/op=8\/op=9:=by rw[aj0,akf,akf]at h;omega
theorem DC:OK iZ.e:=by
 refine PA.ok mixed (bf [jg.e] ⟨mJ,trivial⟩) H0 (by kernel_rfl) (show∀op,iZ.goal (PW op) (op,())from ?_);intro op hin hp;dsimp only[iZ]at hp ⊢;refine⟨trivial,af (λh=>?_) λh=>?_⟩
 .exact congrArg (·,()) (adt (mM h)).symm
 .rcases ae0 (jw h)with e|e|e|e|e|e|e|e|e<;>subst e<;>exact⟨by decide,rfl⟩
theorem DF:OK kF.e:=by
 refine PA.ok mixed (bf [iD.e] ⟨lT,trivial⟩) H0 (by kernel_rfl) (show∀op,kF.goal (PX op) (op,())from ?_);intro op hin hp;dsimp only[kF]at hp ⊢;refine⟨trivial,af (λh=>?_) λh=>?_⟩
 .exact congrArg (·,()) (adt (mM h)).symm
 .rcases ae0 (jw h)with e|e|e|e|e|e|e|e|e<;>subst e<;>exact⟨by decide,rfl⟩
theorem bQ{n:Nat}(h:n<=100000000000):n<=maxLen:=by rw[maxLen_eq];omega
theorem zJ{n:Nat}(h:n<=4000000000):n<=big:=by rw[ac7];omega
theorem Az{n:Nat}(h:Nat.ble n 10=true):n<=big:=zJ (akb (ak3 h) (by decide))
theorem vw{n:Nat}(h:Nat.ble n 10=true):n<=140737488355328:=akb (ak3 h) (by decide)
theorem F8[mX](H8:fZ prog G nP qw):fZ prog G yI wE:=by
 refine F9 (bf [(mF,.pure kD),(nP,.pure qw),kH.e,iZ.e] ⟨⟨wz,uH⟩,⟨H8,FV⟩,Bl,DC,trivial⟩) ?_;intro q i hin hp;obtain⟨⟨ho,h0,hl⟩,hf⟩:=hp;have hT:(Lib.join (aW (i.toNat+1) q i) [32]).length<=140737488355328:=akb (Zi ho h0 hl) (by decide);have hlen:=(ji ho).2;have hn:=(lF ho (show i.toNat<q.length by omega)).1;refine⟨⟨h0,hl⟩,trivial,?_⟩;have eN:q.getD i.toNat (0,0,0,[],0,0,[],())=Sp.nodeAt q i.toNat:=rfl;dsimp only;rw[eN];rcases Xd hn with c|c|c
 .have e:=aa8 (q:=q) (i:=i) i.toNat c;rw[e]at hT ⊢;generalize Sp.nodeAt q i.toNat=n at c hT;obtain⟨op,l,r,s,v⟩:=n;dsimp only at c hT ⊢;rcases c with rfl|rfl|rfl|rfl|rfl|rfl
  .exact eP ((false,()),()) ⟨rfl,rfl⟩ ⟨⟨vw rfl,hT⟩,rfl⟩
  .exact eP ((true,()),()) ⟨rfl,rfl⟩ ⟨Az rfl,⟨vw rfl,hT⟩,rfl⟩
  .exact eP ((false,()),()) ⟨rfl,rfl⟩ ⟨trivial,Az rfl,⟨vw rfl,hT⟩,rfl⟩
  .exact eP ((false,()),()) ⟨rfl,rfl⟩ ⟨trivial,Az rfl,⟨vw rfl,hT⟩,rfl⟩
  .exact eP ((true,()),()) ⟨rfl,rfl⟩ ⟨Az rfl,⟨vw rfl,hT⟩,rfl⟩
  .exact eP ((true,()),()) ⟨rfl,rfl⟩ ⟨Az rfl,⟨vw rfl,hT⟩,rfl⟩
 .obtain⟨e,k0,k1⟩:=adu ho h0 hl c;rw[e]at hT ⊢;have e2:=Uu (dD 5) (zK (Sp.nodeAt q i.toNat).2.1.toNat q (Sp.nodeAt q i.toNat).2.1);rw[← e2]at hT ⊢;have hk:(aC q=true/\0<=(Sp.nodeAt q i.toNat).2.1/\(Sp.nodeAt q i.toNat).2.1<(q.length:Int))/\(Sp.nodeAt q i.toNat).2.1.toNat<iy:=⟨⟨ho,k0,by omega⟩,by omega⟩;rw[c];exact eP ((false,()),()) ⟨rfl,rfl⟩ ⟨hk,Az rfl,⟨vw rfl,hT⟩,rfl⟩
 .obtain⟨e,⟨k0,k1⟩,m0,m1⟩:=adv ho h0 hl c;rw[e]at hT ⊢;have e2:=Uw (dD (Sp.nodeAt q i.toNat).1) (zK (Sp.nodeAt q i.toNat).2.1.toNat q (Sp.nodeAt q i.toNat).2.1) (zK (Sp.nodeAt q i.toNat).2.2.1.toNat q (Sp.nodeAt q i.toNat).2.2.1);rw[← e2]at hT ⊢;have hk:(aC q=true/\0<=(Sp.nodeAt q i.toNat).2.1/\(Sp.nodeAt q i.toNat).2.1<(q.length:Int))/\(Sp.nodeAt q i.toNat).2.1.toNat<iy:=⟨⟨ho,k0,by omega⟩,by omega⟩;have hm:(aC q=true/\0<=(Sp.nodeAt q i.toNat).2.2.1/\(Sp.nodeAt q i.toNat).2.2.1<(q.length:Int))/\(Sp.nodeAt q i.toNat).2.2.1.toNat<iy:=⟨⟨ho,m0,by omega⟩,by omega⟩;rcases c with c|c<;>rw[c]at hT ⊢
  .exact eP ((false,()),()) ⟨rfl,rfl⟩ ⟨hk,hm,Az rfl,⟨vw rfl,hT⟩,rfl⟩
  .exact eP ((false,()),()) ⟨rfl,rfl⟩ ⟨hk,hm,Az rfl,⟨vw rfl,hT⟩,rfl⟩
theorem PY:fZ prog G zk Ci:=
 ac5 (λn=>@zu ⟨n⟩) (λn=>@yh ⟨n⟩) (by rintro⟨q,at',⟨⟩⟩ h;exact ak0 _ h.2) (by rintro _ ⟨q,at',⟨⟩⟩;rfl) (by rintro⟨q,at',⟨⟩⟩ h;exact⟨_,h,alB _⟩) (by rintro _ ⟨q,at',⟨⟩⟩;rfl) λn h=>@F8 ⟨n⟩ h
theorem Jk[mX](KC:fZ prog G qo su):fZ prog G Aq yt:=by
 refine Jl (bf [(qo,.pure su),iY.e,kF.e] ⟨⟨KC,I9⟩,vU,DF,trivial⟩) ?_;intro q i hin hp;obtain⟨⟨ho,h0,hl⟩,hf⟩:=hp;have hT:=Zi ho h0 hl;have hlen:=(ji ho).2;have hn:=(lF ho (show i.toNat<q.length by omega)).1;refine⟨⟨h0,hl⟩,trivial,?_⟩;have eN:q.getD i.toNat (0,0,0,[],0,0,[],())=Sp.nodeAt q i.toNat:=rfl;dsimp only;rw[eN];rcases Xd hn with c|c|c
 .have e:=aa8 (q:=q) (i:=i) i.toNat c;rw[e]at hT ⊢;generalize Sp.nodeAt q i.toNat=n at c hT;obtain⟨op,l,r,s,v⟩:=n;dsimp only at c hT ⊢;rcases c with rfl|rfl|rfl|rfl|rfl|rfl
  .exact eP ((false,()),()) ⟨rfl,rfl⟩ rfl
  .have e2:Lib.join (gU (2,l,r,s,v)) [32]=dD 2++[32]++s:=Ee _ _;rw[e2]at hT ⊢;simp only[aj1]at hT;exact eP ((true,()),()) ⟨rfl,rfl⟩ ⟨bQ (by omega),bQ (by rw[aj1];omega),rfl⟩
  .have e2:Lib.join (gU (3,l,r,s,v)) [32]=dD 3++[32]++s++[32]++aV v:=Ph _ _ _;rw[e2]at hT ⊢;simp only[aj1]at hT;exact eP ((false,()),()) ⟨rfl,rfl⟩ ⟨bQ (by omega),bQ (by simp only[aj1];omega),bQ (by simp only[aj1];omega),trivial,bQ (by simp only[aj1];omega),rfl⟩
  .have e2:Lib.join (gU (4,l,r,s,v)) [32]=dD 4++[32]++s++[32]++aV v:=Ph _ _ _;rw[e2]at hT ⊢;simp only[aj1]at hT;exact eP ((false,()),()) ⟨rfl,rfl⟩ ⟨bQ (by omega),bQ (by simp only[aj1];omega),bQ (by simp only[aj1];omega),trivial,bQ (by simp only[aj1];omega),rfl⟩
  .have e2:Lib.join (gU (8,l,r,s,v)) [32]=dD 8++[32]++s:=Ee _ _;rw[e2]at hT ⊢;simp only[aj1]at hT;exact eP ((true,()),()) ⟨rfl,rfl⟩ ⟨bQ (by omega),bQ (by rw[aj1];omega),rfl⟩
  .have e2:Lib.join (gU (9,l,r,s,v)) [32]=dD 9++[32]++s:=Ee _ _;rw[e2]at hT ⊢;simp only[aj1]at hT;exact eP ((true,()),()) ⟨rfl,rfl⟩ ⟨bQ (by omega),bQ (by rw[aj1];omega),rfl⟩
 .obtain⟨e,k0,k1⟩:=adu ho h0 hl c;rw[e]at hT ⊢;have e2:=Uu (dD 5) (zK (Sp.nodeAt q i.toNat).2.1.toNat q (Sp.nodeAt q i.toNat).2.1);rw[Ee]at e2;rw[← e2]at hT ⊢;simp only[aj1]at hT;have hk:(aC q=true/\0<=(Sp.nodeAt q i.toNat).2.1/\(Sp.nodeAt q i.toNat).2.1<(q.length:Int))/\(Sp.nodeAt q i.toNat).2.1.toNat<iy:=⟨⟨ho,k0,by omega⟩,by omega⟩;rw[c];exact eP ((false,()),()) ⟨rfl,rfl⟩ ⟨bQ (by omega),hk,bQ (by simp only[aj1];omega),rfl⟩
 .obtain⟨e,⟨k0,k1⟩,m0,m1⟩:=adv ho h0 hl c;rw[e]at hT ⊢;have e2:=Uw (dD (Sp.nodeAt q i.toNat).1) (zK (Sp.nodeAt q i.toNat).2.1.toNat q (Sp.nodeAt q i.toNat).2.1) (zK (Sp.nodeAt q i.toNat).2.2.1.toNat q (Sp.nodeAt q i.toNat).2.2.1);rw[Ph]at e2;rw[← e2]at hT ⊢;simp only[aj1]at hT;have hk:(aC q=true/\0<=(Sp.nodeAt q i.toNat).2.1/\(Sp.nodeAt q i.toNat).2.1<(q.length:Int))/\(Sp.nodeAt q i.toNat).2.1.toNat<iy:=⟨⟨ho,k0,by omega⟩,by omega⟩;have hm:(aC q=true/\0<=(Sp.nodeAt q i.toNat).2.2.1/\(Sp.nodeAt q i.toNat).2.2.1<(q.length:Int))/\(Sp.nodeAt q i.toNat).2.2.1.toNat<iy:=⟨⟨ho,m0,by omega⟩,by omega⟩;rcases c with c|c<;>rw[c]at hT ⊢
  .exact eP ((false,()),()) ⟨rfl,rfl⟩ ⟨bQ (by omega),hk,bQ (by simp only[aj1];omega),bQ (by simp only[aj1];omega),hm,bQ (by simp only[aj1];omega),rfl⟩
  .exact eP ((false,()),()) ⟨rfl,rfl⟩ ⟨bQ (by omega),hk,bQ (by simp only[aj1];omega),bQ (by simp only[aj1];omega),hm,bQ (by simp only[aj1];omega),rfl⟩
theorem Ux:fZ prog G BF Ez:=
 ac5 (λn=>@AZ ⟨n⟩) (λn=>@zT ⟨n⟩) (by rintro⟨q,at',⟨⟩⟩ h;exact ak0 _ h.2) (by rintro _ ⟨q,at',⟨⟩⟩;rfl) (by rintro⟨q,at',⟨⟩⟩ h;exact⟨_,h,alB _⟩) (by rintro _ ⟨q,at',⟨⟩⟩;rfl) λn h=>@Jk ⟨n⟩ h
theorem Zj{q:List ax}(h:aC q=true):aW (((q.length:Int)-1).toNat+1) q ((q.length:Int)-1)=aW 9 q ((q.length:Int)-1):=by have hl:=ji h;exact wP h _ _ _ (by omega) (by omega) (by omega) (by omega)
theorem Bo:OK ni.e:=by
 refine PA.ok mixed (bf [(zk,.pure Ci),gy.e] ⟨⟨PY,NZ⟩,uM,trivial⟩) H0 (by kernel_rfl) (show∀q,ni.goal (MI q) (q,())from ?_);intro q hin hp;dsimp only[ni]at hp ⊢;have hp:q.length<=2000000:=hp;refine⟨hp,?_⟩;unfold Sp.textOf;cases h:aC q with
 |false=>exact rfl
 |true=>have hl:=ji h;have hw:IntKind.i64.wrap ((q.length:Int)-1)=(q.length:Int)-1:=gq _ (by omega);rw[hw];dsimp only;rw[Zj h];exact⟨⟨rfl,by omega,by omega⟩,rfl⟩
theorem vV:OK kJ.e:=by
 refine PA.ok mixed (bf [(BF,.pure Ez),lZ.e] ⟨⟨Ux,RN⟩,Au,trivial⟩) H0 (by kernel_rfl) (show∀q,kJ.goal (MJ q) (q,())from ?_);intro q hin hp;dsimp only[kJ]at hp ⊢;have hp:q.length<=2000000:=hp;refine⟨hp,?_⟩;unfold Sp.textOf;cases h:aC q with
 |false=>exact rfl
 |true=>have hl:=ji h;have hw:IntKind.i64.wrap ((q.length:Int)-1)=(q.length:Int)-1:=gq _ (by omega);rw[hw];dsimp only;rw[Zj h];exact⟨⟨rfl,by omega,by omega⟩,rfl⟩
end Go.Proofs.Tryz
