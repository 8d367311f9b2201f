import Derived.Test.YtflpicdbkomglaaGreatDoorV1
import Derived.Test.YtflpicdbkomglaaGreatDoorSp
import Derived.Test.YtflpicdbkomglaaGreatDoorV2
import Derived.Test.YtflpicdbkomglaaGreatDoorFwC
import Derived.Test.YtflpicdbkomglaaGreatDoorV5
import Derived.Test.YtflpicdbkomglaaGreatDoorL4
import Derived.Test.YtflpicdbkomglaaGreatDoorV20
import Derived.Test.YtflpicdbkomglaaGreatDoorV22
import Derived.Test.YtflpicdbkomglaaGreatDoorV21
namespace Go.Proofs.Tryz
open Go Go.Fw Go.IntWalk Sp
theorem abl(x y:Int)(m:Nat)(hm:m<9223372036854775807)(hy:(BitVec.ofInt 64 y).toNat=m):0<=bitsOf .and .i64 x y/\bitsOf .and .i64 x y<=m:=by
 have h:(BitVec.ofInt 64 x&&&BitVec.ofInt 64 y).toNat<=m:=by rw[BitVec.toNat_and,hy];exact Nat.and_le_right
 show 0<=IntKind.i64.wrap ((BitVec.ofInt 64 x&&&BitVec.ofInt 64 y).toNat:Int)/\IntKind.i64.wrap ((BitVec.ofInt 64 x&&&BitVec.ofInt 64 y).toNat:Int)<=m;generalize (BitVec.ofInt 64 x&&&BitVec.ofInt 64 y).toNat=z at h ⊢;rw[dW _ (by omega)];omega
theorem abm(x:Int):0<=bitsOf .and .i64 x 255/\bitsOf .and .i64 x 255<=255:=abl x 255 255 (by omega) (by decide)
theorem acR:OK zK.e:=by
 refine XA.ok mixed (aP [] trivial) H0 (λ_ _=>⟨(((0:Int),()),(([],0,0,()),())),⟨by decide,by decide,by decide⟩⟩) (by kernel_rfl) (show∀c0 c1 c2,zK.goal (QY c0 c1 c2) ((c0,c1,c2,()),())from ?_);intro b i h hin hp;dsimp only[zK]at hp ⊢;have hp:0<=i:=hp;refine⟨by decide,by decide,ah (λhc=>?_) λhc=>?_⟩<;>simp only[ahA,ahM]at hc
 .have hl:b.length<=maxLen:=hin.1.1.1;rw[maxLen_eq]at hl;refine⟨⟨hp,hc⟩,?_,abm _⟩;show 0<=IntKind.i64.wrap (i+1);rw[dW _ (by omega)];omega
 .exact⟨hp,abm _⟩
theorem PL:OK tN.e:=by refine PA.ok mixed (aP [] trivial) H0 (by kernel_rfl) (show∀n,tN.goal (PN n) (n,())from ?_);intro n hin hp;dsimp only[tN]at hp ⊢;exact rfl
theorem JD:OK oH.e:=by refine PA.ok mixed (aP [] trivial) H0 (by kernel_rfl) (show∀w,oH.goal (JE w) (w,())from ?_);intro n hin hp;dsimp only[oH]at hp ⊢;exact rfl
theorem jZ:OK fK.e:=by
 refine PA.ok mixed (aP [] trivial) H0 (by kernel_rfl) (show∀Jy least most,fK.goal (VG Jy least most) (Jy,least,most,())from ?_);intro x a b hin hp;dsimp only[fK]at hp ⊢;refine ah (λh=>?_) λh=>?_
 .have h:=kL h;show(decide (x<=b),())=(decide (a<=x)&&decide (x<=b),());rw[ahT (show a<=x from h)];rfl
 .have h:=mO h;show(false,())=(decide (a<=x)&&decide (x<=b),());rw[ah5 (show ¬a<=x from h)];rfl
theorem kM:OK gY.e:=by
 refine PA.ok mixed (aP [] trivial) H0 (by kernel_rfl) (show∀n low high,gY.goal (TP n low high) (n,low,high,())from ?_);intro x a b hin hp;dsimp only[gY]at hp ⊢;refine ah (λh=>?_) λh=>?_
 .show(decide (x<=b),())=(decide (a<=x)&&decide (x<=b),());rw[h];rfl
 .show(false,())=(decide (a<=x)&&decide (x<=b),());rw[h];rfl
theorem BZ{s:List UInt8}{n:Nat}(hlt:n<s.length)(hl:Sp.lower s=true):97<=(s.getD n 0).toNat/\(s.getD n 0).toNat<=122:=by have:=ahH.1 hl _ (getD_mem (d:=0) hlt);simpa using this
theorem EK:OK qi.e:=by
 refine PA.ok mixed (aP [fK.e] ⟨jZ,trivial⟩) TQ (by kernel_rfl) (show∀s most,qi.goal (QZ s most) (s,most,())from ?_);intro s most hin hp;dsimp only[qi]at hp ⊢;have hlen:s.length<=maxLen:=hin.1;rw[maxLen_eq]at hlen;refine⟨λy=>∃n:Nat,y.1.1=n/\n<=s.length/\Sp.lower (s.take n)=true,λy=>((s.length:Int)-y.1.1).toNat,⟨0,rfl,by omega,rfl⟩,?_⟩;rintro⟨⟨_,⟨⟩⟩,⟨⟩⟩ ⟨n,rfl,hn,hJ⟩;dsimp only;refine ah (λh=>?_) λh=>?_<;>simp only[ahA,ahM]at h
 .have hlt:n<s.length:=by omega
  rw[dW _ (by omega),aia];refine⟨⟨by omega,by omega⟩,ah (λh2=>?_) λh2=>⟨⟨by omega,by omega⟩,ah (λh3=>?_) λh3=>?_⟩⟩<;>simp only[ahA,ahM]at*
  .cases hl:Sp.lower s with
   |false=>rfl
   |true=>have:=BZ hlt hl;omega
  .cases hl:Sp.lower s with
   |false=>rfl
   |true=>have:=BZ hlt hl;omega
  .refine⟨rfl,⟨n+1,by simp,by omega,?_⟩,by dsimp only;omega⟩;rw[Sp.take_succ' s n 0 hlt];unfold Sp.lower at hJ ⊢;rw[List.all_append,hJ];simp only[aim,aj9,ajc,aij,ahq,ahA];omega
 .have hge:n=s.length:=by omega
  rw[hge,ai8]at hJ;rw[hJ];exact⟨trivial,rfl⟩
theorem qK:OK iq.e:=by refine PA.ok mixed (aP [qi.e] ⟨EK,trivial⟩) H0 (by kernel_rfl) (show∀s,iq.goal (Gy s) (s,())from ?_);intro s hin hp;dsimp only[iq]at hp ⊢;exact⟨trivial,rfl⟩
theorem mP:OK fZ.e:=by
 refine PA.ok mixed (aP [iq.e,fK.e] ⟨qK,jZ,trivial⟩) H0 (by kernel_rfl) (show∀v0 v1 v2,fZ.goal (IB v0 v1 v2) ((v0,v1,v2,()),())from ?_);intro k n s hin hp;dsimp only[fZ]at hp ⊢;refine ah (λh=>?_) λh=>ah (λh2=>⟨trivial,ah (λh3=>?_) λh3=>?_⟩) λh2=>ah (λh3=>⟨trivial,ah (λh4=>?_) λh4=>?_⟩) λh3=>?_
 .have e:k=0:=by simpa using h
  subst e;exact congrArg (·,()) (ahX.2 (by simp[aS]))
 .have e:k=1:=by simpa using h2
  subst e;exact congrArg (·,()) (ahX.2 (by simp only[ahq,ahA]at h3;simp[aS,h3]))
 .have e:k=1:=by simpa using h2
  subst e;exact congrArg (·,()) (ahX.2 (by simp only[aS,h3];simp))
 .have e:k=2:=by simpa using h3
  subst e;exact congrArg (·,()) (ahX.2 (by simp[aS,h4]))
 .have e:k=2:=by simpa using h3
  subst e;exact congrArg (·,()) (ahX.2 (by simp[aS,h4]))
 .have e1:k≠0:=by simpa using h
  have e2:k≠1:=by simpa using h2
  have e3:k≠2:=by simpa using h3
  exact congrArg (·,()) (ahX.2 (by simp[aS,e1,e2,e3]))
theorem vK:OK iV.e:=by refine PA.ok mixed (aP [qi.e] ⟨EK,trivial⟩) H0 (by kernel_rfl) (show∀s,iV.goal (Ed s) (s,())from ?_);intro s hin hp;dsimp only[iV]at hp ⊢;exact⟨trivial,rfl⟩
theorem set_self{fs:List bD}{n:Nat}(hn:n<fs.length):fs.set n (fs.getD n (0,0,false,0,[],()))=fs:=by
 refine aj8 (by simp) λi h1 h2=>?_;rw[List.getElem_set];split
 .next e=>subst e;rw[ahv,ahw hn];rfl
 .rfl
def names:List (Int×Int×Sp.Bytes):=[(2,0,[105,110,107]),(2,0,[115,101,97])]
theorem abZ:DK Sp.usual=true:=by kernel_rfl
structure IC(k:Int)(s:qL):Prop where
 sch:s.1=Sp.usual
 ok:sW s=true
 nx:s.2.2.1<=s.2.1.length+k
 small:ad7 s
theorem IC.more{k k':Int}{s:qL}(h:IC k s)(hk:k<=k'):IC k' s:=⟨h.sch,h.ok,by have:=h.nx;omega,h.small⟩
theorem IC.grows{s:qL}(h:IC 2 s)(hl:s.2.1.length<12){f:bD}(ho:0<=f.2.1/\f.2.1<=2)(hk:0<=f.2.2.2.1/\f.2.2.2.1<=6)(ha:Nb Sp.usual f.2.2.2.2.1=true):(vz s f).1.2.1.length=s.2.1.length+1:=by
 have hnx:=(Yz.1 h.ok).2.2.2;have h2:=h.nx;have hf:AQ s.1 (s.2.2.1,f.2)=true:=by rw[h.sch];show(Nb Sp.usual f.2.2.2.2.1&&DK Sp.usual&&(decide (1<=s.2.2.1)&&decide (s.2.2.1<=60))&&(decide (0<=f.2.1)&&decide (f.2.1<=2))&&(decide (0<=f.2.2.2.1)&&decide (f.2.2.2.1<=60)))=true;rw[ha,abZ,ahT hnx.1,ahT (by omega),ahT ho.1,ahT ho.2,ahT hk.1,ahT (by omega)];rfl
 rcases DL s f with⟨_,e⟩|⟨_,_,_,e⟩
 .exact(e ⟨h.ok,hl,hf⟩).elim
 .rw[e];show(s.2.1++[_]).length=_;rw[ahr];rfl
theorem IC.one{s:qL}(h:IC 1 s){f:bD}(ho:0<=f.2.1/\f.2.1<=2)(hk:0<=f.2.2.2.1/\f.2.2.2.1<=6)(ha:Nb Sp.usual f.2.2.2.2.1=true):0<(vz s f).1.2.1.length:=by
 by_cases hl:s.2.1.length<12
 .rw[(h.more (show(1:Int)<=2 by decide)).grows hl ho hk ha];omega
 .rcases DL s f with⟨e,_⟩|⟨_,_,_,e⟩
  .rw[e];show 0<s.2.1.length;omega
  .rw[e];show 0<(s.2.1++[_]).length;rw[ahr,List.length_singleton];omega
theorem qM:OK iw.e:=by
 refine PA.ok mixed (aP [gY.e] ⟨kM,trivial⟩) IE (by kernel_rfl) (show∀s,iw.goal (Gz s) (s,())from ?_);intro s hin hp;dsimp only[iw]at hp ⊢;have hlen:s.length<=maxLen:=hin.1;rw[maxLen_eq]at hlen;refine⟨λy=>∃n:Nat,y.1.1=n/\n<=s.length/\Sp.lower (s.take n)=true,λy=>((s.length:Int)-y.1.1).toNat,⟨0,rfl,by omega,rfl⟩,?_⟩;rintro⟨⟨_,⟨⟩⟩,⟨⟩⟩ ⟨n,rfl,hn,hJ⟩;dsimp only;refine ah (λh=>?_) λh=>?_<;>simp only[ahA,ahM]at h
 .have hlt:n<s.length:=by omega
  rw[dW _ (by omega),aia];refine⟨⟨by omega,by omega⟩,ah (λh2=>?_) λh2=>⟨⟨by omega,by omega⟩,ah (λh3=>?_) λh3=>?_⟩⟩<;>simp only[ahA,ahM]at*
  .unfold aK;cases hl:Sp.lower s with
   |false=>rfl
   |true=>have:=BZ hlt hl;omega
  .unfold aK;cases hl:Sp.lower s with
   |false=>rfl
   |true=>have:=BZ hlt hl;omega
  .refine⟨rfl,⟨n+1,by simp,by omega,?_⟩,by dsimp only;omega⟩;rw[Sp.take_succ' s n 0 hlt];unfold Sp.lower at hJ ⊢;rw[List.all_append,hJ];simp only[aim,aj9,ajc,aij,ahq,ahA];omega
 .have hge:n=s.length:=by omega
  rw[hge,ai8]at hJ;unfold aK;rw[hJ];exact⟨trivial,rfl⟩
theorem mQ:OK gm.e:=by
 refine PA.ok mixed (aP [iw.e,gY.e] ⟨qM,kM,trivial⟩) H0 (by kernel_rfl) (show∀v0 v1 v2,gm.goal (IG v0 v1 v2) ((v0,v1,v2,()),())from ?_);intro k n s hin hp;dsimp only[gm]at hp ⊢;refine ah (λh=>?_) λh=>ah (λh2=>⟨trivial,ah (λh3=>?_) λh3=>?_⟩) λh2=>ah (λh3=>⟨trivial,ah (λh4=>?_) λh4=>?_⟩) λh3=>?_
 .have e:k=0:=by simpa using h
  subst e;exact congrArg (·,()) (ahX.2 (by simp[aS]))
 .have e:k=1:=by simpa using h2
  subst e;exact congrArg (·,()) (ahX.2 (by simp only[ahq,ahA]at h3;simp[aS,h3]))
 .have e:k=1:=by simpa using h2
  subst e;exact congrArg (·,()) (ahX.2 (by simp only[aS,h3];simp))
 .have e:k=2:=by simpa using h3
  subst e;exact congrArg (·,()) (ahX.2 (by simp[aS,h4]))
 .have e:k=2:=by simpa using h3
  subst e;exact congrArg (·,()) (ahX.2 (by simp[aS,h4]))
 .have e1:k≠0:=by simpa using h
  have e2:k≠1:=by simpa using h2
  have e3:k≠2:=by simpa using h3
  exact congrArg (·,()) (ahX.2 (by simp[aS,e1,e2,e3]))
theorem vM:OK iW.e:=by
 refine PA.ok mixed (aP [] trivial) H0 (by kernel_rfl) (show∀s,iW.goal (Ee s) (s,())from ?_);intro s hin hp;dsimp only[iW]at hp ⊢;refine ah (λh=>?_) λh=>?_
 .have h:(s.length:Int)=1:=kL h
  match s,h with
  |[c],_=>
   refine⟨⟨by decide,(by show(0:Int)<1;decide)⟩,ah (λh2=>⟨⟨by decide,(by show(0:Int)<1;decide)⟩,?_⟩) λh2=>?_⟩
   .have h2:(c.toNat:Int)>=97:=kL h2;refine congrArg (·,()) (ahX.2 ?_);simp only[dN,Sp.lower,aim,aj9,ajc,ahq,ahA,ahu,ahL];constructor
    .intro h3;have h3:(c.toNat:Int)<=122:=h3;exact⟨⟨⟨by omega,by omega⟩,by decide⟩,by decide⟩
    .rintro⟨⟨⟨_,h4⟩,_⟩,_⟩;show(c.toNat:Int)<=122;omega
   .have h2:¬(c.toNat:Int)>=97:=mO h2;refine congrArg (·,()) (ahX.2 ?_);simp only[dN,Sp.lower,aim,aj9,ajc,ahq,ahA];constructor
    .intro h3;cases h3
    .rintro⟨⟨⟨h4,_⟩,_⟩,_⟩;omega
 .have h:¬(s.length:Int)=1:=mO h;refine congrArg (·,()) (ahX.2 ?_);simp only[dN,ahq,ahA];constructor
  .intro h3;cases h3
  .rintro⟨⟨_,h4⟩,h5⟩;omega
end Go.Proofs.Tryz
namespace Go.Proofs.Tryz
open Go Go.Fw Go.IntWalk Sp
theorem Q5(n0 n1 n2:Int)(n3:Sp.Bytes)(n4 n5:Int)(n6:Sp.Bytes)(a:Int):dh (n0,n1,n2,n3,n4,n5,n6,()) a=
 (bif n0==1 then(n1==0&&n2==0)&&(n3==[]&&(n4==0&&(n5==0&&n6==[])))else bif n0==2 then(n1==0&&n2==0)&&(n4==0&&(n5==0&&n6==[]))&&dN n3 else
 bif n0==3 then(n1==0&&n2==0)&&dN n3&&aS n4 n5 n6&&!(n4==0)else bif n0==4 then(n1==0&&n2==0)&&dN n3&&aS n4 n5 n6&&n4==1 else
 bif n0==5 then(decide (0<=n1)&&decide (n1<=a-1)&&decide (0<a))&&n2==0&&(n3==[]&&(n4==0&&(n5==0&&n6==[])))else
 bif n0==6||n0==7 then(decide (0<=n1)&&decide (n1<=a-1)&&decide (0<a))&&(decide (0<=n2)&&decide (n2<=a-1))&&(n3==[]&&(n4==0&&(n5==0&&n6==[])))else
 bif n0==8||n0==9 then(n1==0&&n2==0)&&(n4==0&&(n5==0&&n6==[]))&&aK n3 else false):=rfl
theorem JF:OK oJ.e:=by
 refine PA.ok mixed (aP [iw.e,gY.e,gm.e,iW.e] ⟨qM,kM,mQ,vM,trivial⟩) Lj (by kernel_rfl) (show∀n0 n1 n2 n3 n4 n5 n6 at',oJ.goal (zG n0 n1 n2 n3 n4 n5 n6 at') ((n0,n1,n2,n3,n4,n5,n6,()),at',())from ?_);intro n0 n1 n2 n3 n4 n5 n6 a hin hp;dsimp only[oJ]at hp ⊢;have ha:-9223372036854775808<=a/\a<=9223372036854775807:=hin.2.1;show zG n0 n1 n2 n3 n4 n5 n6 a λr=>r=(dh (n0,n1,n2,n3,n4,n5,n6,()) a,());rw[Q5];have w:0<a->IntKind.i64.wrap (a-1)=a-1:=λh=>dW _ (by omega);refine ah (λ_=>?_) λ_=>ah (λ_=>ah (λ_=>⟨trivial,?_⟩) λ_=>?_) λ_=>⟨λy=>y=((n0==3||n0==4,()),()),?_,?_⟩
 .first|(simp_all;done)|(simp_all;grind)
 .first|(simp_all;done)|(simp_all;grind)
 .first|(simp_all;done)|(simp_all;grind)
 .refine ah (λ_=>⟨rfl,?_⟩) λ_=>⟨rfl,?_⟩<;>first|(simp_all;done)|(simp_all;grind)
 .rintro _ rfl;refine ah (λ_=>?_) λ_=>ah (λ_=>ah (λ_=>ah (λh=>⟨trivial,?_⟩) λ_=>?_) λ_=>?_) λ_=>⟨λy=>y=((n0==6||n0==7,()),()),?_,?_⟩
  .refine ah (λ_=>⟨trivial,ah (λ_=>⟨trivial,ah (λ_=>ah (λ_=>ah (λ_=>?_) λ_=>?_) λ_=>?_) λ_=>?_⟩) λ_=>?_⟩) λ_=>?_
   all_goals first|(simp_all;done)|(simp_all;grind)
  .rw[w (kL h)]
   first|(simp_all;done)|(simp_all;grind)
  .first|(simp_all;done)|(simp_all;grind)
  .first|(simp_all;done)|(simp_all;grind)
  .refine ah (λ_=>⟨rfl,?_⟩) λ_=>⟨rfl,?_⟩<;>first|(simp_all;done)|(simp_all;grind)
  .rintro _ rfl;refine ah (λ_=>ah (λ_=>ah (λh=>⟨trivial,?_⟩) λ_=>?_) λ_=>?_) λ_=>?_
   .rw[w (kL h)];refine ah (λ_=>⟨trivial,?_⟩) λ_=>?_<;>first|(simp_all;done)|(simp_all;grind)
   .first|(simp_all;done)|(simp_all;grind)
   .first|(simp_all;done)|(simp_all;grind)
   .refine ah (λ_=>ah (λ_=>ah (λ_=>⟨trivial,?_⟩) λ_=>?_) λ_=>?_) λ_=>ah (λ_=>ah (λ_=>⟨trivial,?_⟩) λ_=>?_) λ_=>?_
    all_goals first|(simp_all;done)|(simp_all;grind)
theorem JG:OK oI.e:=by
 refine PA.ok mixed (aP [iq.e,fZ.e,iV.e,fK.e] ⟨qK,mP,vK,jZ,trivial⟩) Ll (by kernel_rfl) (show∀n0 n1 n2 n3 n4 n5 n6 at',oI.goal (zH n0 n1 n2 n3 n4 n5 n6 at') ((n0,n1,n2,n3,n4,n5,n6,()),at',())from ?_);intro n0 n1 n2 n3 n4 n5 n6 a hin hp;dsimp only[oI]at hp ⊢;have ha:-9223372036854775808<=a/\a<=9223372036854775807:=hin.2.1;show zH n0 n1 n2 n3 n4 n5 n6 a λr=>r=(dh (n0,n1,n2,n3,n4,n5,n6,()) a,());rw[Q5];have w:0<a->IntKind.i64.wrap (a-1)=a-1:=λh=>dW _ (by omega);refine⟨λy=>y=((decide (0<=n1)&&decide (n1<=a-1)&&decide (0<a),()),()),⟨trivial,?_⟩,?_⟩
 .by_cases h:0<a
  .dsimp only;rw[w h];refine ah (λ_=>⟨rfl,?_⟩) λ_=>⟨rfl,?_⟩<;>first|(simp_all;done)|(simp_all;grind)
  .dsimp only;refine ah (λ_=>⟨rfl,?_⟩) λ_=>⟨rfl,?_⟩<;>first|(simp_all;done)|(simp_all;grind)
 .rintro _ rfl;refine⟨λy=>y=(((decide (0<=n1)&&decide (n1<=a-1)&&decide (0<a))&&(decide (0<=n2)&&decide (n2<=a-1)),()),()),?_,?_⟩
  .refine ah (λh=>⟨trivial,rfl,?_⟩) λh=>⟨rfl,?_⟩
   .have h:(decide (0<=n1)&&decide (n1<=a-1)&&decide (0<a))=true:=h;have h2:0<a:=by simp at h;omega
    rw[w h2,h,aij]
   .have h:(decide (0<=n1)&&decide (n1<=a-1)&&decide (0<a))=false:=h;rw[h,aiG]
  .rintro _ rfl;dsimp only;generalize (decide (0<=n1)&&decide (n1<=a-1)&&decide (0<a))=kids;generalize (decide (0<=n2)&&decide (n2<=a-1))=two
   repeat' first
    |exact trivial
    |refine ah (λ_=>?_) λ_=>?_
    |refine And.intro trivial ?_
   all_goals first|(simp_all;done)|(simp_all;grind)
end Go.Proofs.Tryz
namespace Go.Proofs.Tryz
open Go Go.Fw Go.IntWalk Sp
theorem II(a:Int)(x:ax):(Sp.refsOf a x:Int)=(if(x.1=6\/x.1=7\/x.1=5)/\x.2.1=a then 1 else 0)+(if(x.1=6\/x.1=7)/\x.2.2.1=a then 1 else 0):=by unfold Sp.refsOf gJ;by_cases h6:x.1=6<;>by_cases h7:x.1=7<;>by_cases h5:x.1=5<;>by_cases hl:x.2.1=a<;>by_cases hr:x.2.2.1=a<;>simp[cond_eq_ite,h6,h7,h5,hl,hr]
theorem adp(a:Int)(x:ax):Sp.refsOf a x<=2:=by have:=II a x;split at this<;>split at this<;>omega
def ja(q:List ax)(a:Int)(n:Nat):Nat:=((q.take n).map (Sp.refsOf a)).sum
theorem Fj(q:List ax)(a:Int){n:Nat}(hn:n<q.length):ja q a (n+1)=ja q a n+Sp.refsOf a (Sp.nodeAt q n):=by unfold ja;rw[Sp.take_succ' q n (0,0,0,[],0,0,[],()) hn];simp only[aiJ,List.sum_append,ahE,List.map_nil,ajZ,List.sum_nil,aiC];rfl
theorem Lm(q:List ax)(a:Int):∀n,n<=q.length->ja q a n<=2*n
 |0,_=>by simp[ja]
 |n+1,h=>by rw[Fj q a (by omega)];have:=Lm q a n (by omega);have:=adp a (Sp.nodeAt q n);omega
theorem Q7(q:List ax)(a:Int):ja q a q.length=iK q a:=by unfold ja iK;rw[ai8]
theorem Ef:OK kN.e:=by
 refine PA.ok mixed (aP [] trivial) Fp (by kernel_rfl) (show∀q at',kN.goal (Eg q at') (q,at',())from ?_);intro q a hin hp;dsimp only[kN]at hp ⊢;have hp:q.length<=2000000:=hp;refine xM (λi(c:Int)=>((c,i,()),())) (λy=>y.1.2.1) (λ_ _=>rfl) q.length (by omega) (λn c=>c=(ja q a n:Int)) rfl (λI μ n c hn hJ next=>?_) λI μ c hJ=>?_
 .subst hJ;have hs:=Fj q a hn;have hb:=Lm q a n (by omega);have hr:=II a (Sp.nodeAt q n);dsimp only;rw[aia];have e:q.getD n (0,0,0,[],0,0,[],())=Sp.nodeAt q n:=rfl;rw[e];have w1:IntKind.i64.wrap ((ja q a n:Int)+1)=(ja q a n:Int)+1:=dW _ (by omega);have w2:IntKind.i64.wrap ((ja q a n:Int)+1+1)=(ja q a n:Int)+1+1:=dW _ (by omega);refine vC (by omega) ⟨⟨by omega,by omega⟩,ah (λh6=>⟨λy=>y=(((ja q a n:Int)+(if(Sp.nodeAt q n).2.1=a then 1 else 0),()),()),⟨⟨by omega,by omega⟩,ah (λhl=>⟨rfl,?_⟩) λhl=>⟨rfl,?_⟩⟩,?_⟩) λh6=>⟨⟨by omega,by omega⟩,λy=>y=(((ja q a n:Int)+(if((Sp.nodeAt q n).1=7\/(Sp.nodeAt q n).1=5)/\(Sp.nodeAt q n).2.1=a then 1 else 0),()),()),?_,?_⟩⟩
  .simp only[ahO]at hl;rw[w1,if_pos hl]
  .simp only[aht]at hl;rw[if_neg hl,ai9]
  .rintro _ rfl;simp only[ahO]at h6;refine⟨⟨by omega,by omega⟩,ah (λhrr=>⟨rfl,next _ ?_⟩) λhrr=>⟨rfl,next _ ?_⟩⟩
   all_goals
    dsimp only;simp only[ahO,aht,ne_eq]at hrr;by_cases hl:(Sp.nodeAt q n).2.1=a<;>simp[h6,hl,hrr]at hr<;>simp only[hl,if_true,ajk,ai9,w1,w2]<;>omega
  .simp only[aht,ne_eq]at h6;refine ah (λh7=>⟨⟨by omega,by omega⟩,ah (λhl=>⟨rfl,?_⟩) λhl=>⟨rfl,?_⟩⟩) λh7=>⟨⟨by omega,by omega⟩,ah (λh5=>⟨⟨by omega,by omega⟩,ah (λhl=>⟨rfl,?_⟩) λhl=>⟨rfl,?_⟩⟩) λh5=>⟨rfl,?_⟩⟩
   all_goals simp_all
  .rintro _ rfl;simp only[aht,ne_eq]at h6;refine ah (λh7=>⟨⟨by omega,by omega⟩,ah (λhrr=>⟨rfl,next _ ?_⟩) λhrr=>⟨rfl,next _ ?_⟩⟩) λh7=>⟨rfl,next _ ?_⟩
   .simp only[ahO]at h7 hrr;by_cases hl:(Sp.nodeAt q n).2.1=a<;>simp[h6,h7,hl,hrr]at hr<;>simp only[h7,hl,true_or,and_self,and_false,if_true,ajk,ai9,w1,w2]<;>omega
   .simp only[ahO,aht,ne_eq]at h7 hrr;by_cases hl:(Sp.nodeAt q n).2.1=a<;>simp[h6,h7,hl,hrr]at hr<;>simp only[h7,hl,true_or,and_self,and_false,if_true,ajk,ai9,w1,w2]<;>omega
   .simp only[aht,ne_eq]at h7;dsimp only;by_cases h5:(Sp.nodeAt q n).1=5<;>by_cases hl:(Sp.nodeAt q n).2.1=a<;>simp[h6,h7,h5,hl]at hr<;>simp[h7,h5,hl]<;>omega
 .dsimp only;refine vF (by omega) ?_;rw[hJ,Q7]
theorem Eh:OK kP.e:=by
 refine PA.ok mixed (aP [] trivial) Fq (by kernel_rfl) (show∀q at',kP.goal (Ei q at') (q,at',())from ?_);intro q a hin hp;dsimp only[kP]at hp ⊢;have hp:q.length<=2000000:=hp;refine xM (λi(c:Int)=>((c,i,()),())) (λy=>y.1.2.1) (λ_ _=>rfl) q.length (by omega) (λn c=>c=(ja q a n:Int)) rfl (λI μ n c hn hJ next=>?_) λI μ c hJ=>?_
 .subst hJ;have hs:=Fj q a hn;have hb:=Lm q a n (by omega);have hr:=II a (Sp.nodeAt q n);dsimp only;rw[aia];have e:q.getD n (0,0,0,[],0,0,[],())=Sp.nodeAt q n:=rfl;rw[e];have w1:IntKind.i64.wrap ((ja q a n:Int)+1)=(ja q a n:Int)+1:=dW _ (by omega);have w2:IntKind.i64.wrap ((ja q a n:Int)+1+1)=(ja q a n:Int)+1+1:=dW _ (by omega);refine vC (by omega) ⟨⟨by omega,by omega⟩,ah (λh6=>⟨λy=>y=(((ja q a n:Int)+(if(Sp.nodeAt q n).2.1=a then 1 else 0),()),()),ah (λhl=>⟨rfl,?_⟩) λhl=>⟨rfl,?_⟩,?_⟩) λh6=>⟨λy=>y=(((ja q a n:Int)+(if((Sp.nodeAt q n).1=7\/(Sp.nodeAt q n).1=5)/\(Sp.nodeAt q n).2.1=a then 1 else 0),()),()),?_,?_⟩⟩
  .simp only[ahO]at hl;rw[w1,if_pos hl]
  .simp only[aht]at hl;rw[if_neg hl,ai9]
  .rintro _ rfl;simp only[ahO]at h6;refine ah (λhrr=>⟨rfl,next _ ?_⟩) λhrr=>⟨rfl,next _ ?_⟩
   all_goals
    dsimp only;simp only[ahO,aht,ne_eq]at hrr;by_cases hl:(Sp.nodeAt q n).2.1=a<;>simp[h6,hl,hrr]at hr<;>simp only[hl,if_true,ajk,ai9,w1,w2]<;>omega
  .simp only[aht,ne_eq]at h6;refine ah (λhl=>ah (λh7=>⟨rfl,?_⟩) λh7=>ah (λh5=>⟨rfl,?_⟩) λh5=>⟨rfl,?_⟩) λhl=>⟨rfl,?_⟩
   all_goals simp_all
  .rintro _ rfl;simp only[aht,ne_eq]at h6;refine ah (λhrr=>ah (λh7=>⟨rfl,next _ ?_⟩) λh7=>⟨rfl,next _ ?_⟩) λhrr=>⟨rfl,next _ ?_⟩
   .simp only[ahO]at h7 hrr;by_cases hl:(Sp.nodeAt q n).2.1=a<;>simp[h6,h7,hl,hrr]at hr<;>simp only[h7,hl,true_or,and_self,and_false,if_true,ajk,ai9,w1,w2]<;>omega
   .simp only[aht,ne_eq]at h7;dsimp only;by_cases h5:(Sp.nodeAt q n).1=5<;>by_cases hl:(Sp.nodeAt q n).2.1=a<;>simp[h6,h7,h5,hl]at hr<;>simp[h7,h5,hl]<;>omega
   .simp only[aht,ne_eq]at hrr;dsimp only;by_cases h7:(Sp.nodeAt q n).1=7<;>by_cases h5:(Sp.nodeAt q n).1=5<;>by_cases hl:(Sp.nodeAt q n).2.1=a<;>simp[h6,h7,h5,hl,hrr]at hr<;>simp[h7,h5,hl]<;>omega
 .dsimp only;refine vF (by omega) ?_;rw[hJ,Q7]
theorem Q8{q:List ax}{n:Nat}(hn:n<q.length)(h:iI q n=false):aA q=false:=by unfold aA;rw[VH hn h];rfl
theorem y8:OK kD.e:=by
 refine PA.ok mixed (aP [fK.e,kN.e,oI.e] ⟨jZ,Ef,JG,trivial⟩) JH (by kernel_rfl) (show∀q,kD.goal (IJ q) (q,())from ?_);intro q hin hp;dsimp only[kD]at hp ⊢;have hp:q.length<=2000000:=hp;refine CQ q.length (by omega) (λn=>∀i,i<n->iI q i=true) (λi hi=>by omega) (λI μ n hn hJ next=>?_) λI μ hJ=>?_
 .dsimp only;have no:iI q n=false->(false,())=(aA q,()):=λh=>by rw[Q8 hn h]
  rw[Zb (show 0<q.length by omega) (by omega)];refine vC (by omega) ⟨⟨by omega,by omega⟩,trivial,ah (λh2=>no ?_) λh2=>ah (λh3=>⟨hp,ah (λh4=>no ?_) λh4=>⟨rfl,next (xq hJ ?_)⟩⟩) λh3=>⟨rfl,next (xq hJ ?_)⟩⟩
  .have h2:dh (Sp.nodeAt q n) n=false:=tH h2;unfold iI;rw[h2];rfl
  .have h2:dh (Sp.nodeAt q n) n=true:=oh h2;have h4:(iK q n:Int)≠1:=by simpa using h4
   have h3:(n:Int)<(q.length:Int)-1:=by have:=kL h3;omega
   unfold iI;simp only[h3,h2];simp;omega
  .have h2:dh (Sp.nodeAt q n) n=true:=oh h2;have h4:(iK q n:Int)=1:=by simpa using h4
   have h4:iK q n=1:=by omega
   unfold iI;simp[h2,h4]
  .have h2:dh (Sp.nodeAt q n) n=true:=oh h2;have h3:¬(n:Int)<(q.length:Int)-1:=by have:=mO h3;omega
   unfold iI;simp[h2,h3]
 .dsimp only;refine vF (by omega) ⟨trivial,congrArg (·,()) ?_⟩;unfold aA;rw[Lp hJ];rfl
theorem rQ:OK eG.e:=by
 refine PA.ok mixed (aP [gY.e,kP.e,oJ.e] ⟨kM,Eh,JF,trivial⟩) JI (by kernel_rfl) (show∀q,eG.goal (IK q) (q,())from ?_);intro q hin hp;dsimp only[eG]at hp ⊢;have hp:q.length<=2000000:=hp;refine CQ q.length (by omega) (λn=>∀i,i<n->iI q i=true) (λi hi=>by omega) (λI μ n hn hJ next=>?_) λI μ hJ=>?_
 .dsimp only;have no:iI q n=false->(false,())=(aA q,()):=λh=>by rw[Q8 hn h]
  rw[Zb (show 0<q.length by omega) (by omega)];refine vC (by omega) ⟨⟨by omega,by omega⟩,trivial,ah (λh2=>no ?_) λh2=>ah (λh3=>⟨hp,ah (λh4=>no ?_) λh4=>⟨rfl,next (xq hJ ?_)⟩⟩) λh3=>⟨rfl,next (xq hJ ?_)⟩⟩
  .have h2:dh (Sp.nodeAt q n) n=false:=tH h2;unfold iI;rw[h2];rfl
  .have h2:dh (Sp.nodeAt q n) n=true:=oh h2;have h4:(iK q n:Int)≠1:=by simpa using h4
   have h3:(n:Int)<(q.length:Int)-1:=by have:=kL h3;omega
   unfold iI;simp only[h3,h2];simp;omega
  .have h2:dh (Sp.nodeAt q n) n=true:=oh h2;have h4:(iK q n:Int)=1:=by simpa using h4
   have h4:iK q n=1:=by omega
   unfold iI;simp[h2,h4]
  .have h2:dh (Sp.nodeAt q n) n=true:=oh h2;have h3:¬(n:Int)<(q.length:Int)-1:=by have:=mO h3;omega
   unfold iI;simp[h2,h3]
 .dsimp only;refine vF (by omega) ⟨trivial,congrArg (·,()) ?_⟩;unfold aA;rw[Lp hJ];rfl
end Go.Proofs.Tryz
namespace Go.Proofs.Tryz
open Go Go.Fw Go.IntWalk
theorem Cb:OK jI.e:=by refine PA.ok mixed (aP [] trivial) DN (by kernel_rfl) (show∀s1 s2,jI.goal (Cc s1 s2) (s1,s2,())from ?_);intro a b hin hp;dsimp only[jI]at hp ⊢;exact eqL (K:=λr=>r=(decide (a=b),())) (λx y=>!(x.1==y.1&&(x.2.1==y.2.1&&(x.2.2.1==y.2.2.1&&(x.2.2.2.1==y.2.2.2.1&&true))))) (λx y=>by simp[akb]) _ a b _ hin.1.1 rfl
theorem Ce:OK jJ.e:=by refine PA.ok mixed (aP [] trivial) DR (by kernel_rfl) (show∀s1 s2,jJ.goal (Ci s1 s2) (s1,s2,())from ?_);intro a b hin hp;dsimp only[jJ]at hp ⊢;exact eqL (K:=λr=>r=(decide (a=b),())) (λx y=>!(x.1==y.1&&(x.2.1==y.2.1&&(x.2.2.1==y.2.2.1&&(x.2.2.2.1==y.2.2.2.1&&(x.2.2.2.2.1==y.2.2.2.2.1&&(x.2.2.2.2.2.1==y.2.2.2.2.2.1&&(x.2.2.2.2.2.2.1==y.2.2.2.2.2.2.1&&true)))))))) (λx y=>by simp[akb]) _ a b _ hin.1.1 rfl
theorem Lr:OK pO.e:=by
 refine PA.ok mixed (aP [jI.e] ⟨Cb,trivial⟩) H0 (by kernel_rfl) (show∀a0 a1 a2 a3 a4 b0 b1 b2 b3 b4,pO.goal (Ls a0 a1 a2 a3 a4 b0 b1 b2 b3 b4) ((a0,a1,a2,a3,a4,()),(b0,b1,b2,b3,b4,()),())from ?_);intro a0 a1 a2 a3 a4 b0 b1 b2 b3 b4 hin hp;dsimp only[pO]at hp ⊢;refine ah (λh0=>ah (λh1=>ah (λh2=>ah (λh3=>⟨trivial,?_⟩) λh3=>?_) λh2=>?_) λh1=>?_) λh0=>?_
 all_goals refine congrArg (·,()) (ahX.2 ?_)
 .simp only[ahO]at h0 h1 h2 h3;subst h0 h1 h2 h3;simp
 .have h3:a3≠b3:=by simpa using h3
  simp[h3]
 .have h2:a2≠b2:=by simpa using h2
  simp[h2]
 .have h1:a1≠b1:=by simpa using h1
  simp[h1]
 .have h0:a0≠b0:=by simpa using h0
  simp[h0]
theorem IL:OK nO.e:=by refine PA.ok mixed (aP [jJ.e] ⟨Ce,trivial⟩) H0 (by kernel_rfl) (show∀a b,nO.goal (IQ a b) (a,b,())from ?_);intro a b hin hp;dsimp only[nO]at hp ⊢;exact⟨trivial,rfl⟩
theorem JJ:OK oK.e:=by refine PA.ok mixed (aP [] trivial) H0 (by kernel_rfl) (show∀s,oK.goal (JK s) (s,())from ?_);intro w hin hp;dsimp only[oK]at hp ⊢;exact rfl
end Go.Proofs.Tryz
namespace Go.Proofs.Tryz
open Go Go.Fw Go.IntWalk Sp
theorem vT:OK kJ.e:=by refine PA.ok mixed (aP [(zT,.pure xB)] ⟨⟨QX,PG⟩,trivial⟩) H0 (by kernel_rfl) (show∀n,kJ.goal (NJ n) (n,())from ?_);intro n hin hp;dsimp only[kJ]at hp ⊢;exact⟨hin.1,rfl⟩
theorem NK:OK rC.e:=by
 refine PA.ok mixed (aP [] trivial) H0 (by kernel_rfl) (show∀Jy,rC.goal (NM Jy) (Jy,())from ?_);intro x hin hp;dsimp only[rC]at hp ⊢;obtain⟨h0,h1⟩:=hp;refine ah (λh=>?_) λh=>?_<;>simp only[ahA,ahM]at h
 .rw[i64_in (48+x) (by omega),u8_in (48+x) (by omega)]
 .omega
theorem TR{c:Int}(h:¬c.tmod 10<0):c.tmod 10=((c.natAbs%10:Nat):Int):=by have:(c.tmod 10).natAbs=c.natAbs%10:=akd c 10;omega
theorem YA{c:Int}(h:c.tmod 10<0):0-c.tmod 10=((c.natAbs%10:Nat):Int):=by have:(c.tmod 10).natAbs=c.natAbs%10:=akd c 10;omega
theorem Lu(k:Nat):byteRow [((48:Int)+(k:Int),())]=[UInt8.ofNat (48+k)]:=by
 have:((48:Int)+(k:Int)).toNat=48+k:=by omega
 simp[byteRow,O0,this]
theorem aaf{n c:Nat}{s:List UInt8}(hc:c≠0)(hJ:Lib.decDigits n=(if c=0 then[]else Lib.decDigits c)++s):
 Lib.decDigits n=(if c / 10=0 then[]else Lib.decDigits (c / 10))++(UInt8.ofNat (48+c%10)::s):=by
 rw[hJ,if_neg hc,TS c];simp
theorem qh:OK jk.e:=by
 refine PA.ok mixed (aP [rC.e] ⟨NK,trivial⟩) PO (by kernel_rfl) (show∀n,jk.goal (NP n) (n,())from ?_);intro n hin hp;dsimp only[jk]at hp ⊢;have h0:(-9223372036854775808:Int)<=n/\n<=9223372036854775807:=hin.1;have hL:=Lib.itoa_length_le n h0.1 h0.2;have hD:(Lib.decDigits n.natAbs).length<=21:=by
  unfold Lib.itoa at hL;split at hL
  .simp at hL;omega
  .rw[show n.natAbs=n.toNat by omega];exact hL
 refine ah (λh=>?_) λh=>?_
 .have:n=0:=by simpa using h
  subst this;simp[Lib.itoa,Lib.decDigits]
 .have hn0:n≠0:=by simpa using h
  refine⟨λy=>-9223372036854775808<=y.1.1/\y.1.1<=9223372036854775807/\Lib.decDigits n.natAbs=(if y.1.1.natAbs=0 then[]else Lib.decDigits y.1.1.natAbs)++y.1.2.1,λy=>y.1.1.natAbs,⟨h0.1,h0.2,?_⟩,?_⟩
  .show _=(if n.natAbs=0 then _ else _)++_;rw[if_neg (by omega)];simp
  rintro⟨⟨c,s,⟨⟩⟩,⟨⟩⟩ ⟨hc1,hc2,hJ⟩;dsimp only at hc1 hc2 hJ ⊢;have hs:s.length<=21:=by rw[hJ,ahr]at hD;omega
  have hq:(c.tdiv 10).natAbs=c.natAbs / 10:=Int.natAbs_tdiv c 10;have hrow:∀k:Nat,(byteRow [((48:Int)+(k:Int),())]).length=1:=λk=>by rw[Lu];rfl
  refine ah (λh=>?_) λh=>?_
  .have hc:c.natAbs≠0:=by simp at h;omega
   have hstep:=aaf hc hJ;have hm:c.natAbs%10<10:=ajL _ (by decide);have hlt:c.natAbs / 10<c.natAbs:=Nat.div_lt_self (by omega) (by decide);have hw:IntKind.i64.wrap (c.tdiv 10)=c.tdiv 10:=dW _ (by omega);refine⟨by decide,ah (λhd=>?_) λhd=>?_⟩<;>simp only[ahA,ahM]at hd
   .have e:=YA hd;rw[dW (0-c.tmod 10) (by omega),e,hw,Lu];refine⟨⟨by omega,by omega⟩,by simp only[ahu,ahL];rw[maxLen_eq];omega,by decide,rfl,⟨by dsimp only;omega,by dsimp only;omega,?_⟩,?_⟩
    .show _=(if(c.tdiv 10).natAbs=0 then[]else Lib.decDigits (c.tdiv 10).natAbs)++_;rw[hq];exact hstep
    .show(c.tdiv 10).natAbs<c.natAbs;rw[hq];exact hlt
   .have e:=TR hd;rw[e,hw,Lu];refine⟨⟨by omega,by omega⟩,by simp only[ahu,ahL];rw[maxLen_eq];omega,by decide,rfl,⟨by dsimp only;omega,by dsimp only;omega,?_⟩,?_⟩
    .show _=(if(c.tdiv 10).natAbs=0 then[]else Lib.decDigits (c.tdiv 10).natAbs)++_;rw[hq];exact hstep
    .show(c.tdiv 10).natAbs<c.natAbs;rw[hq];exact hlt
  .have hc:c=0:=by simpa using h
   subst hc;have hJ:Lib.decDigits n.natAbs=s:=by simpa using hJ
   subst hJ;refine ah (λhd=>?_) λhd=>?_<;>simp only[ahA,ahM]at hd
   .refine⟨by simp only[ahu,ahL];rw[maxLen_eq];omega,?_⟩;rw[Lib.itoa,if_pos hd];rfl
   .rw[Lib.itoa,if_neg hd,show n.toNat=n.natAbs by omega]
theorem sz1{n:Nat}{left:Int}(hn:n<=maxLen)(h0:0<=left)(h1:left<=1048576){K:Int×Unit->Prop}(hK:K (bJ n left,())):
 bif decide (IntKind.i64.wrap (left-(n:Int))<(0:Int))then K ((-1:Int),())else K (IntKind.i64.wrap (left-(n:Int)),()):=by
 rw[maxLen_eq]at hn;rw[dW _ (by omega)];unfold bJ at hK;refine ah (λh=>?_) λh=>?_<;>simp only[ahA,ahM]at h
 .rw[if_pos h]at hK;exact hK
 .rw[if_neg h]at hK;exact hK
theorem szr{n:Nat}{left:Int}{K:Int×Unit->Prop}(hK:K (bJ n left,())):
 bif decide (bJ n left<(0:Int))then K ((-1:Int),())else K (bJ n left,()):=by
 refine ah (λh=>?_) λh=>?_<;>simp only[ahA,ahM]at h
 .have:=zf (m:=0) h;rw[aiC]at this;rw[this]at hK;exact hK
 .exact hK
theorem sz2{n m:Nat}{left:Int}(hn:n<=maxLen)(h0:0<=left)(h1:left<=1048576){K:Int×Unit->Prop}(hK:K (bJ (n+m) left,())):
 bif decide (IntKind.i64.wrap (left-(n:Int))<(0:Int))then K ((-1:Int),())
 else((0:Int)<=IntKind.i64.wrap (left-(n:Int))/\IntKind.i64.wrap (left-(n:Int))<=(1048576:Int))/\
  (bif decide (bJ m (IntKind.i64.wrap (left-(n:Int)))<(0:Int))then K ((-1:Int),())else K (bJ m (IntKind.i64.wrap (left-(n:Int))),())):=by
 rw[maxLen_eq]at hn;rw[dW _ (by omega)];refine ah (λh=>?_) λh=>?_<;>simp only[ahA,ahM]at h
 .rw[zf (by unfold bJ;rw[if_pos h];omega)]at hK;exact hK
 .refine⟨⟨by omega,by omega⟩,szr ?_⟩;rw[← LC h,LD (by rw[LC h];omega)];exact hK
theorem sz3{n m:Nat}{left:Int}(h0:0<=left)(h1:left<=1048576){K:Int×Unit->Prop}(hK:K (bJ (n+m) left,())):
 ((0:Int)<=left/\left<=(1048576:Int))/\
 (bif decide (bJ n left<(0:Int))then K ((-1:Int),())
 else((0:Int)<=bJ n left/\bJ n left<=(1048576:Int))/\
  (bif decide (bJ m (bJ n left)<(0:Int))then K ((-1:Int),())else K (bJ m (bJ n left),()))):=by
 refine⟨⟨h0,h1⟩,ah (λh=>?_) λh=>?_⟩<;>simp only[ahA,ahM]at h
 .rw[zf h]at hK;exact hK
 .have:=Ve (n:=n) h0;refine⟨⟨by omega,by omega⟩,szr ?_⟩;rw[LD (by omega)];exact hK
theorem EL:OK qx.e:=by refine PA.ok mixed (aP [] trivial) H0 (by kernel_rfl) (show∀a0 a1 a2 b0 b1 b2,qx.goal (EM a0 a1 a2 b0 b1 b2) ((a0,a1,a2,()),(b0,b1,b2,()),())from ?_);intro a0 a1 a2 b0 b1 b2 hin hp;dsimp only[qx]at hp ⊢;have e:qy (a0,a1,a2,()) (b0,b1,b2,())=((a0==b0)&&(a1==b1)&&(a2==b2)):=ahX.2 (by simp[qy,ajJ]);simp only[EM,e,bne];cases (a0==b0)<;>cases (a1==b1)<;>cases (a2==b2)<;>simp
theorem TT:OK wV.e:=by refine PA.ok mixed (aP [qx.e] ⟨EL,trivial⟩) H0 (by kernel_rfl) (show∀a0 a1 a2 a3 b0 b1 b2 b3,wV.goal (GH a0 a1 a2 a3 b0 b1 b2 b3) ((a0,a1,a2,a3,()),(b0,b1,b2,b3,()),())from ?_);intro a0 a1 a2 a3 b0 b1 b2 b3 hin hp;dsimp only[wV]at hp ⊢;have e:FP (a0,a1,a2,a3,()) (b0,b1,b2,b3,())=((a0==b0)&&(qy (a1,a2,a3,()) (b1,b2,b3,()))):=ahX.2 (by simp[FP,qy,ajJ]);simp only[GH,e,bne];cases (a0==b0)<;>cases (qy (a1,a2,a3,()) (b1,b2,b3,()))<;>simp
theorem TU:OK wW.e:=by refine PA.ok mixed (aP [qx.e] ⟨EL,trivial⟩) H0 (by kernel_rfl) (show∀a0 a1 a2 a3 a4 a5 a6 b0 b1 b2 b3 b4 b5 b6,wW.goal (GI a0 a1 a2 a3 a4 a5 a6 b0 b1 b2 b3 b4 b5 b6) ((a0,a1,a2,a3,a4,a5,a6,()),(b0,b1,b2,b3,b4,b5,b6,()),())from ?_);intro a0 a1 a2 a3 a4 a5 a6 b0 b1 b2 b3 b4 b5 b6 hin hp;dsimp only[wW]at hp ⊢;have e:FQ (a0,a1,a2,a3,a4,a5,a6,()) (b0,b1,b2,b3,b4,b5,b6,())=((a0==b0)&&(a1==b1)&&(a2==b2)&&(a3==b3)&&(qy (a4,a5,a6,()) (b4,b5,b6,()))):=ahX.2 (by simp[FQ,qy,ajJ]);simp only[GI,e,bne];cases (a0==b0)<;>cases (a1==b1)<;>cases (a2==b2)<;>cases (a3==b3)<;>cases (qy (a4,a5,a6,()) (b4,b5,b6,()))<;>simp
theorem Q9:OK uX.e:=by refine PA.ok mixed (aP [wV.e] ⟨TT,trivial⟩) TV (by kernel_rfl) (show∀a b,uX.goal (Rf a b) (a,b,())from ?_);intro a b hin hp;dsimp only[uX]at hp ⊢;exact abn (K:=λr=>r=(xZ a b,())) FP (λx y=>by simp[FP]) _ a b _ (by have h:=hin.1.1;rw[maxLen_eq]at h;exact h) (λz hz=>by have:z=xZ a b:=ahX.2 (hz.trans (by simp[xZ]));rw[this])
theorem Rh:OK uY.e:=by refine PA.ok mixed (aP [wW.e] ⟨TU,trivial⟩) TW (by kernel_rfl) (show∀a b,uY.goal (Ri a b) (a,b,())from ?_);intro a b hin hp;dsimp only[uY]at hp ⊢;exact abn (K:=λr=>r=(x9 a b,())) FQ (λx y=>by simp[FQ]) _ a b _ (by have h:=hin.1.1;rw[maxLen_eq]at h;exact h) (λz hz=>by have:z=x9 a b:=ahX.2 (hz.trans (by simp[x9]));rw[this])
theorem TY:OK wX.e:=by refine PA.ok mixed (aP [uX.e] ⟨Q9,trivial⟩) H0 (by kernel_rfl) (show∀a0 a1 a2 a3 a4 b0 b1 b2 b3 b4,wX.goal (GK a0 a1 a2 a3 a4 b0 b1 b2 b3 b4) ((a0,a1,a2,a3,a4,()),(b0,b1,b2,b3,b4,()),())from ?_);intro a0 a1 a2 a3 a4 b0 b1 b2 b3 b4 hin hp;dsimp only[wX]at hp ⊢;have e:Df (a0,a1,a2,a3,a4,()) (b0,b1,b2,b3,b4,())=((a0==b0)&&(a1==b1)&&(a2==b2)&&(a3==b3)&&(xZ a4 b4)):=ahX.2 (by simp[Df,xZ,ajJ]);simp only[GK,e,bne];cases (a0==b0)<;>cases (a1==b1)<;>cases (a2==b2)<;>cases (a3==b3)<;>cases (xZ a4 b4)<;>simp
theorem VI:OK yG.e:=by refine PA.ok mixed (aP [uY.e] ⟨Rh,trivial⟩) H0 (by kernel_rfl) (show∀a0 a1 b0 b1,yG.goal (Jz a0 a1 b0 b1) ((a0,a1,()),(b0,b1,()),())from ?_);intro a0 a1 b0 b1 hin hp;dsimp only[yG]at hp ⊢;have e:Hz (a0,a1,()) (b0,b1,())=((a0==b0)&&(x9 a1 b1)):=ahX.2 (by simp[Hz,x9,ajJ]);simp only[Jz,e,bne];cases (a0==b0)<;>cases (x9 a1 b1)<;>simp
theorem PS:OK tZ.e:=by refine PA.ok mixed (aP [yG.e,wX.e] ⟨VI,TY,trivial⟩) H0 (by kernel_rfl) (show∀a0 a1 a2 a3 a4 a5 a6 a7 a8 b0 b1 b2 b3 b4 b5 b6 b7 b8,tZ.goal (DT a0 a1 a2 a3 a4 a5 a6 a7 a8 b0 b1 b2 b3 b4 b5 b6 b7 b8) ((a0,a1,a2,a3,a4,a5,a6,a7,a8,()),(b0,b1,b2,b3,b4,b5,b6,b7,b8,()),())from ?_);intro a0 a1 a2 a3 a4 a5 a6 a7 a8 b0 b1 b2 b3 b4 b5 b6 b7 b8 hin hp;dsimp only[tZ]at hp ⊢;have e:Dh (a0,a1,a2,a3,a4,a5,a6,a7,a8,()) (b0,b1,b2,b3,b4,b5,b6,b7,b8,())=((a0==b0)&&(Df (a1,a2,a3,a4,a5,()) (b1,b2,b3,b4,b5,()))&&(a6==b6)&&(Hz (a7,a8,()) (b7,b8,()))):=ahX.2 (by simp[Dh,Df,Hz,ajJ]);simp only[DT,e,bne];cases (a0==b0)<;>cases (Df (a1,a2,a3,a4,a5,()) (b1,b2,b3,b4,b5,()))<;>cases (a6==b6)<;>cases (Hz (a7,a8,()) (b7,b8,()))<;>simp
theorem rU:OK iU.e:=by refine PA.ok mixed (aP [gY.e] ⟨kM,trivial⟩) H0 (by kernel_rfl) (show∀n,iU.goal (IU n) (n,())from ?_);intro n hin hp;dsimp only[iU]at hp ⊢;exact⟨trivial,rfl⟩
theorem OC:∀(l:Sp.LI)(k:Int),0<=k->decide (Sp.idxFrom k l>=0)=!gU l
 |[],k,h=>by simp[Sp.idxFrom,gU]
 |x::r,k,h=>by
  have ih:=OC r (k+1) (by omega);unfold gU at ih ⊢;rw[Sp.idxFrom,aim];cases hx:aW x.1 with
  |true=>rw[if_pos rfl,ih];rfl
  |false=>rw[if_neg (by simp)];simp[h]
theorem qN:OK dM.e:=by
 refine PA.ok mixed (aP [iU.e] ⟨rU,trivial⟩) qW (by kernel_rfl) (show∀s,dM.goal (qO s) (s,(()),())from ?_);intro s hin hp;dsimp only[dM]at hp ⊢;have hlen:s.length<=maxLen:=hin.1.1;rw[maxLen_eq]at hlen;refine⟨λy=>∃n:Nat,y.1.1=n/\n<=s.length/\Sp.idxOf s=Sp.idxFrom n (s.drop n),λy=>((s.length:Int)-y.1.1).toNat,⟨0,rfl,by omega,rfl⟩,?_⟩;rintro⟨⟨_,⟨⟩⟩,⟨⟩⟩ ⟨n,rfl,hn,hJ⟩;dsimp only;refine ah (λh=>?_) λh=>?_<;>simp only[ahA,ahM]at h
 .have hlt:n<s.length:=by omega
  rw[drop_cons s n (0,()) hlt,Sp.idxFrom]at hJ;rw[dW _ (by omega),aia];refine⟨⟨by omega,by omega⟩,trivial,ah (λh2=>?_) λh2=>?_⟩
  .rw[if_neg (by intro h3;rw[h3]at h2;cases h2)]at hJ;rw[hJ]
  .have h3:aW (s.getD n (0,())).1=true:=by simpa using h2
   rw[if_pos h3]at hJ;exact⟨rfl,⟨n+1,by simp,by omega,hJ⟩,by dsimp only;omega⟩
 .have hge:n=s.length:=by omega
  rw[hge,List.drop_length]at hJ;rw[hJ];rfl
theorem oU:OK dB.e:=by refine PA.ok mixed (aP [dM.e,iU.e] ⟨qN,rU,trivial⟩) H0 (by kernel_rfl) (show∀s,dB.goal (oV s) (s,(()),())from ?_);intro s hin hp;dsimp only[dB]at hp ⊢;have h:decide (Sp.idxOf s>=0)=!gU s:=OC s 0 (by omega);exact⟨trivial,by rw[h]⟩
theorem LG:OK pW.e:=by refine PA.ok mixed (aP [iU.e,dB.e] ⟨rU,oU,trivial⟩) H0 (by kernel_rfl) (show∀l,pW.goal (LH l) (l,())from ?_);intro l hin hp;dsimp only[pW]at hp ⊢;exact⟨trivial,by rw[Bool.not_not]⟩
theorem Cj(x y:List UInt8):Lib.join [x,y] [32]=x++[32]++y:=by simp[Lib.join_cons,Lib.joinTail]
theorem Nc(x y z:List UInt8):Lib.join [x,y,z] [32]=x++[32]++y++[32]++z:=by simp[Lib.join_cons,Lib.joinTail]
theorem aea{n:Nat}(h:n<=1048576):n<=big:=by rw[Gm];omega
theorem abo{n:Nat}(h:¬bJ n 1048576<0):n<=1048576:=by unfold bJ at h;split at h<;>omega
theorem EN:OK qp.e:=by refine PA.ok mixed (aP [] trivial) H0 (by kernel_rfl) (show∀a0 a1 a2 left,qp.goal (Rj a0 a1 a2 left) ((a0,a1,a2,()),left,())from ?_);intro a0 a1 a2 left hin hp;dsimp only[qp]at hp ⊢;exact sz1 (K:=λr=>r=(_,())) hin.1.2.2.1 hp.1 hp.2 rfl
theorem Ua:OK wO.e:=by refine PA.ok mixed (aP [qp.e] ⟨EN,trivial⟩) H0 (by kernel_rfl) (show∀a0 a1 a2 a3 left,wO.goal (Ub a0 a1 a2 a3 left) ((a0,a1,a2,a3,()),left,())from ?_);intro a0 a1 a2 a3 left hin hp;dsimp only[wO]at hp ⊢;exact sz2 (K:=λr=>r=(_,())) hin.1.1 hp.1 hp.2 rfl
theorem Uc:OK wP.e:=by refine PA.ok mixed (aP [qp.e] ⟨EN,trivial⟩) H0 (by kernel_rfl) (show∀a0 a1 a2 a3 a4 a5 a6 left,wP.goal (Ud a0 a1 a2 a3 a4 a5 a6 left) ((a0,a1,a2,a3,a4,a5,a6,()),left,())from ?_);intro a0 a1 a2 a3 a4 a5 a6 left hin hp;dsimp only[wP]at hp ⊢;exact sz2 (K:=λr=>r=(_,())) hin.1.2.2.2.1 hp.1 hp.2 rfl
theorem Rk:OK uS.e:=by refine PA.ok mixed (aP [wO.e] ⟨Ua,trivial⟩) Ue (by kernel_rfl) (show∀a left,uS.goal (Rl a left) (a,left,())from ?_);intro a left hin hp;dsimp only[uS]at hp ⊢;exact abp (K:=λr=>r=(_,())) Qb _ a left _ hin.1.1 hp.1 hp.2 rfl
theorem Rn:OK uT.e:=by refine PA.ok mixed (aP [wP.e] ⟨Uc,trivial⟩) Uf (by kernel_rfl) (show∀a left,uT.goal (Ro a left) (a,left,())from ?_);intro a left hin hp;dsimp only[uT]at hp ⊢;exact abp (K:=λr=>r=(_,())) Qc _ a left _ hin.1.1 hp.1 hp.2 rfl
theorem Ug:OK wQ.e:=by refine PA.ok mixed (aP [uS.e] ⟨Rk,trivial⟩) H0 (by kernel_rfl) (show∀a0 a1 a2 a3 a4 left,wQ.goal (Uh a0 a1 a2 a3 a4 left) ((a0,a1,a2,a3,a4,()),left,())from ?_);intro a0 a1 a2 a3 a4 left hin hp;dsimp only[wQ]at hp ⊢;exact⟨hp,szr (K:=λr=>r=(_,())) rfl⟩
theorem VJ:OK yE.e:=by refine PA.ok mixed (aP [uT.e] ⟨Rn,trivial⟩) H0 (by kernel_rfl) (show∀a0 a1 left,yE.goal (VK a0 a1 left) ((a0,a1,()),left,())from ?_);intro a0 a1 left hin hp;dsimp only[yE]at hp ⊢;exact sz2 (K:=λr=>r=(_,())) hin.1.1 hp.1 hp.2 rfl
theorem PU:OK tX.e:=by refine PA.ok mixed (aP [yE.e,wQ.e] ⟨VJ,Ug,trivial⟩) H0 (by kernel_rfl) (show∀a0 a1 a2 a3 a4 a5 a6 a7 a8 left,tX.goal (PV a0 a1 a2 a3 a4 a5 a6 a7 a8 left) ((a0,a1,a2,a3,a4,a5,a6,a7,a8,()),left,())from ?_);intro a0 a1 a2 a3 a4 a5 a6 a7 a8 left hin hp;dsimp only[tX]at hp ⊢;exact sz3 (K:=λr=>r=(_,())) hp.1 hp.2 rfl
theorem EO:OK qw.e:=by refine PA.ok mixed (aP [] trivial) H0 (by kernel_rfl) (show∀a0 a1 a2,qw.goal (Rq a0 a1 a2) ((a0,a1,a2,()),())from ?_);intro a0 a1 a2 hin hp;dsimp only[qw]at hp ⊢;exact rfl
theorem Ui:OK wR.e:=by refine PA.ok mixed (aP [qw.e] ⟨EO,trivial⟩) H0 (by kernel_rfl) (show∀a0 a1 a2 a3,wR.goal (Uj a0 a1 a2 a3) ((a0,a1,a2,a3,()),())from ?_);intro a0 a1 a2 a3 hin hp;dsimp only[wR]at hp ⊢;exact⟨trivial,rfl⟩
theorem Uk:OK wS.e:=by refine PA.ok mixed (aP [qw.e] ⟨EO,trivial⟩) H0 (by kernel_rfl) (show∀a0 a1 a2 a3 a4 a5 a6,wS.goal (Ul a0 a1 a2 a3 a4 a5 a6) ((a0,a1,a2,a3,a4,a5,a6,()),())from ?_);intro a0 a1 a2 a3 a4 a5 a6 hin hp;dsimp only[wS]at hp ⊢;exact⟨trivial,rfl⟩
theorem Rt:OK uU.e:=by refine PA.ok mixed (aP [wR.e] ⟨Ui,trivial⟩) Um (by kernel_rfl) (show∀a,uU.goal (Ru a) (a,())from ?_);intro a hin hp;dsimp only[uU]at hp ⊢;exact toS_vc (K:=λr=>r=(_,())) (λ_=>True) _ a _ (by have h:jL a<=big:=hp;unfold jL at h;rw[zW,Gm]at h;omega) (λ_ _=>trivial) rfl
theorem Rw:OK uV.e:=by refine PA.ok mixed (aP [wS.e] ⟨Uk,trivial⟩) Un (by kernel_rfl) (show∀a,uV.goal (Rx a) (a,())from ?_);intro a hin hp;dsimp only[uV]at hp ⊢;exact toS_vc (K:=λr=>r=(_,())) (λ_=>True) _ a _ (by have h:ny a<=big:=hp;unfold ny at h;rw[zW,Gm]at h;omega) (λ_ _=>trivial) rfl
theorem Uo:OK wU.e:=by refine PA.ok mixed (aP [uU.e] ⟨Rt,trivial⟩) H0 (by kernel_rfl) (show∀a0 a1 a2 a3 a4,wU.goal (Ur a0 a1 a2 a3 a4) ((a0,a1,a2,a3,a4,()),())from ?_);intro a0 a1 a2 a3 a4 hin hp;dsimp only[wU]at hp ⊢;exact⟨hp,rfl⟩
theorem VL:OK yF.e:=by refine PA.ok mixed (aP [uV.e] ⟨Rw,trivial⟩) H0 (by kernel_rfl) (show∀a0 a1,yF.goal (VN a0 a1) ((a0,a1,()),())from ?_);intro a0 a1 hin hp;dsimp only[yF]at hp ⊢;exact⟨hp,rfl⟩
theorem PW:OK tY.e:=by refine PA.ok mixed (aP [yF.e,wU.e] ⟨VL,Uo,trivial⟩) H0 (by kernel_rfl) (show∀a0 a1 a2 a3 a4 a5 a6 a7 a8,tY.goal (PX a0 a1 a2 a3 a4 a5 a6 a7 a8) ((a0,a1,a2,a3,a4,a5,a6,a7,a8,()),())from ?_);intro a0 a1 a2 a3 a4 a5 a6 a7 a8 hin hp;dsimp only[tY]at hp ⊢;have h:jL a5+(a7.length+ny a8)<=big:=hp;exact⟨ahB (akc _ _) h,ahB (ahB (akf _ _) (akf _ _)) h,rfl⟩
theorem NQ:OK ru.e:=by
 refine PA.ok mixed (aP [jk.e] ⟨qh,trivial⟩) PY (by kernel_rfl) (show∀text,ru.goal (NR text) (text,())from ?_);intro text hin hp;dsimp only[ru]at hp ⊢;refine ah (λh=>?_) λh=>?_
 .exact DU (Lc (by have:=kL h;omega))
 .have hl:text.length<=10:=by have:=mO h;omega
  refine xM (mk:=λi v=>((v,i,()),())) (λy=>y.1.2.1) (λ_ _=>rfl) text.length (by omega)
   (λn v=>v=fD (text.take n)/\∀i,i<n->48<=(text.getD i 0).toNat/\(text.getD i 0).toNat<=57) ⟨rfl,λi hi=>absurd hi (air _)⟩ (λI μ n v hn hJ next=>?_) λI μ v hJ=>?_
  .obtain⟨rfl,hd⟩:=hJ;obtain⟨b0,b1⟩:=XB hn hl hd;dsimp only;rw[aia];refine vC (by omega) ⟨⟨by omega,by omega⟩,ah (λh2=>?_) λh2=>⟨⟨by omega,by omega⟩,ah (λh3=>?_) λh3=>⟨⟨by omega,by omega⟩,rfl,?_⟩⟩⟩
   .exact DU (EP hn (by have:=kL h2;omega))
   .exact DU (EP hn (by have:=kL h3;omega))
   .have g2:=mO h2;have g3:=mO h3;have w1:IntKind.i64.wrap (10*fD (text.take n))=10*fD (text.take n):=dW _ (by omega);have w2:IntKind.i64.wrap ((text.getD n 0).toNat:Int)=(text.getD n 0).toNat:=dW _ (by omega);have w3:IntKind.i64.wrap (10*fD (text.take n)+(text.getD n 0).toNat)=10*fD (text.take n)+(text.getD n 0).toNat:=dW _ (by omega);have w4:IntKind.i64.wrap (10*fD (text.take n)+(text.getD n 0).toNat-48)=10*fD (text.take n)+(text.getD n 0).toNat-48:=dW _ (by omega);refine next _ ⟨?_,λi hi=>?_⟩
    .rw[w1,w2,w3,w4,YB hn];omega
    .rcases ahQ i n with h5|h5
     .exact hd i h5
     .rw[show i=n by omega];omega
  .obtain⟨rfl,hd⟩:=hJ;dsimp only;rw[aiv (ahx _)];refine vF (by omega) (ah (λh2=>?_) λh2=>⟨trivial,ah (λh3=>?_) λh3=>?_⟩)
   .refine DU ?_;cases hk:bM text with
    |false=>rfl
    |true=>have:=(rP.1 (wL.1 hk).1).2;have:=kL h2;omega
   .refine DU ?_;cases hk:bM text with
    |false=>rfl
    |true=>exact absurd (wL.1 hk).2 (ne_of_beq_false (tH h3))
   .have e:=ahO.1 (oh h3);have h0:0<=fD text:=(DV text.length text rfl (λb hb=>by obtain⟨i,hi,rfl⟩:=aiF.1 hb;have:=hd i hi;rw[ahv,ahw hi]at this;exact this)).1;have:=IA (rP.2 ⟨h0,by have:=mO h2;omega⟩) e;rw[this.1,this.2]
theorem JL:OK oL.e:=by
 refine PA.ok mixed (aP [] trivial) LJ (by kernel_rfl) (show∀line,oL.goal (JM line) (line,())from ?_);intro line hin hp;dsimp only[oL]at hp ⊢;have hp:line.length<=1048576:=hp;refine ah (λh=>?_) λh=>?_
 .exact(xO λhh=>by have:=kL h;omega).symm
 .have hl:line.length<=600:=by have:=mO h;omega
  refine xM (mk:=λi(s:Int×Sp.LS)=>(((),s.1,i,()),s.2,())) (λy=>y.1.2.2.1) (λ_ _=>rfl) (line.length+1) (by omega)
   (λn s=>∃b:Nat,s.1=b/\Sp.splitAt line n b s.2) (s0:=((0:Int),[])) ⟨0,rfl,XC line⟩ (λI μ n s hn hJ next=>?_) λI μ s hJ=>?_
  .obtain⟨b,out⟩:=s;obtain⟨b,rfl,hs⟩:=hJ;dsimp only at hs ⊢;have hb:=hs.1;have hout:=hs.2.2.1;have hw:IntKind.i64.wrap ((n:Int)+1)=((n+1:Nat):Int):=dW _ (by omega);rw[aia,aia];refine vC (by omega) ⟨λ_=>n<line.length->lC (line.getD n 0)=true,?_,λ_ hj=>?_⟩
   .refine ah (λh2=>⟨⟨by omega,by have:=kL h2;omega⟩,ah (λh3=>?_) λh3=>⟨⟨by omega,by have:=kL h2;omega⟩,ah (λh4=>?_) λh4=>⟨rfl,λ_=>?_⟩⟩⟩) λh2=>⟨rfl,λhh=>?_⟩
    .exact(xO λhh=>by have h5:=zh.1 (PZ hh.2.1 (show n<line.length by have:=kL h2;omega));have:=kL h3;omega).symm
    .exact(xO λhh=>by have h5:=zh.1 (PZ hh.2.1 (show n<line.length by have:=kL h2;omega));have:=kL h4;omega).symm
    .exact zh.2 ⟨by have:=mO h3;omega,by have:=mO h4;omega⟩
    .have:=mO h2;omega
   .have tail:(n<line.length->lC (line.getD n 0)=true/\line.getD n 0=32)->
     bif decide ((b:Int)<n)then((0:Int)<=b/\(b:Int)<=n/\(n:Int)<=line.length)/\List.length out+[(List.drop b (List.take n line),())].length<=big/\(((line,()),())=((line,()),()))/\
         I (((),IntKind.i64.wrap ((n:Int)+1),IntKind.i64.wrap ((n:Int)+1),()),out++[(List.drop b (List.take n line),())],())/\μ (((),IntKind.i64.wrap ((n:Int)+1),IntKind.i64.wrap ((n:Int)+1),()),out++[(List.drop b (List.take n line),())],())<μ (((),(b:Int),(n:Int),()),out,())
      else(((line,()),())=((line,()),()))/\I (((),IntKind.i64.wrap ((n:Int)+1),IntKind.i64.wrap ((n:Int)+1),()),out,())/\μ (((),IntKind.i64.wrap ((n:Int)+1),IntKind.i64.wrap ((n:Int)+1),()),out,())<μ (((),(b:Int),(n:Int),()),out,()):=by
     intro ho;refine ah (λh3=>⟨⟨by omega,by omega,by omega⟩,?_,rfl,?_⟩) λh3=>⟨rfl,?_⟩
     .rw[Gm];show _+1<=_;omega
     .exact next (IntKind.i64.wrap ((n:Int)+1),out++[((line.take n).drop b,())]) ⟨n+1,hw,XD hs (by omega) (by have:=kL h3;omega) ho⟩
     .exact next (IntKind.i64.wrap ((n:Int)+1),out) ⟨n+1,hw,XF hs (by omega) (by have:=mO h3;omega) ho⟩
    refine ah (λh2=>⟨⟨by omega,by have:=kL h2;omega⟩,ah (λh3=>⟨rfl,?_⟩) λh3=>?_⟩) λh2=>?_
    .have hn2:n<line.length:=by have:=kL h2;omega
     exact next ((b:Int),out) ⟨b,rfl,XG hs hn2 (hj hn2) λe=>by rw[e]at h3;revert h3;decide⟩
    .refine tail λhn2=>⟨hj hn2,?_⟩;have h3:((line.getD n 0).toNat:Int)=32:=by simpa using h3
     exact UInt8.toNat_inj.1 (by show _=32;omega)
    .exact tail λhn2=>by have:=mO h2;omega
  .obtain⟨b,out⟩:=s;obtain⟨b,rfl,hs⟩:=hJ;dsimp only at hs ⊢;obtain⟨h1,h2⟩:=YC hs;subst h2;refine vF (by omega) (ah (λh2=>?_) λh2=>?_)
   .exact(xO λhh=>by have:=kL h2;rw[qP]at this;omega).symm
   .exact(Vf (pI.2 ⟨hl,h1,by have:=mO h2;rw[qP]at this;omega⟩)).symm
theorem Ry:OK uO.e:=by
 refine PA.ok mixed (aP [] trivial) Us (by kernel_rfl) (show∀p,uO.goal (Rz p) (p,())from ?_);intro p hin hp;dsimp only[uO]at hp ⊢;have hp1:p.length<=1000:=hp.1;have hp2:(jE p).length<=2097152:=hp.2;refine xM (mk:=λi s=>((s,i,()),())) (λy=>y.1.2.1) (λ_ _=>rfl) p.length (by omega) (λn s=>s=jE (p.take n)) rfl (λI μ n s hn hJ next=>?_) λI μ s hJ=>?_
 .subst hJ;have e:=aag hn;have hle:=VO p (n+1);have hll:=congrArg List.length e;have h1:([32]:Sp.Bytes).length=1:=rfl;dsimp only;rw[aia];refine vC (by omega) (ah (λh2=>?_) λh2=>?_)
  .have hn0:n≠0:=by have:=kL h2;omega
   rw[if_neg hn0]at e hll;rw[ahr,ahr,h1]at hll;refine⟨?_,⟨by omega,by omega⟩,?_,rfl,next _ e.symm⟩
   .rw[maxLen_eq,h1];omega
   .rw[maxLen_eq,ahr,h1];omega
  .have hn0:n=0:=by have:=mO h2;omega
   subst hn0;refine⟨⟨by omega,by omega⟩,?_,rfl,next _ e.symm⟩;have h0:(jE (p.take 0)).length=0:=rfl;rw[maxLen_eq,h0];rw[if_pos rfl,aif]at hll;omega
 .subst hJ;dsimp only;refine vF (by omega) ?_;rw[aiv (ahx _)]
theorem JO:OK jo.e:=by
 refine PA.ok mixed (aP [(xI,.pure uj),gY.e] ⟨⟨NH,Ld⟩,kM,trivial⟩) LK (by kernel_rfl) (show∀line,jo.goal (JQ line) (line,())from ?_);intro line hin hp;dsimp only[jo]at hp ⊢;refine ah (λh=>?_) λh=>?_
 .exact(xO λhh=>by have:=kL h;omega).symm
 .have hl:line.length<=600:=by have:=mO h;omega
  refine CQ line.length (by omega) (λn=>∀i,i<n->lC (line.getD i 0)=true) (λi hi=>absurd hi (air _)) (λI μ n hn hJ next=>?_) λI μ hJ=>?_
  .dsimp only;rw[aia,aah];refine vC (by omega) ⟨⟨by omega,by omega⟩,trivial,ah (λh2=>?_) λh2=>⟨rfl,next λi hi=>?_⟩⟩
   .exact(xO λhh=>by have:=PZ hh.2.1 hn;rw[tH h2]at this;cases this).symm
   .rcases ahQ i n with h5|h5
    .exact hJ i h5
    .rw[show i=n by omega];exact oh h2
  .dsimp only;have hall:=XH hJ;refine vF (by omega) ⟨⟨hp,ab1 hall⟩,ah (λh2=>?_) λh2=>?_⟩
   .exact(xO λhh=>by have:=kL h2;rw[qP]at this;omega).symm
   .exact(Vf (pI.2 ⟨hl,hall,by have:=mO h2;rw[qP]at this;omega⟩)).symm
theorem RD:OK qj.e:=by
 refine PA.ok mixed (aP [] trivial) H0 (by kernel_rfl) (show∀p at',qj.goal (RG p at') (p,at',())from ?_);intro w i hin hp;dsimp only[qj]at hp ⊢;refine ah (λh=>?_) λh=>⟨⟨hp,by have:=mO h;omega⟩,?_⟩
 .rw[qY (kL h)]
 .rw[qZ (by have:=mO h;omega)]
end Go.Proofs.Tryz
namespace Go.Proofs.Tryz
open Go Go.Fw Go.IntWalk Sp
theorem zI:OK jq.e:=by
 refine PA.ok mixed (aP [kJ.e,gm.e] ⟨vT,mQ,trivial⟩) H0 (by kernel_rfl) (show∀v0 v1 v2,jq.goal (JR v0 v1 v2) ((v0,v1,v2,()),())from ?_);intro v0 v1 v2 hin hp;dsimp only[jq]at hp ⊢;refine⟨trivial,?_⟩;unfold aU;dsimp only;cases !aS v0 v1 v2 with
 |true=>exact rfl
 |false=>
 cases v0==1 with
 |true=>exact⟨trivial,rfl⟩
 |false=>cases v0==2<;>exact rfl
theorem tJ:OK gK.e:=by
 refine PA.ok mixed (aP [jk.e,fZ.e] ⟨qh,mP,trivial⟩) H0 (by kernel_rfl) (show∀v0 v1 v2,gK.goal (JS v0 v1 v2) ((v0,v1,v2,()),())from ?_);intro v0 v1 v2 hin hp;dsimp only[gK]at hp ⊢;refine⟨trivial,?_⟩;unfold aU;dsimp only;cases !aS v0 v1 v2 with
 |true=>exact rfl
 |false=>
 cases v0==1 with
 |true=>exact⟨trivial,rfl⟩
 |false=>cases v0==2<;>exact rfl
theorem Ut{n:Int}(h:0<=n):aS 1 n []=decide (n<=999):=by unfold aS;simp[h]
theorem Uu(s:List UInt8):aS 2 0 s=aK s:=by unfold aS;simp
theorem aai:bM [45]=false:=by decide
theorem P5:OK uf.e:=by refine PA.ok mixed (aP [] trivial) H0 (by kernel_rfl) (show∀n,uf.goal (P6 n) (n,())from ?_);intro n hin hp;dsimp only[uf]at hp ⊢;exact rfl
theorem LM:OK jT.e:=by
 refine PA.ok mixed (aP [gm.e,oK.e,uf.e,(xH,.pure um)] ⟨mQ,JJ,P5,⟨NG,Le⟩,trivial⟩) H0 (by kernel_rfl) (show∀s,jT.goal (LQ s) (s,())from ?_);intro s hin hp;dsimp only[jT]at hp ⊢;have h0:=(rP.1 (Bf s)).1;refine⟨trivial,?_⟩;unfold aY;cases hk:bM s with
 |true=>
  refine⟨trivial,trivial,?_⟩;dsimp only;rw[Ut h0];cases decide (Sp.parseNum s<=999)<;>exact rfl
 |false=>
  cases hs:s==[45]with
  |true=>exact⟨trivial,rfl⟩
  |false=>refine⟨trivial,trivial,?_⟩;dsimp only;rw[Uu];cases aK s<;>exact rfl
theorem LU:OK lW.e:=by
 refine PA.ok mixed (aP [gK.e,fZ.e,tN.e,oH.e,ru.e] ⟨tJ,mP,PL,JD,NQ,trivial⟩) H0 (by kernel_rfl) (show∀s,lW.goal (LV s) (s,())from ?_);intro s hin hp;dsimp only[lW]at hp ⊢;have h0:=(rP.1 (Bf s)).1;unfold aY;refine ah (λh=>?_) λh=>?_
 .have e:s=[45]:=ahO.1 h;subst e;rw[aai,h];rfl
 rw[h];refine⟨trivial,trivial,?_⟩;cases hk:bM s with
 |true=>
  refine⟨trivial,trivial,?_⟩;dsimp only;rw[Ut h0];cases h9:decide (Sp.parseNum s<=999)with
  |false=>exact rfl
  |true=>
   refine⟨trivial,?_⟩;have e:aU (1,Sp.parseNum s,[],())=s:=by unfold aU;dsimp only;rw[Ut h0,h9];exact(eP hk).1
   rw[e,ais];exact rfl
 |false=>
  refine⟨trivial,?_⟩;dsimp only;rw[Uu];cases hv:aK s with
  |false=>exact rfl
  |true=>
   refine⟨trivial,?_⟩;have e:aU (2,0,s,())=s:=by unfold aU;dsimp only;rw[Uu,hv];rfl
   rw[e,ais];exact rfl
theorem abq{op:Int}(h:(decide (1<=op)&&decide (op<=9))=false):dw op=[63]:=by rw[Bool.and_eq_false_iff,ahM,ahM]at h;unfold dw;rw[aht.2 (show op≠1 by omega),aht.2 (show op≠2 by omega),aht.2 (show op≠3 by omega),aht.2 (show op≠4 by omega),aht.2 (show op≠5 by omega),aht.2 (show op≠6 by omega),aht.2 (show op≠7 by omega),aht.2 (show op≠8 by omega),aht.2 (show op≠9 by omega)];rfl
theorem acS{op:Int}(h:(decide (1<=op)&&decide (op<=9))=true):op=1\/op=2\/op=3\/op=4\/op=5\/op=6\/op=7\/op=8\/op=9:=by rw[ahq,ahA,ahA]at h;omega
theorem Bz:OK gQ.e:=by
 refine PA.ok mixed (aP [gY.e] ⟨kM,trivial⟩) H0 (by kernel_rfl) (show∀op,gQ.goal (NS op) (op,())from ?_);intro op hin hp;dsimp only[gQ]at hp ⊢;refine⟨trivial,ah (λh=>?_) λh=>?_⟩
 .exact congrArg (·,()) (abq (tH h)).symm
 .rcases acS (oh h)with e|e|e|e|e|e|e|e|e<;>subst e<;>exact⟨by decide,rfl⟩
theorem BA:OK jl.e:=by
 refine PA.ok mixed (aP [fK.e] ⟨jZ,trivial⟩) H0 (by kernel_rfl) (show∀op,jl.goal (NT op) (op,())from ?_);intro op hin hp;dsimp only[jl]at hp ⊢;refine⟨trivial,ah (λh=>?_) λh=>?_⟩
 .exact congrArg (·,()) (abq (tH h)).symm
 .rcases acS (oh h)with e|e|e|e|e|e|e|e|e<;>subst e<;>exact⟨by decide,rfl⟩
theorem bP{n:Nat}(h:n<=100000000000):n<=maxLen:=by rw[maxLen_eq];omega
theorem GL{n:Nat}(h:n<=4000000000):n<=big:=by rw[Gm];omega
theorem zi{n:Nat}(h:Nat.ble n 10=true):n<=big:=GL (ahB (ain h) (by decide))
theorem sK{n:Nat}(h:Nat.ble n 10=true):n<=140737488355328:=ahB (ain h) (by decide)
theorem Ej[kT](Fv:gy prog G lH nY):gy prog G wK uq:=by
 refine Em (aP [(mX,.pure kH),(lH,.pure nY),jq.e,gQ.e] ⟨⟨yX,xJ⟩,⟨Fv,Ec⟩,zI,Bz,trivial⟩) ?_;intro q i hin hp;obtain⟨⟨ho,h0,hl⟩,hf⟩:=hp;have hT:(Lib.join (aT (i.toNat+1) q i) [32]).length<=140737488355328:=ahB (XI ho h0 hl) (by decide);have hlen:=(jH ho).2;have hn:=(jS ho (show i.toNat<q.length by omega)).1;refine⟨⟨h0,hl⟩,trivial,?_⟩;have eN:q.getD i.toNat (0,0,0,[],0,0,[],())=Sp.nodeAt q i.toNat:=rfl;dsimp only;rw[eN];rcases Vg hn with c|c|c
 .have e:=Zc (q:=q) (i:=i) i.toNat c;rw[e]at hT ⊢;generalize Sp.nodeAt q i.toNat=n at c hT;obtain⟨op,l,r,s,v⟩:=n;dsimp only at c hT ⊢;rcases c with rfl|rfl|rfl|rfl|rfl|rfl
  .exact dK ((false,()),()) ⟨rfl,rfl⟩ ⟨⟨sK rfl,hT⟩,rfl⟩
  .exact dK ((true,()),()) ⟨rfl,rfl⟩ ⟨zi rfl,⟨sK rfl,hT⟩,rfl⟩
  .exact dK ((false,()),()) ⟨rfl,rfl⟩ ⟨trivial,zi rfl,⟨sK rfl,hT⟩,rfl⟩
  .exact dK ((false,()),()) ⟨rfl,rfl⟩ ⟨trivial,zi rfl,⟨sK rfl,hT⟩,rfl⟩
  .exact dK ((true,()),()) ⟨rfl,rfl⟩ ⟨zi rfl,⟨sK rfl,hT⟩,rfl⟩
  .exact dK ((true,()),()) ⟨rfl,rfl⟩ ⟨zi rfl,⟨sK rfl,hT⟩,rfl⟩
 .obtain⟨e,k0,k1⟩:=abr ho h0 hl c;rw[e]at hT ⊢;have e2:=RH (dw 5) (yu (Sp.nodeAt q i.toNat).2.1.toNat q (Sp.nodeAt q i.toNat).2.1);rw[← e2]at hT ⊢;have hk:(aA q=true/\0<=(Sp.nodeAt q i.toNat).2.1/\(Sp.nodeAt q i.toNat).2.1<(q.length:Int))/\(Sp.nodeAt q i.toNat).2.1.toNat<fE:=⟨⟨ho,k0,by omega⟩,by omega⟩;rw[c];exact dK ((false,()),()) ⟨rfl,rfl⟩ ⟨hk,zi rfl,⟨sK rfl,hT⟩,rfl⟩
 .obtain⟨e,⟨k0,k1⟩,m0,m1⟩:=abt ho h0 hl c;rw[e]at hT ⊢;have e2:=RI (dw (Sp.nodeAt q i.toNat).1) (yu (Sp.nodeAt q i.toNat).2.1.toNat q (Sp.nodeAt q i.toNat).2.1) (yu (Sp.nodeAt q i.toNat).2.2.1.toNat q (Sp.nodeAt q i.toNat).2.2.1);rw[← e2]at hT ⊢;have hk:(aA q=true/\0<=(Sp.nodeAt q i.toNat).2.1/\(Sp.nodeAt q i.toNat).2.1<(q.length:Int))/\(Sp.nodeAt q i.toNat).2.1.toNat<fE:=⟨⟨ho,k0,by omega⟩,by omega⟩;have hm:(aA q=true/\0<=(Sp.nodeAt q i.toNat).2.2.1/\(Sp.nodeAt q i.toNat).2.2.1<(q.length:Int))/\(Sp.nodeAt q i.toNat).2.2.1.toNat<fE:=⟨⟨ho,m0,by omega⟩,by omega⟩;rcases c with c|c<;>rw[c]at hT ⊢
  .exact dK ((false,()),()) ⟨rfl,rfl⟩ ⟨hk,hm,zi rfl,⟨sK rfl,hT⟩,rfl⟩
  .exact dK ((false,()),()) ⟨rfl,rfl⟩ ⟨hk,hm,zi rfl,⟨sK rfl,hT⟩,rfl⟩
theorem NU:gy prog G xK Ap:=
 aa2 (λn=>@xW ⟨n⟩) (λn=>@vW ⟨n⟩) (by rintro⟨q,at',⟨⟩⟩ h;exact air _ h.2) (by rintro _ ⟨q,at',⟨⟩⟩;rfl) (by rintro⟨q,at',⟨⟩⟩ h;exact⟨_,h,aiM _⟩) (by rintro _ ⟨q,at',⟨⟩⟩;rfl) λn h=>@Ej ⟨n⟩ h
theorem GN[kT](IV:gy prog G nU ql):gy prog G yZ vY:=by
 refine GR (aP [(nU,.pure ql),gK.e,jl.e] ⟨⟨IV,Gw⟩,tJ,BA,trivial⟩) ?_;intro q i hin hp;obtain⟨⟨ho,h0,hl⟩,hf⟩:=hp;have hT:=XI ho h0 hl;have hlen:=(jH ho).2;have hn:=(jS ho (show i.toNat<q.length by omega)).1;refine⟨⟨h0,hl⟩,trivial,?_⟩;have eN:q.getD i.toNat (0,0,0,[],0,0,[],())=Sp.nodeAt q i.toNat:=rfl;dsimp only;rw[eN];rcases Vg hn with c|c|c
 .have e:=Zc (q:=q) (i:=i) i.toNat c;rw[e]at hT ⊢;generalize Sp.nodeAt q i.toNat=n at c hT;obtain⟨op,l,r,s,v⟩:=n;dsimp only at c hT ⊢;rcases c with rfl|rfl|rfl|rfl|rfl|rfl
  .exact dK ((false,()),()) ⟨rfl,rfl⟩ rfl
  .have e2:Lib.join (gX (2,l,r,s,v)) [32]=dw 2++[32]++s:=Cj _ _;rw[e2]at hT ⊢;simp only[ahr]at hT;exact dK ((true,()),()) ⟨rfl,rfl⟩ ⟨bP (by omega),bP (by rw[ahr];omega),rfl⟩
  .have e2:Lib.join (gX (3,l,r,s,v)) [32]=dw 3++[32]++s++[32]++aU v:=Nc _ _ _;rw[e2]at hT ⊢;simp only[ahr]at hT;exact dK ((false,()),()) ⟨rfl,rfl⟩ ⟨bP (by omega),bP (by simp only[ahr];omega),bP (by simp only[ahr];omega),trivial,bP (by simp only[ahr];omega),rfl⟩
  .have e2:Lib.join (gX (4,l,r,s,v)) [32]=dw 4++[32]++s++[32]++aU v:=Nc _ _ _;rw[e2]at hT ⊢;simp only[ahr]at hT;exact dK ((false,()),()) ⟨rfl,rfl⟩ ⟨bP (by omega),bP (by simp only[ahr];omega),bP (by simp only[ahr];omega),trivial,bP (by simp only[ahr];omega),rfl⟩
  .have e2:Lib.join (gX (8,l,r,s,v)) [32]=dw 8++[32]++s:=Cj _ _;rw[e2]at hT ⊢;simp only[ahr]at hT;exact dK ((true,()),()) ⟨rfl,rfl⟩ ⟨bP (by omega),bP (by rw[ahr];omega),rfl⟩
  .have e2:Lib.join (gX (9,l,r,s,v)) [32]=dw 9++[32]++s:=Cj _ _;rw[e2]at hT ⊢;simp only[ahr]at hT;exact dK ((true,()),()) ⟨rfl,rfl⟩ ⟨bP (by omega),bP (by rw[ahr];omega),rfl⟩
 .obtain⟨e,k0,k1⟩:=abr ho h0 hl c;rw[e]at hT ⊢;have e2:=RH (dw 5) (yu (Sp.nodeAt q i.toNat).2.1.toNat q (Sp.nodeAt q i.toNat).2.1);rw[Cj]at e2;rw[← e2]at hT ⊢;simp only[ahr]at hT;have hk:(aA q=true/\0<=(Sp.nodeAt q i.toNat).2.1/\(Sp.nodeAt q i.toNat).2.1<(q.length:Int))/\(Sp.nodeAt q i.toNat).2.1.toNat<fE:=⟨⟨ho,k0,by omega⟩,by omega⟩;rw[c];exact dK ((false,()),()) ⟨rfl,rfl⟩ ⟨bP (by omega),hk,bP (by simp only[ahr];omega),rfl⟩
 .obtain⟨e,⟨k0,k1⟩,m0,m1⟩:=abt ho h0 hl c;rw[e]at hT ⊢;have e2:=RI (dw (Sp.nodeAt q i.toNat).1) (yu (Sp.nodeAt q i.toNat).2.1.toNat q (Sp.nodeAt q i.toNat).2.1) (yu (Sp.nodeAt q i.toNat).2.2.1.toNat q (Sp.nodeAt q i.toNat).2.2.1);rw[Nc]at e2;rw[← e2]at hT ⊢;simp only[ahr]at hT;have hk:(aA q=true/\0<=(Sp.nodeAt q i.toNat).2.1/\(Sp.nodeAt q i.toNat).2.1<(q.length:Int))/\(Sp.nodeAt q i.toNat).2.1.toNat<fE:=⟨⟨ho,k0,by omega⟩,by omega⟩;have hm:(aA q=true/\0<=(Sp.nodeAt q i.toNat).2.2.1/\(Sp.nodeAt q i.toNat).2.2.1<(q.length:Int))/\(Sp.nodeAt q i.toNat).2.2.1.toNat<fE:=⟨⟨ho,m0,by omega⟩,by omega⟩;rcases c with c|c<;>rw[c]at hT ⊢
  .exact dK ((false,()),()) ⟨rfl,rfl⟩ ⟨bP (by omega),hk,bP (by simp only[ahr];omega),bP (by simp only[ahr];omega),hm,bP (by simp only[ahr];omega),rfl⟩
  .exact dK ((false,()),()) ⟨rfl,rfl⟩ ⟨bP (by omega),hk,bP (by simp only[ahr];omega),bP (by simp only[ahr];omega),hm,bP (by simp only[ahr];omega),rfl⟩
theorem RJ:gy prog G zU CZ:=
 aa2 (λn=>@zy ⟨n⟩) (λn=>@yD ⟨n⟩) (by rintro⟨q,at',⟨⟩⟩ h;exact air _ h.2) (by rintro _ ⟨q,at',⟨⟩⟩;rfl) (by rintro⟨q,at',⟨⟩⟩ h;exact⟨_,h,aiM _⟩) (by rintro _ ⟨q,at',⟨⟩⟩;rfl) λn h=>@GN ⟨n⟩ h
theorem XJ{q:List ax}(h:aA q=true):aT (((q.length:Int)-1).toNat+1) q ((q.length:Int)-1)=aT 9 q ((q.length:Int)-1):=by have hl:=jH h;exact uI h _ _ _ (by omega) (by omega) (by omega) (by omega)
theorem zJ:OK kU.e:=by
 refine PA.ok mixed (aP [(xK,.pure Ap),eG.e] ⟨⟨NU,Lh⟩,rQ,trivial⟩) H0 (by kernel_rfl) (show∀q,kU.goal (JU q) (q,())from ?_);intro q hin hp;dsimp only[kU]at hp ⊢;have hp:q.length<=2000000:=hp;refine⟨hp,?_⟩;unfold Sp.textOf;cases h:aA q with
 |false=>exact rfl
 |true=>have hl:=jH h;have hw:IntKind.i64.wrap ((q.length:Int)-1)=(q.length:Int)-1:=dW _ (by omega);rw[hw];dsimp only;rw[XJ h];exact⟨⟨rfl,by omega,by omega⟩,rfl⟩
theorem tK:OK jr.e:=by
 refine PA.ok mixed (aP [(zU,.pure CZ),kD.e] ⟨⟨RJ,PI⟩,y8,trivial⟩) H0 (by kernel_rfl) (show∀q,jr.goal (JV q) (q,())from ?_);intro q hin hp;dsimp only[jr]at hp ⊢;have hp:q.length<=2000000:=hp;refine⟨hp,?_⟩;unfold Sp.textOf;cases h:aA q with
 |false=>exact rfl
 |true=>have hl:=jH h;have hw:IntKind.i64.wrap ((q.length:Int)-1)=(q.length:Int)-1:=dW _ (by omega);rw[hw];dsimp only;rw[XJ h];exact⟨⟨rfl,by omega,by omega⟩,rfl⟩
end Go.Proofs.Tryz
