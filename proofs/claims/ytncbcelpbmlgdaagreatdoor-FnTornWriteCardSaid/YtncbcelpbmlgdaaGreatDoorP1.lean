import Derived.Test.YtncbcelpbmlgdaaGreatDoorV1
import Derived.Test.YtncbcelpbmlgdaaGreatDoorSp
import Derived.Test.YtncbcelpbmlgdaaGreatDoorV2
import Derived.Test.YtncbcelpbmlgdaaGreatDoorFwC
namespace Go.Proofs.Tryz
open Go Go.Fw Go.IntWalk Sp
theorem am4(x y:Int)(m:Nat)(hm:m<9223372036854775807)(hy:(BitVec.ofInt 64 y).toNat=m):0<=bitsOf .and .i64 x y/\bitsOf .and .i64 x y<=m:=by
 have h:(BitVec.ofInt 64 x&&&BitVec.ofInt 64 y).toNat<=m:=by rw[BitVec.toNat_and,hy];exact Nat.and_le_right
 show 0<=IntKind.i64.wrap ((BitVec.ofInt 64 x&&&BitVec.ofInt 64 y).toNat:Int)/\IntKind.i64.wrap ((BitVec.ofInt 64 x&&&BitVec.ofInt 64 y).toNat:Int)<=m;generalize (BitVec.ofInt 64 x&&&BitVec.ofInt 64 y).toNat=z at h ⊢;rw[fD _ abn];omega
theorem am5(x:Int):0<=bitsOf .and .i64 x 255/\bitsOf .and .i64 x 255<=255:=am4 x 255 255 abn abA
theorem aeg:OK Eg.e:=by
 refine QA.ok mixed (aC [] trivial) agA (λ⟨_,⟨⟩⟩ _=>⟨([],0,0,()),rfl⟩) abu (show∀code,Eg.goal (aeh code) (code,())from ?_);intro code hin hp;dsimp only[Eg]at hp ⊢;have hp:code.length<=1048576:=hp;refine⟨λy=>∃n:Nat,y.1.2.1=n/\n<=code.length,λy=>((code.length:Int)-y.1.2.1).toNat,⟨0,rfl,abn⟩,?_⟩;rintro⟨⟨h,_,⟨⟩⟩,⟨⟩⟩ ⟨n,rfl,hn⟩;dsimp only;refine af (λhc=>?_) λhc=>?_
 .simp only[avC]at hc;cases decide ((n:Int)<4000)with
  |false=>exact rfl
  |true=>
   have e:IntKind.i64.wrap ((n:Int)+1)=((n+1:Nat):Int):=fD _ abn;refine⟨?_,?_,?_,?_⟩
   .exact⟨abn,hc⟩
   .exact rfl
   .exact⟨n+1,e,abn⟩
   show((code.length:Int)-IntKind.i64.wrap ((n:Int)+1)).toNat<((code.length:Int)-n).toNat;rw[e];omega
 .exact rfl
theorem ab4:OK CP.e:=by
 refine XA.ok mixed (aC [] trivial) H0 (λ_ _=>⟨(((0:Int),()),(([],0,0,()),())),⟨abA,abA,abA⟩⟩) abu (show∀c0 c1 c2,CP.goal (ab5 c0 c1 c2) ((c0,c1,c2,()),())from ?_);intro b i h hin hp;dsimp only[CP]at hp ⊢;have hp:0<=i:=hp;refine⟨abA,abA,af (λhc=>?_) λhc=>?_⟩<;>simp only[avC,av7]at hc
 .have hl:b.length<=maxLen:=hin.1.1.1;rw[maxLen_eq]at hl;refine⟨⟨hp,hc⟩,?_,am5 _⟩;show 0<=IntKind.i64.wrap (i+1);rw[fD _ abn];omega
 .exact⟨hp,am5 _⟩
theorem tmod_lt{a n:Int}(ha:0<=a)(hn:0<n):0<=a.tmod n/\a.tmod n<n:=⟨ayh n ha,Int.tmod_lt_of_pos a hn⟩
theorem dL:OK dh.e:=by
 refine XA.ok mixed (aC [CP.e] ⟨ab4,trivial⟩) H0 (λ⟨_,n,⟨⟩⟩ _=>⟨(((0:Int),()),(([],0,0,()),())),⟨awk _,awk _,λh=>h,λ_=>rfl⟩⟩) abu (show∀c0 c1 c2 n,dh.goal (aal c0 c1 c2 n) ((c0,c1,c2,()),n,())from ?_);intro b i h n hin hp;dsimp only[dh]at hp ⊢;have hp:0<=i:=hp;refine af (λhc=>?_) λhc=>?_<;>simp only[avC,av7]at hc
 .exact⟨hp,awk _,λh=>abn,λ_=>rfl⟩
 .refine af (λhc2=>?_) λhc2=>?_
  .refine⟨hp,?_⟩;rintro⟨⟨x,⟨⟩⟩,⟨b',i',h',⟨⟩⟩,⟨⟩⟩ ⟨h1,h2,h3⟩;dsimp only at h1 h2 h3 ⊢;have:=tmod_lt h2 (show 0<n from abn);exact⟨abn,h1,this.1,λ_=>this.2,λh=>abn⟩
  .refine⟨hp,?_⟩;rintro⟨⟨x1,⟨⟩⟩,⟨b1,i1,g1,⟨⟩⟩,⟨⟩⟩ ⟨h1,h2,h3⟩;refine⟨h1,?_⟩;rintro⟨⟨x2,⟨⟩⟩,⟨b2,i2,g2,⟨⟩⟩,⟨⟩⟩ ⟨k1,k2,k3⟩;refine⟨k1,?_⟩;rintro⟨⟨x3,⟨⟩⟩,⟨b3,i3,g3,⟨⟩⟩,⟨⟩⟩ ⟨l1,l2,l3⟩;refine⟨l1,?_⟩;rintro⟨⟨x4,⟨⟩⟩,⟨b4,i4,g4,⟨⟩⟩,⟨⟩⟩ ⟨m1,m2,m3⟩;dsimp only at*;rw[fD (x1*16777216) abn,fD (x2*65536) abn,fD (x3*256) abn,fD (x1*16777216+x2*65536) abn,fD (x1*16777216+x2*65536+x3*256) abn,fD (x1*16777216+x2*65536+x3*256+x4) abn];have:=tmod_lt (a:=x1*16777216+x2*65536+x3*256+x4) (n:=n) abn abn;exact⟨abn,m1,this.1,λ_=>this.2,λh=>abn⟩
theorem BI:OK nY.e:=by refine XA.ok mixed (aC [dh.e] ⟨dL,trivial⟩) H0 (λ_ _=>⟨((false,()),(([],0,0,()),())),awk _⟩) abu (show∀c0 c1 c2 n,nY.goal (ab6 c0 c1 c2 n) ((c0,c1,c2,()),n,())from ?_);intro b i h n hin hp;dsimp only[nY]at hp ⊢;refine⟨hp,?_⟩;rintro⟨⟨x,⟨⟩⟩,⟨b',i',h',⟨⟩⟩,⟨⟩⟩ ⟨h1,_⟩;exact h1
theorem jM:OK iW.e:=by refine XA.ok mixed (aC [dh.e] ⟨dL,trivial⟩) H0 (λ⟨_,l,⟨⟩⟩⟨_,hl⟩=>(match l,hl with|x::_,_=>⟨((x.1,()),(([],0,0,()),())),⟨awk _,avA⟩⟩)) abu (show∀c0 c1 c2 list,iW.goal (ab7 c0 c1 c2 list) ((c0,c1,c2,()),list,())from ?_);intro b i h l hin hp;dsimp only[iW]at hp ⊢;obtain⟨hp,hl⟩:=hp;have hpos:0<l.length:=axT.2 hl;refine⟨hp,?_⟩;rintro⟨⟨x,⟨⟩⟩,⟨b',i',h',⟨⟩⟩,⟨⟩⟩ ⟨h1,h2,h3,_⟩;have h3:x<(l.length:Int):=h3 abn;refine⟨⟨h2,h3⟩,h1,?_⟩;exact getD_mem (by dsimp only at h2;omega)
theorem qV:OK kL.e:=by refine XA.ok mixed (aC [dh.e] ⟨dL,trivial⟩) H0 (λ⟨_,l,⟨⟩⟩⟨_,hl⟩=>(match l,hl with|x::_,_=>⟨((x.1,()),(([],0,0,()),())),⟨awk _,avA⟩⟩)) abu (show∀c0 c1 c2 list,kL.goal (Wj c0 c1 c2 list) ((c0,c1,c2,()),list,())from ?_);intro b i h l hin hp;dsimp only[kL]at hp ⊢;obtain⟨hp,hl⟩:=hp;have hpos:0<l.length:=axT.2 hl;refine⟨hp,?_⟩;rintro⟨⟨x,⟨⟩⟩,⟨b',i',h',⟨⟩⟩,⟨⟩⟩ ⟨h1,h2,h3,_⟩;have h3:x<(l.length:Int):=h3 abn;refine⟨⟨h2,h3⟩,h1,?_⟩;exact getD_mem (by dsimp only at h2;omega)
theorem LJ:OK vX.e:=by refine XA.ok mixed (aC [] trivial) ab8 (λ_ _=>⟨((Sp.usual,()),()),rfl⟩) abu (show vX.goal (aam) (())from ?_);intro hin hp;dsimp only[vX]at hp ⊢;exact rfl
theorem NP:OK yD.e:=by refine XA.ok mixed (aC [iW.e] ⟨jM,trivial⟩) H0 (λ_ _=>⟨(([],()),(([],0,0,()),())),⟨abA,abA⟩⟩) abu (show∀c0 c1 c2,yD.goal (ab9 c0 c1 c2) ((c0,c1,c2,()),())from ?_);intro b i h hin hp;dsimp only[yD]at hp ⊢;refine⟨⟨hp,acA⟩,?_⟩;rintro⟨⟨x,⟨⟩⟩,⟨b',i',h',⟨⟩⟩,⟨⟩⟩ ⟨h1,h2⟩;refine⟨h1,?_⟩;exact(show∀y∈_,List.length y.1<=1 from abA) _ h2
theorem Wl:Sp.usual.length=4:=rfl
theorem aei:OK Eh.e:=by
 refine XA.ok mixed (aC [iW.e,yD.e,dh.e,vX.e] ⟨jM,NP,dL,LJ,trivial⟩) agB (λ_ _=>⟨(([],()),(([],0,0,()),())),⟨abA,abA⟩⟩) abu (show∀c0 c1 c2,Eh.goal (aej c0 c1 c2) ((c0,c1,c2,()),())from ?_);intro b i h hin hp;dsimp only[Eh]at hp ⊢;have hp:0<=i:=hp;refine⟨trivial,?_⟩;rintro⟨⟨_,⟨⟩⟩,⟨⟩⟩ rfl;dsimp only
 repeat' first
  |exact trivial
  |refine af (λ_=>?_) λ_=>?_
  |refine And.intro ?_ ?_
  |(intro r hr;simp only[]at hr)
  |intro r hr
 all_goals first
  |omega
  |(dsimp only at*;omega)
  |exact hr
  |(simp only[avp,ne_eq]at*;omega)
  |(simp only[avZ,avz,avn,avq,avu,Wl];omega)
  |(rw[iH];simp only[avZ,avz,avn,avq,avu,Wl];omega)
  |(simp only[avZ,avz,avn,avq,avu,Wl]at*;omega)
  |exact(show∀y∈_,List.length y.1<=10 from abA) _ hr.2
  |(simp;done)
  |skip
theorem zX:OK oN.e:=by refine PA.ok mixed (aC [] trivial) H0 abu (show∀n,oN.goal (aan n) (n,())from ?_);intro n hin hp;dsimp only[oN]at hp ⊢;exact rfl
theorem ql:OK jQ.e:=by refine PA.ok mixed (aC [] trivial) H0 abu (show∀w,jQ.goal (UC w) (w,())from ?_);intro n hin hp;dsimp only[jQ]at hp ⊢;exact rfl
theorem aao:OK Bf.e:=by
 refine XA.ok mixed (aC [jQ.e,iW.e,oN.e,dh.e] ⟨ql,jM,zX,dL,trivial⟩) H0 (λ_ _=>⟨((((0:Int),(0:Int),([]:List UInt8),()),()),(([],0,0,()),())),⟨abA,abA⟩⟩) abu (show∀c0 c1 c2,Bf.goal (aap c0 c1 c2) ((c0,c1,c2,()),())from ?_);intro b i h hin hp;dsimp only[Bf]at hp ⊢;have hp:0<=i:=hp
 repeat' first
  |exact trivial
  |refine af (λ_=>?_) λ_=>?_
  |refine And.intro ?_ ?_
  |(intro r hr;simp only[]at hr)
  |intro r hr
 all_goals first
  |omega
  |(dsimp only at*;omega)
  |exact hr
  |(simp only[avp,ne_eq]at*;omega)
  |(simp only[avZ,avz,avn,avq,avu];omega)
  |(rw[iH];simp only[avZ,avz,avn,avq,avu];omega)
  |(simp only[avZ,avz,avn,avq,avu]at*;omega)
  |exact(show∀y∈_,List.length y.1<=10 from abA) _ hr.2
  |(simp;done)
  |skip
theorem Qa:OK Ah.e:=by
 refine XA.ok mixed (aC [iW.e,kL.e,dh.e,Bf.e] ⟨jM,qV,dL,aao,trivial⟩) H0 (λ_ _=>⟨((((0:Int),(0:Int),([]:List UInt8),()),()),(([],0,0,()),())),⟨abA,abA⟩⟩) abu (show∀c0 c1 c2,Ah.goal (aek c0 c1 c2) ((c0,c1,c2,()),())from ?_);intro b i h hin hp;dsimp only[Ah]at hp ⊢;have hp:0<=i:=hp
 repeat' first
  |exact trivial
  |refine af (λ_=>?_) λ_=>?_
  |refine And.intro ?_ ?_
  |(intro r hr;simp only[]at hr)
  |intro r hr
 all_goals first
  |omega
  |(dsimp only at*;omega)
  |exact hr
  |(simp only[avp,ne_eq]at*;omega)
  |(simp only[avZ,avz,avn,avq,avu];omega)
  |(rw[iH];simp only[avZ,avz,avn,avq,avu];omega)
  |(simp only[avZ,avz,avn,avq,avu]at*;omega)
  |exact(show∀y∈_,List.length y.1<=10 from abA) _ hr.2
  |(simp;done)
  |skip
theorem kz:OK ja.e:=by
 refine PA.ok mixed (aC [] trivial) H0 abu (show∀Ut least most,ja.goal (agC Ut least most) (Ut,least,most,())from ?_);intro x a b hin hp;dsimp only[ja]at hp ⊢;refine af (λh=>?_) λh=>?_
 .have h:=fB h;show(decide (x<=b),())=(decide (a<=x)&&decide (x<=b),());rw[avD (show a<=x from h)];rfl
 .have h:=fO h;show(false,())=(decide (a<=x)&&decide (x<=b),());rw[avH (show ¬a<=x from h)];rfl
theorem kJ:OK jo.e:=by
 refine PA.ok mixed (aC [] trivial) H0 abu (show∀n low high,jo.goal (ael n low high) (n,low,high,())from ?_);intro x a b hin hp;dsimp only[jo]at hp ⊢;refine af (λh=>?_) λh=>?_
 .show(decide (x<=b),())=(decide (a<=x)&&decide (x<=b),());rw[h];rfl
 .show(false,())=(decide (a<=x)&&decide (x<=b),());rw[h];rfl
theorem J7{s:List UInt8}{n:Nat}(hlt:n<s.length)(hl:Sp.lower s=true):97<=(s.getD n 0).toNat/\(s.getD n 0).toNat<=122:=by have:=avL.1 hl _ (getD_mem (d:=0) hlt);simpa using this
theorem NQ:OK yE.e:=by
 refine PA.ok mixed (aC [ja.e] ⟨kz,trivial⟩) aem abu (show∀s most,yE.goal (acd s most) (s,most,())from ?_);intro s most hin hp;dsimp only[yE]at hp ⊢;have hlen:s.length<=maxLen:=hin.1;rw[maxLen_eq]at hlen;refine⟨λy=>∃n:Nat,y.1.1=n/\n<=s.length/\Sp.lower (s.take n)=true,λy=>((s.length:Int)-y.1.1).toNat,⟨0,rfl,abn,rfl⟩,?_⟩;rintro⟨⟨_,⟨⟩⟩,⟨⟩⟩ ⟨n,rfl,hn,hJ⟩;dsimp only;refine af (λh=>?_) λh=>?_<;>simp only[avC,av7]at h
 .have hlt:n<s.length:=abn;rw[fD _ abn,avJ];refine⟨⟨abn,abn⟩,af (λh2=>?_) λh2=>⟨⟨abn,abn⟩,af (λh3=>?_) λh3=>?_⟩⟩<;>simp only[avC,av7]at*
  .cases hl:Sp.lower s with
   |false=>rfl
   |true=>have:=J7 hlt hl;omega
  .cases hl:Sp.lower s with
   |false=>rfl
   |true=>have:=J7 hlt hl;omega
  .refine⟨rfl,⟨n+1,acA,abn,?_⟩,afw⟩;rw[Sp.take_succ' s n 0 hlt];unfold Sp.lower at hJ ⊢;rw[axY,hJ];simp only[awH,ayC,axE,axj,avo,avC];omega
 .have hge:n=s.length:=abn;rw[hge,awE]at hJ;rw[hJ];exact⟨trivial,rfl⟩
theorem zf:OK lQ.e:=by refine PA.ok mixed (aC [yE.e] ⟨NQ,trivial⟩) H0 abu (show∀s,lQ.goal (Qb s) (s,())from ?_);intro s hin hp;dsimp only[lQ]at hp ⊢;exact⟨trivial,rfl⟩
theorem sO:OK kP.e:=by
 refine PA.ok mixed (aC [lQ.e,ja.e] ⟨zf,kz,trivial⟩) H0 abu (show∀v0 v1 v2,kP.goal (RG v0 v1 v2) ((v0,v1,v2,()),())from ?_);intro k n s hin hp;dsimp only[kP]at hp ⊢;refine af (λh=>?_) λh=>af (λh2=>⟨trivial,af (λh3=>?_) λh3=>?_⟩) λh2=>af (λh3=>⟨trivial,af (λh4=>?_) λh4=>?_⟩) λh3=>?_
 .have e:k=0:=acG;subst e;exact congrArg (·,()) (av3.2 (by simp[bJ]))
 .have e:k=1:=aiP;subst e;exact congrArg (·,()) (av3.2 (by simp only[avo,avC]at h3;simp[bJ,h3]))
 .have e:k=1:=aiP;subst e;exact congrArg (·,()) (av3.2 (by simp only[bJ,h3];simp))
 .have e:k=2:=aqw;subst e;exact congrArg (·,()) (av3.2 (by simp[bJ,h4]))
 .have e:k=2:=aqw;subst e;exact congrArg (·,()) (av3.2 (by simp[bJ,h4]))
 .have e1:k≠0:=acG;have e2:k≠1:=aiP;have e3:k≠2:=aqw;exact congrArg (·,()) (av3.2 (by simp[bJ,e1,e2,e3]))
theorem vK:OK kE.e:=by refine PA.ok mixed (aC [yE.e] ⟨NQ,trivial⟩) H0 abu (show∀s,kE.goal (MS s) (s,())from ?_);intro s hin hp;dsimp only[kE]at hp ⊢;exact⟨trivial,rfl⟩
theorem Yn:OK zF.e:=by
 refine PA.ok mixed (aC [] trivial) aaq abu (show∀s name,zF.goal (Yo s name) (s,name,())from ?_);intro s name hin hp;dsimp only[zF]at hp ⊢;have hlen:s.length<=maxLen:=hin.1.1;rw[maxLen_eq]at hlen;refine kZ s.length hlen (λn=>∀i,i<n->(s.getD i ([],0,())).1≠name) (λi hi=>abn) (λI μ n hn hJ next=>?_) λI μ hJ=>?_
 .dsimp only;refine fK abn ⟨⟨abn,abn⟩,af (λh=>⟨⟨abn,abn⟩,?_⟩) λh=>⟨rfl,next λi hi=>?_⟩⟩
  .exact congrArg (·,()) (Wn s n hn hJ (by simpa only[avJ,avS]using h)).symm
  .rcases avN i n with h'|h'
   .exact hJ i h'
   .have:i=n:=abn;subst this;have h2:((s.getD i ([],0,())).1==name)=false:=h;exactλe=>by rw[e]at h2;simp at h2
 .dsimp only;exact fM abn (congrArg (·,()) (OG s hJ).symm)
theorem Fg:OK oO.e:=by
 refine PA.ok mixed (aC [ja.e,kE.e] ⟨kz,vK,trivial⟩) RH abu (show∀s,oO.goal (Qc s) (s,())from ?_);intro s hin hp;dsimp only[oO]at hp ⊢;have hlen:s.length<=maxLen:=hin.1.1;rw[maxLen_eq]at hlen;refine kZ s.length hlen (λn=>∀i,i<n->jF s i=true) (λi hi=>abn) (λI μ n hn hJ next=>?_) λI μ hJ=>?_
 .dsimp only;have no:jF s n=false->(false,())=(eG s,()):=λh=>by rw[Zo hn h]
  refine fK abn ⟨⟨abn,abn⟩,trivial,af (λh2=>no ?_) λh2=>⟨⟨abn,abn⟩,trivial,af (λh3=>no ?_) λh3=>af (λh4=>?_) λh4=>⟨rfl,next (dY hJ ?_)⟩⟩⟩
  .have h2:dD (Sp.fieldAt s n).1=false:=iY h2;unfold jF;rw[h2];rfl
  .have h2:dD (Sp.fieldAt s n).1=true:=fG h2;have h3:(decide (1<=(Sp.fieldAt s n).2.1)&&decide ((Sp.fieldAt s n).2.1<=2))=false:=iY h3;unfold jF;rw[h2,h3];rfl
  .have h2:dD (Sp.fieldAt s n).1=true:=fG h2;have h3:(decide (1<=(Sp.fieldAt s n).2.1)&&decide ((Sp.fieldAt s n).2.1<=2))=true:=fG h3;have h4:0<n:=anb;rw[zh h4 abn];refine⟨⟨abn,abn⟩,⟨abn,abn⟩,af (λh5=>no ?_) λh5=>⟨rfl,next (dY hJ ?_)⟩⟩
   .have h5:Op.bytesLess (Sp.fieldAt s (n-1)).1 (Sp.fieldAt s n).1=false:=iY h5;unfold jF;rw[h2,h3,h5,avD h4];rfl
   .have h5:Op.bytesLess (Sp.fieldAt s (n-1)).1 (Sp.fieldAt s n).1=true:=fG h5;unfold jF;rw[h2,h3,h5,avD h4];rfl
  .have h2:dD (Sp.fieldAt s n).1=true:=fG h2;have h3:(decide (1<=(Sp.fieldAt s n).2.1)&&decide ((Sp.fieldAt s n).2.1<=2))=true:=fG h3;have h4:¬0<n:=amU;unfold jF;rw[h2,h3,avH h4];rfl
 .dsimp only;refine fM abn (congrArg (·,()) ?_);unfold eG;rw[nC hJ];rfl
theorem Qd:OK rZ.e:=by
 refine PA.ok mixed (aC [zF.e,kP.e] ⟨Yn,sO,trivial⟩) H0 abu (show∀s name v0 v1 v2,rZ.goal (Qe s name v0 v1 v2) (s,name,(v0,v1,v2,()),())from ?_);intro fs s k n w hin hp;dsimp only[rZ]at hp ⊢;refine⟨trivial,af (λh=>af (λh2=>⟨trivial,?_⟩) λh2=>?_) λh=>?_⟩
 .exact congrArg (·,()) (av3.2 (by simp only[bne_iff_ne,ne_eq]at h2;simp[jb,h,h2]))
 .exact congrArg (·,()) (av3.2 (by simp at h2;simp[jb,h2]))
 .exact congrArg (·,()) (av3.2 (by simp[jb,h]))
theorem Hl:OK qL.e:=by
 refine PA.ok mixed (aC [ja.e,oO.e,rZ.e] ⟨kz,Fg,Qd,trivial⟩) Wp abu (show∀s f0 f1 f2 f3 f4,qL.goal (UD s f0 f1 f2 f3 f4) (s,(f0,f1,f2,f3,f4,()),())from ?_);intro fs f0 f1 f2 f3 f4 hin hp;dsimp only[qL]at hp ⊢;have hlen:f4.length<=maxLen:=hin.2.1.2.2.2.2.1.1;rw[maxLen_eq]at hlen;refine kZ f4.length hlen (λn=>∀i,i<n->jK fs f4 i=true) (λi hi=>abn) (λI μ n hn hJ next=>?_) λI μ hJ=>?_
 .dsimp only;have no:jK fs f4 n=false->(false,())=(dH fs (f0,f1,f2,f3,f4,()),()):=λh=>by rw[afL (f:=(f0,f1,f2,f3,f4,())) hn h]
  refine fK abn ⟨⟨abn,abn⟩,⟨abn,abn⟩,trivial,af (λh2=>no ?_) λh2=>af (λh4=>?_) λh4=>⟨rfl,next (dY hJ ?_)⟩⟩
  .have h2:jb fs (bU f4 n).1 (bU f4 n).2.1 (bU f4 n).2.2.1 (bU f4 n).2.2.2.1=false:=iY h2;unfold jK;rw[h2];rfl
  .have h2:jb fs (bU f4 n).1 (bU f4 n).2.1 (bU f4 n).2.2.1 (bU f4 n).2.2.2.1=true:=fG h2;have h4:0<n:=anb;rw[zh h4 abn];refine⟨⟨abn,abn⟩,⟨abn,abn⟩,af (λh5=>no ?_) λh5=>⟨rfl,next (dY hJ ?_)⟩⟩
   .have h5:Op.bytesLess (bU f4 (n-1)).1 (bU f4 n).1=false:=iY h5;unfold jK;rw[h2,h5,avD h4];rfl
   .have h5:Op.bytesLess (bU f4 (n-1)).1 (bU f4 n).1=true:=fG h5;unfold jK;rw[h2,h5,avD h4];rfl
  .have h2:jb fs (bU f4 n).1 (bU f4 n).2.1 (bU f4 n).2.2.1 (bU f4 n).2.2.2.1=true:=fG h2;have h4:¬0<n:=amU;unfold jK;rw[h2,avH h4];rfl
 .dsimp only;have ha:kG fs f4=true:=nC hJ;refine fM abn ⟨trivial,af (λh1=>⟨trivial,af (λh2=>⟨trivial,af (λh3=>⟨trivial,?_⟩) λh3=>?_⟩) λh2=>?_⟩) λh1=>?_⟩
  .refine congrArg (·,()) ?_;unfold dH;rw[ha,h1,h2,h3];rfl
  .refine congrArg (·,()) ?_;unfold dH;rw[ha,h1,h2,h3];rfl
  .refine congrArg (·,()) ?_;unfold dH;rw[ha,h1,h2];rfl
  .refine congrArg (·,()) ?_;unfold dH;rw[ha,h1];rfl
theorem zY:OK mX.e:=by
 refine PA.ok mixed (aC [ja.e,oO.e,qL.e] ⟨kz,Fg,Hl,trivial⟩) UE abu (show∀s0 s1 s2,mX.goal (RI s0 s1 s2) ((s0,s1,s2,()),())from ?_);intro s0 s1 s2 hin hp;dsimp only[mX]at hp ⊢;have hlen:s1.length<=maxLen:=hin.1.2.1.1;rw[maxLen_eq]at hlen;refine kZ s1.length hlen (λn=>∀i,i<n->lI (s0,s1,s2,()) i=true) (λi hi=>abn) (λI μ n hn hJ next=>?_) λI μ hJ=>?_
 .dsimp only;have no:lI (s0,s1,s2,()) n=false->(false,())=(bW (s0,s1,s2,()),()):=λh=>by rw[ace (s:=(s0,s1,s2,())) hn h]
  refine fK abn ⟨⟨abn,abn⟩,trivial,af (λh2=>no ?_) λh2=>⟨⟨abn,abn⟩,af (λh3=>no ?_) λh3=>af (λh4=>?_) λh4=>⟨rfl,next (dY hJ ?_)⟩⟩⟩
  .have h2:dH s0 (Sp.fileAt s1 n)=false:=iY h2;show(dH s0 (Sp.fileAt s1 n)&&_&&_)=false;rw[h2];rfl
  .have h2:dH s0 (Sp.fileAt s1 n)=true:=fG h2;have h3:¬(Sp.fileAt s1 n).1<s2:=by have h3:(Sp.fileAt s1 n).1>=s2:=fB h3;omega
   show(dH s0 (Sp.fileAt s1 n)&&decide ((Sp.fileAt s1 n).1<s2)&&_)=false;rw[h2,avH h3];rfl
  .have h2:dH s0 (Sp.fileAt s1 n)=true:=fG h2;have h3:(Sp.fileAt s1 n).1<s2:=akX;have h4:0<n:=anb;rw[zh h4 abn];refine⟨⟨abn,abn⟩,⟨abn,abn⟩,af (λh5=>no ?_) λh5=>⟨rfl,next (dY hJ ?_)⟩⟩
   .have h5:¬(Sp.fileAt s1 (n-1)).1<(Sp.fileAt s1 n).1:=by have h5:(Sp.fileAt s1 (n-1)).1>=(Sp.fileAt s1 n).1:=fB h5;omega
    show(dH s0 (Sp.fileAt s1 n)&&decide ((Sp.fileAt s1 n).1<s2)&&!(decide (0<n)&&!decide ((Sp.fileAt s1 (n-1)).1<(Sp.fileAt s1 n).1)))=false;rw[h2,avD h3,avD h4,avH h5];rfl
   .have h5:(Sp.fileAt s1 (n-1)).1<(Sp.fileAt s1 n).1:=by have h5:¬(Sp.fileAt s1 (n-1)).1>=(Sp.fileAt s1 n).1:=fO h5;omega
    show(dH s0 (Sp.fileAt s1 n)&&decide ((Sp.fileAt s1 n).1<s2)&&!(decide (0<n)&&!decide ((Sp.fileAt s1 (n-1)).1<(Sp.fileAt s1 n).1)))=true;rw[h2,avD h3,avD h4,avD h5];rfl
  .have h2:dH s0 (Sp.fileAt s1 n)=true:=fG h2;have h3:(Sp.fileAt s1 n).1<s2:=akX;have h4:¬0<n:=amU;show(dH s0 (Sp.fileAt s1 n)&&decide ((Sp.fileAt s1 n).1<s2)&&!(decide (0<n)&&!decide ((Sp.fileAt s1 (n-1)).1<(Sp.fileAt s1 n).1)))=true;rw[h2,avD h3,avH h4];rfl
 .dsimp only;have ha:ji s1.length (lI (s0,s1,s2,()))=true:=nC hJ;refine fM abn ⟨trivial,af (λh1=>af (λh2=>⟨trivial,?_⟩) λh2=>?_) λh1=>?_⟩
  .refine congrArg (·,()) ?_;show _=(ji s1.length (lI (s0,s1,s2,()))&&eG s0&&decide ((s1.length:Int)<=12)&&(decide (1<=s2)&&decide (s2<=61)));rw[ha,h1,h2];rfl
  .refine congrArg (·,()) ?_;show _=(ji s1.length (lI (s0,s1,s2,()))&&eG s0&&decide ((s1.length:Int)<=12)&&(decide (1<=s2)&&decide (s2<=61)));rw[ha,h1,h2];rfl
  .refine congrArg (·,()) ?_;show _=(ji s1.length (lI (s0,s1,s2,()))&&eG s0&&decide ((s1.length:Int)<=12)&&(decide (1<=s2)&&decide (s2<=61)));rw[ha,h1];rfl
theorem Wq:OK xR.e:=by
 refine PA.ok mixed (aC [] trivial) Yp abu (show∀a b,xR.goal (Ws a b) (a,b,())from ?_);intro a b hin hp;dsimp only[xR]at hp ⊢;have hlen:a.length<=maxLen:=hin.1.1;rw[maxLen_eq]at hlen;refine af (λh=>?_) λh=>?_
 .have h:(a.length:Int)≠b.length:=acG;exact congrArg (·,()) (avH λe=>h asN).symm
 .have h:(a.length:Int)=b.length:=acG;exact Ib (K:=λr=>r=(decide (a=b),())) (λx y=>!(x.1==y.1&&(x.2.1==y.2.1&&true))) (λx y=>aq8) _ a b _ hlen abn (λe=>arb) λe=>arx
theorem Yq:OK zH.e:=by
 refine PA.ok mixed (aC [] trivial) aar abu (show∀a b,zH.goal (Yr a b) (a,b,())from ?_);intro a b hin hp;dsimp only[zH]at hp ⊢;have hlen:a.length<=maxLen:=hin.1.1;rw[maxLen_eq]at hlen;refine af (λh=>?_) λh=>?_
 .have h:(a.length:Int)≠b.length:=acG;exact congrArg (·,()) (avH λe=>h asN).symm
 .have h:(a.length:Int)=b.length:=acG;exact Ib (K:=λr=>r=(decide (a=b),())) (λx y=>!(x.1==y.1&&(x.2.1==y.2.1&&(x.2.2.1==y.2.2.1&&(x.2.2.2.1==y.2.2.2.1&&true))))) (λx y=>aq8) _ a b _ hlen abn (λe=>arb) λe=>arx
theorem aas:OK Bg.e:=by
 refine PA.ok mixed (aC [zH.e] ⟨Yq,trivial⟩) H0 abu (show∀a0 a1 a2 a3 a4 b0 b1 b2 b3 b4,Bg.goal (aat a0 a1 a2 a3 a4 b0 b1 b2 b3 b4) ((a0,a1,a2,a3,a4,()),(b0,b1,b2,b3,b4,()),())from ?_);intro a0 a1 a2 a3 a4 b0 b1 b2 b3 b4 hin hp;dsimp only[Bg]at hp ⊢;refine af (λh0=>af (λh1=>af (λh2=>af (λh3=>⟨trivial,?_⟩) λh3=>?_) λh2=>?_) λh1=>?_) λh0=>?_
 all_goals refine congrArg (·,()) (av3.2 ?_)
 .simp only[avS]at h0 h1 h2 h3;subst h0 h1 h2 h3;simp
 .have h3:a3≠b3:=aqw;simp[h3]
 .have h2:a2≠b2:=aiP;simp[h2]
 .have h1:a1≠b1:=aqv;simp[h1]
 .have h0:a0≠b0:=by simpa using h0
  simp[h0]
theorem Yt:OK zI.e:=by
 refine PA.ok mixed (aC [Bg.e] ⟨aas,trivial⟩) aau abu (show∀a b,zI.goal (Yu a b) (a,b,())from ?_);intro a b hin hp;dsimp only[zI]at hp ⊢;have hlen:a.length<=maxLen:=hin.1.1;rw[maxLen_eq]at hlen;refine af (λh=>?_) λh=>?_
 .have h:(a.length:Int)≠b.length:=acG;exact congrArg (·,()) (avH λe=>h asN).symm
 .have h:(a.length:Int)=b.length:=acG;exact aif (K:=λr=>r=(decide (a=b),())) (λx y=>!decide ((x.1,x.2.1,x.2.2.1,x.2.2.2.1,x.2.2.2.2.1,())=(y.1,y.2.1,y.2.2.1,y.2.2.2.1,y.2.2.2.2.1,()))) (λx y=>aq8) _ a b _ hlen abn (λe=>arb) λe=>arx
theorem Yv:OK zJ.e:=by
 refine PA.ok mixed (aC [zI.e,xR.e] ⟨Yt,Wq,trivial⟩) H0 abu (show∀a0 a1 a2 b0 b1 b2,zJ.goal (Yw a0 a1 a2 b0 b1 b2) ((a0,a1,a2,()),(b0,b1,b2,()),())from ?_);intro a0 a1 a2 b0 b1 b2 hin hp;dsimp only[zJ]at hp ⊢;refine⟨trivial,af (λh0=>⟨trivial,af (λh1=>?_) λh1=>?_⟩) λh0=>?_⟩
 all_goals refine congrArg (·,()) (av3.2 ?_)
 .have h0:=fB h0;have h1:=fB h1;subst h0 h1;simp
 .have h1:=fO h1;simp[h1]
 .have h0:=fO h0;simp[h0]
theorem NR:OK yF.e:=by refine PA.ok mixed (aC [] trivial) aen abu (show∀f0 f1 f2 f3 f4,yF.goal (acf f0 f1 f2 f3 f4) ((f0,f1,f2,f3,f4,()),())from ?_);intro f0 f1 f2 f3 f4 hin hp;dsimp only[yF]at hp ⊢;have hp:f4.length<=1000:=hp;exact⟨am7,rfl⟩
theorem aeo:OK Ei.e:=by refine PA.ok mixed (aC [jo.e] ⟨kJ,trivial⟩) H0 abu (show∀n,Ei.goal (aep n) (n,())from ?_);intro n hin hp;dsimp only[Ei]at hp ⊢;exact⟨trivial,rfl⟩
theorem aav:OK Bh.e:=by
 refine PA.ok mixed (aC [] trivial) acg abu (show∀s0 s1 s2 id,Bh.goal (aaw s0 s1 s2 id) ((s0,s1,s2,()),id,())from ?_);intro s0 s1 s2 id hin hp;dsimp only[Bh]at hp ⊢;have hlen:s1.length<=maxLen:=hin.1.2.1.1;rw[maxLen_eq]at hlen;refine kZ s1.length hlen (λn=>∀i,i<n->(Sp.fileAt s1 i).1≠id) (λi hi=>abn) (λI μ n hn hJ next=>?_) λI μ hJ=>?_
 .dsimp only;refine fK abn ⟨⟨abn,abn⟩,af (λh=>?_) λh=>⟨rfl,next λi hi=>?_⟩⟩
  .have h:(Sp.fileAt s1 n).1=id:=fB h;exact congrArg (·,()) (Sp.LK hn hJ h).symm
  .rcases avN i n with h'|h'
   .exact hJ i h'
   .have:i=n:=abn;subst this;have h:¬(Sp.fileAt s1 i).1=id:=fO h;exact h
 .dsimp only;exact fM abn (congrArg (·,()) (ach hJ).symm)
theorem set_self{fs:List aU}{n:Nat}(hn:n<fs.length):fs.set n (fs.getD n (0,0,false,0,[],()))=fs:=by
 refine axN acA λi h1 h2=>?_;rw[List.getElem_set];split
 .next e=>subst e;rw[avr,avv hn];rfl
 .rfl
theorem LM{s:List bg}(p:bg->Bool){n:Nat}(hn:n<s.length):(s.take (n+1)).filter p=(s.take n).filter p++(if p (bU s n)=true then[bU s n]else[]):=by
 rw[Sp.take_succ' s n ([],0,0,[],()) hn,List.filter_append];congr 1;show List.filter _ [bU s n]=_;by_cases h:p (bU s n)=true
 .rw[List.filter_cons_of_pos h,if_pos h];rfl
 .rw[List.filter_cons_of_neg h,if_neg h];rfl
theorem aci(s:List bg)(p:bg->Bool)(n:Nat):((s.take n).filter p).length<=n:=by have:=ayf p (s.take n);rw[avz]at this;omega
theorem aii(al:List bg)(name:Sp.Bytes)(n:Int)(s:Sp.Bytes):jV al name 0 n s=al.filter (o9 name):=rfl
theorem alO{al:List bg}{name:Sp.Bytes}{k n:Int}{s:Sp.Bytes}(hk:k≠0){l:List bg}(hl:l=al.filter (o9 name)){m:Nat}(hm:m<=l.length)
 (h1:∀i,i<m->qx name (bU l i)=true) (h2:m<l.length->qx name (bU l m)=false):
 List.drop 0 (List.take m l)++[(name,k,n,s,())]++List.drop m (List.take l.length l)=jV al name k n s:=by
 obtain⟨e1,e2⟩:=LQ (d:=(([]:List UInt8),(0:Int),(0:Int),([]:List UInt8),())) l m hm h1 h2;unfold jV X0;rw[avH hk,← hl];show _=l.takeWhile (qx name)++_::l.dropWhile (qx name);rw[e1,e2,awE,axb,avE];rfl
theorem NS:OK yG.e:=by
 refine XA.ok mixed (aC [] trivial) aer (λ⟨(i,o,s,l,a,_),name,(k,n,w,_),_⟩ _=>⟨(((i,o,s,l,jV a name k n w,()),()),()),⟨rfl,rfl,rfl,rfl,rfl⟩⟩) abu (show∀f0 f1 f2 f3 f4 name v0 v1 v2,yG.goal (acj f0 f1 f2 f3 f4 name v0 v1 v2) ((f0,f1,f2,f3,f4,()),name,(v0,v1,v2,()),())from ?_);intro f0 f1 f2 f3 f4 name k n s hin hp;dsimp only[yG]at hp ⊢;have hp:f4.length<=1000:=hp;refine gU (λi(x:List bg)=>(((),i,()),x,())) (λy=>y.1.2.1) (λ_ _=>rfl) f4.length abn (λm l=>l=(f4.take m).filter (o9 name)) acA (λI μ m l hm hJ next=>?_) λI μ l hJ=>?_
 .subst hJ;have hl:=aci f4 (o9 name) m;dsimp only;refine fK abn ⟨⟨abn,abn⟩,af (λh=>⟨⟨abn,abn⟩,amV,rfl,next _ ?_⟩) λh=>⟨rfl,next _ ?_⟩⟩
  .rw[LM _ hm,if_pos (show o9 name (bU f4 m)=true from h)];rfl
  .rw[LM _ hm,if_neg (show ¬o9 name (bU f4 m)=true fromλh'=>by have h:o9 name (bU f4 m)=false:=h;rw[h]at h';cases h'),avU]
 .rw[awE]at hJ;have hl:l.length<=1000:=by rw[hJ];have:=ayf (o9 name) f4;omega
  dsimp only;refine fM abn (af (λh=>?_) λh=>?_)
  .have hk:k≠0:=acG;have fin:∀m:Nat,m<=l.length->(∀i,i<m->qx name (bU l i)=true)->(m<l.length->qx name (bU l m)=false)->
    ((0:Int)<=m/\(m:Int)<=l.length)/\0+(List.drop 0 (List.take m l)).length<=big/\(List.drop 0 (List.take m l)).length+[(name,k,n,s,())].length<=big/\((0:Int)<=m/\(m:Int)<=l.length)/\
    (List.drop 0 (List.take m l)++[(name,k,n,s,())]).length+(List.drop m (List.take l.length l)).length<=big/\
    (f0=f0/\f1=f1/\f2=f2/\f3=f3/\List.drop 0 (List.take m l)++[(name,k,n,s,())]++List.drop m (List.take l.length l)=jV f4 name k n s):=by
    intro m hm h1 h2;refine⟨⟨abn,abn⟩,?_,?_,⟨abn,abn⟩,?_,rfl,rfl,rfl,rfl,alO hk hJ hm h1 h2⟩
    all_goals
     rw[iH];simp only[avn,avW,avz,avq,avu];omega
   refine kZ l.length abn (λm=>∀i,i<m->qx name (bU l i)=true) (λi hi=>abn) (λI μ m hm hJ2 next=>?_) λI μ hJ2=>?_
   .dsimp only;refine fK abn ⟨⟨abn,abn⟩,hm,af (λh2=>⟨rfl,next (dY (f:=λi=>qx name (bU l i)) hJ2 h2)⟩) λh2=>?_⟩;exact fin m abn hJ2 λ_=>h2
   .dsimp only;exact fM abn (fin l.length (avt _) hJ2 λh'=>abn)
  .have hk:k=0:=acG;subst hk;exact⟨rfl,rfl,rfl,rfl,by rw[aii];exact hJ⟩
theorem aax:OK Bj.e:=by refine XA.ok mixed (aC [] trivial) ack (λ⟨s,_⟩ _=>⟨(((s,[],1,()),()),()),⟨rfl,rfl,rfl⟩⟩) abu (show∀s,Bj.goal (aay s) (s,())from ?_);intro s hin hp;dsimp only[Bj]at hp ⊢;have hp:s.length<=1000:=hp;exact⟨am7,rfl,rfl,rfl⟩
theorem NT:OK yH.e:=by
 refine XA.ok mixed (aC [yF.e] ⟨NR,trivial⟩) aes (λ⟨(a,l,nx,_),_⟩ _=>⟨(((a,l,nx,()),()),()),rfl⟩) abu (show∀s0 s1 s2,yH.goal (acn s0 s1 s2) ((s0,s1,s2,()),())from ?_);intro s0 s1 s2 hin hp;dsimp only[yH]at hp ⊢;obtain⟨h0,h1,h2⟩:s0.length<=1000/\s1.length<=1000/\∀f∈s1,vZ f:=hp;refine⟨am7,?_⟩;refine gU (λi(x:List aU)=>((i,()),((),(),s2,()),x,())) (λy=>y.1.1) (λ_ _=>rfl) s1.length abn (λn l=>l=s1.take n) acA (λI μ n l hn hJ next=>?_) λI μ l hJ=>?_
 .subst hJ;have hl:(s1.take n).length<=n:=aiO;dsimp only;refine fK abn ⟨⟨abn,abn⟩,h2 _ (getD_mem (d:=((0:Int),(0:Int),false,(0:Int),[],())) hn),amV,rfl,next _ ?_⟩;exact(Sp.take_succ' s1 n (0,0,false,0,[],()) hn).symm
 .subst hJ;dsimp only;refine fM abn ?_;rw[awE]
theorem I9:OK rP.e:=by
 refine XA.ok mixed (aC [qL.e,mX.e,yF.e,yH.e] ⟨Hl,zY,NR,NT,trivial⟩) Yx (λ⟨s,f,_⟩ _=>⟨((((bV s f).1.1,(bV s f).1.2.1,(bV s f).1.2.2.1,()),(bV s f).2.1,(bV s f).2.2,()),()),⟨rfl,rfl,rfl,rfl,rfl⟩⟩) abu (show∀s0 s1 s2 f0 f1 f2 f3 f4,rP.goal (Wu s0 s1 s2 f0 f1 f2 f3 f4) ((s0,s1,s2,()),(f0,f1,f2,f3,f4,()),())from ?_);intro s0 s1 s2 f0 f1 f2 f3 f4 hin hp;dsimp only[rP]at hp ⊢;refine⟨hp.1,?_⟩;rintro⟨⟨⟨a,l,nx,⟨⟩⟩,⟨⟩⟩,⟨⟩⟩ e;obtain⟨rfl,rfl,rfl⟩:a=s0/\l=s1/\nx=s2:=by simpa using e
 have hs:l.length<=1000:=hp.1.2.1;have no:¬(bW (a,l,nx,())=true/\l.length<12/\dH a (nx,f1,f2,f3,f4,())=true)->bV (a,l,nx,()) (f0,f1,f2,f3,f4,())=((a,l,nx,()),0,false):=λh=>by
  rcases nU (a,l,nx,()) (f0,f1,f2,f3,f4,())with⟨e,_⟩|⟨h1,h2,h3,_⟩
  .exact e
  .exact(h ⟨h1,h2,h3⟩).elim
 refine⟨hp.2,trivial,af (λh1=>?_) λh1=>af (λh2=>?_) λh2=>⟨trivial,af (λh3=>?_) λh3=>?_⟩⟩
 .have:=no λh=>by have h1:=iY h1;have:=h.1;rw[show bW (a,l,nx,())=false from h1]at this;cases this
  dsimp only;rw[this];exact⟨rfl,rfl,rfl,rfl,rfl⟩
 .have:=no λh=>by have h2:(l.length:Int)>=12:=fB h2;omega
  dsimp only;rw[this];exact⟨rfl,rfl,rfl,rfl,rfl⟩
 .have:=no λh=>by have h3:=iY h3;have:=h.2.2;rw[show dH a (nx,f1,f2,f3,f4,())=false from h3]at this;cases this
  dsimp only;rw[this];exact⟨rfl,rfl,rfl,rfl,rfl⟩
 .have g1:bW (a,l,nx,())=true:=fG h1;have g2:l.length<12:=by have h2:¬(l.length:Int)>=12:=fO h2;omega
  have g3:dH a (nx,f1,f2,f3,f4,())=true:=fG h3;rcases nU (a,l,nx,()) (f0,f1,f2,f3,f4,())with⟨_,e⟩|⟨_,_,_,e⟩
  .exact(e ⟨g1,g2,g3⟩).elim
  .have hnx:=(oK.1 g1).2.2.2;have w:IntKind.i64.wrap (nx+1)=nx+1:=fD _ (by have h5:nx<=61:=hnx.2;have h6:1<=nx:=hnx.1;omega);refine⟨amV,?_⟩;dsimp only;rw[e,w];exact⟨rfl,rfl,rfl,rfl,rfl⟩
theorem Wv:OK xU.e:=by
 refine XA.ok mixed (aC [mX.e,Bh.e,yH.e] ⟨zY,aav,NT,trivial⟩) Yy (λ⟨s,id,_⟩ _=>⟨((((fC s id).1.1,(fC s id).1.2.1,(fC s id).1.2.2.1,()),(fC s id).2,()),()),⟨rfl,rfl,rfl,rfl⟩⟩) abu (show∀s0 s1 s2 id,xU.goal (Wx s0 s1 s2 id) ((s0,s1,s2,()),id,())from ?_);intro s0 s1 s2 id hin hp;dsimp only[xU]at hp ⊢;refine⟨hp,?_⟩;rintro⟨⟨⟨a,l,nx,⟨⟩⟩,⟨⟩⟩,⟨⟩⟩ e;obtain⟨rfl,rfl,rfl⟩:a=s0/\l=s1/\nx=s2:=by simpa using e
 have hs:l.length<=1000:=hp.2.1;have no:¬(bW (a,l,nx,())=true/\0<=Sp.place l id)->fC (a,l,nx,()) id=((a,l,nx,()),false):=λh=>by
  rcases uH (a,l,nx,()) id with⟨e,_⟩|⟨n,hn,h1,h2,_⟩
  .exact e
  .exact(h ⟨h2,by have h1:Sp.place l id=n:=h1;omega⟩).elim
 refine⟨trivial,trivial,af (λh1=>?_) λh1=>af (λh2=>?_) λh2=>?_⟩
 .have:=no λh=>by have h1:=iY h1;have:=h.1;rw[show bW (a,l,nx,())=false from h1]at this;cases this
  dsimp only;rw[this];exact⟨rfl,rfl,rfl,rfl⟩
 .have:=no λh=>by have h2:Sp.place l id<0:=fB h2;omega
  dsimp only;rw[this];exact⟨rfl,rfl,rfl,rfl⟩
 .have g1:bW (a,l,nx,())=true:=fG h1;have g2:0<=Sp.place l id:=by have h2:¬Sp.place l id<0:=fO h2;omega
  rcases uH (a,l,nx,()) id with⟨_,e⟩|⟨n,hn,hpl,_,e⟩
  .exact(e ⟨g1,g2⟩).elim
  .have hn:n<l.length:=hn;have hpl:Sp.place l id=n:=hpl;have w:IntKind.i64.wrap ((n:Int)+1)=((n+1:Nat):Int):=fD _ abn;dsimp only;rw[hpl,e,w,avJ,avJ,axb,awE,iH];refine⟨⟨abn,abn⟩,aiO,⟨abn,abn⟩,by rw[avz,avW];omega,rfl,?_,rfl,rfl⟩;exact(List.eraseIdx_eq_take_drop_succ ..).symm
def X3(L:List (List bg))(name:Sp.Bytes)(vals:List (Int×Int×Sp.Bytes)):List (List bg):=L++L.flatMap λa=>vals.map λv=>jV a name v.1 v.2.1 v.2.2
theorem tC{L:List (List bg)}{name:Sp.Bytes}{vals:List (Int×Int×Sp.Bytes)}{a:List bg}(h:a∈L):a∈X3 L name vals:=awg _ h
theorem NU{L:List (List bg)}{name:Sp.Bytes}{vals:List (Int×Int×Sp.Bytes)}{a:List bg}(h:a∈L){k n:Int}{s:Sp.Bytes}(hv:(k,n,s)∈vals):jV a name k n s∈X3 L name vals:=
 awz _ (ayb.2 ⟨a,h,awJ.2 ⟨(k,n,s),hv,rfl⟩⟩)
def ints:List (Int×Int×Sp.Bytes):=[(1,0,[]),(1,1,[]),(1,2,[]),(1,3,[])]
def names:List (Int×Int×Sp.Bytes):=[(2,0,[105,110,107]),(2,0,[115,101,97])]
def tags:List (Int×Int×Sp.Bytes):=[(2,0,[114,101,100]),(2,0,[98,108,117,101])]
def aco:List (List bg):=X3 [[]] [97] ints
def acp:List (List bg):=X3 aco [98] ints
def acr:List (List bg):=X3 acp [110] names
def acs:List (List bg):=X3 acr [116] tags
theorem aoh:(acs.all λa=>kG Sp.usual a&&decide (a.length<=4))=true:=abu
theorem NV{a:List bg}(h:a∈acs):kG Sp.usual a=true/\a.length<=4:=by have:=avL.1 aoh a h;simpa using this
theorem apZ{a:List bg}(h:a∈aco):a.length<=4:=(NV (tC (tC (tC h)))).2
theorem ap0{a:List bg}(h:a∈acp):a.length<=4:=(NV (tC (tC h))).2
theorem ap1{a:List bg}(h:a∈acr):a.length<=4:=(NV (tC h)).2
theorem aij{x:Int}(h0:0<=x)(h1:x<4):((1:Int),x,([]:Sp.Bytes))∈ints:=by rcases(show x=0\/x=1\/x=2\/x=3 from abn)with h|h|h|h<;>subst h<;>simp[ints]
theorem am6{w:Sp.Bytes}(h:(w,())∈[(([105,110,107]:Sp.Bytes),()),([115,101,97],())]):((2:Int),(0:Int),w)∈names:=by simp only[avF,Prod.mk.injEq,ayB,ayD,or_false]at h;rcases h with h|h<;>subst h<;>simp[names]
theorem aoi{w:Sp.Bytes}(h:(w,())∈[(([114,101,100]:Sp.Bytes),()),([98,108,117,101],())]):((2:Int),(0:Int),w)∈tags:=by simp only[avF,Prod.mk.injEq,ayB,ayD,or_false]at h;rcases h with h|h<;>subst h<;>simp[tags]
def Head(id:Int)(f:Int×Int×Bool×Int×Unit×Unit):Prop:=f.1=id/\0<=f.2.1/\f.2.1<=2/\0<=f.2.2.2.1/\f.2.2.2.1<=6
theorem Gs:OK tK.e:=by
 refine XA.ok mixed (aC [jQ.e,iW.e,yG.e,oN.e,nY.e,dh.e] ⟨ql,jM,NS,zX,BI,dL,trivial⟩) aeu (λ⟨_,id,_⟩ _=>⟨(((id,0,false,0,[],()),()),(([],0,0,()),())),⟨aqI,rfl,aqI,aqI,aqI,aqI,rfl,aqI⟩⟩) abu (show∀c0 c1 c2 id,tK.goal (acu c0 c1 c2 id) ((c0,c1,c2,()),id,())from ?_);intro b i h id hin hp;dsimp only[tK]at hp ⊢;have hp:0<=i:=hp;refine⟨hp,?_⟩;rintro⟨⟨x0,⟨⟩⟩,⟨b0,i0,g0,⟨⟩⟩,⟨⟩⟩ ⟨p0,q0,q1,_⟩;refine⟨p0,?_⟩;rintro⟨⟨x1,⟨⟩⟩,⟨b1,i1,g1,⟨⟩⟩,⟨⟩⟩ p1;have q1:x0<3:=q1 abA;have q0:0<=x0:=q0;refine⟨λy=>0<=y.2.1.2.1/\Head id y.2.2.1,⟨p1,?_⟩,?_⟩
 .rintro⟨⟨x3,⟨⟩⟩,⟨b3,i3,g3,⟨⟩⟩,⟨⟩⟩ p3;refine af (λ_=>⟨p3,?_⟩) λ_=>⟨rfl,p3,rfl,q0,(show x0<=2 from abn),awk _,(show(0:Int)<=6 from abA)⟩;rintro⟨⟨x4,⟨⟩⟩,⟨b4,i4,g4,⟨⟩⟩,⟨⟩⟩ ⟨p4,q4,q5,_⟩;have q5:x4<7:=q5 abA;exact⟨rfl,p4,rfl,q0,(show x0<=2 from abn),q4,(show x4<=6 from abn)⟩
 rintro⟨⟨⟩,⟨b5,i5,g5,⟨⟩⟩,f5,⟨⟩⟩ ⟨p5,H5⟩;refine⟨λy=>0<=y.2.1.2.1/\Head id y.2.2.1/\y.2.2.2.1∈aco,⟨p5,?_⟩,?_⟩
 .rintro⟨⟨x7,⟨⟩⟩,⟨b7,i7,g7,⟨⟩⟩,⟨⟩⟩ p7;refine af (λ_=>⟨p7,?_⟩) λ_=>⟨rfl,p7,H5,tC avA⟩;rintro⟨⟨x8,⟨⟩⟩,⟨b8,i8,g8,⟨⟩⟩,⟨⟩⟩ ⟨p8,q8,q9,_⟩;refine⟨trivial,(show(0:Nat)<=1000 from abA),?_⟩;rintro⟨⟨⟨d,o,s,l,a,⟨⟩⟩,⟨⟩⟩,⟨⟩⟩ ⟨e1,e2,e3,e4,e5⟩;refine⟨rfl,p8,?_,?_⟩
  .exact⟨(show d=id from(show d=f5.1 from e1).trans H5.1),by rw[show o=f5.2.1 from e2];exact H5.2.1,by rw[show o=f5.2.1 from e2];exact H5.2.2.1,by rw[show l=f5.2.2.2.1 from e4];exact H5.2.2.2.1,by rw[show l=f5.2.2.2.1 from e4];exact H5.2.2.2.2⟩
  .have e5:a=jV [] [97] 1 x8 []:=e5;show a∈aco;rw[e5];exact NU avA (aij q8 (q9 abA))
 rintro⟨⟨⟩,⟨b11,i11,g11,⟨⟩⟩,f11,a11,⟨⟩⟩ ⟨p11,H11,m11⟩;refine⟨λy=>0<=y.2.1.2.1/\Head id y.2.2.1/\y.2.2.2.1∈acp,⟨p11,?_⟩,?_⟩
 .rintro⟨⟨x7,⟨⟩⟩,⟨b7,i7,g7,⟨⟩⟩,⟨⟩⟩ p7;refine af (λ_=>⟨p7,?_⟩) λ_=>⟨rfl,p7,H11,tC m11⟩;rintro⟨⟨x8,⟨⟩⟩,⟨b8,i8,g8,⟨⟩⟩,⟨⟩⟩ ⟨p8,q8,q9,_⟩;refine⟨trivial,avx (apZ m11) abA,?_⟩;rintro⟨⟨⟨d,o,s,l,a,⟨⟩⟩,⟨⟩⟩,⟨⟩⟩ ⟨e1,e2,e3,e4,e5⟩;refine⟨rfl,p8,?_,?_⟩
  .exact⟨(show d=id from(show d=f11.1 from e1).trans H11.1),by rw[show o=f11.2.1 from e2];exact H11.2.1,by rw[show o=f11.2.1 from e2];exact H11.2.2.1,by rw[show l=f11.2.2.2.1 from e4];exact H11.2.2.2.1,by rw[show l=f11.2.2.2.1 from e4];exact H11.2.2.2.2⟩
  .have e5:a=jV a11 [98] 1 x8 []:=e5;show a∈acp;rw[e5];exact NU m11 (aij q8 (q9 abA))
 rintro⟨⟨⟩,⟨b17,i17,g17,⟨⟩⟩,f17,a17,⟨⟩⟩ ⟨p17,H17,m17⟩;refine⟨λy=>0<=y.2.1.2.1/\Head id y.2.2.1/\y.2.2.2.1∈acr,⟨p17,?_⟩,?_⟩
 .rintro⟨⟨x7,⟨⟩⟩,⟨b7,i7,g7,⟨⟩⟩,⟨⟩⟩ p7;refine af (λ_=>⟨⟨p7,acA⟩,?_⟩) λ_=>⟨rfl,p7,H17,tC m17⟩;rintro⟨⟨x8,⟨⟩⟩,⟨b8,i8,g8,⟨⟩⟩,⟨⟩⟩ ⟨p8,q8⟩;refine⟨trivial,avx (ap0 m17) abA,?_⟩;rintro⟨⟨⟨d,o,s,l,a,⟨⟩⟩,⟨⟩⟩,⟨⟩⟩ ⟨e1,e2,e3,e4,e5⟩;refine⟨rfl,p8,?_,?_⟩
  .exact⟨(show d=id from(show d=f17.1 from e1).trans H17.1),by rw[show o=f17.2.1 from e2];exact H17.2.1,by rw[show o=f17.2.1 from e2];exact H17.2.2.1,by rw[show l=f17.2.2.2.1 from e4];exact H17.2.2.2.1,by rw[show l=f17.2.2.2.1 from e4];exact H17.2.2.2.2⟩
  .have e5:a=jV a17 [110] 2 0 x8:=e5;show a∈acr;rw[e5];exact NU m17 (am6 q8)
 rintro⟨⟨⟩,⟨b23,i23,g23,⟨⟩⟩,f23,a23,⟨⟩⟩ ⟨p23,H23,m23⟩;refine⟨λy=>0<=y.2.1.2.1/\Head id y.2.2.1/\y.2.2.2.1∈acs,⟨p23,?_⟩,?_⟩
 .rintro⟨⟨x7,⟨⟩⟩,⟨b7,i7,g7,⟨⟩⟩,⟨⟩⟩ p7;refine af (λ_=>⟨⟨p7,acA⟩,?_⟩) λ_=>⟨rfl,p7,H23,tC m23⟩;rintro⟨⟨x8,⟨⟩⟩,⟨b8,i8,g8,⟨⟩⟩,⟨⟩⟩ ⟨p8,q8⟩;refine⟨trivial,avx (ap1 m23) abA,?_⟩;rintro⟨⟨⟨d,o,s,l,a,⟨⟩⟩,⟨⟩⟩,⟨⟩⟩ ⟨e1,e2,e3,e4,e5⟩;refine⟨rfl,p8,?_,?_⟩
  .exact⟨(show d=id from(show d=f23.1 from e1).trans H23.1),by rw[show o=f23.2.1 from e2];exact H23.2.1,by rw[show o=f23.2.1 from e2];exact H23.2.2.1,by rw[show l=f23.2.2.2.1 from e4];exact H23.2.2.2.1,by rw[show l=f23.2.2.2.1 from e4];exact H23.2.2.2.2⟩
  .have e5:a=jV a23 [116] 2 0 x8:=e5;show a∈acs;rw[e5];exact NU m23 (aoi q8)
 rintro⟨⟨⟩,⟨b29,i29,g29,⟨⟩⟩,f29,a29,⟨⟩⟩ ⟨p29,H29,m29⟩;have hm:=NV m29;exact⟨p29,H29.1,H29.2.1,H29.2.2.1,H29.2.2.2.1,H29.2.2.2.2,hm.1,hm.2⟩
theorem ajL(al:List bg)(name:Sp.Bytes)(k n:Int)(s:Sp.Bytes):(jV al name k n s).length<=al.length+1:=by
 have hf:=ayf (o9 name) al;unfold jV;cases decide (k=0)with
 |true=>show(al.filter _).length<=_;omega
 |false=>show(X0 _ _).length<=_;unfold X0;have:=congrArg List.length (List.takeWhile_append_dropWhile (p:=qx name) (l:=al.filter (o9 name)));rw[avn]at this;rw[avn,avq];show((al.filter (o9 name)).takeWhile (qx name)).length+(((al.filter (o9 name)).dropWhile (qx name)).length+1)<=_;omega
theorem aev:OK Ej.e:=by
 refine XA.ok mixed (aC [yG.e,jQ.e,Ah.e,yD.e,kL.e,tK.e,dh.e] ⟨NS,ql,Qa,NP,qV,Gs,dL,trivial⟩) agD (λ_ _=>⟨(((0,0,false,0,[],()),()),(([],0,0,()),())),⟨abA,abA⟩⟩) abu (show∀c0 c1 c2,Ej.goal (aew c0 c1 c2) ((c0,c1,c2,()),())from ?_);intro b i h hin hp;dsimp only[Ej]at hp ⊢;have hp:0<=i:=hp;refine⟨hp,?_⟩;rintro⟨⟨x0,⟨⟩⟩,⟨b0,i0,g0,⟨⟩⟩,⟨⟩⟩ ⟨p0,_⟩;refine⟨p0,?_⟩;rintro⟨⟨⟨d,o,s,l,a,⟨⟩⟩,⟨⟩⟩,⟨b1,i1,g1,⟨⟩⟩,⟨⟩⟩ ⟨p1,_,_,_,_,_,_,ha⟩;have ha:a.length<=4:=ha;refine⟨p1,?_⟩;rintro⟨⟨x2,⟨⟩⟩,⟨b2,i2,g2,⟨⟩⟩,⟨⟩⟩ ⟨p2,_⟩;refine af (λ_=>⟨⟨p2,acA⟩,?_⟩) λ_=>af (λ_=>⟨⟨p2,acA⟩,?_⟩) λ_=>af (λ_=>⟨⟨p2,acA⟩,?_⟩) λ_=>af (λ_=>⟨p2,?_⟩) λ_=>af (λ_=>⟨trivial,(show a.length<=1000 from abn),?_⟩) λ_=>⟨p2,(show a.length<=10 from abn)⟩
 .rintro⟨⟨x3,⟨⟩⟩,⟨b3,i3,g3,⟨⟩⟩,⟨⟩⟩ ⟨p3,_⟩;exact⟨p3,(show a.length<=10 from abn)⟩
 .rintro⟨⟨x3,⟨⟩⟩,⟨b3,i3,g3,⟨⟩⟩,⟨⟩⟩ ⟨p3,_⟩;exact⟨p3,(show a.length<=10 from abn)⟩
 .rintro⟨⟨x3,⟨⟩⟩,⟨b3,i3,g3,⟨⟩⟩,⟨⟩⟩ ⟨p3,_⟩;exact⟨p3,(show a.length<=10 from abn)⟩
 .rintro⟨⟨x3,⟨⟩⟩,⟨b3,i3,g3,⟨⟩⟩,⟨⟩⟩ ⟨p3,_⟩;refine⟨p3,?_⟩;rintro⟨⟨⟨k,n,w,⟨⟩⟩,⟨⟩⟩,⟨b4,i4,g4,⟨⟩⟩,⟨⟩⟩ ⟨p4,_⟩;refine⟨(show a.length+1<=big from am7),p4,?_⟩;show(a++[_]).length<=10;rw[avn,avq,avu];omega
 .rintro⟨⟨⟨d',o',s',l',a',⟨⟩⟩,⟨⟩⟩,⟨⟩⟩ ⟨_,_,_,_,e5⟩;refine⟨p2,?_⟩;have e5:a'=jV a [97] 2 0 [114,101,100]:=e5;show a'.length<=10;rw[e5];have:=ajL a [97] 2 0 [114,101,100];omega
theorem aoj:eG Sp.usual=true:=abu
theorem aok:bW (Sp.usual,[],1,())=true:=abu
theorem ajM:ng (Sp.usual,[],1,()):=⟨abA,abA,λf hf=>by cases hf⟩
theorem aaz{a:List dW}{l:List aU}{nx:Int}{X:eX}(h1:a=X.1)(h2:l=X.2.1)(h3:nx=X.2.2.1):((a,l,nx,()):eX)=X:=by subst h1 h2 h3;rfl
theorem aik(s:eX)(f:aU):(bV s f).1.1=s.1/\((bV s f).1.2.1.length:Int)-(bV s f).1.2.2.1=s.2.1.length-s.2.2.1:=by
 rcases nU s f with⟨e,_⟩|⟨_,_,_,e⟩
 .rw[e];exact⟨rfl,rfl⟩
 .rw[e];refine⟨rfl,?_⟩;show((s.2.1++[(s.2.2.1,f.2)]).length:Int)-(s.2.2.1+1)=_;rw[avn,avq,avu];omega
theorem Wy(s:eX)(id:Int):(fC s id).1.1=s.1/\(fC s id).1.2.2.1=s.2.2.1/\s.2.1.length<=(fC s id).1.2.1.length+1:=by
 rcases uH s id with⟨e,_⟩|⟨n,hn,_,_,e⟩
 .rw[e];exact⟨rfl,rfl,Nat.le_succ _⟩
 .rw[e];refine⟨rfl,rfl,?_⟩;show s.2.1.length<=(s.2.1.eraseIdx n).length+1;rw[axQ hn];omega
structure qG(k:Int)(s:eX):Prop where
 sch:s.1=Sp.usual
 ok:bW s=true
 nx:s.2.2.1<=s.2.1.length+k
 small:ng s
theorem qG.create{k:Int}{s:eX}(h:qG k s){f:aU}(hf:vZ f):qG k (bV s f).1:=by obtain⟨h1,h2⟩:=aik s f;exact⟨h1.trans h.sch,aex f h.ok,by have:=h.nx;omega,agE h.small hf⟩
theorem qG.delete{k:Int}{s:eX}(h:qG k s)(id:Int):qG (k+1) (fC s id).1:=by obtain⟨h1,h2,h3⟩:=Wy s id;exact⟨h1.trans h.sch,aey id h.ok,by have:=h.nx;omega,agF id h.small⟩
theorem qG.more{k k':Int}{s:eX}(h:qG k s)(hk:k<=k'):qG k' s:=⟨h.sch,h.ok,by have:=h.nx;omega,h.small⟩
theorem qG.grows{s:eX}(h:qG 2 s)(hl:s.2.1.length<12){f:aU}(ho:0<=f.2.1/\f.2.1<=2)(hk:0<=f.2.2.2.1/\f.2.2.2.1<=6)(ha:kG Sp.usual f.2.2.2.2.1=true):(bV s f).1.2.1.length=s.2.1.length+1:=by
 have hnx:=(oK.1 h.ok).2.2.2;have h2:=h.nx;have hf:dH s.1 (s.2.2.1,f.2)=true:=by rw[h.sch];show(kG Sp.usual f.2.2.2.2.1&&eG Sp.usual&&(decide (1<=s.2.2.1)&&decide (s.2.2.1<=60))&&(decide (0<=f.2.1)&&decide (f.2.1<=2))&&(decide (0<=f.2.2.2.1)&&decide (f.2.2.2.1<=60)))=true;rw[ha,aoj,avD hnx.1,avD abn,avD ho.1,avD ho.2,avD hk.1,avD abn];rfl
 rcases nU s f with⟨_,e⟩|⟨_,_,_,e⟩
 .exact(e ⟨h.ok,hl,hf⟩).elim
 .rw[e];show(s.2.1++[_]).length=_;rw[avn];rfl
theorem aim:bW (Sp.usual,[(1,0,false,0,[],())],2,())=true/\ng (Sp.usual,[(1,0,false,0,[],())],2,()):=⟨abu,abA,abA,λf hf=>by rw[avP.1 hf];exact avM _⟩
theorem qG.one{s:eX}(h:qG 1 s){f:aU}(ho:0<=f.2.1/\f.2.1<=2)(hk:0<=f.2.2.2.1/\f.2.2.2.1<=6)(ha:kG Sp.usual f.2.2.2.2.1=true):0<(bV s f).1.2.1.length:=by
 by_cases hl:s.2.1.length<12
 .rw[(h.more (show(1:Int)<=2 from abA)).grows hl ho hk ha];omega
 .rcases nU s f with⟨e,_⟩|⟨_,_,_,e⟩
  .rw[e];show 0<s.2.1.length;omega
  .rw[e];show 0<(s.2.1++[_]).length;rw[avn,List.length_singleton];omega
theorem LU:OK wo.e:=by
 refine XA.ok mixed (aC [xU.e,nY.e,rP.e,tK.e,dh.e,Bj.e,vX.e] ⟨Wv,BI,I9,Gs,dL,aax,LJ,trivial⟩) acv (λ_ _=>⟨(((Sp.usual,[(1,0,false,0,[],())],2,()),()),(([],0,0,()),())),⟨abA,rfl,aim.1,abA,aim.2,abA⟩⟩) abu (show∀c0 c1 c2,wo.goal (aaA c0 c1 c2) ((c0,c1,c2,()),())from ?_);intro b i h hin hp;dsimp only[wo]at hp ⊢;have hp:0<=i:=hp;refine⟨trivial,?_⟩;rintro⟨⟨u,⟨⟩⟩,⟨⟩⟩ hu;have hu:u=Sp.usual:=hu;subst hu;refine⟨(show Sp.usual.length<=1000 from abA),?_⟩;rintro⟨⟨⟨a,l,nx,⟨⟩⟩,⟨⟩⟩,⟨⟩⟩ ⟨e1,e2,e3⟩;have e1:a=Sp.usual:=e1;have e2:l=[]:=e2;have e3:nx=1:=e3;subst e1 e2 e3;refine⟨λy=>0<=y.2.1.2.1/\(0<=y.1.1/\y.1.1<=7)/\qG 1 (y.2.2.2.1,y.2.2.2.2.1,y.2.2.1.2.2.1,())/\(0<y.1.1->0<y.2.2.2.2.1.length),λy=>(8-y.1.1).toNat,⟨hp,⟨(show(0:Int)<=0 from abA),(show(0:Int)<=7 from abA)⟩,⟨rfl,aok,(show(1:Int)<=((0:Nat):Int)+1 from abA),ajM⟩,λh=>absurd h (Int.lt_irrefl 0)⟩,?_⟩;rintro⟨⟨n,⟨⟩⟩,⟨b0,i0,g0,⟨⟩⟩,⟨⟨⟩,⟨⟩,nx,⟨⟩⟩,a,l,⟨⟩⟩ ⟨p0,⟨k0,k1⟩,D,hne⟩;have p0:0<=i0:=p0;have k0:0<=n:=k0;have k1:n<=7:=k1;have D:qG 1 (a,l,nx,()):=D;have hne:0<n->0<l.length:=hne;refine⟨p0,?_⟩;rintro⟨⟨x1,⟨⟩⟩,⟨b1,i1,g1,⟨⟩⟩,⟨⟩⟩ ⟨p1,q0,q1,_⟩;have q1:x1<7:=q1 abA;have q0:0<=x1:=q0;have w:IntKind.i64.wrap (1+x1)=1+x1:=fD _ abn;dsimp only;rw[w];refine af (λhc=>⟨p1,?_⟩) λhc=>af (λh2=>⟨p1,?_⟩) λh2=>?_
 .have hc:=fB hc;have wn:IntKind.i64.wrap (n+1)=n+1:=fD _ abn;rw[wn];rintro⟨⟨⟨d,o,s,lk,al,⟨⟩⟩,⟨⟩⟩,⟨b2,i2,g2,⟨⟩⟩,⟨⟩⟩ ⟨p2,_,o1,o2,k3,k4,hat,ha⟩;have hf:vZ (d,o,s,lk,al,()):=(show al.length<=1000 from avx ha abA);refine⟨⟨D.small,hf⟩,?_⟩;rintro⟨⟨⟨a3,l3,nx3,⟨⟩⟩,id3,ok3,⟨⟩⟩,⟨⟩⟩ ⟨e1,e2,e3,_⟩;have e:((a3,l3,nx3,()):eX)=(bV (a,l,nx,()) (d,o,s,lk,al,())).1:=aaz e1 e2 e3;refine⟨rfl,⟨p2,⟨(show 0<=n+1 from abn),(show n+1<=7 from abn)⟩,?_,λ_=>?_⟩,?_⟩
  .show qG 1 (a3,l3,nx3,());rw[e];exact D.create hf
  .have:=D.one (f:=(d,o,s,lk,al,())) ⟨o1,o2⟩ ⟨k3,k4⟩ hat;rw[← e]at this;exact this
  .show(8-(n+1)).toNat<(8-n).toNat;omega
 .rintro⟨⟨x3,⟨⟩⟩,⟨b3,i3,g3,⟨⟩⟩,⟨⟩⟩ p3;have h2:(l.length:Int)>2:=fB h2;refine af (λ_=>⟨⟨abA,(show(1:Int)<l.length from abn)⟩,(show 1<l.length from abn),D.small,?_⟩) λ_=>?_
  .rintro⟨⟨⟨a3,l3,nx3,⟨⟩⟩,ok3,⟨⟩⟩,⟨⟩⟩ ⟨e1,e2,e3,_⟩;have e:=aaz e1 e2 e3;have D':=D.delete (List.getD l (Int.toNat 1) (0,0,false,0,[],())).1;have D':qG 2 (a3,l3,nx3,()):=by have e:((a3,l3,nx3,()):eX)=(fC (a,l,nx,()) (List.getD l (Int.toNat 1) (0,0,false,0,[],())).1).1:=e;rw[e];exact D'
   refine⟨p3,D'.sch,D'.ok,D'.nx,D'.small,?_⟩;have:=(Wy (a,l,nx,()) (List.getD l (Int.toNat 1) (0,0,false,0,[],())).1).2.2;have e2:l3=(fC (a,l,nx,()) (List.getD l (Int.toNat 1) (0,0,false,0,[],())).1).1.2.1:=e2;rw[← e2]at this;have this:l.length<=l3.length+1:=this;show 0<l3.length;omega
  .have D':=D.more (show(1:Int)<=2 from abA);exact⟨p3,D'.sch,D'.ok,D'.nx,D'.small,hne (by have:=fO hc;omega)⟩
 .have D':=D.more (show(1:Int)<=2 from abA);exact⟨p1,D'.sch,D'.ok,D'.nx,D'.small,hne (by have:=fO hc;omega)⟩
theorem ajN:OK JL.e:=by refine PA.ok mixed (aC [] trivial) H0 abu (show∀code,JL.goal (ajO code) (code,())from ?_);intro b hin hp;dsimp only[JL]at hp ⊢;exact rfl
theorem zi:OK lS.e:=by
 refine PA.ok mixed (aC [jo.e] ⟨kJ,trivial⟩) RJ abu (show∀s,lS.goal (Qg s) (s,())from ?_);intro s hin hp;dsimp only[lS]at hp ⊢;have hlen:s.length<=maxLen:=hin.1;rw[maxLen_eq]at hlen;refine⟨λy=>∃n:Nat,y.1.1=n/\n<=s.length/\Sp.lower (s.take n)=true,λy=>((s.length:Int)-y.1.1).toNat,⟨0,rfl,abn,rfl⟩,?_⟩;rintro⟨⟨_,⟨⟩⟩,⟨⟩⟩ ⟨n,rfl,hn,hJ⟩;dsimp only;refine af (λh=>?_) λh=>?_<;>simp only[avC,av7]at h
 .have hlt:n<s.length:=abn;rw[fD _ abn,avJ];refine⟨⟨abn,abn⟩,af (λh2=>?_) λh2=>⟨⟨abn,abn⟩,af (λh3=>?_) λh3=>?_⟩⟩<;>simp only[avC,av7]at*
  .unfold aW;cases hl:Sp.lower s with
   |false=>rfl
   |true=>have:=J7 hlt hl;omega
  .unfold aW;cases hl:Sp.lower s with
   |false=>rfl
   |true=>have:=J7 hlt hl;omega
  .refine⟨rfl,⟨n+1,acA,abn,?_⟩,afw⟩;rw[Sp.take_succ' s n 0 hlt];unfold Sp.lower at hJ ⊢;rw[axY,hJ];simp only[awH,ayC,axE,axj,avo,avC];omega
 .have hge:n=s.length:=abn;rw[hge,awE]at hJ;unfold aW;rw[hJ];exact⟨trivial,rfl⟩
theorem sQ:OK kQ.e:=by
 refine PA.ok mixed (aC [lS.e,jo.e] ⟨zi,kJ,trivial⟩) H0 abu (show∀v0 v1 v2,kQ.goal (RN v0 v1 v2) ((v0,v1,v2,()),())from ?_);intro k n s hin hp;dsimp only[kQ]at hp ⊢;refine af (λh=>?_) λh=>af (λh2=>⟨trivial,af (λh3=>?_) λh3=>?_⟩) λh2=>af (λh3=>⟨trivial,af (λh4=>?_) λh4=>?_⟩) λh3=>?_
 .have e:k=0:=acG;subst e;exact congrArg (·,()) (av3.2 (by simp[bJ]))
 .have e:k=1:=aiP;subst e;exact congrArg (·,()) (av3.2 (by simp only[avo,avC]at h3;simp[bJ,h3]))
 .have e:k=1:=aiP;subst e;exact congrArg (·,()) (av3.2 (by simp only[bJ,h3];simp))
 .have e:k=2:=aqw;subst e;exact congrArg (·,()) (av3.2 (by simp[bJ,h4]))
 .have e:k=2:=aqw;subst e;exact congrArg (·,()) (av3.2 (by simp[bJ,h4]))
 .have e1:k≠0:=acG;have e2:k≠1:=aiP;have e3:k≠2:=aqw;exact congrArg (·,()) (av3.2 (by simp[bJ,e1,e2,e3]))
theorem vM:OK kF.e:=by
 refine PA.ok mixed (aC [] trivial) H0 abu (show∀s,kF.goal (MV s) (s,())from ?_);intro s hin hp;dsimp only[kF]at hp ⊢;refine af (λh=>?_) λh=>?_
 .have h:(s.length:Int)=1:=fB h
  match s,h with
  |[c],_=>
   refine⟨⟨abA,(by show(0:Int)<1;decide)⟩,af (λh2=>⟨⟨abA,(by show(0:Int)<1;decide)⟩,?_⟩) λh2=>?_⟩
   .have h2:(c.toNat:Int)>=97:=fB h2;refine congrArg (·,()) (av3.2 ?_);simp only[dD,Sp.lower,awH,ayC,axE,avo,avC,avq,avu];constructor
    .intro h3;have h3:(c.toNat:Int)<=122:=h3;exact⟨⟨⟨abn,abn⟩,abA⟩,abA⟩
    .rintro⟨⟨⟨_,h4⟩,_⟩,_⟩;show(c.toNat:Int)<=122;omega
   .have h2:¬(c.toNat:Int)>=97:=fO h2;refine congrArg (·,()) (av3.2 ?_);simp only[dD,Sp.lower,awH,ayC,axE,avo,avC];constructor
    .intro h3;cases h3
    .rintro⟨⟨⟨h4,_⟩,_⟩,_⟩;omega
 .have h:¬(s.length:Int)=1:=fO h;refine congrArg (·,()) (av3.2 ?_);simp only[dD,avo,avC];constructor
  .intro h3;cases h3
  .rintro⟨⟨_,h4⟩,h5⟩;omega
theorem Yz:OK zG.e:=by
 refine PA.ok mixed (aC [] trivial) aaB abu (show∀s name,zG.goal (YA s name) (s,name,())from ?_);intro s name hin hp;dsimp only[zG]at hp ⊢;have hlen:s.length<=maxLen:=hin.1.1;rw[maxLen_eq]at hlen;refine kZ s.length hlen (λn=>∀i,i<n->(s.getD i ([],0,())).1≠name) (λi hi=>abn) (λI μ n hn hJ next=>?_) λI μ hJ=>?_
 .dsimp only;refine fK abn ⟨⟨abn,abn⟩,af (λh=>?_) λh=>⟨rfl,next λi hi=>?_⟩⟩
  .exact congrArg (·,()) (Wn s n hn hJ (by simpa only[avJ,avS]using h)).symm
  .rcases avN i n with h'|h'
   .exact hJ i h'
   .have:i=n:=abn;subst this;have h2:((s.getD i ([],0,())).1==name)=false:=h;exactλe=>by rw[e]at h2;simp at h2
 .dsimp only;exact fM abn (congrArg (·,()) (OG s hJ).symm)
theorem am8{k:Int}(h:(k !=1)=false\/(k !=2)=false):(decide (1<=k)&&decide (k<=2))=true:=by have:k=1\/k=2:=h.imp acA acA;rcases this with h|h<;>subst h<;>rfl
theorem ap2{k:Int}(h1:(k !=1)=true)(h2:(k !=2)=true):(decide (1<=k)&&decide (k<=2))=false:=by
 have h1:k≠1:=aqv;have h2:k≠2:=aiP;rw[axt];by_cases h:k<1
 .left;exact avH abn
 .right;exact avH abn
theorem Fh:OK oP.e:=by
 refine PA.ok mixed (aC [kF.e] ⟨vM,trivial⟩) RP abu (show∀s,oP.goal (Qh s) (s,())from ?_);intro s hin hp;dsimp only[oP]at hp ⊢;have hlen:s.length<=maxLen:=hin.1.1;rw[maxLen_eq]at hlen;refine kZ s.length hlen (λn=>∀i,i<n->jF s i=true) (λi hi=>abn) (λI μ n hn hJ next=>?_) λI μ hJ=>?_
 .dsimp only;have no:jF s n=false->(false,())=(eG s,()):=λh=>by rw[Zo hn h]
  have rest:dD (Sp.fieldAt s n).1=true->(decide (1<=(Sp.fieldAt s n).2.1)&&decide ((Sp.fieldAt s n).2.1<=2))=true->
   bif decide ((n:Int)>0)then
    ((0:Int)<=IntKind.i64.wrap ((n:Int)-1)/\IntKind.i64.wrap ((n:Int)-1)<(s.length:Int))/\
      bif !Op.bytesLess (s.getD (IntKind.i64.wrap ((n:Int)-1)).toNat ([],0,())).fst (s.getD (Int.toNat (n:Int)) ([],0,())).fst then(false,())=(eG s,())
      else NX ((s,s,(s.length:Int),()),()) I μ ((IntKind.i64.wrap ((n:Int)+1),()),()) (((n:Int),()),())
   else NX ((s,s,(s.length:Int),()),()) I μ ((IntKind.i64.wrap ((n:Int)+1),()),()) (((n:Int),()),()):=by
   intro h2 h3;refine af (λh4=>?_) λh4=>⟨rfl,next (dY hJ ?_)⟩
   .have h4:0<n:=anb;rw[zh h4 abn];refine⟨⟨abn,abn⟩,af (λh5=>no ?_) λh5=>⟨rfl,next (dY hJ ?_)⟩⟩
    .have h5:Op.bytesLess (Sp.fieldAt s (n-1)).1 (Sp.fieldAt s n).1=false:=iY h5;unfold jF;rw[h2,h3,h5,avD h4];rfl
    .have h5:Op.bytesLess (Sp.fieldAt s (n-1)).1 (Sp.fieldAt s n).1=true:=fG h5;unfold jF;rw[h2,h3,h5,avD h4];rfl
   .have h4:¬0<n:=amU;unfold jF;rw[h2,h3,avH h4];rfl
  refine fK abn ⟨⟨abn,abn⟩,trivial,af (λh2=>no ?_) λh2=>af (λh3=>af (λh4=>no ?_) λh4=>?_) λh3=>?_⟩
  .have h2:dD (Sp.fieldAt s n).1=false:=iY h2;unfold jF;rw[h2];rfl
  .have h2:dD (Sp.fieldAt s n).1=true:=fG h2;have h3:(decide (1<=(Sp.fieldAt s n).2.1)&&decide ((Sp.fieldAt s n).2.1<=2))=false:=ap2 h3 h4;unfold jF;rw[h2,h3];rfl
  .have h2:dD (Sp.fieldAt s n).1=true:=fG h2;have h3:(decide (1<=(Sp.fieldAt s n).2.1)&&decide ((Sp.fieldAt s n).2.1<=2))=true:=am8 (.inr h4);exact rest h2 h3
  .have h2:dD (Sp.fieldAt s n).1=true:=fG h2;have h3:(decide (1<=(Sp.fieldAt s n).2.1)&&decide ((Sp.fieldAt s n).2.1<=2))=true:=am8 (.inl h3);exact rest h2 h3
 .dsimp only;refine fM abn (congrArg (·,()) ?_);unfold eG;rw[nC hJ];rfl
theorem Qi:OK su.e:=by
 refine PA.ok mixed (aC [zG.e,kQ.e] ⟨Yz,sQ,trivial⟩) H0 abu (show∀s name v0 v1 v2,su.goal (Qj s name v0 v1 v2) (s,name,(v0,v1,v2,()),())from ?_);intro fs s k n w hin hp;dsimp only[su]at hp ⊢;refine⟨trivial,af (λh=>af (λh2=>⟨trivial,?_⟩) λh2=>?_) λh=>?_⟩
 .exact congrArg (·,()) (av3.2 (by simp only[bne_iff_ne,ne_eq]at h2;simp[jb,h,h2]))
 .exact congrArg (·,()) (av3.2 (by simp at h2;simp[jb,h2]))
 .exact congrArg (·,()) (av3.2 (by simp[jb,h]))
theorem UF:OK vY.e:=by
 refine PA.ok mixed (aC [oP.e,Ei.e,jo.e,su.e] ⟨Fh,aeo,kJ,Qi,trivial⟩) WA abu (show∀s f0 f1 f2 f3 f4,vY.goal (UG s f0 f1 f2 f3 f4) (s,(f0,f1,f2,f3,f4,()),())from ?_);intro fs f0 f1 f2 f3 f4 hin hp;dsimp only[vY]at hp ⊢;have hlen:f4.length<=maxLen:=hin.2.1.2.2.2.2.1.1;rw[maxLen_eq]at hlen;refine kZ f4.length hlen (λn=>∀i,i<n->jK fs f4 i=true) (λi hi=>abn) (λI μ n hn hJ next=>?_) λI μ hJ=>?_
 .dsimp only;have no:jK fs f4 n=false->(false,())=(dH fs (f0,f1,f2,f3,f4,()),()):=λh=>by rw[afL (f:=(f0,f1,f2,f3,f4,())) hn h]
  refine fK abn ⟨⟨abn,abn⟩,af (λh4=>?_) λh4=>⟨trivial,af (λh2=>no ?_) λh2=>⟨rfl,next (dY hJ ?_)⟩⟩⟩
  .have h4:0<n:=anb;rw[zh h4 abn];refine⟨⟨abn,abn⟩,af (λh5=>no ?_) λh5=>⟨trivial,af (λh2=>no ?_) λh2=>⟨rfl,next (dY hJ ?_)⟩⟩⟩
   .have h5:Op.bytesLess (bU f4 (n-1)).1 (bU f4 n).1=false:=iY h5;unfold jK;rw[h5,avD h4];exact awO _
   .have h2:jb fs (bU f4 n).1 (bU f4 n).2.1 (bU f4 n).2.2.1 (bU f4 n).2.2.2.1=false:=iY h2;unfold jK;rw[h2];rfl
   .have h2:jb fs (bU f4 n).1 (bU f4 n).2.1 (bU f4 n).2.2.1 (bU f4 n).2.2.2.1=true:=fG h2;have h5:Op.bytesLess (bU f4 (n-1)).1 (bU f4 n).1=true:=fG h5;unfold jK;rw[h2,h5,avD h4];rfl
  .have h2:jb fs (bU f4 n).1 (bU f4 n).2.1 (bU f4 n).2.2.1 (bU f4 n).2.2.2.1=false:=iY h2;unfold jK;rw[h2];rfl
  .have h2:jb fs (bU f4 n).1 (bU f4 n).2.1 (bU f4 n).2.2.1 (bU f4 n).2.2.2.1=true:=fG h2;have h4:¬0<n:=amU;unfold jK;rw[h2,avH h4];rfl
 .dsimp only;have ha:kG fs f4=true:=nC hJ;refine fM abn ⟨trivial,af (λh1=>⟨trivial,af (λh2=>⟨trivial,af (λh3=>⟨trivial,?_⟩) λh3=>?_⟩) λh2=>?_⟩) λh1=>?_⟩
  all_goals refine congrArg (·,()) ?_
  .show eG fs=(kG fs f4&&eG fs&&(decide (1<=f0)&&decide (f0<=60))&&(decide (0<=f1)&&decide (f1<=2))&&(decide (0<=f3)&&decide (f3<=60)));rw[ha,h1,h2,h3];cases eG fs<;>rfl
  .show false=(kG fs f4&&eG fs&&(decide (1<=f0)&&decide (f0<=60))&&(decide (0<=f1)&&decide (f1<=2))&&(decide (0<=f3)&&decide (f3<=60)));rw[h3,awO]
  .show false=(kG fs f4&&eG fs&&(decide (1<=f0)&&decide (f0<=60))&&(decide (0<=f1)&&decide (f1<=2))&&(decide (0<=f3)&&decide (f3<=60)));rw[h2,awO,axm]
  .show false=(kG fs f4&&eG fs&&(decide (1<=f0)&&decide (f0<=60))&&(decide (0<=f1)&&decide (f1<=2))&&(decide (0<=f3)&&decide (f3<=60)));rw[h1,awO,axm,axm]
theorem RQ:OK uP.e:=by
 refine PA.ok mixed (aC [jo.e,oP.e,vY.e] ⟨kJ,Fh,UF,trivial⟩) UH abu (show∀s0 s1 s2,uP.goal (RS s0 s1 s2) ((s0,s1,s2,()),())from ?_);intro s0 s1 s2 hin hp;dsimp only[uP]at hp ⊢;have hlen:s1.length<=maxLen:=hin.1.2.1.1;rw[maxLen_eq]at hlen;refine kZ s1.length hlen (λn=>∀i,i<n->lI (s0,s1,s2,()) i=true) (λi hi=>abn) (λI μ n hn hJ next=>?_) λI μ hJ=>?_
 .dsimp only;have no:lI (s0,s1,s2,()) n=false->(false,())=(bW (s0,s1,s2,()),()):=λh=>by rw[ace (s:=(s0,s1,s2,())) hn h]
  refine fK abn ⟨⟨abn,abn⟩,trivial,af (λh2=>no ?_) λh2=>af (λh3=>no ?_) λh3=>af (λh4=>?_) λh4=>⟨rfl,next (dY hJ ?_)⟩⟩
  .have h2:dH s0 (Sp.fileAt s1 n)=false:=iY h2;show(dH s0 (Sp.fileAt s1 n)&&_&&_)=false;rw[h2];rfl
  .have h2:dH s0 (Sp.fileAt s1 n)=true:=fG h2;have h3:¬(Sp.fileAt s1 n).1<s2:=by have h3:(Sp.fileAt s1 n).1>=s2:=fB h3;omega
   show(dH s0 (Sp.fileAt s1 n)&&decide ((Sp.fileAt s1 n).1<s2)&&_)=false;rw[h2,avH h3];rfl
  .have h2:dH s0 (Sp.fileAt s1 n)=true:=fG h2;have h3:(Sp.fileAt s1 n).1<s2:=akX;have h4:0<n:=anb;rw[zh h4 abn];refine⟨⟨abn,abn⟩,af (λh5=>no ?_) λh5=>⟨rfl,next (dY hJ ?_)⟩⟩
   .have h5:¬(Sp.fileAt s1 (n-1)).1<(Sp.fileAt s1 n).1:=by have h5:(Sp.fileAt s1 (n-1)).1>=(Sp.fileAt s1 n).1:=fB h5;omega
    show(dH s0 (Sp.fileAt s1 n)&&decide ((Sp.fileAt s1 n).1<s2)&&!(decide (0<n)&&!decide ((Sp.fileAt s1 (n-1)).1<(Sp.fileAt s1 n).1)))=false;rw[h2,avD h3,avD h4,avH h5];rfl
   .have h5:(Sp.fileAt s1 (n-1)).1<(Sp.fileAt s1 n).1:=by have h5:¬(Sp.fileAt s1 (n-1)).1>=(Sp.fileAt s1 n).1:=fO h5;omega
    show(dH s0 (Sp.fileAt s1 n)&&decide ((Sp.fileAt s1 n).1<s2)&&!(decide (0<n)&&!decide ((Sp.fileAt s1 (n-1)).1<(Sp.fileAt s1 n).1)))=true;rw[h2,avD h3,avD h4,avD h5];rfl
  .have h2:dH s0 (Sp.fileAt s1 n)=true:=fG h2;have h3:(Sp.fileAt s1 n).1<s2:=akX;have h4:¬0<n:=amU;show(dH s0 (Sp.fileAt s1 n)&&decide ((Sp.fileAt s1 n).1<s2)&&!(decide (0<n)&&!decide ((Sp.fileAt s1 (n-1)).1<(Sp.fileAt s1 n).1)))=true;rw[h2,avD h3,avH h4];rfl
 .dsimp only;have ha:ji s1.length (lI (s0,s1,s2,()))=true:=nC hJ;refine fM abn ⟨trivial,af (λh1=>af (λh2=>⟨trivial,?_⟩) λh2=>?_) λh1=>?_⟩
  .refine congrArg (·,()) ?_;show _=(ji s1.length (lI (s0,s1,s2,()))&&eG s0&&decide ((s1.length:Int)<=12)&&(decide (1<=s2)&&decide (s2<=61)));rw[ha,h1,h2];rfl
  .refine congrArg (·,()) ?_;show _=(ji s1.length (lI (s0,s1,s2,()))&&eG s0&&decide ((s1.length:Int)<=12)&&(decide (1<=s2)&&decide (s2<=61)));rw[ha,h1,h2];rfl
  .refine congrArg (·,()) ?_;show _=(ji s1.length (lI (s0,s1,s2,()))&&eG s0&&decide ((s1.length:Int)<=12)&&(decide (1<=s2)&&decide (s2<=61)));rw[ha,h1];rfl
end Go.Proofs.Tryz
namespace Go.Proofs.Tryz
open Go Go.Fw Go.IntWalk Sp
theorem WR:OK xW.e:=by
 refine XA.ok mixed (aC [iW.e] ⟨jM,trivial⟩) H0 (λ_ _=>⟨((([]:List UInt8),()),(([],0,0,()),())),⟨abA,abA⟩⟩) abu (show∀c0 c1 c2,xW.goal (WS c0 c1 c2) ((c0,c1,c2,()),())from ?_);intro b i h hin hp;dsimp only[xW]at hp ⊢;have hp:0<=i:=hp
 repeat' first
  |exact trivial
  |refine af (λ_=>?_) λ_=>?_
  |refine And.intro ?_ ?_
  |(intro r hr;simp only[]at hr)
  |intro r hr
 all_goals first
  |omega
  |(dsimp only at*;omega)
  |exact hr
  |(simp only[avp,ne_eq]at*;omega)
  |(simp only[avZ,avz,avn,avq,avu];omega)
  |(rw[iH];simp only[avZ,avz,avn,avq,avu];omega)
  |(simp only[avZ,avz,avn,avq,avu]at*;omega)
  |exact(show∀y∈_,List.length y.1<=10 from abA) _ hr.2
  |(simp;done)
  |skip
theorem N9:OK tN.e:=by
 refine XA.ok mixed (aC [xW.e,jQ.e,oN.e,iW.e,dh.e] ⟨WR,ql,zX,jM,dL,trivial⟩) H0 (λ_ _=>⟨((((0:Int),(0:Int),(0:Int),([]:List UInt8),(0:Int),(0:Int),([]:List UInt8),()),()),(([],0,0,()),())),⟨abA,trivial⟩⟩) abu (show∀c0 c1 c2,tN.goal (acL c0 c1 c2) ((c0,c1,c2,()),())from ?_);intro b i h hin hp;dsimp only[tN]at hp ⊢;have hp:0<=i:=hp
 repeat' first
  |exact trivial
  |refine af (λ_=>?_) λ_=>?_
  |refine And.intro ?_ ?_
  |(intro r hr;simp only[]at hr)
  |intro r hr
 all_goals first
  |omega
  |(dsimp only at*;omega)
  |exact hr
  |(simp only[avp,ne_eq]at*;omega)
  |(simp only[avZ,avz,avn,avq,avu];omega)
  |(rw[iH];simp only[avZ,avz,avn,avq,avu];omega)
  |(simp only[avZ,avz,avn,avq,avu]at*;omega)
  |exact(show∀y∈_,List.length y.1<=10 from abA) _ hr.2
  |(simp;done)
  |skip
theorem Qp[lN](SG:jq prog G vg yI):jq prog G Gn DF:=by
 refine Qq (aC [(vg,.eff (DT oQ) yI),dh.e,tN.e,nY.e] ⟨⟨SG,P7⟩,dL,N9,BI,trivial⟩) (λ⟨_,q,deep,_,_⟩ _=>⟨((q++[(0,0,0,[],0,0,[],())],()),(([],0,0,()),())),⟨abA,acA,acA⟩⟩) ?_;intro b i h q deep not hin hp;obtain⟨⟨hp1,hp2,hp3,hp4⟩,hp5⟩:=hp;have hw:IntKind.i64.wrap (deep-1)=deep-1:=fD _ abn;refine⟨λy=>0<=y.2.1.2.1/\0<deep,?_⟩;dsimp only;rw[hw]
 repeat' first
  |exact trivial
  |refine af (λ_=>?_) λ_=>?_
  |refine And.intro ?_ ?_
  |(intro r hr;simp only[]at hr)
  |intro r hr
 all_goals first
  |omega
  |(dsimp only at*;omega)
  |exact hr
  |(simp only[avp,ne_eq]at*;omega)
  |(simp only[avZ,avz,avn,avq,avu];omega)
  |(rw[iH];simp only[avZ,avz,avn,avq,avu];omega)
  |(simp only[avZ,avz,avn,avq,avu]at*;omega)
  |exact(show∀y∈_,List.length y.1<=10 from abA) _ hr.2
  |(simp;done)
  |skip
theorem acM:jq prog G aef ZK:=
 akp (λn=>@G5 ⟨n⟩) (λn=>@sD ⟨n⟩) (by rintro⟨⟨b,i,h,⟨⟩⟩,q,deep,not,⟨⟩⟩ h;exact awv _ h.2) (by rintro _ ⟨⟨b,i,h,⟨⟩⟩,q,deep,not,⟨⟩⟩;rfl) (by rintro⟨⟨b,i,h,⟨⟩⟩,q,deep,not,⟨⟩⟩ h;exact⟨_,h,aw9 _⟩) (by rintro _ ⟨⟨b,i,h,⟨⟩⟩,q,deep,not,⟨⟩⟩;rfl) λn h=>@Qp ⟨n⟩ h
theorem Gz:jq prog G vC yJ:=
 amQ (F:=Pe) (F':=G6) abA acM (λa x h=>⟨h.1,h.2.1,h.2.2,(show∀z:Int,0<=z->z<=4->0+2*z.toNat<=900 fromλz _ _=>abn) _ h.2.1 h.2.2⟩) λa x h=>rfl
theorem UO:OK wu.e:=by
 refine XA.ok mixed (aC [(vC,.eff (DT oU) yJ),dh.e] ⟨⟨Gz,Fe⟩,dL,trivial⟩) WT (λ_ _=>⟨(([(0,0,0,[],0,0,[],())],()),(([],0,0,()),())),⟨abA,abA,abA⟩⟩) abu (show∀c0 c1 c2,wu.goal (UQ c0 c1 c2) ((c0,c1,c2,()),())from ?_);intro b i h hin hp;dsimp only[wu]at hp ⊢;have hp:0<=i:=hp
 repeat' first
  |exact trivial
  |refine af (λ_=>?_) λ_=>?_
  |refine And.intro ?_ ?_
  |(intro r hr;simp only[]at hr)
  |intro r hr
 all_goals first
  |omega
  |(dsimp only at*;omega)
  |exact hr
  |(simp only[avp,ne_eq]at*;omega)
  |(simp only[avZ,avz,avn,avq,avu];omega)
  |(rw[iH];simp only[avZ,avz,avn,avq,avu];omega)
  |(simp only[avZ,avz,avn,avq,avu]at*;omega)
  |exact(show∀y∈_,List.length y.1<=10 from abA) _ hr.2
  |(simp;done)
  |skip
theorem Aq:OK kW.e:=by
 refine XA.ok mixed (aC [(vC,.eff (DT oU) yJ),dh.e] ⟨⟨Gz,Fe⟩,dL,trivial⟩) Kq (λ_ _=>⟨(([(0,0,0,[],0,0,[],())],()),(([],0,0,()),())),⟨abA,abA,abA⟩⟩) abu (show∀c0 c1 c2,kW.goal (Jv c0 c1 c2) ((c0,c1,c2,()),())from ?_);intro b i h hin hp;dsimp only[kW]at hp ⊢;have hp:0<=i:=hp
 repeat' first
  |exact trivial
  |refine af (λ_=>?_) λ_=>?_
  |refine And.intro ?_ ?_
  |(intro r hr;simp only[]at hr)
  |intro r hr
 all_goals first
  |omega
  |(dsimp only at*;omega)
  |exact hr
  |(simp only[avp,ne_eq]at*;omega)
  |(simp only[avZ,avz,avn,avq,avu];omega)
  |(rw[iH];simp only[avZ,avz,avn,avq,avu];omega)
  |(simp only[avZ,avz,avn,avq,avu]at*;omega)
  |exact(show∀y∈_,List.length y.1<=10 from abA) _ hr.2
  |(simp;done)
  |skip
theorem aeP:OK En.e:=by
 refine XA.ok mixed (aC [Ah.e,tN.e,iW.e,kL.e,dh.e,wu.e] ⟨Qa,N9,jM,qV,dL,UO,trivial⟩) agL (λ_ _=>⟨(([],()),(([],0,0,()),())),⟨abA,abA⟩⟩) abu (show∀c0 c1 c2,En.goal (aeQ c0 c1 c2) ((c0,c1,c2,()),())from ?_);intro b i h hin hp;dsimp only[En]at hp ⊢;have hp:0<=i:=hp
 repeat' first
  |exact trivial
  |refine af (λ_=>?_) λ_=>?_
  |refine And.intro ?_ ?_
  |(intro r hr;simp only[]at hr)
  |intro r hr
 all_goals first
  |omega
  |(dsimp only at*;omega)
  |exact hr
  |(simp only[avp,ne_eq]at*;omega)
  |(simp only[avZ,avz,avn,avq,avu];omega)
  |(rw[iH];simp only[avZ,avz,avn,avq,avu];omega)
  |(simp only[avZ,avz,avn,avq,avu]at*;omega)
  |exact(show∀y∈_,List.length y.1<=10 from abA) _ hr.2
  |(simp;done)
  |skip
theorem Aa:eU []:=⟨acA,λx hx=>afg⟩
theorem Ko{d:List bC}{x:bC}(h:eU d)(hl:d.length<1000)(hx:x.2.1.length<=1000):eU (d++[x]):=
 ⟨adK,λy hy=>by rcases avR.1 hy with hy|hy;exact h.2 y hy;rw[avP.1 hy];exact hx⟩
theorem acN{d:List bC}{x:bC}(n:Nat)(h:eU d)(hx:x.2.1.length<=1000):eU (d.set n x):=
 ⟨by simp;exact h.1,λy hy=>by rcases List.mem_or_eq_of_mem_set hy with hy|hy;exact h.2 y hy;rw[hy];exact hx⟩
theorem ajQ{d:List bC}(n:Nat)(h:eU d):eU (d.take n):=
 ⟨by rw[avz];have:=h.1;omega,λy hy=>h.2 y (aw2 hy)⟩
theorem ano{d:List bC}(h:eU d){n:Nat}(hn:n<d.length):(d.getD n ([],[],())).2.1.length<=1000:=h.2 _ (getD_mem hn)
theorem N8:OK yK.e:=by
 refine XA.ok mixed (aC [kW.e,dh.e] ⟨Aq,dL,trivial⟩) aeR (λ_ _=>⟨(([([],[],())],()),(([],0,0,()),())),⟨abA,abA,abA,abA,abA⟩⟩) abu (show∀c0 c1 c2,yK.goal (acO c0 c1 c2) ((c0,c1,c2,()),())from ?_);intro b i h hin hp;dsimp only[yK]at hp ⊢;have hp:0<=i:=hp;refine⟨λy=>0<=y.2.1.2.1/\y.1.2.1=y.2.2.1.length/\y.2.2.1.length<=4/\eU y.2.2.1,λy=>(4-y.1.2.1).toNat,⟨hp,rfl,acA,Aa⟩,?_⟩;rintro⟨⟨_,k,_⟩,⟨b1,i1,h1,_⟩,l,_⟩ ⟨q1,q2,q3,q4⟩;dsimp only at q1 q2 q3 q4 ⊢;refine⟨q1,?_⟩;rintro⟨⟨r,_⟩,⟨b2,i2,h2,_⟩,_⟩ ⟨e1,e2,e3,_⟩;dsimp only at e1 e2 e3 ⊢;have e3:=e3 abn;rw[fD (1+r) abn,fD (k+1) abn];refine af (λhc=>?_) λhc=>?_
 .have hc:=fB hc;refine⟨⟨abn,asJ⟩,asJ,e1,?_⟩;rintro⟨⟨x,_⟩,⟨b3,i3,h3,_⟩,_⟩ ⟨g1,g2,g3⟩;dsimp only at g1 g2 g3 ⊢;refine⟨amV,rfl,⟨g1,adK,adK,Ko q4 abn afw⟩,abn⟩
 .have hc:=fO hc;exact⟨e1,abn,abn,q4⟩
theorem aeN:OK Eo.e:=by
 refine XA.ok mixed (aC [kW.e,En.e,iW.e,dh.e,yK.e] ⟨Aq,aeP,jM,dL,N8,trivial⟩) agM (λ_ _=>⟨(([],()),(([],0,0,()),())),⟨abA,abA,Aa⟩⟩) abu (show∀c0 c1 c2,Eo.goal (aeS c0 c1 c2) ((c0,c1,c2,()),())from ?_);intro b i h hin hp;dsimp only[Eo]at hp ⊢;have hp:0<=i:=hp;refine⟨hp,?_⟩;rintro⟨⟨d,_⟩,⟨b1,i1,h1,_⟩,_⟩ ⟨q1,q2,q3,q4⟩;dsimp only at q1 q2 q3 q4 ⊢;refine⟨q1,?_⟩;rintro⟨⟨r,_⟩,⟨b2,i2,h2,_⟩,_⟩ ⟨e1,e2,e3,_⟩;dsimp only at e1 e2 e3 ⊢;have e3:=e3 abn;refine⟨e1,?_⟩;rintro⟨⟨s,_⟩,⟨b3,i3,h3,_⟩,_⟩ ⟨f1,f2,f3,_⟩;dsimp only at f1 f2 f3 ⊢;have hn:r.toNat<d.length:=abn;refine af (λ_=>⟨⟨f1,acA⟩,?_⟩) λ_=>af (λ_=>⟨f1,?_⟩) λ_=>af (λ_=>?_) λ_=>af (λ_=>?_) λ_=>?_
 .rintro⟨⟨x,_⟩,⟨b4,i4,h4,_⟩,_⟩ ⟨g1,g2⟩;exact⟨⟨e2,e3⟩,hn,g1,adK,acN _ q4 (ano q4 hn)⟩
 .rintro⟨⟨x,_⟩,⟨b4,i4,h4,_⟩,_⟩ ⟨g1,g2⟩;exact⟨⟨e2,e3⟩,hn,g1,adK,acN _ q4 (by dsimp only at g2 ⊢;omega)⟩
 .refine⟨λy=>0<=y.2.1.2.1/\y.2.2.1.length<=6/\eU y.2.2.1,λy=>6-y.2.2.1.length,⟨f1,afw,q4⟩,?_⟩;rintro⟨_,⟨b4,i4,h4,_⟩,l,_⟩ ⟨g1,g2,g3⟩;dsimp only at g1 g2 g3 ⊢;refine⟨g1,?_⟩;rintro⟨⟨r',_⟩,⟨b5,i5,h5,_⟩,_⟩ ⟨k1,k2,k3,_⟩;dsimp only at k1 k2 k3 ⊢;have k3:=k3 abn;rw[fD (5+r') abn];refine af (λhc=>?_) λhc=>?_
  .have hc:=fB hc;refine⟨⟨abn,asJ⟩,k1,?_⟩;rintro⟨⟨x,_⟩,⟨b6,i6,h6,_⟩,_⟩ ⟨m1,m2,m3⟩;dsimp only at m1 m2 m3 ⊢;refine⟨amV,rfl,⟨m1,adK,Ko g3 abn afw⟩,adK⟩
  .exact⟨k1,abn,g3⟩
 .exact⟨f1,acA,Aa⟩
 .exact⟨f1,abn,q4⟩
end Go.Proofs.Tryz
namespace Go.Proofs.Tryz
open Go Go.Fw Go.IntWalk Sp
theorem Kr(n0 n1 n2:Int)(n3:Sp.Bytes)(n4 n5:Int)(n6:Sp.Bytes)(a:Int):dS (n0,n1,n2,n3,n4,n5,n6,()) a=
 (bif n0==1 then(n1==0&&n2==0)&&(n3==[]&&(n4==0&&(n5==0&&n6==[])))else bif n0==2 then(n1==0&&n2==0)&&(n4==0&&(n5==0&&n6==[]))&&dD n3 else
 bif n0==3 then(n1==0&&n2==0)&&dD n3&&bJ n4 n5 n6&&!(n4==0)else bif n0==4 then(n1==0&&n2==0)&&dD n3&&bJ n4 n5 n6&&n4==1 else
 bif n0==5 then(decide (0<=n1)&&decide (n1<=a-1)&&decide (0<a))&&n2==0&&(n3==[]&&(n4==0&&(n5==0&&n6==[])))else
 bif n0==6||n0==7 then(decide (0<=n1)&&decide (n1<=a-1)&&decide (0<a))&&(decide (0<=n2)&&decide (n2<=a-1))&&(n3==[]&&(n4==0&&(n5==0&&n6==[])))else
 bif n0==8||n0==9 then(n1==0&&n2==0)&&(n4==0&&(n5==0&&n6==[]))&&aW n3 else false):=rfl
theorem UR:OK wC.e:=by
 refine PA.ok mixed (aC [lS.e,jo.e,kQ.e,kF.e] ⟨zi,kJ,sQ,vM,trivial⟩) WU abu (show∀n0 n1 n2 n3 n4 n5 n6 at',wC.goal (Hq n0 n1 n2 n3 n4 n5 n6 at') ((n0,n1,n2,n3,n4,n5,n6,()),at',())from ?_);intro n0 n1 n2 n3 n4 n5 n6 a hin hp;dsimp only[wC]at hp ⊢;have ha:-9223372036854775808<=a/\a<=9223372036854775807:=hin.2.1;show Hq n0 n1 n2 n3 n4 n5 n6 a λr=>r=(dS (n0,n1,n2,n3,n4,n5,n6,()) a,());rw[Kr];have w:0<a->IntKind.i64.wrap (a-1)=a-1:=λh=>fD _ abn;refine af (λ_=>?_) λ_=>af (λ_=>af (λ_=>⟨trivial,?_⟩) λ_=>?_) λ_=>⟨λy=>y=((n0==3||n0==4,()),()),?_,?_⟩
 .first|(simp_all;done)|(simp_all;grind)
 .first|(simp_all;done)|(simp_all;grind)
 .first|(simp_all;done)|(simp_all;grind)
 .refine af (λ_=>⟨rfl,?_⟩) λ_=>⟨rfl,?_⟩<;>first|(simp_all;done)|(simp_all;grind)
 .rintro _ rfl;refine af (λ_=>?_) λ_=>af (λ_=>af (λ_=>af (λh=>⟨trivial,?_⟩) λ_=>?_) λ_=>?_) λ_=>⟨λy=>y=((n0==6||n0==7,()),()),?_,?_⟩
  .refine af (λ_=>⟨trivial,af (λ_=>⟨trivial,af (λ_=>af (λ_=>af (λ_=>?_) λ_=>?_) λ_=>?_) λ_=>?_⟩) λ_=>?_⟩) λ_=>?_
   all_goals first|(simp_all;done)|(simp_all;grind)
  .rw[w (fB h)]
   first|(simp_all;done)|(simp_all;grind)
  .first|(simp_all;done)|(simp_all;grind)
  .first|(simp_all;done)|(simp_all;grind)
  .refine af (λ_=>⟨rfl,?_⟩) λ_=>⟨rfl,?_⟩<;>first|(simp_all;done)|(simp_all;grind)
  .rintro _ rfl;refine af (λ_=>af (λ_=>af (λh=>⟨trivial,?_⟩) λ_=>?_) λ_=>?_) λ_=>?_
   .rw[w (fB h)];refine af (λ_=>⟨trivial,?_⟩) λ_=>?_<;>first|(simp_all;done)|(simp_all;grind)
   .first|(simp_all;done)|(simp_all;grind)
   .first|(simp_all;done)|(simp_all;grind)
   .refine af (λ_=>af (λ_=>af (λ_=>⟨trivial,?_⟩) λ_=>?_) λ_=>?_) λ_=>af (λ_=>af (λ_=>⟨trivial,?_⟩) λ_=>?_) λ_=>?_
    all_goals first|(simp_all;done)|(simp_all;grind)
theorem UU:OK wB.e:=by
 refine PA.ok mixed (aC [lQ.e,kP.e,kE.e,ja.e] ⟨zf,sO,vK,kz,trivial⟩) WV abu (show∀n0 n1 n2 n3 n4 n5 n6 at',wB.goal (Hr n0 n1 n2 n3 n4 n5 n6 at') ((n0,n1,n2,n3,n4,n5,n6,()),at',())from ?_);intro n0 n1 n2 n3 n4 n5 n6 a hin hp;dsimp only[wB]at hp ⊢;have ha:-9223372036854775808<=a/\a<=9223372036854775807:=hin.2.1;show Hr n0 n1 n2 n3 n4 n5 n6 a λr=>r=(dS (n0,n1,n2,n3,n4,n5,n6,()) a,());rw[Kr];have w:0<a->IntKind.i64.wrap (a-1)=a-1:=λh=>fD _ abn;refine⟨λy=>y=((decide (0<=n1)&&decide (n1<=a-1)&&decide (0<a),()),()),⟨trivial,?_⟩,?_⟩
 .by_cases h:0<a
  .dsimp only;rw[w h];refine af (λ_=>⟨rfl,?_⟩) λ_=>⟨rfl,?_⟩<;>first|(simp_all;done)|(simp_all;grind)
  .dsimp only;refine af (λ_=>⟨rfl,?_⟩) λ_=>⟨rfl,?_⟩<;>first|(simp_all;done)|(simp_all;grind)
 .rintro _ rfl;refine⟨λy=>y=(((decide (0<=n1)&&decide (n1<=a-1)&&decide (0<a))&&(decide (0<=n2)&&decide (n2<=a-1)),()),()),?_,?_⟩
  .refine af (λh=>⟨trivial,rfl,?_⟩) λh=>⟨rfl,?_⟩
   .have h:(decide (0<=n1)&&decide (n1<=a-1)&&decide (0<a))=true:=h;have h2:0<a:=by simp at h;omega
    rw[w h2,h,axj]
   .have h:(decide (0<=n1)&&decide (n1<=a-1)&&decide (0<a))=false:=h;rw[h,axm]
  .rintro _ rfl;dsimp only;generalize (decide (0<=n1)&&decide (n1<=a-1)&&decide (0<a))=kids;generalize (decide (0<=n2)&&decide (n2<=a-1))=two
   repeat' first
    |exact trivial
    |refine af (λ_=>?_) λ_=>?_
    |refine And.intro trivial ?_
   all_goals first|(simp_all;done)|(simp_all;grind)
end Go.Proofs.Tryz
namespace Go.Proofs.Tryz
open Go Go.Fw Go.IntWalk Sp
theorem acy:OK CS.e:=by
 refine PA.ok mixed (aC [] trivial) aeT abu (show∀a b,CS.goal (acP a b) (a,b,())from ?_);intro a b hin hp;dsimp only[CS]at hp ⊢;have hlen:a.length<=maxLen:=hin.1.1;rw[maxLen_eq]at hlen;refine af (λh=>?_) λh=>?_
 .have h:(a.length:Int)≠b.length:=acG;exact congrArg (·,()) (avH λe=>h asN).symm
 .have h:(a.length:Int)=b.length:=acG;exact Ib (K:=λr=>r=(decide (a=b),())) (λx y=>x.1 !=y.1) (λx y=>aq8) _ a b _ hlen abn (λe=>arb) λe=>arx
theorem YG:OK zK.e:=by
 refine PA.ok mixed (aC [] trivial) aaS abu (show∀a b,zK.goal (YH a b) (a,b,())from ?_);intro a b hin hp;dsimp only[zK]at hp ⊢;have hlen:a.length<=maxLen:=hin.1.1;rw[maxLen_eq]at hlen;refine af (λh=>?_) λh=>?_
 .have h:(a.length:Int)≠b.length:=acG;exact congrArg (·,()) (avH λe=>h asN).symm
 .have h:(a.length:Int)=b.length:=acG;exact Ib (K:=λr=>r=(decide (a=b),())) (λx y=>!(x.1==y.1&&(x.2.1==y.2.1&&(x.2.2.1==y.2.2.1&&(x.2.2.2.1==y.2.2.2.1&&(x.2.2.2.2.1==y.2.2.2.2.1&&(x.2.2.2.2.2.1==y.2.2.2.2.2.1&&(x.2.2.2.2.2.2.1==y.2.2.2.2.2.2.1&&true)))))))) (λx y=>aq8) _ a b _ hlen abn (λe=>arb) λe=>arx
theorem acQ:OK CU.e:=by
 refine PA.ok mixed (aC [zK.e] ⟨YG,trivial⟩) H0 abu (show∀a0 a1 b0 b1,CU.goal (acR a0 a1 b0 b1) ((a0,a1,()),(b0,b1,()),())from ?_);intro a0 a1 b0 b1 hin hp;dsimp only[CU]at hp ⊢;refine af (λh0=>⟨trivial,?_⟩) λh0=>?_
 all_goals refine congrArg (·,()) (av3.2 ?_)
 .simp only[avS]at h0;subst h0;simp
 .have h0:a0≠b0:=by simpa using h0
  simp[h0]
theorem aaT:OK Bq.e:=by
 refine PA.ok mixed (aC [CU.e] ⟨acQ,trivial⟩) acS abu (show∀a b,Bq.goal (aaU a b) (a,b,())from ?_);intro a b hin hp;dsimp only[Bq]at hp ⊢;have hlen:a.length<=maxLen:=hin.1.1;rw[maxLen_eq]at hlen;refine af (λh=>?_) λh=>?_
 .have h:(a.length:Int)≠b.length:=acG;exact congrArg (·,()) (avH λe=>h asN).symm
 .have h:(a.length:Int)=b.length:=acG;exact aif (K:=λr=>r=(decide (a=b),())) (λx y=>!decide ((x.1,x.2.1,())=(y.1,y.2.1,()))) (λx y=>aq8) _ a b _ hlen abn (λe=>arb) λe=>arx
theorem SA:OK uZ.e:=by
 refine PA.ok mixed (aC [Bq.e,zJ.e] ⟨aaT,Yv,trivial⟩) H0 abu (show∀a0 a1 a2 a3 b0 b1 b2 b3,uZ.goal (SH a0 a1 a2 a3 b0 b1 b2 b3) ((a0,a1,a2,a3,()),(b0,b1,b2,b3,()),())from ?_);intro a0 a1 a2 a3 b0 b1 b2 b3 hin hp;dsimp only[uZ]at hp ⊢;refine⟨trivial,af (λh0=>⟨trivial,?_⟩) λh0=>?_⟩
 all_goals refine congrArg (·,()) (av3.2 ?_)
 .have h0:=fB h0;simp only[Prod.mk.injEq]at h0;simp[h0]
 .have h0:=fO h0;simp only[Prod.mk.injEq]at h0;simp only[avC,Prod.mk.injEq,awZ,false_iff];exactλh=>h0 ⟨h.1,h.2.1,h.2.2.1,trivial⟩
theorem aaV:OK Bl.e:=by refine PA.ok mixed (aC [] trivial) H0 abu (show∀n0 n1 n2 n3 n4 n5 n6,Bl.goal (aaW n0 n1 n2 n3 n4 n5 n6) ((n0,n1,n2,n3,n4,n5,n6,()),())from ?_);intro n0 n1 n2 n3 n4 n5 n6 hin hp;dsimp only[Bl]at hp ⊢;exact af (λh=>asT) λh=>asT
theorem Ic{d:List bC}(h:eU d){n:Nat}(hn:n<d.length):(d.getD n ([],[],())).2.1.length<=1000:=h.2 _ (getD_mem hn)
end Go.Proofs.Tryz
