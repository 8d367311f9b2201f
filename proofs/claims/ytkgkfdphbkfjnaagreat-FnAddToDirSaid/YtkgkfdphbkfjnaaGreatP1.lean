import Derived.Test.YtkgkfdphbkfjnaaGreatV1
import Derived.Test.YtkgkfdphbkfjnaaGreatSp
import Derived.Test.YtkgkfdphbkfjnaaGreatV2
import Derived.Test.YtkgkfdphbkfjnaaGreatFwC
namespace Go.Proofs.Tryz
open Go Go.Fw Go.IntWalk Sp
theorem aqg(x y:Int)(m:Nat)(hm:m<9223372036854775807)(hy:(BitVec.ofInt 64 y).toNat=m):0<=bitsOf .and .i64 x y/\bitsOf .and .i64 x y<=m:=by
 have h:(BitVec.ofInt 64 x&&&BitVec.ofInt 64 y).toNat<=m:=by rw[BitVec.toNat_and,hy];exact Nat.and_le_right
 show 0<=IntKind.i64.wrap ((BitVec.ofInt 64 x&&&BitVec.ofInt 64 y).toNat:Int)/\IntKind.i64.wrap ((BitVec.ofInt 64 x&&&BitVec.ofInt 64 y).toNat:Int)<=m;generalize (BitVec.ofInt 64 x&&&BitVec.ofInt 64 y).toNat=z at h ⊢;rw[fQ _ (by omega)];omega
theorem aqh(x:Int):0<=bitsOf .and .i64 x 255/\bitsOf .and .i64 x 255<=255:=aqg x 255 255 (by omega) (by decide)
theorem Vd:OK Eu.e:=by
 refine QA.ok mixed (ax [] trivial) akI (λ⟨_,⟨⟩⟩ _=>⟨([],0,0,()),rfl⟩) (by kernel_rfl) (show∀code,Eu.goal (aiG code) (code,())from ?_);intro code hin hp;dsimp only[Eu]at hp ⊢;have hp:code.length<=1048576:=hp;refine⟨λy=>∃n:Nat,y.1.2.1=n/\n<=code.length,λy=>((code.length:Int)-y.1.2.1).toNat,⟨0,rfl,by omega⟩,?_⟩;rintro⟨⟨h,_,⟨⟩⟩,⟨⟩⟩ ⟨n,rfl,hn⟩;dsimp only;refine af (λhc=>?_) λhc=>?_
 .simp only[axa]at hc;cases decide ((n:Int)<4000)with
  |false=>exact rfl
  |true=>
   have e:IntKind.i64.wrap ((n:Int)+1)=((n+1:Nat):Int):=fQ _ (by omega);refine⟨?_,?_,?_,?_⟩
   .exact⟨by omega,hc⟩
   .exact rfl
   .exact⟨n+1,e,by omega⟩
   show((code.length:Int)-IntKind.i64.wrap ((n:Int)+1)).toNat<((code.length:Int)-n).toNat;rw[e];omega
 .exact rfl
theorem agn:OK Gp.e:=by
 refine XA.ok mixed (ax [] trivial) H0 (λ_ _=>⟨(((0:Int),()),(([],0,0,()),())),⟨by decide,by decide,by decide⟩⟩) (by kernel_rfl) (show∀c0 c1 c2,Gp.goal (agp c0 c1 c2) ((c0,c1,c2,()),())from ?_);intro b i h hin hp;dsimp only[Gp]at hp ⊢;have hp:0<=i:=hp;refine⟨by decide,by decide,af (λhc=>?_) λhc=>?_⟩<;>simp only[axa,axK]at hc
 .have hl:b.length<=maxLen:=hin.1.1.1;rw[maxLen_eq]at hl;refine⟨⟨hp,hc⟩,?_,aqh _⟩;show 0<=IntKind.i64.wrap (i+1);rw[fQ _ (by omega)];omega
 .exact⟨hp,aqh _⟩
theorem tmod_lt{a n:Int}(ha:0<=a)(hn:0<n):0<=a.tmod n/\a.tmod n<n:=⟨azM n ha,Int.tmod_lt_of_pos a hn⟩
theorem eG:OK dL.e:=by
 refine XA.ok mixed (ax [Gp.e] ⟨agn,trivial⟩) H0 (λ⟨_,n,⟨⟩⟩ _=>⟨(((0:Int),()),(([],0,0,()),())),⟨axm _,axm _,λh=>h,λ_=>rfl⟩⟩) (by kernel_rfl) (show∀c0 c1 c2 n,dL.goal (aeu c0 c1 c2 n) ((c0,c1,c2,()),n,())from ?_);intro b i h n hin hp;dsimp only[dL]at hp ⊢;have hp:0<=i:=hp;refine af (λhc=>?_) λhc=>?_<;>simp only[axa,axK]at hc
 .exact⟨hp,axm _,λh=>(by omega),λ_=>rfl⟩
 .refine af (λhc2=>?_) λhc2=>?_
  .refine⟨hp,?_⟩;rintro⟨⟨x,⟨⟩⟩,⟨b',i',h',⟨⟩⟩,⟨⟩⟩ ⟨h1,h2,h3⟩;dsimp only at h1 h2 h3 ⊢;have:=tmod_lt h2 (show 0<n by omega);exact⟨by omega,h1,this.1,λ_=>this.2,λh=>(by omega)⟩
  .refine⟨hp,?_⟩;rintro⟨⟨x1,⟨⟩⟩,⟨b1,i1,g1,⟨⟩⟩,⟨⟩⟩ ⟨h1,h2,h3⟩;refine⟨h1,?_⟩;rintro⟨⟨x2,⟨⟩⟩,⟨b2,i2,g2,⟨⟩⟩,⟨⟩⟩ ⟨k1,k2,k3⟩;refine⟨k1,?_⟩;rintro⟨⟨x3,⟨⟩⟩,⟨b3,i3,g3,⟨⟩⟩,⟨⟩⟩ ⟨l1,l2,l3⟩;refine⟨l1,?_⟩;rintro⟨⟨x4,⟨⟩⟩,⟨b4,i4,g4,⟨⟩⟩,⟨⟩⟩ ⟨m1,m2,m3⟩;dsimp only at*;rw[fQ (x1*16777216) (by omega),fQ (x2*65536) (by omega),fQ (x3*256) (by omega),fQ (x1*16777216+x2*65536) (by omega),fQ (x1*16777216+x2*65536+x3*256) (by omega),fQ (x1*16777216+x2*65536+x3*256+x4) (by omega)];have:=tmod_lt (a:=x1*16777216+x2*65536+x3*256+x4) (n:=n) (by omega) (by omega);exact⟨by omega,m1,this.1,λ_=>this.2,λh=>(by omega)⟩
theorem Ar:OK mP.e:=by refine XA.ok mixed (ax [dL.e] ⟨eG,trivial⟩) H0 (λ_ _=>⟨((false,()),(([],0,0,()),())),axm _⟩) (by kernel_rfl) (show∀c0 c1 c2 n,mP.goal (agq c0 c1 c2 n) ((c0,c1,c2,()),n,())from ?_);intro b i h n hin hp;dsimp only[mP]at hp ⊢;refine⟨hp,?_⟩;rintro⟨⟨x,⟨⟩⟩,⟨b',i',h',⟨⟩⟩,⟨⟩⟩ ⟨h1,_⟩;exact h1
theorem kN:OK jo.e:=by refine XA.ok mixed (ax [dL.e] ⟨eG,trivial⟩) H0 (λ⟨_,l,⟨⟩⟩⟨_,hl⟩=>(match l,hl with|x::_,_=>⟨((x.1,()),(([],0,0,()),())),⟨axm _,awW⟩⟩)) (by kernel_rfl) (show∀c0 c1 c2 list,jo.goal (agr c0 c1 c2 list) ((c0,c1,c2,()),list,())from ?_);intro b i h l hin hp;dsimp only[jo]at hp ⊢;obtain⟨hp,hl⟩:=hp;have hpos:0<l.length:=azr.2 hl;refine⟨hp,?_⟩;rintro⟨⟨x,⟨⟩⟩,⟨b',i',h',⟨⟩⟩,⟨⟩⟩ ⟨h1,h2,h3,_⟩;have h3:x<(l.length:Int):=h3 (by omega);refine⟨⟨h2,h3⟩,h1,?_⟩;exact getD_mem (by dsimp only at h2;omega)
theorem pY:OK kE.e:=by refine XA.ok mixed (ax [dL.e] ⟨eG,trivial⟩) H0 (λ⟨_,l,⟨⟩⟩⟨_,hl⟩=>(match l,hl with|x::_,_=>⟨((x.1,()),(([],0,0,()),())),⟨axm _,awW⟩⟩)) (by kernel_rfl) (show∀c0 c1 c2 list,kE.goal (aaq c0 c1 c2 list) ((c0,c1,c2,()),list,())from ?_);intro b i h l hin hp;dsimp only[kE]at hp ⊢;obtain⟨hp,hl⟩:=hp;have hpos:0<l.length:=azr.2 hl;refine⟨hp,?_⟩;rintro⟨⟨x,⟨⟩⟩,⟨b',i',h',⟨⟩⟩,⟨⟩⟩ ⟨h1,h2,h3,_⟩;have h3:x<(l.length:Int):=h3 (by omega);refine⟨⟨h2,h3⟩,h1,?_⟩;exact getD_mem (by dsimp only at h2;omega)
theorem Qu:OK zA.e:=by refine XA.ok mixed (ax [] trivial) ags (λ_ _=>⟨((Sp.usual,()),()),rfl⟩) (by kernel_rfl) (show zA.goal (aev) (())from ?_);intro hin hp;dsimp only[zA]at hp ⊢;exact rfl
theorem SG:OK BV.e:=by refine XA.ok mixed (ax [jo.e] ⟨kN,trivial⟩) H0 (λ_ _=>⟨(([],()),(([],0,0,()),())),⟨by decide,by decide⟩⟩) (by kernel_rfl) (show∀c0 c1 c2,BV.goal (agt c0 c1 c2) ((c0,c1,c2,()),())from ?_);intro b i h hin hp;dsimp only[BV]at hp ⊢;refine⟨⟨hp,by simp⟩,?_⟩;rintro⟨⟨x,⟨⟩⟩,⟨b',i',h',⟨⟩⟩,⟨⟩⟩ ⟨h1,h2⟩;refine⟨h1,?_⟩;exact(show∀y∈_,List.length y.1<=1 from by decide) _ h2
theorem aar:Sp.usual.length=4:=rfl
theorem aiH:OK IW.e:=by
 refine XA.ok mixed (ax [jo.e,BV.e,dL.e,zA.e] ⟨kN,SG,eG,Qu,trivial⟩) akJ (λ_ _=>⟨(([],()),(([],0,0,()),())),⟨by decide,by decide⟩⟩) (by kernel_rfl) (show∀c0 c1 c2,IW.goal (aiI c0 c1 c2) ((c0,c1,c2,()),())from ?_);intro b i h hin hp;dsimp only[IW]at hp ⊢;have hp:0<=i:=hp;refine⟨trivial,?_⟩;rintro⟨⟨_,⟨⟩⟩,⟨⟩⟩ rfl;dsimp only
 repeat' first
  |exact trivial
  |refine af (λ_=>?_) λ_=>?_
  |refine And.intro ?_ ?_
  |(intro r hr;simp only[]at hr)
  |intro r hr
 all_goals first
  |omega
  |(dsimp only at*;omega)
  |exact hr
  |(simp only[awJ,ne_eq]at*;omega)
  |(simp only[aw5,awK,awN,awL,awP,aar];omega)
  |(rw[bM];simp only[aw5,awK,awN,awL,awP,aar];omega)
  |(simp only[aw5,awK,awN,awL,awP,aar]at*;omega)
  |exact(show∀y∈_,List.length y.1<=10 from by decide) _ hr.2
  |(simp;done)
  |skip
theorem Jr:OK uH.e:=by refine PA.ok mixed (ax [] trivial) H0 (by kernel_rfl) (show∀n,uH.goal (aew n) (n,())from ?_);intro n hin hp;dsimp only[uH]at hp ⊢;exact rfl
theorem yR:OK lY.e:=by refine PA.ok mixed (ax [] trivial) H0 (by kernel_rfl) (show∀w,lY.goal (YE w) (w,())from ?_);intro n hin hp;dsimp only[lY]at hp ⊢;exact rfl
theorem aex:OK Fq.e:=by
 refine XA.ok mixed (ax [lY.e,jo.e,uH.e,dL.e] ⟨yR,kN,Jr,eG,trivial⟩) H0 (λ_ _=>⟨((((0:Int),(0:Int),([]:List UInt8),()),()),(([],0,0,()),())),⟨by decide,by decide⟩⟩) (by kernel_rfl) (show∀c0 c1 c2,Fq.goal (aey c0 c1 c2) ((c0,c1,c2,()),())from ?_);intro b i h hin hp;dsimp only[Fq]at hp ⊢;have hp:0<=i:=hp
 repeat' first
  |exact trivial
  |refine af (λ_=>?_) λ_=>?_
  |refine And.intro ?_ ?_
  |(intro r hr;simp only[]at hr)
  |intro r hr
 all_goals first
  |omega
  |(dsimp only at*;omega)
  |exact hr
  |(simp only[awJ,ne_eq]at*;omega)
  |(simp only[aw5,awK,awN,awL,awP];omega)
  |(rw[bM];simp only[aw5,awK,awN,awL,awP];omega)
  |(simp only[aw5,awK,awN,awL,awP]at*;omega)
  |exact(show∀y∈_,List.length y.1<=10 from by decide) _ hr.2
  |(simp;done)
  |skip
theorem Ve:OK Ew.e:=by
 refine XA.ok mixed (ax [jo.e,kE.e,dL.e,Fq.e] ⟨kN,pY,eG,aex,trivial⟩) H0 (λ_ _=>⟨((((0:Int),(0:Int),([]:List UInt8),()),()),(([],0,0,()),())),⟨by decide,by decide⟩⟩) (by kernel_rfl) (show∀c0 c1 c2,Ew.goal (aiJ c0 c1 c2) ((c0,c1,c2,()),())from ?_);intro b i h hin hp;dsimp only[Ew]at hp ⊢;have hp:0<=i:=hp
 repeat' first
  |exact trivial
  |refine af (λ_=>?_) λ_=>?_
  |refine And.intro ?_ ?_
  |(intro r hr;simp only[]at hr)
  |intro r hr
 all_goals first
  |omega
  |(dsimp only at*;omega)
  |exact hr
  |(simp only[awJ,ne_eq]at*;omega)
  |(simp only[aw5,awK,awN,awL,awP];omega)
  |(rw[bM];simp only[aw5,awK,awN,awL,awP];omega)
  |(simp only[aw5,awK,awN,awL,awP]at*;omega)
  |exact(show∀y∈_,List.length y.1<=10 from by decide) _ hr.2
  |(simp;done)
  |skip
theorem jJ:OK jb.e:=by
 refine PA.ok mixed (ax [] trivial) H0 (by kernel_rfl) (show∀JM least most,jb.goal (akK JM least most) (JM,least,most,())from ?_);intro x a b hin hp;dsimp only[jb]at hp ⊢;refine af (λh=>?_) λh=>?_
 .have h:=gI h;show(decide (x<=b),())=(decide (a<=x)&&decide (x<=b),());rw[awS (show a<=x from h)];rfl
 .have h:=gZ h;show(false,())=(decide (a<=x)&&decide (x<=b),());rw[awT (show ¬a<=x from h)];rfl
theorem sQ:OK mG.e:=by
 refine PA.ok mixed (ax [] trivial) H0 (by kernel_rfl) (show∀n low high,mG.goal (aiK n low high) (n,low,high,())from ?_);intro x a b hin hp;dsimp only[mG]at hp ⊢;refine af (λh=>?_) λh=>?_
 .show(decide (x<=b),())=(decide (a<=x)&&decide (x<=b),());rw[h];rfl
 .show(false,())=(decide (a<=x)&&decide (x<=b),());rw[h];rfl
theorem Pe{s:List UInt8}{n:Nat}(hlt:n<s.length)(hl:Sp.lower s=true):97<=(s.getD n 0).toNat/\(s.getD n 0).toNat<=122:=by have:=axb.1 hl _ (getD_mem (d:=0) hlt);simpa using this
theorem SH:OK BZ.e:=by
 refine PA.ok mixed (ax [jb.e] ⟨jJ,trivial⟩) aiL (by kernel_rfl) (show∀s most,BZ.goal (agu s most) (s,most,())from ?_);intro s most hin hp;dsimp only[BZ]at hp ⊢;have hlen:s.length<=maxLen:=hin.1;rw[maxLen_eq]at hlen;refine⟨λy=>∃n:Nat,y.1.1=n/\n<=s.length/\Sp.lower (s.take n)=true,λy=>((s.length:Int)-y.1.1).toNat,⟨0,rfl,by omega,rfl⟩,?_⟩;rintro⟨⟨_,⟨⟩⟩,⟨⟩⟩ ⟨n,rfl,hn,hJ⟩;dsimp only;refine af (λh=>?_) λh=>?_<;>simp only[axa,axK]at h
 .have hlt:n<s.length:=by omega
  rw[fQ _ (by omega),awO];refine⟨⟨by omega,by omega⟩,af (λh2=>?_) λh2=>⟨⟨by omega,by omega⟩,af (λh3=>?_) λh3=>?_⟩⟩<;>simp only[axa,axK]at*
  .cases hl:Sp.lower s with
   |false=>rfl
   |true=>have:=Pe hlt hl;omega
  .cases hl:Sp.lower s with
   |false=>rfl
   |true=>have:=Pe hlt hl;omega
  .refine⟨rfl,⟨n+1,by simp,by omega,?_⟩,by dsimp only;omega⟩;rw[Sp.take_succ' s n 0 hlt];unfold Sp.lower at hJ ⊢;rw[List.all_append,hJ];simp only[axR,azJ,ayE,ay1,awG,axa];omega
 .have hge:n=s.length:=by omega
  rw[hge,aw0]at hJ;rw[hJ];exact⟨trivial,rfl⟩
theorem Dl:OK mQ.e:=by refine PA.ok mixed (ax [BZ.e] ⟨SH,trivial⟩) H0 (by kernel_rfl) (show∀s,mQ.goal (Vf s) (s,())from ?_);intro s hin hp;dsimp only[mQ]at hp ⊢;exact⟨trivial,rfl⟩
theorem KP:OK rH.e:=by
 refine PA.ok mixed (ax [mQ.e,jb.e] ⟨Dl,jJ,trivial⟩) H0 (by kernel_rfl) (show∀v0 v1 v2,rH.goal (WL v0 v1 v2) ((v0,v1,v2,()),())from ?_);intro k n s hin hp;dsimp only[rH]at hp ⊢;refine af (λh=>?_) λh=>af (λh2=>⟨trivial,af (λh3=>?_) λh3=>?_⟩) λh2=>af (λh3=>⟨trivial,af (λh4=>?_) λh4=>?_⟩) λh3=>?_
 .have e:k=0:=by simpa using h
  subst e;exact congrArg (·,()) (aw6.2 (by simp[kH]))
 .have e:k=1:=by simpa using h2
  subst e;exact congrArg (·,()) (aw6.2 (by simp only[awG,axa]at h3;simp[kH,h3]))
 .have e:k=1:=by simpa using h2
  subst e;exact congrArg (·,()) (aw6.2 (by simp only[kH,h3];simp))
 .have e:k=2:=by simpa using h3
  subst e;exact congrArg (·,()) (aw6.2 (by simp[kH,h4]))
 .have e:k=2:=by simpa using h3
  subst e;exact congrArg (·,()) (aw6.2 (by simp[kH,h4]))
 .have e1:k≠0:=by simpa using h
  have e2:k≠1:=by simpa using h2
  have e3:k≠2:=by simpa using h3
  exact congrArg (·,()) (aw6.2 (by simp[kH,e1,e2,e3]))
theorem Ho:OK ou.e:=by refine PA.ok mixed (ax [BZ.e] ⟨SH,trivial⟩) H0 (by kernel_rfl) (show∀s,ou.goal (Rq s) (s,())from ?_);intro s hin hp;dsimp only[ou]at hp ⊢;exact⟨trivial,rfl⟩
theorem aco:OK DN.e:=by
 refine PA.ok mixed (ax [] trivial) aez (by kernel_rfl) (show∀s name,DN.goal (acp s name) (s,name,())from ?_);intro s name hin hp;dsimp only[DN]at hp ⊢;have hlen:s.length<=maxLen:=hin.1.1;rw[maxLen_eq]at hlen;refine jd s.length hlen (λn=>∀i,i<n->(s.getD i ([],0,())).1≠name) (λi hi=>by omega) (λI μ n hn hJ next=>?_) λI μ hJ=>?_
 .dsimp only;refine bU (by omega) ⟨⟨by omega,by omega⟩,af (λh=>⟨⟨by omega,by omega⟩,?_⟩) λh=>⟨rfl,next λi hi=>?_⟩⟩
  .exact congrArg (·,()) (aas s n hn hJ (by simpa only[awO,awQ]using h)).symm
  .rcases awZ i n with h'|h'
   .exact hJ i h'
   .have:i=n:=by omega
    subst this;have h2:((s.getD i ([],0,())).1==name)=false:=h;exactλe=>by rw[e]at h2;simp at h2
 .dsimp only;exact bV (by omega) (congrArg (·,()) (TV s hJ).symm)
theorem JO:OK qo.e:=by
 refine PA.ok mixed (ax [jb.e,ou.e] ⟨jJ,Ho,trivial⟩) WM (by kernel_rfl) (show∀s,qo.goal (Vg s) (s,())from ?_);intro s hin hp;dsimp only[qo]at hp ⊢;have hlen:s.length<=maxLen:=hin.1.1;rw[maxLen_eq]at hlen;refine jd s.length hlen (λn=>∀i,i<n->lI s i=true) (λi hi=>by omega) (λI μ n hn hJ next=>?_) λI μ hJ=>?_
 .dsimp only;have no:lI s n=false->(false,())=(fO s,()):=λh=>by rw[adJ hn h]
  refine bU (by omega) ⟨⟨by omega,by omega⟩,trivial,af (λh2=>no ?_) λh2=>⟨⟨by omega,by omega⟩,trivial,af (λh3=>no ?_) λh3=>af (λh4=>?_) λh4=>⟨rfl,next (eY hJ ?_)⟩⟩⟩
  .have h2:jY (Sp.fieldAt s n).1=false:=dX h2;unfold lI;rw[h2];rfl
  .have h2:jY (Sp.fieldAt s n).1=true:=dw h2;have h3:(decide (1<=(Sp.fieldAt s n).2.1)&&decide ((Sp.fieldAt s n).2.1<=2))=false:=dX h3;unfold lI;rw[h2,h3];rfl
  .have h2:jY (Sp.fieldAt s n).1=true:=dw h2;have h3:(decide (1<=(Sp.fieldAt s n).2.1)&&decide ((Sp.fieldAt s n).2.1<=2))=true:=dw h3;have h4:0<n:=by have:=gI h4;omega
   rw[xA h4 (by omega)];refine⟨⟨by omega,by omega⟩,⟨by omega,by omega⟩,af (λh5=>no ?_) λh5=>⟨rfl,next (eY hJ ?_)⟩⟩
   .have h5:Op.bytesLess (Sp.fieldAt s (n-1)).1 (Sp.fieldAt s n).1=false:=dX h5;unfold lI;rw[h2,h3,h5,awS h4];rfl
   .have h5:Op.bytesLess (Sp.fieldAt s (n-1)).1 (Sp.fieldAt s n).1=true:=dw h5;unfold lI;rw[h2,h3,h5,awS h4];rfl
  .have h2:jY (Sp.fieldAt s n).1=true:=dw h2;have h3:(decide (1<=(Sp.fieldAt s n).2.1)&&decide ((Sp.fieldAt s n).2.1<=2))=true:=dw h3;have h4:¬0<n:=by have:=gZ h4;omega
   unfold lI;rw[h2,h3,awT h4];rfl
 .dsimp only;refine bV (by omega) (congrArg (·,()) ?_);unfold fO;rw[mr hJ];rfl
theorem Vh:OK wu.e:=by
 refine PA.ok mixed (ax [DN.e,rH.e] ⟨aco,KP,trivial⟩) H0 (by kernel_rfl) (show∀s name v0 v1 v2,wu.goal (Vj s name v0 v1 v2) (s,name,(v0,v1,v2,()),())from ?_);intro fs s k n w hin hp;dsimp only[wu]at hp ⊢;refine⟨trivial,af (λh=>af (λh2=>⟨trivial,?_⟩) λh2=>?_) λh=>?_⟩
 .exact congrArg (·,()) (aw6.2 (by simp only[ayI,ne_eq]at h2;simp[iL,h,h2]))
 .exact congrArg (·,()) (aw6.2 (by simp at h2;simp[iL,h2]))
 .exact congrArg (·,()) (aw6.2 (by simp[iL,h]))
theorem Fh:OK o9.e:=by
 refine PA.ok mixed (ax [jb.e,qo.e,wu.e] ⟨jJ,JO,Vh,trivial⟩) aat (by kernel_rfl) (show∀s f0 f1 f2 f3 f4,o9.goal (YF s f0 f1 f2 f3 f4) (s,(f0,f1,f2,f3,f4,()),())from ?_);intro fs f0 f1 f2 f3 f4 hin hp;dsimp only[o9]at hp ⊢;have hlen:f4.length<=maxLen:=hin.2.1.2.2.2.2.1.1;rw[maxLen_eq]at hlen;refine jd f4.length hlen (λn=>∀i,i<n->kK fs f4 i=true) (λi hi=>by omega) (λI μ n hn hJ next=>?_) λI μ hJ=>?_
 .dsimp only;have no:kK fs f4 n=false->(false,())=(bT fs (f0,f1,f2,f3,f4,()),()):=λh=>by rw[akb (f:=(f0,f1,f2,f3,f4,())) hn h]
  refine bU (by omega) ⟨⟨by omega,by omega⟩,⟨by omega,by omega⟩,trivial,af (λh2=>no ?_) λh2=>af (λh4=>?_) λh4=>⟨rfl,next (eY hJ ?_)⟩⟩
  .have h2:iL fs (cu f4 n).1 (cu f4 n).2.1 (cu f4 n).2.2.1 (cu f4 n).2.2.2.1=false:=dX h2;unfold kK;rw[h2];rfl
  .have h2:iL fs (cu f4 n).1 (cu f4 n).2.1 (cu f4 n).2.2.1 (cu f4 n).2.2.2.1=true:=dw h2;have h4:0<n:=by have:=gI h4;omega
   rw[xA h4 (by omega)];refine⟨⟨by omega,by omega⟩,⟨by omega,by omega⟩,af (λh5=>no ?_) λh5=>⟨rfl,next (eY hJ ?_)⟩⟩
   .have h5:Op.bytesLess (cu f4 (n-1)).1 (cu f4 n).1=false:=dX h5;unfold kK;rw[h2,h5,awS h4];rfl
   .have h5:Op.bytesLess (cu f4 (n-1)).1 (cu f4 n).1=true:=dw h5;unfold kK;rw[h2,h5,awS h4];rfl
  .have h2:iL fs (cu f4 n).1 (cu f4 n).2.1 (cu f4 n).2.2.1 (cu f4 n).2.2.2.1=true:=dw h2;have h4:¬0<n:=by have:=gZ h4;omega
   unfold kK;rw[h2,awT h4];rfl
 .dsimp only;have ha:iy fs f4=true:=mr hJ;refine bV (by omega) ⟨trivial,af (λh1=>⟨trivial,af (λh2=>⟨trivial,af (λh3=>⟨trivial,?_⟩) λh3=>?_⟩) λh2=>?_⟩) λh1=>?_⟩
  .refine congrArg (·,()) ?_;unfold bT;rw[ha,h1,h2,h3];rfl
  .refine congrArg (·,()) ?_;unfold bT;rw[ha,h1,h2,h3];rfl
  .refine congrArg (·,()) ?_;unfold bT;rw[ha,h1,h2];rfl
  .refine congrArg (·,()) ?_;unfold bT;rw[ha,h1];rfl
theorem ni:OK jB.e:=by
 refine PA.ok mixed (ax [jb.e,qo.e,o9.e] ⟨jJ,JO,Fh,trivial⟩) YG (by kernel_rfl) (show∀s0 s1 s2,jB.goal (WN s0 s1 s2) ((s0,s1,s2,()),())from ?_);intro s0 s1 s2 hin hp;dsimp only[jB]at hp ⊢;have hlen:s1.length<=maxLen:=hin.1.2.1.1;rw[maxLen_eq]at hlen;refine jd s1.length hlen (λn=>∀i,i<n->kW (s0,s1,s2,()) i=true) (λi hi=>by omega) (λI μ n hn hJ next=>?_) λI μ hJ=>?_
 .dsimp only;have no:kW (s0,s1,s2,()) n=false->(false,())=(aC (s0,s1,s2,()),()):=λh=>by rw[agv (s:=(s0,s1,s2,())) hn h]
  refine bU (by omega) ⟨⟨by omega,by omega⟩,trivial,af (λh2=>no ?_) λh2=>⟨⟨by omega,by omega⟩,af (λh3=>no ?_) λh3=>af (λh4=>?_) λh4=>⟨rfl,next (eY hJ ?_)⟩⟩⟩
  .have h2:bT s0 (Sp.fileAt s1 n)=false:=dX h2;show(bT s0 (Sp.fileAt s1 n)&&_&&_)=false;rw[h2];rfl
  .have h2:bT s0 (Sp.fileAt s1 n)=true:=dw h2;have h3:¬(Sp.fileAt s1 n).1<s2:=by have h3:(Sp.fileAt s1 n).1>=s2:=gI h3;omega
   show(bT s0 (Sp.fileAt s1 n)&&decide ((Sp.fileAt s1 n).1<s2)&&_)=false;rw[h2,awT h3];rfl
  .have h2:bT s0 (Sp.fileAt s1 n)=true:=dw h2;have h3:(Sp.fileAt s1 n).1<s2:=by have h3:¬(Sp.fileAt s1 n).1>=s2:=gZ h3;omega
   have h4:0<n:=by have:=gI h4;omega
   rw[xA h4 (by omega)];refine⟨⟨by omega,by omega⟩,⟨by omega,by omega⟩,af (λh5=>no ?_) λh5=>⟨rfl,next (eY hJ ?_)⟩⟩
   .have h5:¬(Sp.fileAt s1 (n-1)).1<(Sp.fileAt s1 n).1:=by have h5:(Sp.fileAt s1 (n-1)).1>=(Sp.fileAt s1 n).1:=gI h5;omega
    show(bT s0 (Sp.fileAt s1 n)&&decide ((Sp.fileAt s1 n).1<s2)&&!(decide (0<n)&&!decide ((Sp.fileAt s1 (n-1)).1<(Sp.fileAt s1 n).1)))=false;rw[h2,awS h3,awS h4,awT h5];rfl
   .have h5:(Sp.fileAt s1 (n-1)).1<(Sp.fileAt s1 n).1:=by have h5:¬(Sp.fileAt s1 (n-1)).1>=(Sp.fileAt s1 n).1:=gZ h5;omega
    show(bT s0 (Sp.fileAt s1 n)&&decide ((Sp.fileAt s1 n).1<s2)&&!(decide (0<n)&&!decide ((Sp.fileAt s1 (n-1)).1<(Sp.fileAt s1 n).1)))=true;rw[h2,awS h3,awS h4,awS h5];rfl
  .have h2:bT s0 (Sp.fileAt s1 n)=true:=dw h2;have h3:(Sp.fileAt s1 n).1<s2:=by have h3:¬(Sp.fileAt s1 n).1>=s2:=gZ h3;omega
   have h4:¬0<n:=by have:=gZ h4;omega
   show(bT s0 (Sp.fileAt s1 n)&&decide ((Sp.fileAt s1 n).1<s2)&&!(decide (0<n)&&!decide ((Sp.fileAt s1 (n-1)).1<(Sp.fileAt s1 n).1)))=true;rw[h2,awS h3,awT h4];rfl
 .dsimp only;have ha:jK s1.length (kW (s0,s1,s2,()))=true:=mr hJ;refine bV (by omega) ⟨trivial,af (λh1=>af (λh2=>⟨trivial,?_⟩) λh2=>?_) λh1=>?_⟩
  .refine congrArg (·,()) ?_;show _=(jK s1.length (kW (s0,s1,s2,()))&&fO s0&&decide ((s1.length:Int)<=12)&&(decide (1<=s2)&&decide (s2<=61)));rw[ha,h1,h2];rfl
  .refine congrArg (·,()) ?_;show _=(jK s1.length (kW (s0,s1,s2,()))&&fO s0&&decide ((s1.length:Int)<=12)&&(decide (1<=s2)&&decide (s2<=61)));rw[ha,h1,h2];rfl
  .refine congrArg (·,()) ?_;show _=(jK s1.length (kW (s0,s1,s2,()))&&fO s0&&decide ((s1.length:Int)<=12)&&(decide (1<=s2)&&decide (s2<=61)));rw[ha,h1];rfl
theorem aau:OK Bo.e:=by
 refine PA.ok mixed (ax [] trivial) acr (by kernel_rfl) (show∀a b,Bo.goal (aav a b) (a,b,())from ?_);intro a b hin hp;dsimp only[Bo]at hp ⊢;have hlen:a.length<=maxLen:=hin.1.1;rw[maxLen_eq]at hlen;refine af (λh=>?_) λh=>?_
 .have h:(a.length:Int)≠b.length:=by simpa using h
  exact congrArg (·,()) (awT λe=>h (by rw[e])).symm
 .have h:(a.length:Int)=b.length:=by simpa using h
  exact Vk (K:=λr=>r=(decide (a=b),())) (λx y=>!(x.1==y.1&&(x.2.1==y.2.1&&true))) (λx y=>by simp[ayu]) _ a b _ hlen (by omega) (λe=>by rw[awT e]) λe=>by rw[awS e]
theorem OC:OK xK.e:=by
 refine PA.ok mixed (ax [] trivial) aeA (by kernel_rfl) (show∀a b,xK.goal (acs a b) (a,b,())from ?_);intro a b hin hp;dsimp only[xK]at hp ⊢;have hlen:a.length<=maxLen:=hin.1.1;rw[maxLen_eq]at hlen;refine af (λh=>?_) λh=>?_
 .have h:(a.length:Int)≠b.length:=by simpa using h
  exact congrArg (·,()) (awT λe=>h (by rw[e])).symm
 .have h:(a.length:Int)=b.length:=by simpa using h
  exact Vk (K:=λr=>r=(decide (a=b),())) (λx y=>!(x.1==y.1&&(x.2.1==y.2.1&&(x.2.2.1==y.2.2.1&&(x.2.2.2.1==y.2.2.2.1&&true))))) (λx y=>by simp[ayu]) _ a b _ hlen (by omega) (λe=>by rw[awT e]) λe=>by rw[awS e]
theorem aeB:OK Fv.e:=by
 refine PA.ok mixed (ax [xK.e] ⟨OC,trivial⟩) H0 (by kernel_rfl) (show∀a0 a1 a2 a3 a4 b0 b1 b2 b3 b4,Fv.goal (aeC a0 a1 a2 a3 a4 b0 b1 b2 b3 b4) ((a0,a1,a2,a3,a4,()),(b0,b1,b2,b3,b4,()),())from ?_);intro a0 a1 a2 a3 a4 b0 b1 b2 b3 b4 hin hp;dsimp only[Fv]at hp ⊢;refine af (λh0=>af (λh1=>af (λh2=>af (λh3=>⟨trivial,?_⟩) λh3=>?_) λh2=>?_) λh1=>?_) λh0=>?_
 all_goals refine congrArg (·,()) (aw6.2 ?_)
 .simp only[awQ]at h0 h1 h2 h3;subst h0 h1 h2 h3;simp
 .have h3:a3≠b3:=by simpa using h3
  simp[h3]
 .have h2:a2≠b2:=by simpa using h2
  simp[h2]
 .have h1:a1≠b1:=by simpa using h1
  simp[h1]
 .have h0:a0≠b0:=by simpa using h0
  simp[h0]
theorem acu:OK DT.e:=by
 refine PA.ok mixed (ax [Fv.e] ⟨aeB,trivial⟩) aeD (by kernel_rfl) (show∀a b,DT.goal (acv a b) (a,b,())from ?_);intro a b hin hp;dsimp only[DT]at hp ⊢;have hlen:a.length<=maxLen:=hin.1.1;rw[maxLen_eq]at hlen;refine af (λh=>?_) λh=>?_
 .have h:(a.length:Int)≠b.length:=by simpa using h
  exact congrArg (·,()) (awT λe=>h (by rw[e])).symm
 .have h:(a.length:Int)=b.length:=by simpa using h
  exact aeE (K:=λr=>r=(decide (a=b),())) (λx y=>!decide ((x.1,x.2.1,x.2.2.1,x.2.2.2.1,x.2.2.2.2.1,())=(y.1,y.2.1,y.2.2.1,y.2.2.2.1,y.2.2.2.2.1,()))) (λx y=>by simp[ayu]) _ a b _ hlen (by omega) (λe=>by rw[awT e]) λe=>by rw[awS e]
theorem acw:OK DU.e:=by
 refine PA.ok mixed (ax [DT.e,Bo.e] ⟨acu,aau,trivial⟩) H0 (by kernel_rfl) (show∀a0 a1 a2 b0 b1 b2,DU.goal (acy a0 a1 a2 b0 b1 b2) ((a0,a1,a2,()),(b0,b1,b2,()),())from ?_);intro a0 a1 a2 b0 b1 b2 hin hp;dsimp only[DU]at hp ⊢;refine⟨trivial,af (λh0=>⟨trivial,af (λh1=>?_) λh1=>?_⟩) λh0=>?_⟩
 all_goals refine congrArg (·,()) (aw6.2 ?_)
 .have h0:=gI h0;have h1:=gI h1;subst h0 h1;simp
 .have h1:=gZ h1;simp[h1]
 .have h0:=gZ h0;simp[h0]
theorem ve:OK mW.e:=by refine PA.ok mixed (ax [] trivial) aiM (by kernel_rfl) (show∀f0 f1 f2 f3 f4,mW.goal (agw f0 f1 f2 f3 f4) ((f0,f1,f2,f3,f4,()),())from ?_);intro f0 f1 f2 f3 f4 hin hp;dsimp only[mW]at hp ⊢;have hp:f4.length<=1000:=hp;exact⟨by rw[bM];omega,rfl⟩
theorem EI:OK lQ.e:=by refine PA.ok mixed (ax [] trivial) Pg (by kernel_rfl) (show∀s,lQ.goal (Oi s) (s,())from ?_);intro l hin hp;dsimp only[lQ]at hp ⊢;intro g hg;have hp:l.length<=1000:=hp;refine af (λh=>?_) λh=>⟨by rw[bM];omega,rfl⟩;have:=axJ.1 (hg h);rw[this]
theorem Ph:OK qx.e:=by refine PA.ok mixed (ax [] trivial) Qv (by kernel_rfl) (show∀s,qx.goal (Pj s) (s,())from ?_);intro l hin hp;dsimp only[qx]at hp ⊢;intro g hg;have hp:l.length<=1000:=hp;refine af (λh=>?_) λh=>⟨by rw[bM];omega,rfl⟩;have:=axJ.1 (hg h);rw[this]
theorem yc:OK nM.e:=by refine PA.ok mixed (ax [qx.e] ⟨Ph,trivial⟩) agx (by kernel_rfl) (show∀f0 f1 f2 f3 f4,nM.goal (aeF f0 f1 f2 f3 f4) ((f0,f1,f2,f3,f4,()),())from ?_);intro f0 f1 f2 f3 f4 hin hp;dsimp only[nM]at hp ⊢;exact⟨hp,rfl⟩
theorem G9:OK vC.e:=by refine PA.ok mixed (ax [mG.e] ⟨sQ,trivial⟩) H0 (by kernel_rfl) (show∀n,vC.goal (aiN n) (n,())from ?_);intro n hin hp;dsimp only[vC]at hp ⊢;exact⟨trivial,rfl⟩
theorem Eg:OK qw.e:=by
 refine PA.ok mixed (ax [] trivial) agy (by kernel_rfl) (show∀s0 s1 s2 id,qw.goal (aeG s0 s1 s2 id) ((s0,s1,s2,()),id,())from ?_);intro s0 s1 s2 id hin hp;dsimp only[qw]at hp ⊢;have hlen:s1.length<=maxLen:=hin.1.2.1.1;rw[maxLen_eq]at hlen;refine jd s1.length hlen (λn=>∀i,i<n->(Sp.fileAt s1 i).1≠id) (λi hi=>by omega) (λI μ n hn hJ next=>?_) λI μ hJ=>?_
 .dsimp only;refine bU (by omega) ⟨⟨by omega,by omega⟩,af (λh=>?_) λh=>⟨rfl,next λi hi=>?_⟩⟩
  .have h:(Sp.fileAt s1 n).1=id:=gI h;exact congrArg (·,()) (Sp.MJ hn hJ h).symm
  .rcases awZ i n with h'|h'
   .exact hJ i h'
   .have:i=n:=by omega
    subst this;have h:¬(Sp.fileAt s1 i).1=id:=gZ h;exact h
 .dsimp only;exact bV (by omega) (congrArg (·,()) (WO hJ).symm)
theorem agz{s:List aF}{u:Int}{n:Nat}(hn:n<s.length):JC (s.take (n+1)) u=JC (s.take n) u++(if(Sp.fileAt s n).2.1=u then[((Sp.fileAt s n).1,())]else[]):=by
 unfold JC;rw[Sp.take_succ' s n (0,0,false,0,[],()) hn,ax1,axq];congr 1;show List.map _ (List.filter _ [Sp.fileAt s n])=_;by_cases h:(Sp.fileAt s n).2.1=u
 .rw[axF (by simpa using h),if_pos h];rfl
 .rw[axN (by simpa using h),if_neg h];rfl
theorem aqi(s:List aF)(u:Int):(JC s u).length<=s.length:=by unfold JC;rw[awV];exact aw8 ..
theorem Nk{s:List aF}(p:aF->Bool){n:Nat}(hn:n<s.length):(s.take (n+1)).filter p=(s.take n).filter p++(if p (Sp.fileAt s n)=true then[Sp.fileAt s n]else[]):=by
 rw[Sp.take_succ' s n (0,0,false,0,[],()) hn,ax1];congr 1;show List.filter _ [Sp.fileAt s n]=_;by_cases h:p (Sp.fileAt s n)=true
 .rw[axF h,if_pos h];rfl
 .rw[axN h,if_neg h];rfl
theorem SI(s:List aF)(p:aF->Bool)(n:Nat):((s.take n).filter p).length<=n:=by have:=aw8 p (s.take n);rw[awK]at this;omega
def jH(fs:List aF)(n:Nat):List aF:=(fs.take n).map (Sp.unlink fs)++fs.drop n
theorem F9(fs:List aF){n:Nat}(hn:n<=fs.length):(jH fs n).length=fs.length:=by unfold jH;rw[awN,awV,awK,axk];omega
theorem amh(fs:List aF)(n:Nat):(jH fs n).map (·.1)=fs.map (·.1):=by unfold jH;rw[axq,aye];have:((·.1) ∘ Sp.unlink fs:aF->Int)=(·.1):=rfl;rw[this,← axq,ax8]
theorem TW(fs:List aF){n:Nat}(hn:n<fs.length):(jH fs n).getD n (0,0,false,0,[],())=Sp.fileAt fs n:=by unfold jH Sp.fileAt;rw[awI,axc (by simp;omega),awV,awK,ayk (by omega),ayP,axj,ax4,← awI]
theorem Yx(fs:List aF){n:Nat}(hn:n<fs.length):jH fs (n+1)=(jH fs n).set n (Sp.unlink fs (Sp.fileAt fs n)):=by unfold jH;rw[drop_cons fs n (0,0,false,0,[],()) hn,Sp.take_succ' fs n (0,0,false,0,[],()) hn,axq,List.set_append_right _ _ (by simp;omega),awV,awK,ayk (by omega),ayP,List.set_cons_zero,axr];rfl
theorem set_self{fs:List aF}{n:Nat}(hn:n<fs.length):fs.set n (fs.getD n (0,0,false,0,[],()))=fs:=by
 refine ayU (by simp) λi h1 h2=>?_;rw[List.getElem_set];split
 .next e=>subst e;rw[awI,awM hn];rfl
 .rfl
theorem Jg(fs:List aF){n:Nat}(hn:n<fs.length):
 (Sp.place (jH fs n) (Sp.fileAt fs n).2.2.2.1<0->jH fs (n+1)=(jH fs n).set n ((Sp.fileAt fs n).1,(Sp.fileAt fs n).2.1,(Sp.fileAt fs n).2.2.1,0,(Sp.fileAt fs n).2.2.2.2.1,()))/\
 (¬Sp.place (jH fs n) (Sp.fileAt fs n).2.2.2.1<0->jH fs (n+1)=jH fs n):=by
 rw[aqj _ (amh fs n)];refine⟨λh=>?_,λh=>?_⟩
 .rw[Yx fs hn];unfold Sp.unlink;rw[awS h];rfl
 .rw[Yx fs hn];have e:Sp.unlink fs (Sp.fileAt fs n)=(jH fs n).getD n (0,0,false,0,[],()):=by rw[TW fs hn];unfold Sp.unlink;rw[awT h];rfl
  rw[e];exact set_self (by rw[F9 fs (by omega)];exact hn)
theorem aaw(fs:List aF):jH fs fs.length=fs.map (Sp.unlink fs):=by unfold jH;rw[aw0,azK,axB]
theorem Eh{s:List aQ}(p:aQ->Bool){n:Nat}(hn:n<s.length):(s.take (n+1)).filter p=(s.take n).filter p++(if p (cu s n)=true then[cu s n]else[]):=by
 rw[Sp.take_succ' s n ([],0,0,[],()) hn,ax1];congr 1;show List.filter _ [cu s n]=_;by_cases h:p (cu s n)=true
 .rw[axF h,if_pos h];rfl
 .rw[axN h,if_neg h];rfl
theorem SK(s:List aQ)(p:aQ->Bool)(n:Nat):((s.take n).filter p).length<=n:=by have:=aw8 p (s.take n);rw[awK]at this;omega
theorem aax(al:List aQ)(name:Sp.Bytes)(n:Int)(s:Sp.Bytes):dU al name 0 n s=al.filter (fV name):=rfl
theorem agA{al:List aQ}{name:Sp.Bytes}{k n:Int}{s:Sp.Bytes}(hk:k≠0){l:List aQ}(hl:l=al.filter (fV name)){m:Nat}(hm:m<=l.length)
 (h1:∀i,i<m->gJ name (cu l i)=true) (h2:m<l.length->gJ name (cu l m)=false):
 List.drop 0 (List.take m l)++[(name,k,n,s,())]++List.drop m (List.take l.length l)=dU al name k n s:=by
 obtain⟨e1,e2⟩:=Qw (d:=(([]:List UInt8),(0:Int),(0:Int),([]:List UInt8),())) l m hm h1 h2;unfold dU xB;rw[awT hk,← hl];show _=l.takeWhile (gJ name)++_::l.dropWhile (gJ name);rw[e1,e2,aw0,axU,axr];rfl
theorem SL:OK Cb.e:=by
 refine XA.ok mixed (ax [] trivial) aiO (λ⟨(i,o,s,l,a,_),name,(k,n,w,_),_⟩ _=>⟨(((i,o,s,l,dU a name k n w,()),()),()),⟨rfl,rfl,rfl,rfl,rfl⟩⟩) (by kernel_rfl) (show∀f0 f1 f2 f3 f4 name v0 v1 v2,Cb.goal (agB f0 f1 f2 f3 f4 name v0 v1 v2) ((f0,f1,f2,f3,f4,()),name,(v0,v1,v2,()),())from ?_);intro f0 f1 f2 f3 f4 name k n s hin hp;dsimp only[Cb]at hp ⊢;have hp:f4.length<=1000:=hp;refine bZ (λi(x:List aQ)=>(((),i,()),x,())) (λy=>y.1.2.1) (λ_ _=>rfl) f4.length (by omega) (λm l=>l=(f4.take m).filter (fV name)) (by simp) (λI μ m l hm hJ next=>?_) λI μ l hJ=>?_
 .subst hJ;have hl:=SK f4 (fV name) m;dsimp only;refine bU (by omega) ⟨⟨by omega,by omega⟩,af (λh=>⟨⟨by omega,by omega⟩,by rw[bM];simp only[awL,awP];omega,rfl,next _ ?_⟩) λh=>⟨rfl,next _ ?_⟩⟩
  .rw[Eh _ hm,if_pos (show fV name (cu f4 m)=true from h)];rfl
  .rw[Eh _ hm,if_neg (show ¬fV name (cu f4 m)=true fromλh'=>by have h:fV name (cu f4 m)=false:=h;rw[h]at h';cases h'),axB]
 .rw[aw0]at hJ;have hl:l.length<=1000:=by rw[hJ];have:=aw8 (fV name) f4;omega
  dsimp only;refine bV (by omega) (af (λh=>?_) λh=>?_)
  .have hk:k≠0:=by simpa using h
   have fin:∀m:Nat,m<=l.length->(∀i,i<m->gJ name (cu l i)=true)->(m<l.length->gJ name (cu l m)=false)->
    ((0:Int)<=m/\(m:Int)<=l.length)/\0+(List.drop 0 (List.take m l)).length<=big/\(List.drop 0 (List.take m l)).length+[(name,k,n,s,())].length<=big/\((0:Int)<=m/\(m:Int)<=l.length)/\
    (List.drop 0 (List.take m l)++[(name,k,n,s,())]).length+(List.drop m (List.take l.length l)).length<=big/\
    (f0=f0/\f1=f1/\f2=f2/\f3=f3/\List.drop 0 (List.take m l)++[(name,k,n,s,())]++List.drop m (List.take l.length l)=dU f4 name k n s):=by
    intro m hm h1 h2;refine⟨⟨by omega,by omega⟩,?_,?_,⟨by omega,by omega⟩,?_,rfl,rfl,rfl,rfl,agA hk hJ hm h1 h2⟩
    all_goals
     rw[bM];simp only[awN,axk,awK,awL,awP];omega
   refine jd l.length (by omega) (λm=>∀i,i<m->gJ name (cu l i)=true) (λi hi=>by omega) (λI μ m hm hJ2 next=>?_) λI μ hJ2=>?_
   .dsimp only;refine bU (by omega) ⟨⟨by omega,by omega⟩,hm,af (λh2=>⟨rfl,next (eY (f:=λi=>gJ name (cu l i)) hJ2 h2)⟩) λh2=>?_⟩;exact fin m (by omega) hJ2 λ_=>h2
   .dsimp only;exact bV (by omega) (fin l.length (awY _) hJ2 λh'=>by omega)
  .have hk:k=0:=by simpa using h
   subst hk;exact⟨rfl,rfl,rfl,rfl,by rw[aax];exact hJ⟩
theorem aeH:OK Fz.e:=by refine XA.ok mixed (ax [] trivial) agC (λ⟨s,_⟩ _=>⟨(((s,[],1,()),()),()),⟨rfl,rfl,rfl⟩⟩) (by kernel_rfl) (show∀s,Fz.goal (aeI s) (s,())from ?_);intro s hin hp;dsimp only[Fz]at hp ⊢;have hp:s.length<=1000:=hp;exact⟨by rw[bM];omega,rfl,rfl,rfl⟩
theorem Au:OK pq.e:=by
 refine XA.ok mixed (ax [mW.e] ⟨ve,trivial⟩) aiP (λ⟨(a,l,nx,_),_⟩ _=>⟨(((a,l,nx,()),()),()),rfl⟩) (by kernel_rfl) (show∀s0 s1 s2,pq.goal (agD s0 s1 s2) ((s0,s1,s2,()),())from ?_);intro s0 s1 s2 hin hp;dsimp only[pq]at hp ⊢;obtain⟨h0,h1,h2⟩:s0.length<=1000/\s1.length<=1000/\∀f∈s1,bY f:=hp;refine⟨by rw[bM];omega,?_⟩;refine bZ (λi(x:List aF)=>((i,()),((),(),s2,()),x,())) (λy=>y.1.1) (λ_ _=>rfl) s1.length (by omega) (λn l=>l=s1.take n) (by simp) (λI μ n l hn hJ next=>?_) λI μ l hJ=>?_
 .subst hJ;have hl:(s1.take n).length<=n:=by rw[awK];omega
  dsimp only;refine bU (by omega) ⟨⟨by omega,by omega⟩,h2 _ (getD_mem (d:=((0:Int),(0:Int),false,(0:Int),[],())) hn),by rw[bM];simp only[awL,awP];omega,rfl,next _ ?_⟩;exact(Sp.take_succ' s1 n (0,0,false,0,[],()) hn).symm
 .subst hJ;dsimp only;refine bV (by omega) ?_;rw[aw0]
theorem NP:OK vM.e:=by
 refine XA.ok mixed (ax [o9.e,jB.e,mW.e,pq.e] ⟨Fh,ni,ve,Au,trivial⟩) acz (λ⟨s,f,_⟩ _=>⟨((((dD s f).1.1,(dD s f).1.2.1,(dD s f).1.2.2.1,()),(dD s f).2.1,(dD s f).2.2,()),()),⟨rfl,rfl,rfl,rfl,rfl⟩⟩) (by kernel_rfl) (show∀s0 s1 s2 f0 f1 f2 f3 f4,vM.goal (aay s0 s1 s2 f0 f1 f2 f3 f4) ((s0,s1,s2,()),(f0,f1,f2,f3,f4,()),())from ?_);intro s0 s1 s2 f0 f1 f2 f3 f4 hin hp;dsimp only[vM]at hp ⊢;refine⟨hp.1,?_⟩;rintro⟨⟨⟨a,l,nx,⟨⟩⟩,⟨⟩⟩,⟨⟩⟩ e;obtain⟨rfl,rfl,rfl⟩:a=s0/\l=s1/\nx=s2:=by simpa using e
 have hs:l.length<=1000:=hp.1.2.1;have no:¬(aC (a,l,nx,())=true/\l.length<12/\bT a (nx,f1,f2,f3,f4,())=true)->dD (a,l,nx,()) (f0,f1,f2,f3,f4,())=((a,l,nx,()),0,false):=λh=>by
  rcases o5 (a,l,nx,()) (f0,f1,f2,f3,f4,())with⟨e,_⟩|⟨h1,h2,h3,_⟩
  .exact e
  .exact(h ⟨h1,h2,h3⟩).elim
 refine⟨hp.2,trivial,af (λh1=>?_) λh1=>af (λh2=>?_) λh2=>⟨trivial,af (λh3=>?_) λh3=>?_⟩⟩
 .have:=no λh=>by have h1:=dX h1;have:=h.1;rw[show aC (a,l,nx,())=false from h1]at this;cases this
  dsimp only;rw[this];exact⟨rfl,rfl,rfl,rfl,rfl⟩
 .have:=no λh=>by have h2:(l.length:Int)>=12:=gI h2;omega
  dsimp only;rw[this];exact⟨rfl,rfl,rfl,rfl,rfl⟩
 .have:=no λh=>by have h3:=dX h3;have:=h.2.2;rw[show bT a (nx,f1,f2,f3,f4,())=false from h3]at this;cases this
  dsimp only;rw[this];exact⟨rfl,rfl,rfl,rfl,rfl⟩
 .have g1:aC (a,l,nx,())=true:=dw h1;have g2:l.length<12:=by have h2:¬(l.length:Int)>=12:=gZ h2;omega
  have g3:bT a (nx,f1,f2,f3,f4,())=true:=dw h3;rcases o5 (a,l,nx,()) (f0,f1,f2,f3,f4,())with⟨_,e⟩|⟨_,_,_,e⟩
  .exact(e ⟨g1,g2,g3⟩).elim
  .have hnx:=(jU.1 g1).2.2.2;have w:IntKind.i64.wrap (nx+1)=nx+1:=fQ _ (by have h5:nx<=61:=hnx.2;have h6:1<=nx:=hnx.1;omega);refine⟨by rw[bM];simp only[awL,awP];omega,?_⟩;dsimp only;rw[e,w];exact⟨rfl,rfl,rfl,rfl,rfl⟩
theorem aaz:OK Bq.e:=by
 refine XA.ok mixed (ax [jB.e,qw.e,pq.e] ⟨ni,Eg,Au,trivial⟩) acA (λ⟨s,id,_⟩ _=>⟨((((fM s id).1.1,(fM s id).1.2.1,(fM s id).1.2.2.1,()),(fM s id).2,()),()),⟨rfl,rfl,rfl,rfl⟩⟩) (by kernel_rfl) (show∀s0 s1 s2 id,Bq.goal (aaA s0 s1 s2 id) ((s0,s1,s2,()),id,())from ?_);intro s0 s1 s2 id hin hp;dsimp only[Bq]at hp ⊢;refine⟨hp,?_⟩;rintro⟨⟨⟨a,l,nx,⟨⟩⟩,⟨⟩⟩,⟨⟩⟩ e;obtain⟨rfl,rfl,rfl⟩:a=s0/\l=s1/\nx=s2:=by simpa using e
 have hs:l.length<=1000:=hp.2.1;have no:¬(aC (a,l,nx,())=true/\0<=Sp.place l id)->fM (a,l,nx,()) id=((a,l,nx,()),false):=λh=>by
  rcases yg (a,l,nx,()) id with⟨e,_⟩|⟨n,hn,h1,h2,_⟩
  .exact e
  .exact(h ⟨h2,by have h1:Sp.place l id=n:=h1;omega⟩).elim
 refine⟨trivial,trivial,af (λh1=>?_) λh1=>af (λh2=>?_) λh2=>?_⟩
 .have:=no λh=>by have h1:=dX h1;have:=h.1;rw[show aC (a,l,nx,())=false from h1]at this;cases this
  dsimp only;rw[this];exact⟨rfl,rfl,rfl,rfl⟩
 .have:=no λh=>by have h2:Sp.place l id<0:=gI h2;omega
  dsimp only;rw[this];exact⟨rfl,rfl,rfl,rfl⟩
 .have g1:aC (a,l,nx,())=true:=dw h1;have g2:0<=Sp.place l id:=by have h2:¬Sp.place l id<0:=gZ h2;omega
  rcases yg (a,l,nx,()) id with⟨_,e⟩|⟨n,hn,hpl,_,e⟩
  .exact(e ⟨g1,g2⟩).elim
  .have hn:n<l.length:=hn;have hpl:Sp.place l id=n:=hpl;have w:IntKind.i64.wrap ((n:Int)+1)=((n+1:Nat):Int):=fQ _ (by omega);dsimp only;rw[hpl,e,w,awO,awO,axU,aw0,bM];refine⟨⟨by omega,by omega⟩,by rw[awK];omega,⟨by omega,by omega⟩,by rw[awK,axk];omega,rfl,?_,rfl,rfl⟩;exact(List.eraseIdx_eq_take_drop_succ ..).symm
def ace(L:List (List aQ))(name:Sp.Bytes)(vals:List (Int×Int×Sp.Bytes)):List (List aQ):=L++L.flatMap λa=>vals.map λv=>dU a name v.1 v.2.1 v.2.2
theorem wY{L:List (List aQ)}{name:Sp.Bytes}{vals:List (Int×Int×Sp.Bytes)}{a:List aQ}(h:a∈L):a∈ace L name vals:=axD _ h
theorem SN{L:List (List aQ)}{name:Sp.Bytes}{vals:List (Int×Int×Sp.Bytes)}{a:List aQ}(h:a∈L){k n:Int}{s:Sp.Bytes}(hv:(k,n,s)∈vals):dU a name k n s∈ace L name vals:=
 axW _ (List.mem_flatMap.2 ⟨a,h,axO.2 ⟨(k,n,s),hv,rfl⟩⟩)
def ints:List (Int×Int×Sp.Bytes):=[(1,0,[]),(1,1,[]),(1,2,[]),(1,3,[])]
def names:List (Int×Int×Sp.Bytes):=[(2,0,[105,110,107]),(2,0,[115,101,97])]
def tags:List (Int×Int×Sp.Bytes):=[(2,0,[114,101,100]),(2,0,[98,108,117,101])]
def agE:List (List aQ):=ace [[]] [97] ints
def agF:List (List aQ):=ace agE [98] ints
def agG:List (List aQ):=ace agF [110] names
def agH:List (List aQ):=ace agG [116] tags
theorem ars:(agH.all λa=>iy Sp.usual a&&decide (a.length<=4))=true:=by kernel_rfl
theorem SQ{a:List aQ}(h:a∈agH):iy Sp.usual a=true/\a.length<=4:=by have:=axb.1 ars a h;simpa using this
theorem asJ{a:List aQ}(h:a∈agE):a.length<=4:=(SQ (wY (wY (wY h)))).2
theorem asK{a:List aQ}(h:a∈agF):a.length<=4:=(SQ (wY (wY h))).2
theorem asL{a:List aQ}(h:a∈agG):a.length<=4:=(SQ (wY h)).2
theorem ami{x:Int}(h0:0<=x)(h1:x<4):((1:Int),x,([]:Sp.Bytes))∈ints:=by rcases(show x=0\/x=1\/x=2\/x=3 by omega)with h|h|h|h<;>subst h<;>simp[ints]
theorem aqk{w:Sp.Bytes}(h:(w,())∈[(([105,110,107]:Sp.Bytes),()),([115,101,97],())]):((2:Int),(0:Int),w)∈names:=by simp only[aw9,Prod.mk.injEq,azv,List.not_mem_nil,or_false]at h;rcases h with h|h<;>subst h<;>simp[names]
theorem aru{w:Sp.Bytes}(h:(w,())∈[(([114,101,100]:Sp.Bytes),()),([98,108,117,101],())]):((2:Int),(0:Int),w)∈tags:=by simp only[aw9,Prod.mk.injEq,azv,List.not_mem_nil,or_false]at h;rcases h with h|h<;>subst h<;>simp[tags]
def Head(id:Int)(f:Int×Int×Bool×Int×Unit×Unit):Prop:=f.1=id/\0<=f.2.1/\f.2.1<=2/\0<=f.2.2.2.1/\f.2.2.2.1<=6
theorem KQ:OK xg.e:=by
 refine XA.ok mixed (ax [lY.e,jo.e,Cb.e,uH.e,mP.e,dL.e] ⟨yR,kN,SL,Jr,Ar,eG,trivial⟩) aiQ (λ⟨_,id,_⟩ _=>⟨(((id,0,false,0,[],()),()),(([],0,0,()),())),⟨by dsimp only;decide,rfl,by dsimp only;decide,by dsimp only;decide,by dsimp only;decide,by dsimp only;decide,rfl,by dsimp only;decide⟩⟩) (by kernel_rfl) (show∀c0 c1 c2 id,xg.goal (agI c0 c1 c2 id) ((c0,c1,c2,()),id,())from ?_);intro b i h id hin hp;dsimp only[xg]at hp ⊢;have hp:0<=i:=hp;refine⟨hp,?_⟩;rintro⟨⟨x0,⟨⟩⟩,⟨b0,i0,g0,⟨⟩⟩,⟨⟩⟩ ⟨p0,q0,q1,_⟩;refine⟨p0,?_⟩;rintro⟨⟨x1,⟨⟩⟩,⟨b1,i1,g1,⟨⟩⟩,⟨⟩⟩ p1;have q1:x0<3:=q1 (by decide);have q0:0<=x0:=q0;refine⟨λy=>0<=y.2.1.2.1/\Head id y.2.2.1,⟨p1,?_⟩,?_⟩
 .rintro⟨⟨x3,⟨⟩⟩,⟨b3,i3,g3,⟨⟩⟩,⟨⟩⟩ p3;refine af (λ_=>⟨p3,?_⟩) λ_=>⟨rfl,p3,rfl,q0,(show x0<=2 by omega),axm _,(show(0:Int)<=6 by decide)⟩;rintro⟨⟨x4,⟨⟩⟩,⟨b4,i4,g4,⟨⟩⟩,⟨⟩⟩ ⟨p4,q4,q5,_⟩;have q5:x4<7:=q5 (by decide);exact⟨rfl,p4,rfl,q0,(show x0<=2 by omega),q4,(show x4<=6 by omega)⟩
 rintro⟨⟨⟩,⟨b5,i5,g5,⟨⟩⟩,f5,⟨⟩⟩ ⟨p5,H5⟩;refine⟨λy=>0<=y.2.1.2.1/\Head id y.2.2.1/\y.2.2.2.1∈agE,⟨p5,?_⟩,?_⟩
 .rintro⟨⟨x7,⟨⟩⟩,⟨b7,i7,g7,⟨⟩⟩,⟨⟩⟩ p7;refine af (λ_=>⟨p7,?_⟩) λ_=>⟨rfl,p7,H5,wY awW⟩;rintro⟨⟨x8,⟨⟩⟩,⟨b8,i8,g8,⟨⟩⟩,⟨⟩⟩ ⟨p8,q8,q9,_⟩;refine⟨trivial,(show(0:Nat)<=1000 by decide),?_⟩;rintro⟨⟨⟨d,o,s,l,a,⟨⟩⟩,⟨⟩⟩,⟨⟩⟩ ⟨e1,e2,e3,e4,e5⟩;refine⟨rfl,p8,?_,?_⟩
  .exact⟨(show d=id from(show d=f5.1 from e1).trans H5.1),by rw[show o=f5.2.1 from e2];exact H5.2.1,by rw[show o=f5.2.1 from e2];exact H5.2.2.1,by rw[show l=f5.2.2.2.1 from e4];exact H5.2.2.2.1,by rw[show l=f5.2.2.2.1 from e4];exact H5.2.2.2.2⟩
  .have e5:a=dU [] [97] 1 x8 []:=e5;show a∈agE;rw[e5];exact SN awW (ami q8 (q9 (by decide)))
 rintro⟨⟨⟩,⟨b11,i11,g11,⟨⟩⟩,f11,a11,⟨⟩⟩ ⟨p11,H11,m11⟩;refine⟨λy=>0<=y.2.1.2.1/\Head id y.2.2.1/\y.2.2.2.1∈agF,⟨p11,?_⟩,?_⟩
 .rintro⟨⟨x7,⟨⟩⟩,⟨b7,i7,g7,⟨⟩⟩,⟨⟩⟩ p7;refine af (λ_=>⟨p7,?_⟩) λ_=>⟨rfl,p7,H11,wY m11⟩;rintro⟨⟨x8,⟨⟩⟩,⟨b8,i8,g8,⟨⟩⟩,⟨⟩⟩ ⟨p8,q8,q9,_⟩;refine⟨trivial,awR (asJ m11) (by decide),?_⟩;rintro⟨⟨⟨d,o,s,l,a,⟨⟩⟩,⟨⟩⟩,⟨⟩⟩ ⟨e1,e2,e3,e4,e5⟩;refine⟨rfl,p8,?_,?_⟩
  .exact⟨(show d=id from(show d=f11.1 from e1).trans H11.1),by rw[show o=f11.2.1 from e2];exact H11.2.1,by rw[show o=f11.2.1 from e2];exact H11.2.2.1,by rw[show l=f11.2.2.2.1 from e4];exact H11.2.2.2.1,by rw[show l=f11.2.2.2.1 from e4];exact H11.2.2.2.2⟩
  .have e5:a=dU a11 [98] 1 x8 []:=e5;show a∈agF;rw[e5];exact SN m11 (ami q8 (q9 (by decide)))
 rintro⟨⟨⟩,⟨b17,i17,g17,⟨⟩⟩,f17,a17,⟨⟩⟩ ⟨p17,H17,m17⟩;refine⟨λy=>0<=y.2.1.2.1/\Head id y.2.2.1/\y.2.2.2.1∈agG,⟨p17,?_⟩,?_⟩
 .rintro⟨⟨x7,⟨⟩⟩,⟨b7,i7,g7,⟨⟩⟩,⟨⟩⟩ p7;refine af (λ_=>⟨⟨p7,by simp⟩,?_⟩) λ_=>⟨rfl,p7,H17,wY m17⟩;rintro⟨⟨x8,⟨⟩⟩,⟨b8,i8,g8,⟨⟩⟩,⟨⟩⟩ ⟨p8,q8⟩;refine⟨trivial,awR (asK m17) (by decide),?_⟩;rintro⟨⟨⟨d,o,s,l,a,⟨⟩⟩,⟨⟩⟩,⟨⟩⟩ ⟨e1,e2,e3,e4,e5⟩;refine⟨rfl,p8,?_,?_⟩
  .exact⟨(show d=id from(show d=f17.1 from e1).trans H17.1),by rw[show o=f17.2.1 from e2];exact H17.2.1,by rw[show o=f17.2.1 from e2];exact H17.2.2.1,by rw[show l=f17.2.2.2.1 from e4];exact H17.2.2.2.1,by rw[show l=f17.2.2.2.1 from e4];exact H17.2.2.2.2⟩
  .have e5:a=dU a17 [110] 2 0 x8:=e5;show a∈agG;rw[e5];exact SN m17 (aqk q8)
 rintro⟨⟨⟩,⟨b23,i23,g23,⟨⟩⟩,f23,a23,⟨⟩⟩ ⟨p23,H23,m23⟩;refine⟨λy=>0<=y.2.1.2.1/\Head id y.2.2.1/\y.2.2.2.1∈agH,⟨p23,?_⟩,?_⟩
 .rintro⟨⟨x7,⟨⟩⟩,⟨b7,i7,g7,⟨⟩⟩,⟨⟩⟩ p7;refine af (λ_=>⟨⟨p7,by simp⟩,?_⟩) λ_=>⟨rfl,p7,H23,wY m23⟩;rintro⟨⟨x8,⟨⟩⟩,⟨b8,i8,g8,⟨⟩⟩,⟨⟩⟩ ⟨p8,q8⟩;refine⟨trivial,awR (asL m23) (by decide),?_⟩;rintro⟨⟨⟨d,o,s,l,a,⟨⟩⟩,⟨⟩⟩,⟨⟩⟩ ⟨e1,e2,e3,e4,e5⟩;refine⟨rfl,p8,?_,?_⟩
  .exact⟨(show d=id from(show d=f23.1 from e1).trans H23.1),by rw[show o=f23.2.1 from e2];exact H23.2.1,by rw[show o=f23.2.1 from e2];exact H23.2.2.1,by rw[show l=f23.2.2.2.1 from e4];exact H23.2.2.2.1,by rw[show l=f23.2.2.2.1 from e4];exact H23.2.2.2.2⟩
  .have e5:a=dU a23 [116] 2 0 x8:=e5;show a∈agH;rw[e5];exact SN m23 (aru q8)
 rintro⟨⟨⟩,⟨b29,i29,g29,⟨⟩⟩,f29,a29,⟨⟩⟩ ⟨p29,H29,m29⟩;have hm:=SQ m29;exact⟨p29,H29.1,H29.2.1,H29.2.2.1,H29.2.2.2.1,H29.2.2.2.2,hm.1,hm.2⟩
theorem adK(al:List aQ)(name:Sp.Bytes)(k n:Int)(s:Sp.Bytes):(dU al name k n s).length<=al.length+1:=by
 have hf:=aw8 (fV name) al;unfold dU;cases decide (k=0)with
 |true=>show(al.filter _).length<=_;omega
 |false=>show(xB _ _).length<=_;unfold xB;have:=congrArg List.length (ax5 (p:=gJ name) (l:=al.filter (fV name)));rw[awN]at this;rw[awN,awL];show((al.filter (fV name)).takeWhile (gJ name)).length+(((al.filter (fV name)).dropWhile (gJ name)).length+1)<=_;omega
theorem aiR:OK IX.e:=by
 refine XA.ok mixed (ax [Cb.e,lY.e,Ew.e,BV.e,kE.e,xg.e,dL.e] ⟨SL,yR,Ve,SG,pY,KQ,eG,trivial⟩) akL (λ_ _=>⟨(((0,0,false,0,[],()),()),(([],0,0,()),())),⟨by decide,by decide⟩⟩) (by kernel_rfl) (show∀c0 c1 c2,IX.goal (aiS c0 c1 c2) ((c0,c1,c2,()),())from ?_);intro b i h hin hp;dsimp only[IX]at hp ⊢;have hp:0<=i:=hp;refine⟨hp,?_⟩;rintro⟨⟨x0,⟨⟩⟩,⟨b0,i0,g0,⟨⟩⟩,⟨⟩⟩ ⟨p0,_⟩;refine⟨p0,?_⟩;rintro⟨⟨⟨d,o,s,l,a,⟨⟩⟩,⟨⟩⟩,⟨b1,i1,g1,⟨⟩⟩,⟨⟩⟩ ⟨p1,_,_,_,_,_,_,ha⟩;have ha:a.length<=4:=ha;refine⟨p1,?_⟩;rintro⟨⟨x2,⟨⟩⟩,⟨b2,i2,g2,⟨⟩⟩,⟨⟩⟩ ⟨p2,_⟩;refine af (λ_=>⟨⟨p2,by simp⟩,?_⟩) λ_=>af (λ_=>⟨⟨p2,by simp⟩,?_⟩) λ_=>af (λ_=>⟨⟨p2,by simp⟩,?_⟩) λ_=>af (λ_=>⟨p2,?_⟩) λ_=>af (λ_=>⟨trivial,(show a.length<=1000 by omega),?_⟩) λ_=>⟨p2,(show a.length<=10 by omega)⟩
 .rintro⟨⟨x3,⟨⟩⟩,⟨b3,i3,g3,⟨⟩⟩,⟨⟩⟩ ⟨p3,_⟩;exact⟨p3,(show a.length<=10 by omega)⟩
 .rintro⟨⟨x3,⟨⟩⟩,⟨b3,i3,g3,⟨⟩⟩,⟨⟩⟩ ⟨p3,_⟩;exact⟨p3,(show a.length<=10 by omega)⟩
 .rintro⟨⟨x3,⟨⟩⟩,⟨b3,i3,g3,⟨⟩⟩,⟨⟩⟩ ⟨p3,_⟩;exact⟨p3,(show a.length<=10 by omega)⟩
 .rintro⟨⟨x3,⟨⟩⟩,⟨b3,i3,g3,⟨⟩⟩,⟨⟩⟩ ⟨p3,_⟩;refine⟨p3,?_⟩;rintro⟨⟨⟨k,n,w,⟨⟩⟩,⟨⟩⟩,⟨b4,i4,g4,⟨⟩⟩,⟨⟩⟩ ⟨p4,_⟩;refine⟨(show a.length+1<=big by rw[bM];omega),p4,?_⟩;show(a++[_]).length<=10;rw[awN,awL,awP];omega
 .rintro⟨⟨⟨d',o',s',l',a',⟨⟩⟩,⟨⟩⟩,⟨⟩⟩ ⟨_,_,_,_,e5⟩;refine⟨p2,?_⟩;have e5:a'=dU a [97] 2 0 [114,101,100]:=e5;show a'.length<=10;rw[e5];have:=adK a [97] 2 0 [114,101,100];omega
theorem arv:fO Sp.usual=true:=by kernel_rfl
theorem arw:aC (Sp.usual,[],1,())=true:=by kernel_rfl
theorem anj:bn (Sp.usual,[],1,()):=⟨by decide,by decide,λf hf=>by cases hf⟩
theorem Qx{a:List fD}{l:List aF}{nx:Int}{X:bQ}(h1:a=X.1)(h2:l=X.2.1)(h3:nx=X.2.2.1):((a,l,nx,()):bQ)=X:=by subst h1 h2 h3;rfl
theorem amj(s:bQ)(f:aF):(dD s f).1.1=s.1/\((dD s f).1.2.1.length:Int)-(dD s f).1.2.2.1=s.2.1.length-s.2.2.1:=by
 rcases o5 s f with⟨e,_⟩|⟨_,_,_,e⟩
 .rw[e];exact⟨rfl,rfl⟩
 .rw[e];refine⟨rfl,?_⟩;show((s.2.1++[(s.2.2.1,f.2)]).length:Int)-(s.2.2.1+1)=_;rw[awN,awL,awP];omega
theorem aaB(s:bQ)(id:Int):(fM s id).1.1=s.1/\(fM s id).1.2.2.1=s.2.2.1/\s.2.1.length<=(fM s id).1.2.1.length+1:=by
 rcases yg s id with⟨e,_⟩|⟨n,hn,_,_,e⟩
 .rw[e];exact⟨rfl,rfl,Nat.le_succ _⟩
 .rw[e];refine⟨rfl,rfl,?_⟩;show s.2.1.length<=(s.2.1.eraseIdx n).length+1;rw[ay2 hn];omega
structure tq(k:Int)(s:bQ):Prop where
 sch:s.1=Sp.usual
 ok:aC s=true
 nx:s.2.2.1<=s.2.1.length+k
 small:bn s
theorem tq.create{k:Int}{s:bQ}(h:tq k s){f:aF}(hf:bY f):tq k (dD s f).1:=by obtain⟨h1,h2⟩:=amj s f;exact⟨h1.trans h.sch,aiT f h.ok,by have:=h.nx;omega,akM h.small hf⟩
theorem tq.delete{k:Int}{s:bQ}(h:tq k s)(id:Int):tq (k+1) (fM s id).1:=by obtain⟨h1,h2,h3⟩:=aaB s id;exact⟨h1.trans h.sch,aiU id h.ok,by have:=h.nx;omega,akN id h.small⟩
theorem tq.more{k k':Int}{s:bQ}(h:tq k s)(hk:k<=k'):tq k' s:=⟨h.sch,h.ok,by have:=h.nx;omega,h.small⟩
theorem tq.grows{s:bQ}(h:tq 2 s)(hl:s.2.1.length<12){f:aF}(ho:0<=f.2.1/\f.2.1<=2)(hk:0<=f.2.2.2.1/\f.2.2.2.1<=6)(ha:iy Sp.usual f.2.2.2.2.1=true):(dD s f).1.2.1.length=s.2.1.length+1:=by
 have hnx:=(jU.1 h.ok).2.2.2;have h2:=h.nx;have hf:bT s.1 (s.2.2.1,f.2)=true:=by rw[h.sch];show(iy Sp.usual f.2.2.2.2.1&&fO Sp.usual&&(decide (1<=s.2.2.1)&&decide (s.2.2.1<=60))&&(decide (0<=f.2.1)&&decide (f.2.1<=2))&&(decide (0<=f.2.2.2.1)&&decide (f.2.2.2.1<=60)))=true;rw[ha,arv,awS hnx.1,awS (by omega),awS ho.1,awS ho.2,awS hk.1,awS (by omega)];rfl
 rcases o5 s f with⟨_,e⟩|⟨_,_,_,e⟩
 .exact(e ⟨h.ok,hl,hf⟩).elim
 .rw[e];show(s.2.1++[_]).length=_;rw[awN];rfl
theorem Qy:aC (Sp.usual,[(1,0,false,0,[],())],2,())=true/\bn (Sp.usual,[(1,0,false,0,[],())],2,()):=⟨by kernel_rfl,by decide,by decide,λf hf=>by rw[axy.1 hf];exact axg _⟩
theorem tq.one{s:bQ}(h:tq 1 s){f:aF}(ho:0<=f.2.1/\f.2.1<=2)(hk:0<=f.2.2.2.1/\f.2.2.2.1<=6)(ha:iy Sp.usual f.2.2.2.2.1=true):0<(dD s f).1.2.1.length:=by
 by_cases hl:s.2.1.length<12
 .rw[(h.more (show(1:Int)<=2 by decide)).grows hl ho hk ha];omega
 .rcases o5 s f with⟨e,_⟩|⟨_,_,_,e⟩
  .rw[e];show 0<s.2.1.length;omega
  .rw[e];show 0<(s.2.1++[_]).length;rw[awN,List.length_singleton];omega
theorem Js:OK uI.e:=by
 refine XA.ok mixed (ax [Bq.e,mP.e,vM.e,xg.e,dL.e,Fz.e,zA.e] ⟨aaz,Ar,NP,KQ,eG,aeH,Qu,trivial⟩) agJ (λ_ _=>⟨(((Sp.usual,[(1,0,false,0,[],())],2,()),()),(([],0,0,()),())),⟨by decide,rfl,Qy.1,by decide,Qy.2,by decide⟩⟩) (by kernel_rfl) (show∀c0 c1 c2,uI.goal (aeJ c0 c1 c2) ((c0,c1,c2,()),())from ?_);intro b i h hin hp;dsimp only[uI]at hp ⊢;have hp:0<=i:=hp;refine⟨trivial,?_⟩;rintro⟨⟨u,⟨⟩⟩,⟨⟩⟩ hu;have hu:u=Sp.usual:=hu;subst hu;refine⟨(show Sp.usual.length<=1000 by decide),?_⟩;rintro⟨⟨⟨a,l,nx,⟨⟩⟩,⟨⟩⟩,⟨⟩⟩ ⟨e1,e2,e3⟩;have e1:a=Sp.usual:=e1;have e2:l=[]:=e2;have e3:nx=1:=e3;subst e1 e2 e3;refine⟨λy=>0<=y.2.1.2.1/\(0<=y.1.1/\y.1.1<=7)/\tq 1 (y.2.2.2.1,y.2.2.2.2.1,y.2.2.1.2.2.1,())/\(0<y.1.1->0<y.2.2.2.2.1.length),λy=>(8-y.1.1).toNat,⟨hp,⟨(show(0:Int)<=0 by decide),(show(0:Int)<=7 by decide)⟩,⟨rfl,arw,(show(1:Int)<=((0:Nat):Int)+1 by decide),anj⟩,λh=>absurd h (Int.lt_irrefl 0)⟩,?_⟩;rintro⟨⟨n,⟨⟩⟩,⟨b0,i0,g0,⟨⟩⟩,⟨⟨⟩,⟨⟩,nx,⟨⟩⟩,a,l,⟨⟩⟩ ⟨p0,⟨k0,k1⟩,D,hne⟩;have p0:0<=i0:=p0;have k0:0<=n:=k0;have k1:n<=7:=k1;have D:tq 1 (a,l,nx,()):=D;have hne:0<n->0<l.length:=hne;refine⟨p0,?_⟩;rintro⟨⟨x1,⟨⟩⟩,⟨b1,i1,g1,⟨⟩⟩,⟨⟩⟩ ⟨p1,q0,q1,_⟩;have q1:x1<7:=q1 (by decide);have q0:0<=x1:=q0;have w:IntKind.i64.wrap (1+x1)=1+x1:=fQ _ (by omega);dsimp only;rw[w];refine af (λhc=>⟨p1,?_⟩) λhc=>af (λh2=>⟨p1,?_⟩) λh2=>?_
 .have hc:=gI hc;have wn:IntKind.i64.wrap (n+1)=n+1:=fQ _ (by omega);rw[wn];rintro⟨⟨⟨d,o,s,lk,al,⟨⟩⟩,⟨⟩⟩,⟨b2,i2,g2,⟨⟩⟩,⟨⟩⟩ ⟨p2,_,o1,o2,k3,k4,hat,ha⟩;have hf:bY (d,o,s,lk,al,()):=(show al.length<=1000 from awR ha (by decide));refine⟨⟨D.small,hf⟩,?_⟩;rintro⟨⟨⟨a3,l3,nx3,⟨⟩⟩,id3,ok3,⟨⟩⟩,⟨⟩⟩ ⟨e1,e2,e3,_⟩;have e:((a3,l3,nx3,()):bQ)=(dD (a,l,nx,()) (d,o,s,lk,al,())).1:=Qx e1 e2 e3;refine⟨rfl,⟨p2,⟨(show 0<=n+1 by omega),(show n+1<=7 by omega)⟩,?_,λ_=>?_⟩,?_⟩
  .show tq 1 (a3,l3,nx3,());rw[e];exact D.create hf
  .have:=D.one (f:=(d,o,s,lk,al,())) ⟨o1,o2⟩ ⟨k3,k4⟩ hat;rw[← e]at this;exact this
  .show(8-(n+1)).toNat<(8-n).toNat;omega
 .rintro⟨⟨x3,⟨⟩⟩,⟨b3,i3,g3,⟨⟩⟩,⟨⟩⟩ p3;have h2:(l.length:Int)>2:=gI h2;refine af (λ_=>⟨⟨by decide,(show(1:Int)<l.length by omega)⟩,(show 1<l.length by omega),D.small,?_⟩) λ_=>?_
  .rintro⟨⟨⟨a3,l3,nx3,⟨⟩⟩,ok3,⟨⟩⟩,⟨⟩⟩ ⟨e1,e2,e3,_⟩;have e:=Qx e1 e2 e3;have D':=D.delete (List.getD l (Int.toNat 1) (0,0,false,0,[],())).1;have D':tq 2 (a3,l3,nx3,()):=by have e:((a3,l3,nx3,()):bQ)=(fM (a,l,nx,()) (List.getD l (Int.toNat 1) (0,0,false,0,[],())).1).1:=e;rw[e];exact D'
   refine⟨p3,D'.sch,D'.ok,D'.nx,D'.small,?_⟩;have:=(aaB (a,l,nx,()) (List.getD l (Int.toNat 1) (0,0,false,0,[],())).1).2.2;have e2:l3=(fM (a,l,nx,()) (List.getD l (Int.toNat 1) (0,0,false,0,[],())).1).1.2.1:=e2;rw[← e2]at this;have this:l.length<=l3.length+1:=this;show 0<l3.length;omega
  .have D':=D.more (show(1:Int)<=2 by decide);exact⟨p3,D'.sch,D'.ok,D'.nx,D'.small,hne (by have:=gZ hc;omega)⟩
 .have D':=D.more (show(1:Int)<=2 by decide);exact⟨p1,D'.sch,D'.ok,D'.nx,D'.small,hne (by have:=gZ hc;omega)⟩
theorem ank:OK OL.e:=by refine PA.ok mixed (ax [] trivial) H0 (by kernel_rfl) (show∀code,OL.goal (anl code) (code,())from ?_);intro b hin hp;dsimp only[OL]at hp ⊢;exact rfl
theorem Dn:OK mV.e:=by
 refine PA.ok mixed (ax [mG.e] ⟨sQ,trivial⟩) WQ (by kernel_rfl) (show∀s,mV.goal (Vl s) (s,())from ?_);intro s hin hp;dsimp only[mV]at hp ⊢;have hlen:s.length<=maxLen:=hin.1;rw[maxLen_eq]at hlen;refine⟨λy=>∃n:Nat,y.1.1=n/\n<=s.length/\Sp.lower (s.take n)=true,λy=>((s.length:Int)-y.1.1).toNat,⟨0,rfl,by omega,rfl⟩,?_⟩;rintro⟨⟨_,⟨⟩⟩,⟨⟩⟩ ⟨n,rfl,hn,hJ⟩;dsimp only;refine af (λh=>?_) λh=>?_<;>simp only[axa,axK]at h
 .have hlt:n<s.length:=by omega
  rw[fQ _ (by omega),awO];refine⟨⟨by omega,by omega⟩,af (λh2=>?_) λh2=>⟨⟨by omega,by omega⟩,af (λh3=>?_) λh3=>?_⟩⟩<;>simp only[axa,axK]at*
  .unfold iT;cases hl:Sp.lower s with
   |false=>rfl
   |true=>have:=Pe hlt hl;omega
  .unfold iT;cases hl:Sp.lower s with
   |false=>rfl
   |true=>have:=Pe hlt hl;omega
  .refine⟨rfl,⟨n+1,by simp,by omega,?_⟩,by dsimp only;omega⟩;rw[Sp.take_succ' s n 0 hlt];unfold Sp.lower at hJ ⊢;rw[List.all_append,hJ];simp only[axR,azJ,ayE,ay1,awG,axa];omega
 .have hge:n=s.length:=by omega
  rw[hge,aw0]at hJ;unfold iT;rw[hJ];exact⟨trivial,rfl⟩
theorem KR:OK rJ.e:=by
 refine PA.ok mixed (ax [mV.e,mG.e] ⟨Dn,sQ,trivial⟩) H0 (by kernel_rfl) (show∀v0 v1 v2,rJ.goal (WR v0 v1 v2) ((v0,v1,v2,()),())from ?_);intro k n s hin hp;dsimp only[rJ]at hp ⊢;refine af (λh=>?_) λh=>af (λh2=>⟨trivial,af (λh3=>?_) λh3=>?_⟩) λh2=>af (λh3=>⟨trivial,af (λh4=>?_) λh4=>?_⟩) λh3=>?_
 .have e:k=0:=by simpa using h
  subst e;exact congrArg (·,()) (aw6.2 (by simp[kH]))
 .have e:k=1:=by simpa using h2
  subst e;exact congrArg (·,()) (aw6.2 (by simp only[awG,axa]at h3;simp[kH,h3]))
 .have e:k=1:=by simpa using h2
  subst e;exact congrArg (·,()) (aw6.2 (by simp only[kH,h3];simp))
 .have e:k=2:=by simpa using h3
  subst e;exact congrArg (·,()) (aw6.2 (by simp[kH,h4]))
 .have e:k=2:=by simpa using h3
  subst e;exact congrArg (·,()) (aw6.2 (by simp[kH,h4]))
 .have e1:k≠0:=by simpa using h
  have e2:k≠1:=by simpa using h2
  have e3:k≠2:=by simpa using h3
  exact congrArg (·,()) (aw6.2 (by simp[kH,e1,e2,e3]))
theorem Hq:OK oz.e:=by
 refine PA.ok mixed (ax [] trivial) H0 (by kernel_rfl) (show∀s,oz.goal (Rt s) (s,())from ?_);intro s hin hp;dsimp only[oz]at hp ⊢;refine af (λh=>?_) λh=>?_
 .have h:(s.length:Int)=1:=gI h
  match s,h with
  |[c],_=>
   refine⟨⟨by decide,(by show(0:Int)<1;decide)⟩,af (λh2=>⟨⟨by decide,(by show(0:Int)<1;decide)⟩,?_⟩) λh2=>?_⟩
   .have h2:(c.toNat:Int)>=97:=gI h2;refine congrArg (·,()) (aw6.2 ?_);simp only[jY,Sp.lower,axR,azJ,ayE,awG,axa,awL,awP];constructor
    .intro h3;have h3:(c.toNat:Int)<=122:=h3;exact⟨⟨⟨by omega,by omega⟩,by decide⟩,by decide⟩
    .rintro⟨⟨⟨_,h4⟩,_⟩,_⟩;show(c.toNat:Int)<=122;omega
   .have h2:¬(c.toNat:Int)>=97:=gZ h2;refine congrArg (·,()) (aw6.2 ?_);simp only[jY,Sp.lower,axR,azJ,ayE,awG,axa];constructor
    .intro h3;cases h3
    .rintro⟨⟨⟨h4,_⟩,_⟩,_⟩;omega
 .have h:¬(s.length:Int)=1:=gZ h;refine congrArg (·,()) (aw6.2 ?_);simp only[jY,awG,axa];constructor
  .intro h3;cases h3
  .rintro⟨⟨_,h4⟩,h5⟩;omega
theorem acB:OK DR.e:=by
 refine PA.ok mixed (ax [] trivial) aeK (by kernel_rfl) (show∀s name,DR.goal (acC s name) (s,name,())from ?_);intro s name hin hp;dsimp only[DR]at hp ⊢;have hlen:s.length<=maxLen:=hin.1.1;rw[maxLen_eq]at hlen;refine jd s.length hlen (λn=>∀i,i<n->(s.getD i ([],0,())).1≠name) (λi hi=>by omega) (λI μ n hn hJ next=>?_) λI μ hJ=>?_
 .dsimp only;refine bU (by omega) ⟨⟨by omega,by omega⟩,af (λh=>?_) λh=>⟨rfl,next λi hi=>?_⟩⟩
  .exact congrArg (·,()) (aas s n hn hJ (by simpa only[awO,awQ]using h)).symm
  .rcases awZ i n with h'|h'
   .exact hJ i h'
   .have:i=n:=by omega
    subst this;have h2:((s.getD i ([],0,())).1==name)=false:=h;exactλe=>by rw[e]at h2;simp at h2
 .dsimp only;exact bV (by omega) (congrArg (·,()) (TV s hJ).symm)
theorem aqm{k:Int}(h:(k !=1)=false\/(k !=2)=false):(decide (1<=k)&&decide (k<=2))=true:=by have:k=1\/k=2:=h.imp (by simp) (by simp);rcases this with h|h<;>subst h<;>rfl
theorem asM{k:Int}(h1:(k !=1)=true)(h2:(k !=2)=true):(decide (1<=k)&&decide (k<=2))=false:=by
 have h1:k≠1:=by simpa using h1
 have h2:k≠2:=by simpa using h2
 rw[Bool.and_eq_false_iff];by_cases h:k<1
 .left;exact awT (by omega)
 .right;exact awT (by omega)
theorem JQ:OK qp.e:=by
 refine PA.ok mixed (ax [oz.e] ⟨Hq,trivial⟩) WS (by kernel_rfl) (show∀s,qp.goal (Vm s) (s,())from ?_);intro s hin hp;dsimp only[qp]at hp ⊢;have hlen:s.length<=maxLen:=hin.1.1;rw[maxLen_eq]at hlen;refine jd s.length hlen (λn=>∀i,i<n->lI s i=true) (λi hi=>by omega) (λI μ n hn hJ next=>?_) λI μ hJ=>?_
 .dsimp only;have no:lI s n=false->(false,())=(fO s,()):=λh=>by rw[adJ hn h]
  have rest:jY (Sp.fieldAt s n).1=true->(decide (1<=(Sp.fieldAt s n).2.1)&&decide ((Sp.fieldAt s n).2.1<=2))=true->
   bif decide ((n:Int)>0)then
    ((0:Int)<=IntKind.i64.wrap ((n:Int)-1)/\IntKind.i64.wrap ((n:Int)-1)<(s.length:Int))/\
      bif !Op.bytesLess (s.getD (IntKind.i64.wrap ((n:Int)-1)).toNat ([],0,())).fst (s.getD (Int.toNat (n:Int)) ([],0,())).fst then(false,())=(fO s,())
      else NX ((s,s,(s.length:Int),()),()) I μ ((IntKind.i64.wrap ((n:Int)+1),()),()) (((n:Int),()),())
   else NX ((s,s,(s.length:Int),()),()) I μ ((IntKind.i64.wrap ((n:Int)+1),()),()) (((n:Int),()),()):=by
   intro h2 h3;refine af (λh4=>?_) λh4=>⟨rfl,next (eY hJ ?_)⟩
   .have h4:0<n:=by have:=gI h4;omega
    rw[xA h4 (by omega)];refine⟨⟨by omega,by omega⟩,af (λh5=>no ?_) λh5=>⟨rfl,next (eY hJ ?_)⟩⟩
    .have h5:Op.bytesLess (Sp.fieldAt s (n-1)).1 (Sp.fieldAt s n).1=false:=dX h5;unfold lI;rw[h2,h3,h5,awS h4];rfl
    .have h5:Op.bytesLess (Sp.fieldAt s (n-1)).1 (Sp.fieldAt s n).1=true:=dw h5;unfold lI;rw[h2,h3,h5,awS h4];rfl
   .have h4:¬0<n:=by have:=gZ h4;omega
    unfold lI;rw[h2,h3,awT h4];rfl
  refine bU (by omega) ⟨⟨by omega,by omega⟩,trivial,af (λh2=>no ?_) λh2=>af (λh3=>af (λh4=>no ?_) λh4=>?_) λh3=>?_⟩
  .have h2:jY (Sp.fieldAt s n).1=false:=dX h2;unfold lI;rw[h2];rfl
  .have h2:jY (Sp.fieldAt s n).1=true:=dw h2;have h3:(decide (1<=(Sp.fieldAt s n).2.1)&&decide ((Sp.fieldAt s n).2.1<=2))=false:=asM h3 h4;unfold lI;rw[h2,h3];rfl
  .have h2:jY (Sp.fieldAt s n).1=true:=dw h2;have h3:(decide (1<=(Sp.fieldAt s n).2.1)&&decide ((Sp.fieldAt s n).2.1<=2))=true:=aqm (.inr h4);exact rest h2 h3
  .have h2:jY (Sp.fieldAt s n).1=true:=dw h2;have h3:(decide (1<=(Sp.fieldAt s n).2.1)&&decide ((Sp.fieldAt s n).2.1<=2))=true:=aqm (.inl h3);exact rest h2 h3
 .dsimp only;refine bV (by omega) (congrArg (·,()) ?_);unfold fO;rw[mr hJ];rfl
theorem Vo:OK wz.e:=by
 refine PA.ok mixed (ax [DR.e,rJ.e] ⟨acB,KR,trivial⟩) H0 (by kernel_rfl) (show∀s name v0 v1 v2,wz.goal (Vp s name v0 v1 v2) (s,name,(v0,v1,v2,()),())from ?_);intro fs s k n w hin hp;dsimp only[wz]at hp ⊢;refine⟨trivial,af (λh=>af (λh2=>⟨trivial,?_⟩) λh2=>?_) λh=>?_⟩
 .exact congrArg (·,()) (aw6.2 (by simp only[ayI,ne_eq]at h2;simp[iL,h,h2]))
 .exact congrArg (·,()) (aw6.2 (by simp at h2;simp[iL,h2]))
 .exact congrArg (·,()) (aw6.2 (by simp[iL,h]))
theorem LY:OK tC.e:=by
 refine PA.ok mixed (ax [qp.e,vC.e,mG.e,wz.e] ⟨JQ,G9,sQ,Vo,trivial⟩) aaC (by kernel_rfl) (show∀s f0 f1 f2 f3 f4,tC.goal (YH s f0 f1 f2 f3 f4) (s,(f0,f1,f2,f3,f4,()),())from ?_);intro fs f0 f1 f2 f3 f4 hin hp;dsimp only[tC]at hp ⊢;have hlen:f4.length<=maxLen:=hin.2.1.2.2.2.2.1.1;rw[maxLen_eq]at hlen;refine jd f4.length hlen (λn=>∀i,i<n->kK fs f4 i=true) (λi hi=>by omega) (λI μ n hn hJ next=>?_) λI μ hJ=>?_
 .dsimp only;have no:kK fs f4 n=false->(false,())=(bT fs (f0,f1,f2,f3,f4,()),()):=λh=>by rw[akb (f:=(f0,f1,f2,f3,f4,())) hn h]
  refine bU (by omega) ⟨⟨by omega,by omega⟩,af (λh4=>?_) λh4=>⟨trivial,af (λh2=>no ?_) λh2=>⟨rfl,next (eY hJ ?_)⟩⟩⟩
  .have h4:0<n:=by have:=gI h4;omega
   rw[xA h4 (by omega)];refine⟨⟨by omega,by omega⟩,af (λh5=>no ?_) λh5=>⟨trivial,af (λh2=>no ?_) λh2=>⟨rfl,next (eY hJ ?_)⟩⟩⟩
   .have h5:Op.bytesLess (cu f4 (n-1)).1 (cu f4 n).1=false:=dX h5;unfold kK;rw[h5,awS h4];exact axo _
   .have h2:iL fs (cu f4 n).1 (cu f4 n).2.1 (cu f4 n).2.2.1 (cu f4 n).2.2.2.1=false:=dX h2;unfold kK;rw[h2];rfl
   .have h2:iL fs (cu f4 n).1 (cu f4 n).2.1 (cu f4 n).2.2.1 (cu f4 n).2.2.2.1=true:=dw h2;have h5:Op.bytesLess (cu f4 (n-1)).1 (cu f4 n).1=true:=dw h5;unfold kK;rw[h2,h5,awS h4];rfl
  .have h2:iL fs (cu f4 n).1 (cu f4 n).2.1 (cu f4 n).2.2.1 (cu f4 n).2.2.2.1=false:=dX h2;unfold kK;rw[h2];rfl
  .have h2:iL fs (cu f4 n).1 (cu f4 n).2.1 (cu f4 n).2.2.1 (cu f4 n).2.2.2.1=true:=dw h2;have h4:¬0<n:=by have:=gZ h4;omega
   unfold kK;rw[h2,awT h4];rfl
 .dsimp only;have ha:iy fs f4=true:=mr hJ;refine bV (by omega) ⟨trivial,af (λh1=>⟨trivial,af (λh2=>⟨trivial,af (λh3=>⟨trivial,?_⟩) λh3=>?_⟩) λh2=>?_⟩) λh1=>?_⟩
  all_goals refine congrArg (·,()) ?_
  .show fO fs=(iy fs f4&&fO fs&&(decide (1<=f0)&&decide (f0<=60))&&(decide (0<=f1)&&decide (f1<=2))&&(decide (0<=f3)&&decide (f3<=60)));rw[ha,h1,h2,h3];cases fO fs<;>rfl
  .show false=(iy fs f4&&fO fs&&(decide (1<=f0)&&decide (f0<=60))&&(decide (0<=f1)&&decide (f1<=2))&&(decide (0<=f3)&&decide (f3<=60)));rw[h3,axo]
  .show false=(iy fs f4&&fO fs&&(decide (1<=f0)&&decide (f0<=60))&&(decide (0<=f1)&&decide (f1<=2))&&(decide (0<=f3)&&decide (f3<=60)));rw[h2,axo,ayc]
  .show false=(iy fs f4&&fO fs&&(decide (1<=f0)&&decide (f0<=60))&&(decide (0<=f1)&&decide (f1<=2))&&(decide (0<=f3)&&decide (f3<=60)));rw[h1,axo,ayc,ayc]
theorem Ei:OK oh.e:=by
 refine PA.ok mixed (ax [mG.e,qp.e,tC.e] ⟨sQ,JQ,LY,trivial⟩) YI (by kernel_rfl) (show∀s0 s1 s2,oh.goal (WT s0 s1 s2) ((s0,s1,s2,()),())from ?_);intro s0 s1 s2 hin hp;dsimp only[oh]at hp ⊢;have hlen:s1.length<=maxLen:=hin.1.2.1.1;rw[maxLen_eq]at hlen;refine jd s1.length hlen (λn=>∀i,i<n->kW (s0,s1,s2,()) i=true) (λi hi=>by omega) (λI μ n hn hJ next=>?_) λI μ hJ=>?_
 .dsimp only;have no:kW (s0,s1,s2,()) n=false->(false,())=(aC (s0,s1,s2,()),()):=λh=>by rw[agv (s:=(s0,s1,s2,())) hn h]
  refine bU (by omega) ⟨⟨by omega,by omega⟩,trivial,af (λh2=>no ?_) λh2=>af (λh3=>no ?_) λh3=>af (λh4=>?_) λh4=>⟨rfl,next (eY hJ ?_)⟩⟩
  .have h2:bT s0 (Sp.fileAt s1 n)=false:=dX h2;show(bT s0 (Sp.fileAt s1 n)&&_&&_)=false;rw[h2];rfl
  .have h2:bT s0 (Sp.fileAt s1 n)=true:=dw h2;have h3:¬(Sp.fileAt s1 n).1<s2:=by have h3:(Sp.fileAt s1 n).1>=s2:=gI h3;omega
   show(bT s0 (Sp.fileAt s1 n)&&decide ((Sp.fileAt s1 n).1<s2)&&_)=false;rw[h2,awT h3];rfl
  .have h2:bT s0 (Sp.fileAt s1 n)=true:=dw h2;have h3:(Sp.fileAt s1 n).1<s2:=by have h3:¬(Sp.fileAt s1 n).1>=s2:=gZ h3;omega
   have h4:0<n:=by have:=gI h4;omega
   rw[xA h4 (by omega)];refine⟨⟨by omega,by omega⟩,af (λh5=>no ?_) λh5=>⟨rfl,next (eY hJ ?_)⟩⟩
   .have h5:¬(Sp.fileAt s1 (n-1)).1<(Sp.fileAt s1 n).1:=by have h5:(Sp.fileAt s1 (n-1)).1>=(Sp.fileAt s1 n).1:=gI h5;omega
    show(bT s0 (Sp.fileAt s1 n)&&decide ((Sp.fileAt s1 n).1<s2)&&!(decide (0<n)&&!decide ((Sp.fileAt s1 (n-1)).1<(Sp.fileAt s1 n).1)))=false;rw[h2,awS h3,awS h4,awT h5];rfl
   .have h5:(Sp.fileAt s1 (n-1)).1<(Sp.fileAt s1 n).1:=by have h5:¬(Sp.fileAt s1 (n-1)).1>=(Sp.fileAt s1 n).1:=gZ h5;omega
    show(bT s0 (Sp.fileAt s1 n)&&decide ((Sp.fileAt s1 n).1<s2)&&!(decide (0<n)&&!decide ((Sp.fileAt s1 (n-1)).1<(Sp.fileAt s1 n).1)))=true;rw[h2,awS h3,awS h4,awS h5];rfl
  .have h2:bT s0 (Sp.fileAt s1 n)=true:=dw h2;have h3:(Sp.fileAt s1 n).1<s2:=by have h3:¬(Sp.fileAt s1 n).1>=s2:=gZ h3;omega
   have h4:¬0<n:=by have:=gZ h4;omega
   show(bT s0 (Sp.fileAt s1 n)&&decide ((Sp.fileAt s1 n).1<s2)&&!(decide (0<n)&&!decide ((Sp.fileAt s1 (n-1)).1<(Sp.fileAt s1 n).1)))=true;rw[h2,awS h3,awT h4];rfl
 .dsimp only;have ha:jK s1.length (kW (s0,s1,s2,()))=true:=mr hJ;refine bV (by omega) ⟨trivial,af (λh1=>af (λh2=>⟨trivial,?_⟩) λh2=>?_) λh1=>?_⟩
  .refine congrArg (·,()) ?_;show _=(jK s1.length (kW (s0,s1,s2,()))&&fO s0&&decide ((s1.length:Int)<=12)&&(decide (1<=s2)&&decide (s2<=61)));rw[ha,h1,h2];rfl
  .refine congrArg (·,()) ?_;show _=(jK s1.length (kW (s0,s1,s2,()))&&fO s0&&decide ((s1.length:Int)<=12)&&(decide (1<=s2)&&decide (s2<=61)));rw[ha,h1,h2];rfl
  .refine congrArg (·,()) ?_;show _=(jK s1.length (kW (s0,s1,s2,()))&&fO s0&&decide ((s1.length:Int)<=12)&&(decide (1<=s2)&&decide (s2<=61)));rw[ha,h1];rfl
theorem WU{α:Type}{l:List α}{lo:Nat}{news:List α}(h:lo+news.length<=l.length):(dF l lo news).length=l.length:=by unfold dF;simp only[awN,awK,axk];omega
theorem aaD{α:Type}{l:List α}{lo k:Nat}{news:List α}(hk:k<=lo)(h:lo<=l.length):(dF l lo news).take k=l.take k:=by unfold dF;rw[axr,axM (by rw[awK];omega),ayp,ayk hk]
theorem arx{α:Type}{l:List α}{lo k:Nat}{news:List α}(hk:k=lo+news.length)(h:lo<=l.length):(dF l lo news).take k=l.take lo++news:=by
 unfold dF;have:(l.take lo++news).length=k:=by rw[awN,awK];omega
 rw[axM (by omega),← this,aw0]
theorem acD:OK DV.e:=by
 refine XA.ok mixed (ax [nM.e] ⟨yc,trivial⟩) aeL (λ⟨l,_⟩ _=>⟨((l,()),()),rfl⟩) (by kernel_rfl) (show∀l,DV.goal (acE l) (l,())from ?_);intro l hin hp;dsimp only[DV]at hp ⊢;obtain⟨h1,h2⟩:l.length<=1000/\∀f∈l,bY f:=hp;refine bZ (λi(x:List aF)=>(((),i,()),x,())) (λy=>y.1.2.1) (λ_ _=>rfl) l.length (by omega) (λn x=>x=l.take n) (by simp) (λI μ n x hn hJ next=>?_) λI μ x hJ=>?_
 .subst hJ;have hl:(l.take n).length<=n:=by rw[awK];omega
  dsimp only;refine bU (by omega) ⟨⟨by omega,by omega⟩,h2 _ (getD_mem (d:=((0:Int),(0:Int),false,(0:Int),[],())) hn),by rw[bM];simp only[awL,awP];omega,rfl,next _ ?_⟩;exact(Sp.take_succ' l n (0,0,false,0,[],()) hn).symm
 .subst hJ;dsimp only;refine bV (by omega) ?_;show List.take l.length l=l;rw[aw0]
theorem H6:OK sD.e:=by refine XA.ok mixed (ax [DV.e,lQ.e] ⟨acD,EI,trivial⟩) aeM (λ⟨(a,l,nx,_),_⟩ _=>⟨(((a,l,nx,()),()),()),rfl⟩) (by kernel_rfl) (show∀s0 s1 s2,sD.goal (acF s0 s1 s2) ((s0,s1,s2,()),())from ?_);intro s0 s1 s2 hin hp;dsimp only[sD]at hp ⊢;obtain⟨h0,h1,h2⟩:s0.length<=1000/\s1.length<=1000/\∀f∈s1,bY f:=hp;refine⟨h0,⟨h1,h2⟩,?_⟩;rintro⟨⟨x,⟨⟩⟩,⟨⟩⟩ e;have e:x=s1:=e;subst e;exact rfl
end Go.Proofs.Tryz
namespace Go.Proofs.Tryz
open Go Go.Fw Go.IntWalk Sp
theorem abm:OK Bz.e:=by
 refine XA.ok mixed (ax [jo.e] ⟨kN,trivial⟩) H0 (λ_ _=>⟨((([]:List UInt8),()),(([],0,0,()),())),⟨by decide,by decide⟩⟩) (by kernel_rfl) (show∀c0 c1 c2,Bz.goal (abn c0 c1 c2) ((c0,c1,c2,()),())from ?_);intro b i h hin hp;dsimp only[Bz]at hp ⊢;have hp:0<=i:=hp
 repeat' first
  |exact trivial
  |refine af (λ_=>?_) λ_=>?_
  |refine And.intro ?_ ?_
  |(intro r hr;simp only[]at hr)
  |intro r hr
 all_goals first
  |omega
  |(dsimp only at*;omega)
  |exact hr
  |(simp only[awJ,ne_eq]at*;omega)
  |(simp only[aw5,awK,awN,awL,awP];omega)
  |(rw[bM];simp only[aw5,awK,awN,awL,awP];omega)
  |(simp only[aw5,awK,awN,awL,awP]at*;omega)
  |exact(show∀y∈_,List.length y.1<=10 from by decide) _ hr.2
  |(simp;done)
  |skip
theorem Ti:OK xk.e:=by
 refine XA.ok mixed (ax [Bz.e,lY.e,uH.e,jo.e,dL.e] ⟨abm,yR,Jr,kN,eG,trivial⟩) H0 (λ_ _=>⟨((((0:Int),(0:Int),(0:Int),([]:List UInt8),(0:Int),(0:Int),([]:List UInt8),()),()),(([],0,0,()),())),⟨by decide,trivial⟩⟩) (by kernel_rfl) (show∀c0 c1 c2,xk.goal (ahd c0 c1 c2) ((c0,c1,c2,()),())from ?_);intro b i h hin hp;dsimp only[xk]at hp ⊢;have hp:0<=i:=hp
 repeat' first
  |exact trivial
  |refine af (λ_=>?_) λ_=>?_
  |refine And.intro ?_ ?_
  |(intro r hr;simp only[]at hr)
  |intro r hr
 all_goals first
  |omega
  |(dsimp only at*;omega)
  |exact hr
  |(simp only[awJ,ne_eq]at*;omega)
  |(simp only[aw5,awK,awN,awL,awP];omega)
  |(rw[bM];simp only[aw5,awK,awN,awL,awP];omega)
  |(simp only[aw5,awK,awN,awL,awP]at*;omega)
  |exact(show∀y∈_,List.length y.1<=10 from by decide) _ hr.2
  |(simp;done)
  |skip
theorem Vz[kz](Xq:iM prog G yN Ce):iM prog G KL Ie:=by
 refine VA (ax [(yN,.eff (oH qy) Ce),dL.e,xk.e,mP.e] ⟨⟨Xq,U9⟩,eG,Ti,Ar,trivial⟩) (λ⟨_,q,deep,_,_⟩ _=>⟨((q++[(0,0,0,[],0,0,[],())],()),(([],0,0,()),())),⟨by decide,by simp,by simp⟩⟩) ?_;intro b i h q deep not hin hp;obtain⟨⟨hp1,hp2,hp3,hp4⟩,hp5⟩:=hp;have hw:IntKind.i64.wrap (deep-1)=deep-1:=fQ _ (by omega);refine⟨λy=>0<=y.2.1.2.1/\0<deep,?_⟩;dsimp only;rw[hw]
 repeat' first
  |exact trivial
  |refine af (λ_=>?_) λ_=>?_
  |refine And.intro ?_ ?_
  |(intro r hr;simp only[]at hr)
  |intro r hr
 all_goals first
  |omega
  |(dsimp only at*;omega)
  |exact hr
  |(simp only[awJ,ne_eq]at*;omega)
  |(simp only[aw5,awK,awN,awL,awP];omega)
  |(rw[bM];simp only[aw5,awK,awN,awL,awP];omega)
  |(simp only[aw5,awK,awN,awL,awP]at*;omega)
  |exact(show∀y∈_,List.length y.1<=10 from by decide) _ hr.2
  |(simp;done)
  |skip
theorem ahe:iM prog G aiF ad5:=
 aiv (λn=>@LJ ⟨n⟩) (λn=>@wB ⟨n⟩) (by rintro⟨⟨b,i,h,⟨⟩⟩,q,deep,not,⟨⟩⟩ h;exact ay8 _ h.2) (by rintro _ ⟨⟨b,i,h,⟨⟩⟩,q,deep,not,⟨⟩⟩;rfl) (by rintro⟨⟨b,i,h,⟨⟩⟩,q,deep,not,⟨⟩⟩ h;exact⟨_,h,ayX _⟩) (by rintro _ ⟨⟨b,i,h,⟨⟩⟩,q,deep,not,⟨⟩⟩;rfl) λn h=>@Vz ⟨n⟩ h
theorem Le:iM prog G yQ Ci:=
 ap2 (F:=UG) (F':=LK) (by decide) ahe (λa x h=>⟨h.1,h.2.1,h.2.2,(show∀z:Int,0<=z->z<=4->0+2*z.toNat<=900 fromλz _ _=>by omega) _ h.2.1 h.2.2⟩) λa x h=>rfl
theorem Zb:OK zB.e:=by
 refine XA.ok mixed (ax [(yQ,.eff (oH qA) Ci),dL.e] ⟨⟨Le,JL⟩,eG,trivial⟩) abo (λ_ _=>⟨(([(0,0,0,[],0,0,[],())],()),(([],0,0,()),())),⟨by decide,by decide,by decide⟩⟩) (by kernel_rfl) (show∀c0 c1 c2,zB.goal (Zc c0 c1 c2) ((c0,c1,c2,()),())from ?_);intro b i h hin hp;dsimp only[zB]at hp ⊢;have hp:0<=i:=hp
 repeat' first
  |exact trivial
  |refine af (λ_=>?_) λ_=>?_
  |refine And.intro ?_ ?_
  |(intro r hr;simp only[]at hr)
  |intro r hr
 all_goals first
  |omega
  |(dsimp only at*;omega)
  |exact hr
  |(simp only[awJ,ne_eq]at*;omega)
  |(simp only[aw5,awK,awN,awL,awP];omega)
  |(rw[bM];simp only[aw5,awK,awN,awL,awP];omega)
  |(simp only[aw5,awK,awN,awL,awP]at*;omega)
  |exact(show∀y∈_,List.length y.1<=10 from by decide) _ hr.2
  |(simp;done)
  |skip
theorem EP:OK lS.e:=by
 refine XA.ok mixed (ax [(yQ,.eff (oH qA) Ci),dL.e] ⟨⟨Le,JL⟩,eG,trivial⟩) Pn (λ_ _=>⟨(([(0,0,0,[],0,0,[],())],()),(([],0,0,()),())),⟨by decide,by decide,by decide⟩⟩) (by kernel_rfl) (show∀c0 c1 c2,lS.goal (Oo c0 c1 c2) ((c0,c1,c2,()),())from ?_);intro b i h hin hp;dsimp only[lS]at hp ⊢;have hp:0<=i:=hp
 repeat' first
  |exact trivial
  |refine af (λ_=>?_) λ_=>?_
  |refine And.intro ?_ ?_
  |(intro r hr;simp only[]at hr)
  |intro r hr
 all_goals first
  |omega
  |(dsimp only at*;omega)
  |exact hr
  |(simp only[awJ,ne_eq]at*;omega)
  |(simp only[aw5,awK,awN,awL,awP];omega)
  |(rw[bM];simp only[aw5,awK,awN,awL,awP];omega)
  |(simp only[aw5,awK,awN,awL,awP]at*;omega)
  |exact(show∀y∈_,List.length y.1<=10 from by decide) _ hr.2
  |(simp;done)
  |skip
theorem ai8:OK IZ.e:=by
 refine XA.ok mixed (ax [Ew.e,xk.e,jo.e,kE.e,dL.e,zB.e] ⟨Ve,Ti,kN,pY,eG,Zb,trivial⟩) akS (λ_ _=>⟨(([],()),(([],0,0,()),())),⟨by decide,by decide⟩⟩) (by kernel_rfl) (show∀c0 c1 c2,IZ.goal (ai9 c0 c1 c2) ((c0,c1,c2,()),())from ?_);intro b i h hin hp;dsimp only[IZ]at hp ⊢;have hp:0<=i:=hp
 repeat' first
  |exact trivial
  |refine af (λ_=>?_) λ_=>?_
  |refine And.intro ?_ ?_
  |(intro r hr;simp only[]at hr)
  |intro r hr
 all_goals first
  |omega
  |(dsimp only at*;omega)
  |exact hr
  |(simp only[awJ,ne_eq]at*;omega)
  |(simp only[aw5,awK,awN,awL,awP];omega)
  |(rw[bM];simp only[aw5,awK,awN,awL,awP];omega)
  |(simp only[aw5,awK,awN,awL,awP]at*;omega)
  |exact(show∀y∈_,List.length y.1<=10 from by decide) _ hr.2
  |(simp;done)
  |skip
theorem Ej:aI []:=⟨by simp,λx hx=>by cases hx⟩
theorem KU{d:List aV}{x:aV}(h:aI d)(hl:d.length<1000)(hx:x.2.1.length<=1000):aI (d++[x]):=
 ⟨by simp;omega,λy hy=>by rcases aw2.1 hy with hy|hy;exact h.2 y hy;rw[axy.1 hy];exact hx⟩
theorem ahf{d:List aV}{x:aV}(n:Nat)(h:aI d)(hx:x.2.1.length<=1000):aI (d.set n x):=
 ⟨by simp;exact h.1,λy hy=>by rcases ay9 hy with hy|hy;exact h.2 y hy;rw[hy];exact hx⟩
theorem anm{d:List aV}(n:Nat)(h:aI d):aI (d.take n):=
 ⟨by rw[awK];have:=h.1;omega,λy hy=>h.2 y (ayT hy)⟩
theorem aqy{d:List aV}(h:aI d){n:Nat}(hn:n<d.length):(d.getD n ([],[],())).2.1.length<=1000:=h.2 _ (getD_mem hn)
theorem S9:OK Cj.e:=by
 refine XA.ok mixed (ax [lS.e,dL.e] ⟨EP,eG,trivial⟩) aja (λ_ _=>⟨(([([],[],())],()),(([],0,0,()),())),⟨by decide,by decide,by decide,by decide,by decide⟩⟩) (by kernel_rfl) (show∀c0 c1 c2,Cj.goal (ahg c0 c1 c2) ((c0,c1,c2,()),())from ?_);intro b i h hin hp;dsimp only[Cj]at hp ⊢;have hp:0<=i:=hp;refine⟨λy=>0<=y.2.1.2.1/\y.1.2.1=y.2.2.1.length/\y.2.2.1.length<=4/\aI y.2.2.1,λy=>(4-y.1.2.1).toNat,⟨hp,rfl,by simp,Ej⟩,?_⟩;rintro⟨⟨_,k,_⟩,⟨b1,i1,h1,_⟩,l,_⟩ ⟨q1,q2,q3,q4⟩;dsimp only at q1 q2 q3 q4 ⊢;refine⟨q1,?_⟩;rintro⟨⟨r,_⟩,⟨b2,i2,h2,_⟩,_⟩ ⟨e1,e2,e3,_⟩;dsimp only at e1 e2 e3 ⊢;have e3:=e3 (by omega);rw[fQ (1+r) (by omega),fQ (k+1) (by omega)];refine af (λhc=>?_) λhc=>?_
 .have hc:=gI hc;refine⟨⟨by omega,by simp only[awL,awP];omega⟩,by simp only[awL,awP];omega,e1,?_⟩;rintro⟨⟨x,_⟩,⟨b3,i3,h3,_⟩,_⟩ ⟨g1,g2,g3⟩;dsimp only at g1 g2 g3 ⊢;refine⟨by rw[bM];simp only[awL,awP];omega,rfl,⟨g1,by simp;omega,by simp;omega,KU q4 (by omega) (by dsimp only;omega)⟩,by omega⟩
 .have hc:=gZ hc;exact⟨e1,by omega,by omega,q4⟩
theorem ajb:OK I4.e:=by
 refine XA.ok mixed (ax [lS.e,IZ.e,jo.e,dL.e,Cj.e] ⟨EP,ai8,kN,eG,S9,trivial⟩) akT (λ_ _=>⟨(([],()),(([],0,0,()),())),⟨by decide,by decide,Ej⟩⟩) (by kernel_rfl) (show∀c0 c1 c2,I4.goal (ajc c0 c1 c2) ((c0,c1,c2,()),())from ?_);intro b i h hin hp;dsimp only[I4]at hp ⊢;have hp:0<=i:=hp;refine⟨hp,?_⟩;rintro⟨⟨d,_⟩,⟨b1,i1,h1,_⟩,_⟩ ⟨q1,q2,q3,q4⟩;dsimp only at q1 q2 q3 q4 ⊢;refine⟨q1,?_⟩;rintro⟨⟨r,_⟩,⟨b2,i2,h2,_⟩,_⟩ ⟨e1,e2,e3,_⟩;dsimp only at e1 e2 e3 ⊢;have e3:=e3 (by omega);refine⟨e1,?_⟩;rintro⟨⟨s,_⟩,⟨b3,i3,h3,_⟩,_⟩ ⟨f1,f2,f3,_⟩;dsimp only at f1 f2 f3 ⊢;have hn:r.toNat<d.length:=by omega
 refine af (λ_=>⟨⟨f1,by simp⟩,?_⟩) λ_=>af (λ_=>⟨f1,?_⟩) λ_=>af (λ_=>?_) λ_=>af (λ_=>?_) λ_=>?_
 .rintro⟨⟨x,_⟩,⟨b4,i4,h4,_⟩,_⟩ ⟨g1,g2⟩;exact⟨⟨e2,e3⟩,hn,g1,by simp;omega,ahf _ q4 (aqy q4 hn)⟩
 .rintro⟨⟨x,_⟩,⟨b4,i4,h4,_⟩,_⟩ ⟨g1,g2⟩;exact⟨⟨e2,e3⟩,hn,g1,by simp;omega,ahf _ q4 (by dsimp only at g2 ⊢;omega)⟩
 .refine⟨λy=>0<=y.2.1.2.1/\y.2.2.1.length<=6/\aI y.2.2.1,λy=>6-y.2.2.1.length,⟨f1,by dsimp only;omega,q4⟩,?_⟩;rintro⟨_,⟨b4,i4,h4,_⟩,l,_⟩ ⟨g1,g2,g3⟩;dsimp only at g1 g2 g3 ⊢;refine⟨g1,?_⟩;rintro⟨⟨r',_⟩,⟨b5,i5,h5,_⟩,_⟩ ⟨k1,k2,k3,_⟩;dsimp only at k1 k2 k3 ⊢;have k3:=k3 (by omega);rw[fQ (5+r') (by omega)];refine af (λhc=>?_) λhc=>?_
  .have hc:=gI hc;refine⟨⟨by omega,by simp only[awL,awP];omega⟩,k1,?_⟩;rintro⟨⟨x,_⟩,⟨b6,i6,h6,_⟩,_⟩ ⟨m1,m2,m3⟩;dsimp only at m1 m2 m3 ⊢;refine⟨by rw[bM];simp only[awL,awP];omega,rfl,⟨m1,by simp;omega,KU g3 (by omega) (by dsimp only;omega)⟩,by simp;omega⟩
  .exact⟨k1,by omega,g3⟩
 .exact⟨f1,by simp,Ej⟩
 .exact⟨f1,by omega,q4⟩
end Go.Proofs.Tryz
namespace Go.Proofs.Tryz
open Go Go.Fw Go.IntWalk Sp
theorem Pq(n0 n1 n2:Int)(n3:Sp.Bytes)(n4 n5:Int)(n6:Sp.Bytes)(a:Int):kQ (n0,n1,n2,n3,n4,n5,n6,()) a=
 (bif n0==1 then(n1==0&&n2==0)&&(n3==[]&&(n4==0&&(n5==0&&n6==[])))else bif n0==2 then(n1==0&&n2==0)&&(n4==0&&(n5==0&&n6==[]))&&jY n3 else
 bif n0==3 then(n1==0&&n2==0)&&jY n3&&kH n4 n5 n6&&!(n4==0)else bif n0==4 then(n1==0&&n2==0)&&jY n3&&kH n4 n5 n6&&n4==1 else
 bif n0==5 then(decide (0<=n1)&&decide (n1<=a-1)&&decide (0<a))&&n2==0&&(n3==[]&&(n4==0&&(n5==0&&n6==[])))else
 bif n0==6||n0==7 then(decide (0<=n1)&&decide (n1<=a-1)&&decide (0<a))&&(decide (0<=n2)&&decide (n2<=a-1))&&(n3==[]&&(n4==0&&(n5==0&&n6==[])))else
 bif n0==8||n0==9 then(n1==0&&n2==0)&&(n4==0&&(n5==0&&n6==[]))&&iT n3 else false):=rfl
theorem Zg:OK zD.e:=by
 refine PA.ok mixed (ax [mV.e,mG.e,rJ.e,oz.e] ⟨Dn,sQ,KR,Hq,trivial⟩) abu (by kernel_rfl) (show∀n0 n1 n2 n3 n4 n5 n6 at',zD.goal (Mc n0 n1 n2 n3 n4 n5 n6 at') ((n0,n1,n2,n3,n4,n5,n6,()),at',())from ?_);intro n0 n1 n2 n3 n4 n5 n6 a hin hp;dsimp only[zD]at hp ⊢;have ha:-9223372036854775808<=a/\a<=9223372036854775807:=hin.2.1;show Mc n0 n1 n2 n3 n4 n5 n6 a λr=>r=(kQ (n0,n1,n2,n3,n4,n5,n6,()) a,());rw[Pq];have w:0<a->IntKind.i64.wrap (a-1)=a-1:=λh=>fQ _ (by omega);refine af (λ_=>?_) λ_=>af (λ_=>af (λ_=>⟨trivial,?_⟩) λ_=>?_) λ_=>⟨λy=>y=((n0==3||n0==4,()),()),?_,?_⟩
 .first|(simp_all;done)|(simp_all;grind)
 .first|(simp_all;done)|(simp_all;grind)
 .first|(simp_all;done)|(simp_all;grind)
 .refine af (λ_=>⟨rfl,?_⟩) λ_=>⟨rfl,?_⟩<;>first|(simp_all;done)|(simp_all;grind)
 .rintro _ rfl;refine af (λ_=>?_) λ_=>af (λ_=>af (λ_=>af (λh=>⟨trivial,?_⟩) λ_=>?_) λ_=>?_) λ_=>⟨λy=>y=((n0==6||n0==7,()),()),?_,?_⟩
  .refine af (λ_=>⟨trivial,af (λ_=>⟨trivial,af (λ_=>af (λ_=>af (λ_=>?_) λ_=>?_) λ_=>?_) λ_=>?_⟩) λ_=>?_⟩) λ_=>?_
   all_goals first|(simp_all;done)|(simp_all;grind)
  .rw[w (gI h)]
   first|(simp_all;done)|(simp_all;grind)
  .first|(simp_all;done)|(simp_all;grind)
  .first|(simp_all;done)|(simp_all;grind)
  .refine af (λ_=>⟨rfl,?_⟩) λ_=>⟨rfl,?_⟩<;>first|(simp_all;done)|(simp_all;grind)
  .rintro _ rfl;refine af (λ_=>af (λ_=>af (λh=>⟨trivial,?_⟩) λ_=>?_) λ_=>?_) λ_=>?_
   .rw[w (gI h)];refine af (λ_=>⟨trivial,?_⟩) λ_=>?_<;>first|(simp_all;done)|(simp_all;grind)
   .first|(simp_all;done)|(simp_all;grind)
   .first|(simp_all;done)|(simp_all;grind)
   .refine af (λ_=>af (λ_=>af (λ_=>⟨trivial,?_⟩) λ_=>?_) λ_=>?_) λ_=>af (λ_=>af (λ_=>⟨trivial,?_⟩) λ_=>?_) λ_=>?_
    all_goals first|(simp_all;done)|(simp_all;grind)
theorem Zh:OK zC.e:=by
 refine PA.ok mixed (ax [mQ.e,rH.e,ou.e,jb.e] ⟨Dl,KP,Ho,jJ,trivial⟩) abv (by kernel_rfl) (show∀n0 n1 n2 n3 n4 n5 n6 at',zC.goal (Md n0 n1 n2 n3 n4 n5 n6 at') ((n0,n1,n2,n3,n4,n5,n6,()),at',())from ?_);intro n0 n1 n2 n3 n4 n5 n6 a hin hp;dsimp only[zC]at hp ⊢;have ha:-9223372036854775808<=a/\a<=9223372036854775807:=hin.2.1;show Md n0 n1 n2 n3 n4 n5 n6 a λr=>r=(kQ (n0,n1,n2,n3,n4,n5,n6,()) a,());rw[Pq];have w:0<a->IntKind.i64.wrap (a-1)=a-1:=λh=>fQ _ (by omega);refine⟨λy=>y=((decide (0<=n1)&&decide (n1<=a-1)&&decide (0<a),()),()),⟨trivial,?_⟩,?_⟩
 .by_cases h:0<a
  .dsimp only;rw[w h];refine af (λ_=>⟨rfl,?_⟩) λ_=>⟨rfl,?_⟩<;>first|(simp_all;done)|(simp_all;grind)
  .dsimp only;refine af (λ_=>⟨rfl,?_⟩) λ_=>⟨rfl,?_⟩<;>first|(simp_all;done)|(simp_all;grind)
 .rintro _ rfl;refine⟨λy=>y=(((decide (0<=n1)&&decide (n1<=a-1)&&decide (0<a))&&(decide (0<=n2)&&decide (n2<=a-1)),()),()),?_,?_⟩
  .refine af (λh=>⟨trivial,rfl,?_⟩) λh=>⟨rfl,?_⟩
   .have h:(decide (0<=n1)&&decide (n1<=a-1)&&decide (0<a))=true:=h;have h2:0<a:=by simp at h;omega
    rw[w h2,h,ay1]
   .have h:(decide (0<=n1)&&decide (n1<=a-1)&&decide (0<a))=false:=h;rw[h,ayc]
  .rintro _ rfl;dsimp only;generalize (decide (0<=n1)&&decide (n1<=a-1)&&decide (0<a))=kids;generalize (decide (0<=n2)&&decide (n2<=a-1))=two
   repeat' first
    |exact trivial
    |refine af (λ_=>?_) λ_=>?_
    |refine And.intro trivial ?_
   all_goals first|(simp_all;done)|(simp_all;grind)
end Go.Proofs.Tryz
namespace Go.Proofs.Tryz
open Go Go.Fw Go.IntWalk Sp
theorem FO:OK sF.e:=by
 refine PA.ok mixed (ax [] trivial) ajt (by kernel_rfl) (show∀a b,sF.goal (ahQ a b) (a,b,())from ?_);intro a b hin hp;dsimp only[sF]at hp ⊢;have hlen:a.length<=maxLen:=hin.1.1;rw[maxLen_eq]at hlen;refine af (λh=>?_) λh=>?_
 .have h:(a.length:Int)≠b.length:=by simpa using h
  exact congrArg (·,()) (awT λe=>h (by rw[e])).symm
 .have h:(a.length:Int)=b.length:=by simpa using h
  exact Vk (K:=λr=>r=(decide (a=b),())) (λx y=>x.1 !=y.1) (λx y=>by simp[ayu]) _ a b _ hlen (by omega) (λe=>by rw[awT e]) λe=>by rw[awS e]
theorem adh:OK DW.e:=by
 refine PA.ok mixed (ax [] trivial) afv (by kernel_rfl) (show∀a b,DW.goal (adi a b) (a,b,())from ?_);intro a b hin hp;dsimp only[DW]at hp ⊢;have hlen:a.length<=maxLen:=hin.1.1;rw[maxLen_eq]at hlen;refine af (λh=>?_) λh=>?_
 .have h:(a.length:Int)≠b.length:=by simpa using h
  exact congrArg (·,()) (awT λe=>h (by rw[e])).symm
 .have h:(a.length:Int)=b.length:=by simpa using h
  exact Vk (K:=λr=>r=(decide (a=b),())) (λx y=>!(x.1==y.1&&(x.2.1==y.2.1&&(x.2.2.1==y.2.2.1&&(x.2.2.2.1==y.2.2.2.1&&(x.2.2.2.2.1==y.2.2.2.2.1&&(x.2.2.2.2.2.1==y.2.2.2.2.2.1&&(x.2.2.2.2.2.2.1==y.2.2.2.2.2.2.1&&true)))))))) (λx y=>by simp[ayu]) _ a b _ hlen (by omega) (λe=>by rw[awT e]) λe=>by rw[awS e]
theorem ahR:OK Gq.e:=by
 refine PA.ok mixed (ax [DW.e] ⟨adh,trivial⟩) H0 (by kernel_rfl) (show∀a0 a1 b0 b1,Gq.goal (ahS a0 a1 b0 b1) ((a0,a1,()),(b0,b1,()),())from ?_);intro a0 a1 b0 b1 hin hp;dsimp only[Gq]at hp ⊢;refine af (λh0=>⟨trivial,?_⟩) λh0=>?_
 all_goals refine congrArg (·,()) (aw6.2 ?_)
 .simp only[awQ]at h0;subst h0;simp
 .have h0:a0≠b0:=by simpa using h0
  simp[h0]
theorem aff:OK FB.e:=by
 refine PA.ok mixed (ax [Gq.e] ⟨ahR,trivial⟩) ahT (by kernel_rfl) (show∀a b,FB.goal (afw a b) (a,b,())from ?_);intro a b hin hp;dsimp only[FB]at hp ⊢;have hlen:a.length<=maxLen:=hin.1.1;rw[maxLen_eq]at hlen;refine af (λh=>?_) λh=>?_
 .have h:(a.length:Int)≠b.length:=by simpa using h
  exact congrArg (·,()) (awT λe=>h (by rw[e])).symm
 .have h:(a.length:Int)=b.length:=by simpa using h
  exact aeE (K:=λr=>r=(decide (a=b),())) (λx y=>!decide ((x.1,x.2.1,())=(y.1,y.2.1,()))) (λx y=>by simp[ayu]) _ a b _ hlen (by omega) (λe=>by rw[awT e]) λe=>by rw[awS e]
theorem QJ:OK zH.e:=by refine PA.ok mixed (ax [] trivial) H0 (by kernel_rfl) (show∀n0 n1 n2 n3 n4 n5 n6,zH.goal (afx n0 n1 n2 n3 n4 n5 n6) ((n0,n1,n2,n3,n4,n5,n6,()),())from ?_);intro n0 n1 n2 n3 n4 n5 n6 hin hp;dsimp only[zH]at hp ⊢;exact af (λh=>by rw[h];rfl) λh=>by rw[h];rfl
theorem PK:OK qB.e:=by refine PA.ok mixed (ax [] trivial) Rf (by kernel_rfl) (show∀s,qB.goal (PL s) (s,())from ?_);intro s hin hp;dsimp only[qB]at hp ⊢;have hp:s.length<=1000:=hp;refineλg hg=>af (λh=>?_) λh=>⟨by rw[bM];omega,rfl⟩;have:=hg h;rw[List.eq_nil_of_length_eq_zero this]
theorem Tm:OK CG.e:=by refine PA.ok mixed (ax [qB.e] ⟨PK,trivial⟩) aju (by kernel_rfl) (show∀x0 x1,CG.goal (ahU x0 x1) ((x0,x1,()),())from ?_);intro x0 x1 hin hp;dsimp only[CG]at hp ⊢;exact⟨hp,rfl⟩
theorem o6{d:List aV}(h:aI d){n:Nat}(hn:n<d.length):(d.getD n ([],[],())).2.1.length<=1000:=h.2 _ (getD_mem hn)
theorem QV:OK zM.e:=by
 refine PA.ok mixed (ax [CG.e] ⟨Tm,trivial⟩) ahV (by kernel_rfl) (show∀d,zM.goal (afy d) (d,())from ?_);intro d hin hp;dsimp only[zM]at hp ⊢;have hp:aI d:=hp;have hlen:d.length<=1000:=hp.1;refine bZ (λi(x:List aV)=>(((),i,()),x,())) (λy=>y.1.2.1) (λ_ _=>rfl) d.length (by omega) (λn l=>l=d.take n) (by simp) (λI μ n l hn hJ next=>?_) λI μ l hJ=>?_
 .subst hJ;have hl:(d.take n).length<=n:=by rw[awK];omega
  dsimp only;refine bU (by omega) ⟨⟨by omega,by omega⟩,o6 hp hn,by rw[bM];simp only[awL,awP];omega,rfl,next _ ?_⟩;exact(Sp.take_succ' d n ([],[],()) hn).symm
 .subst hJ;dsimp only;refine bV (by omega) ?_;rw[aw0]
theorem Td:OK CJ.e:=by
 refine PA.ok mixed (ax [] trivial) ajv (by kernel_rfl) (show∀d,CJ.goal (ahW d) (d,())from ?_);intro d hin hp;dsimp only[CJ]at hp ⊢;have hp:aI d:=hp;have hlen:d.length<=1000:=hp.1;refine bZ (λi(x:List aV)=>(((),i,()),x,())) (λy=>y.1.2.1) (λ_ _=>rfl) d.length (by omega) (λn l=>l=d.take n) (by simp) (λI μ n l hn hJ next=>?_) λI μ l hJ=>?_
 .subst hJ;have hl:(d.take n).length<=n:=by rw[awK];omega
  dsimp only;refine bU (by omega) ⟨⟨by omega,by omega⟩,⟨by omega,by omega⟩,by rw[bM];have:=o6 hp hn;show 0+(d.getD n ([],[],())).2.1.length<=_;omega,by rw[bM];simp only[awL,awP];omega,rfl,next _ ?_⟩;exact(Sp.take_succ' d n ([],[],()) hn).symm
 .subst hJ;dsimp only;refine bV (by omega) ?_;rw[aw0]
end Go.Proofs.Tryz
namespace Go.Proofs.Tryz
open Go Go.Fw Go.IntWalk Sp
theorem XR(a:Int)(x:bI):(Sp.refsOf a x:Int)=(if(x.1=6\/x.1=7\/x.1=5)/\x.2.1=a then 1 else 0)+(if(x.1=6\/x.1=7)/\x.2.2.1=a then 1 else 0):=by unfold Sp.refsOf gY;by_cases h6:x.1=6<;>by_cases h7:x.1=7<;>by_cases h5:x.1=5<;>by_cases hl:x.2.1=a<;>by_cases hr:x.2.2.1=a<;>simp[cond_eq_ite,h6,h7,h5,hl,hr]
theorem asV(a:Int)(x:bI):Sp.refsOf a x<=2:=by have:=XR a x;split at this<;>split at this<;>omega
def oL(q:List bI)(a:Int)(n:Nat):Nat:=((q.take n).map (Sp.refsOf a)).sum
theorem Ux(q:List bI)(a:Int){n:Nat}(hn:n<q.length):oL q a (n+1)=oL q a n+Sp.refsOf a (Sp.nodeAt q n):=by unfold oL;rw[Sp.take_succ' q n (0,0,0,[],0,0,[],()) hn];simp only[axq,List.sum_append,axd,List.map_nil,ayG,List.sum_nil,ax4];rfl
theorem abE(q:List bI)(a:Int):∀n,n<=q.length->oL q a n<=2*n
 |0,_=>by simp[oL]
 |n+1,h=>by rw[Ux q a (by omega)];have:=abE q a n (by omega);have:=asV a (Sp.nodeAt q n);omega
theorem ahX(q:List bI)(a:Int):oL q a q.length=nN q a:=by unfold oL nN;rw[aw0]
theorem RH:OK sV.e:=by
 refine PA.ok mixed (ax [] trivial) Uy (by kernel_rfl) (show∀q at',sV.goal (RI q at') (q,at',())from ?_);intro q a hin hp;dsimp only[sV]at hp ⊢;have hp:q.length<=1000000:=hp;refine bZ (λi(c:Int)=>((c,i,()),())) (λy=>y.1.2.1) (λ_ _=>rfl) q.length (by omega) (λn c=>c=(oL q a n:Int)) rfl (λI μ n c hn hJ next=>?_) λI μ c hJ=>?_
 .subst hJ;have hs:=Ux q a hn;have hb:=abE q a n (by omega);have hr:=XR a (Sp.nodeAt q n);dsimp only;rw[awO];have e:q.getD n (0,0,0,[],0,0,[],())=Sp.nodeAt q n:=rfl;rw[e];have w1:IntKind.i64.wrap ((oL q a n:Int)+1)=(oL q a n:Int)+1:=fQ _ (by omega);have w2:IntKind.i64.wrap ((oL q a n:Int)+1+1)=(oL q a n:Int)+1+1:=fQ _ (by omega);refine bU (by omega) ⟨⟨by omega,by omega⟩,af (λh6=>⟨λy=>y=(((oL q a n:Int)+(if(Sp.nodeAt q n).2.1=a then 1 else 0),()),()),⟨⟨by omega,by omega⟩,af (λhl=>⟨rfl,?_⟩) λhl=>⟨rfl,?_⟩⟩,?_⟩) λh6=>⟨⟨by omega,by omega⟩,λy=>y=(((oL q a n:Int)+(if((Sp.nodeAt q n).1=7\/(Sp.nodeAt q n).1=5)/\(Sp.nodeAt q n).2.1=a then 1 else 0),()),()),?_,?_⟩⟩
  .simp only[awQ]at hl;rw[w1,if_pos hl]
  .simp only[awJ]at hl;rw[if_neg hl,ayR]
  .rintro _ rfl;simp only[awQ]at h6;refine⟨⟨by omega,by omega⟩,af (λhrr=>⟨rfl,next _ ?_⟩) λhrr=>⟨rfl,next _ ?_⟩⟩
   all_goals
    dsimp only;simp only[awQ,awJ,ne_eq]at hrr;by_cases hl:(Sp.nodeAt q n).2.1=a<;>simp[h6,hl,hrr]at hr<;>simp only[hl,if_true,azb,ayR,w1,w2]<;>omega
  .simp only[awJ,ne_eq]at h6;refine af (λh7=>⟨⟨by omega,by omega⟩,af (λhl=>⟨rfl,?_⟩) λhl=>⟨rfl,?_⟩⟩) λh7=>⟨⟨by omega,by omega⟩,af (λh5=>⟨⟨by omega,by omega⟩,af (λhl=>⟨rfl,?_⟩) λhl=>⟨rfl,?_⟩⟩) λh5=>⟨rfl,?_⟩⟩
   all_goals simp_all
  .rintro _ rfl;simp only[awJ,ne_eq]at h6;refine af (λh7=>⟨⟨by omega,by omega⟩,af (λhrr=>⟨rfl,next _ ?_⟩) λhrr=>⟨rfl,next _ ?_⟩⟩) λh7=>⟨rfl,next _ ?_⟩
   .simp only[awQ]at h7 hrr;by_cases hl:(Sp.nodeAt q n).2.1=a<;>simp[h6,h7,hl,hrr]at hr<;>simp only[h7,hl,true_or,and_self,and_false,if_true,azb,ayR,w1,w2]<;>omega
   .simp only[awQ,awJ,ne_eq]at h7 hrr;by_cases hl:(Sp.nodeAt q n).2.1=a<;>simp[h6,h7,hl,hrr]at hr<;>simp only[h7,hl,true_or,and_self,and_false,if_true,azb,ayR,w1,w2]<;>omega
   .simp only[awJ,ne_eq]at h7;dsimp only;by_cases h5:(Sp.nodeAt q n).1=5<;>by_cases hl:(Sp.nodeAt q n).2.1=a<;>simp[h6,h7,h5,hl]at hr<;>simp[h7,h5,hl]<;>omega
 .dsimp only;refine bV (by omega) ?_;rw[hJ,ahX]
theorem RJ:OK sW.e:=by
 refine PA.ok mixed (ax [] trivial) Uz (by kernel_rfl) (show∀q at',sW.goal (RN q at') (q,at',())from ?_);intro q a hin hp;dsimp only[sW]at hp ⊢;have hp:q.length<=1000000:=hp;refine bZ (λi(c:Int)=>((c,i,()),())) (λy=>y.1.2.1) (λ_ _=>rfl) q.length (by omega) (λn c=>c=(oL q a n:Int)) rfl (λI μ n c hn hJ next=>?_) λI μ c hJ=>?_
 .subst hJ;have hs:=Ux q a hn;have hb:=abE q a n (by omega);have hr:=XR a (Sp.nodeAt q n);dsimp only;rw[awO];have e:q.getD n (0,0,0,[],0,0,[],())=Sp.nodeAt q n:=rfl;rw[e];have w1:IntKind.i64.wrap ((oL q a n:Int)+1)=(oL q a n:Int)+1:=fQ _ (by omega);have w2:IntKind.i64.wrap ((oL q a n:Int)+1+1)=(oL q a n:Int)+1+1:=fQ _ (by omega);refine bU (by omega) ⟨⟨by omega,by omega⟩,af (λh6=>⟨λy=>y=(((oL q a n:Int)+(if(Sp.nodeAt q n).2.1=a then 1 else 0),()),()),af (λhl=>⟨rfl,?_⟩) λhl=>⟨rfl,?_⟩,?_⟩) λh6=>⟨λy=>y=(((oL q a n:Int)+(if((Sp.nodeAt q n).1=7\/(Sp.nodeAt q n).1=5)/\(Sp.nodeAt q n).2.1=a then 1 else 0),()),()),?_,?_⟩⟩
  .simp only[awQ]at hl;rw[w1,if_pos hl]
  .simp only[awJ]at hl;rw[if_neg hl,ayR]
  .rintro _ rfl;simp only[awQ]at h6;refine af (λhrr=>⟨rfl,next _ ?_⟩) λhrr=>⟨rfl,next _ ?_⟩
   all_goals
    dsimp only;simp only[awQ,awJ,ne_eq]at hrr;by_cases hl:(Sp.nodeAt q n).2.1=a<;>simp[h6,hl,hrr]at hr<;>simp only[hl,if_true,azb,ayR,w1,w2]<;>omega
  .simp only[awJ,ne_eq]at h6;refine af (λhl=>af (λh7=>⟨rfl,?_⟩) λh7=>af (λh5=>⟨rfl,?_⟩) λh5=>⟨rfl,?_⟩) λhl=>⟨rfl,?_⟩
   all_goals simp_all
  .rintro _ rfl;simp only[awJ,ne_eq]at h6;refine af (λhrr=>af (λh7=>⟨rfl,next _ ?_⟩) λh7=>⟨rfl,next _ ?_⟩) λhrr=>⟨rfl,next _ ?_⟩
   .simp only[awQ]at h7 hrr;by_cases hl:(Sp.nodeAt q n).2.1=a<;>simp[h6,h7,hl,hrr]at hr<;>simp only[h7,hl,true_or,and_self,and_false,if_true,azb,ayR,w1,w2]<;>omega
   .simp only[awJ,ne_eq]at h7;dsimp only;by_cases h5:(Sp.nodeAt q n).1=5<;>by_cases hl:(Sp.nodeAt q n).2.1=a<;>simp[h6,h7,h5,hl]at hr<;>simp[h7,h5,hl]<;>omega
   .simp only[awJ,ne_eq]at hrr;dsimp only;by_cases h7:(Sp.nodeAt q n).1=7<;>by_cases h5:(Sp.nodeAt q n).1=5<;>by_cases hl:(Sp.nodeAt q n).2.1=a<;>simp[h6,h7,h5,hl,hrr]at hr<;>simp[h7,h5,hl]<;>omega
 .dsimp only;refine bV (by omega) ?_;rw[hJ,ahX]
theorem ahY{q:List bI}{n:Nat}(hn:n<q.length)(h:mF q n=false):aZ q=false:=by unfold aZ;rw[zy hn h];rfl
theorem qM:OK kC.e:=by
 refine PA.ok mixed (ax [jb.e,sV.e,zC.e] ⟨jJ,RH,Zh,trivial⟩) Zq (by kernel_rfl) (show∀q,kC.goal (XT q) (q,())from ?_);intro q hin hp;dsimp only[kC]at hp ⊢;have hp:q.length<=1000000:=hp;refine jd q.length (by omega) (λn=>∀i,i<n->mF q i=true) (λi hi=>by omega) (λI μ n hn hJ next=>?_) λI μ hJ=>?_
 .dsimp only;have no:mF q n=false->(false,())=(aZ q,()):=λh=>by rw[ahY hn h]
  rw[xA (show 0<q.length by omega) (by omega)];refine bU (by omega) ⟨⟨by omega,by omega⟩,trivial,af (λh2=>no ?_) λh2=>af (λh3=>⟨hp,af (λh4=>no ?_) λh4=>⟨rfl,next (eY hJ ?_)⟩⟩) λh3=>⟨rfl,next (eY hJ ?_)⟩⟩
  .have h2:kQ (Sp.nodeAt q n) n=false:=dX h2;unfold mF;rw[h2];rfl
  .have h2:kQ (Sp.nodeAt q n) n=true:=dw h2;have h4:(nN q n:Int)≠1:=by simpa using h4
   have h3:(n:Int)<(q.length:Int)-1:=by have:=gI h3;omega
   unfold mF;simp only[h3,h2];simp;omega
  .have h2:kQ (Sp.nodeAt q n) n=true:=dw h2;have h4:(nN q n:Int)=1:=by simpa using h4
   have h4:nN q n=1:=by omega
   unfold mF;simp[h2,h4]
  .have h2:kQ (Sp.nodeAt q n) n=true:=dw h2;have h3:¬(n:Int)<(q.length:Int)-1:=by have:=gZ h3;omega
   unfold mF;simp[h2,h3]
 .dsimp only;refine bV (by omega) ⟨trivial,congrArg (·,()) ?_⟩;unfold aZ;rw[mr hJ];rfl
theorem qL:OK kD.e:=by
 refine PA.ok mixed (ax [mG.e,sW.e,zD.e] ⟨sQ,RJ,Zg,trivial⟩) Zr (by kernel_rfl) (show∀q,kD.goal (XU q) (q,())from ?_);intro q hin hp;dsimp only[kD]at hp ⊢;have hp:q.length<=1000000:=hp;refine jd q.length (by omega) (λn=>∀i,i<n->mF q i=true) (λi hi=>by omega) (λI μ n hn hJ next=>?_) λI μ hJ=>?_
 .dsimp only;have no:mF q n=false->(false,())=(aZ q,()):=λh=>by rw[ahY hn h]
  rw[xA (show 0<q.length by omega) (by omega)];refine bU (by omega) ⟨⟨by omega,by omega⟩,trivial,af (λh2=>no ?_) λh2=>af (λh3=>⟨hp,af (λh4=>no ?_) λh4=>⟨rfl,next (eY hJ ?_)⟩⟩) λh3=>⟨rfl,next (eY hJ ?_)⟩⟩
  .have h2:kQ (Sp.nodeAt q n) n=false:=dX h2;unfold mF;rw[h2];rfl
  .have h2:kQ (Sp.nodeAt q n) n=true:=dw h2;have h4:(nN q n:Int)≠1:=by simpa using h4
   have h3:(n:Int)<(q.length:Int)-1:=by have:=gI h3;omega
   unfold mF;simp only[h3,h2];simp;omega
  .have h2:kQ (Sp.nodeAt q n) n=true:=dw h2;have h4:(nN q n:Int)=1:=by simpa using h4
   have h4:nN q n=1:=by omega
   unfold mF;simp[h2,h4]
  .have h2:kQ (Sp.nodeAt q n) n=true:=dw h2;have h3:¬(n:Int)<(q.length:Int)-1:=by have:=gZ h3;omega
   unfold mF;simp[h2,h3]
 .dsimp only;refine bV (by omega) ⟨trivial,congrArg (·,()) ?_⟩;unfold aZ;rw[mr hJ];rfl
theorem akn{d:List aV}{n:Nat}(hn:n<d.length)(h:ny d n=false):gm d=false:=by unfold gm;rw[zy hn h];rfl
theorem YJ:OK zF.e:=by
 refine PA.ok mixed (ax [kC.e,mQ.e] ⟨qM,Dl,trivial⟩) abG (by kernel_rfl) (show∀d,zF.goal (Zt d) (d,())from ?_);intro d hin hp;dsimp only[zF]at hp ⊢;have hp:aI d:=hp;have hlen:d.length<=1000:=hp.1;refine jd d.length (by omega) (λn=>∀i,i<n->ny d i=true) (λi hi=>by omega) (λI μ n hn hJ next=>?_) λI μ hJ=>?_
 .dsimp only;have no:ny d n=false->(false,())=(gm d,()):=λh=>by rw[akn hn h]
  have hq:(dP d n).2.1.length<=1000000:=awR (o6 hp hn) (by omega);refine bU (by omega) ⟨⟨by omega,by omega⟩,trivial,af (λh2=>no ?_) λh2=>⟨⟨by omega,by omega⟩,hq,af (λh3=>no ?_) λh3=>af (λh4=>?_) λh4=>⟨rfl,next (eY hJ ?_)⟩⟩⟩
  .have h2:iT (dP d n).1=false:=dX h2;unfold ny;rw[h2];rfl
  .have h3:aZ (dP d n).2.1=false:=dX h3;unfold ny;rw[h3];simp
  .have h2:iT (dP d n).1=true:=dw h2;have h3:aZ (dP d n).2.1=true:=dw h3;have h4:0<n:=by have:=gI h4;omega
   rw[xA h4 (by omega)];refine⟨⟨by omega,by omega⟩,⟨by omega,by omega⟩,af (λh5=>no ?_) λh5=>⟨rfl,next (eY hJ ?_)⟩⟩
   .have h5:Op.bytesLess (dP d (n-1)).1 (dP d n).1=false:=dX h5;unfold ny;rw[h2,h3,h5,awS h4];rfl
   .have h5:Op.bytesLess (dP d (n-1)).1 (dP d n).1=true:=dw h5;unfold ny;rw[h2,h3,h5,awS h4];rfl
  .have h2:iT (dP d n).1=true:=dw h2;have h3:aZ (dP d n).2.1=true:=dw h3;have h4:¬0<n:=by have:=gZ h4;omega
   unfold ny;rw[h2,h3,awT h4];rfl
 .dsimp only;refine bV (by omega) (congrArg (·,()) ?_);unfold gm;rw[mr hJ];rfl
theorem YL:OK zG.e:=by
 refine PA.ok mixed (ax [kD.e,mV.e] ⟨qL,Dn,trivial⟩) abH (by kernel_rfl) (show∀d,zG.goal (Zu d) (d,())from ?_);intro d hin hp;dsimp only[zG]at hp ⊢;have hp:aI d:=hp;have hlen:d.length<=1000:=hp.1;refine jd d.length (by omega) (λn=>∀i,i<n->ny d i=true) (λi hi=>by omega) (λI μ n hn hJ next=>?_) λI μ hJ=>?_
 .dsimp only;have no:ny d n=false->(false,())=(gm d,()):=λh=>by rw[akn hn h]
  have hq:(dP d n).2.1.length<=1000000:=awR (o6 hp hn) (by omega);refine bU (by omega) ⟨⟨by omega,by omega⟩,trivial,af (λh2=>no ?_) λh2=>af (λh4=>?_) λh4=>⟨hq,af (λh3=>no ?_) λh3=>⟨rfl,next (eY hJ ?_)⟩⟩⟩
  .have h2:iT (dP d n).1=false:=dX h2;unfold ny;rw[h2];rfl
  .have h2:iT (dP d n).1=true:=dw h2;have h4:0<n:=by have:=gI h4;omega
   rw[xA h4 (by omega)];refine⟨⟨by omega,by omega⟩,af (λh5=>no ?_) λh5=>⟨hq,af (λh3=>no ?_) λh3=>⟨rfl,next (eY hJ ?_)⟩⟩⟩
   .have h5:Op.bytesLess (dP d (n-1)).1 (dP d n).1=false:=dX h5;unfold ny;rw[h5,awS h4];simp
   .have h3:aZ (dP d n).2.1=false:=dX h3;unfold ny;rw[h3];simp
   .have h3:aZ (dP d n).2.1=true:=dw h3;have h5:Op.bytesLess (dP d (n-1)).1 (dP d n).1=true:=dw h5;unfold ny;rw[h2,h3,h5,awS h4];rfl
  .have h3:aZ (dP d n).2.1=false:=dX h3;unfold ny;rw[h3];simp
  .have h2:iT (dP d n).1=true:=dw h2;have h3:aZ (dP d n).2.1=true:=dw h3;have h4:¬0<n:=by have:=gZ h4;omega
   unfold ny;rw[h2,h3,awT h4];rfl
 .dsimp only;refine bV (by omega) (congrArg (·,()) ?_);unfold gm;rw[mr hJ];rfl
end Go.Proofs.Tryz
namespace Go.Proofs.Tryz
open Go Go.Fw Go.IntWalk Sp
theorem ako{S:Type}{B:((Int×Unit)×S->Prop)->((Int×Unit)×S->Nat)->(Int×Unit)×S->Prop}(len:Nat)(hlen:len<=9223372036854775807)(J:Nat->S->Prop){s0:S}(h0:J len s0)
 (hstep:∀I μ(n:Nat)(s:S),n<len->J (n+1) s->(∀s',J n s'->I ((IntKind.i64.wrap ((n:Int)-1),()),s')/\μ ((IntKind.i64.wrap ((n:Int)-1),()),s')<μ (((n:Int),()),s))->B I μ (((n:Int),()),s))
 (hend:∀I μ s,J 0 s->B I μ ((-1,()),s)):∃I,∃μ,I ((IntKind.i64.wrap ((len:Int)-1),()),s0)/\∀y,I y->B I μ y:=by
 have w:∀n:Nat,n<=len->IntKind.i64.wrap ((n:Int)-1)=(n:Int)-1:=λn hn=>fQ _ (by omega);refine⟨λy=>∃(n:Nat)(s:S),y=(((n:Int)-1,()),s)/\n<=len/\J n s,λy=>(y.1.1+1).toNat,⟨len,s0,by rw[w len (awY _)],awY _,h0⟩,?_⟩;rintro _ ⟨n,s,rfl,hn,hJ⟩;cases n with
 |zero=>exact hend _ _ s hJ
 |succ n=>
  have e:((n+1:Nat):Int)-1=n:=by omega
  rw[e];refine hstep _ _ n s hn hJ λs' hJ'=>?_;rw[w n (by omega)];refine⟨⟨n,s',rfl,by omega,hJ'⟩,?_⟩;show((n:Int)-1+1).toNat<((n:Int)+1).toNat;omega
theorem getD_set_ne{α:Type}(l:List α)(i n:Nat)(x d:α)(h:i≠n):(l.set i x).getD n d=l.getD n d:=by rw[awI,awI,axC h]
theorem PN{x:bI}{a:Int}(h:kQ x a=true)(h2:x.1=5\/x.1=6\/x.1=7):0<=x.2.1/\x.2.1<a:=by obtain⟨x0,x1,x2,x3,x4,x5,x6,_⟩:=x;rw[Pq]at h;rcases h2 with rfl|rfl|rfl<;>simp at h<;>exact⟨h.1.1.1.1,by dsimp only;omega⟩
theorem PO{x:bI}{a:Int}(h:kQ x a=true)(h2:x.1=6\/x.1=7):0<=x.2.2.1/\x.2.2.1<a:=by obtain⟨x0,x1,x2,x3,x4,x5,x6,_⟩:=x;rw[Pq]at h;rcases h2 with rfl|rfl<;>simp at h<;>exact⟨h.1.2.1,by dsimp only;omega⟩
theorem ahZ{q:List bI}(h:aZ q=true){n:Nat}(hn:n<q.length):kQ (Sp.nodeAt q n) n=true:=by unfold aZ at h;simp only[awG]at h;have:=adR.1 h.1 n hn;unfold mF at this;simp only[awG]at this;exact this.1
theorem wZ{q:List bI}(h:aZ q=true):1<=q.length/\q.length<=9:=by unfold aZ at h;simp only[awG,axa]at h;omega
theorem adS{q:List bI}{n:Nat}{out:List (Bool×Unit)}(h:(Sp.nodeAt q n).1=5):kT q n out=out.set (Sp.nodeAt q n).2.1.toNat (true,()):=by unfold kT;simp[h]
theorem adT{q:List bI}{n:Nat}{out:List (Bool×Unit)}(h:(Sp.nodeAt q n).1=6\/(Sp.nodeAt q n).1=7):kT q n out=(out.set (Sp.nodeAt q n).2.1.toNat ((out.getD n (false,())).1,())).set (Sp.nodeAt q n).2.2.1.toNat ((out.getD n (false,())).1,()):=by unfold kT gY;rcases h with h|h<;>simp[h]
theorem abI{q:List bI}{n:Nat}{out:List (Bool×Unit)}(h5:(Sp.nodeAt q n).1≠5)(h6:(Sp.nodeAt q n).1≠6)(h7:(Sp.nodeAt q n).1≠7):kT q n out=out:=by unfold kT gY;dsimp only;rw[awJ.2 h5,awJ.2 h6,awJ.2 h7];rfl
theorem IL(q:List bI):∀(n:Nat)(out:List (Bool×Unit)),(jr q n out).length=out.length
 |0,out=>rfl
 |n+1,out=>by
  rw[jr,IL q n];unfold kT;simp only[cond_eq_ite];split
  .simp
  .split<;>simp
theorem ant{q:List bI}(h:aZ q=true):(Sp.negated q).length=q.length:=by unfold Sp.negated;rw[h];show(jr q _ _).length=_;rw[IL];simp
theorem XV:OK yu.e:=by
 refine PA.ok mixed (ax [kD.e] ⟨qL,trivial⟩) Zv (by kernel_rfl) (show∀q,yu.goal (XW q) (q,())from ?_);intro q hin hp;dsimp only[yu]at hp ⊢;have hp:q.length<=1000:=hp;refine⟨by omega,af (λh=>?_) λh=>⟨⟨by omega,by omega,by rw[bM];omega⟩,?_⟩⟩
 .have h:=dX h;unfold Sp.negated;rw[h];rfl
 have hok:=dw h;have hR:Sp.negated q=jr q q.length (List.replicate q.length (false,())):=by unfold Sp.negated;rw[hok];rfl
 refine ako q.length (by omega) (λn(s:List (Bool×Unit)×Unit)=>s.1.length=q.length/\jr q n s.1=Sp.negated q) ⟨by simp,hR.symm⟩ (λI μ n s hn hJ next=>?_) λI μ s hJ=>?_
 .obtain⟨out,⟨⟩⟩:=s;obtain⟨hl,hJ⟩:=hJ;have hl:out.length=q.length:=hl;have hJ:jr q n (kT q n out)=Sp.negated q:=hJ;have hk:=ahZ hok hn;have e:q.getD n (0,0,0,[],0,0,[],())=Sp.nodeAt q n:=rfl;dsimp only;rw[awO,e];simp only[aw5];refine bU (by omega) ⟨⟨by omega,by omega⟩,by omega,?_⟩;by_cases h5:(Sp.nodeAt q n).1=5
  .have hb:=PN hk (.inl h5);simp only[h5,Int.reduceBEq,azw,ayV];have fin:jr q n (out.set (Sp.nodeAt q n).2.1.toNat (true,()))=Sp.negated q:=by rw[← adS h5];exact hJ
   refine af (λ_=>⟨⟨by omega,by omega⟩,⟨by omega,by omega⟩,⟨by omega,by omega⟩,by omega,trivial,next _ ⟨by simp[hl],fin⟩⟩) λ_=>⟨⟨by omega,by omega⟩,⟨by omega,by omega⟩,⟨by omega,by omega⟩,⟨by omega,by omega⟩,by omega,trivial,next _ ⟨by simp[hl],fin⟩⟩
  by_cases VR:(Sp.nodeAt q n).1=6\/(Sp.nodeAt q n).1=7
  .have hb:=PN hk (.inr VR);have hb2:=PO hk VR;have fin:∀b,(out.getD n (false,())).1=b->jr q n ((out.set (Sp.nodeAt q n).2.1.toNat (b,())).set (Sp.nodeAt q n).2.2.1.toNat (b,()))=Sp.negated q:=λb hb=>by rw[← hb,← adT VR];exact hJ
   rcases VR with h6|h6
   all_goals
    simp only[h6,Int.reduceBEq,azw,ayV];refine af (λhc=>⟨⟨by omega,by omega⟩,⟨by omega,by omega⟩,⟨by omega,by omega⟩,⟨by omega,by omega⟩,by omega,⟨by omega,by omega⟩,by omega,trivial,next _ ⟨by simp[hl],fin true hc⟩⟩) λhc=>⟨⟨by omega,by omega⟩,⟨by omega,by omega⟩,⟨by omega,by omega⟩,⟨by omega,by omega⟩,⟨by omega,by omega⟩,by omega,⟨by omega,by omega⟩,by omega,trivial,next _ ⟨by simp[hl],fin false hc⟩⟩
  .have h6:(Sp.nodeAt q n).1≠6:=λh=>VR (.inl h);have h7:(Sp.nodeAt q n).1≠7:=λh=>VR (.inr h);have fin:jr q n out=Sp.negated q:=by rw[abI h5 h6 h7]at hJ;exact hJ
   simp only[awJ.2 h5,awJ.2 h6,awJ.2 h7,ayV];exact af (λ_=>⟨⟨by omega,by omega⟩,rfl,next _ ⟨hl,fin⟩⟩) λ_=>⟨⟨by omega,by omega⟩,⟨by omega,by omega⟩,rfl,next _ ⟨hl,fin⟩⟩
 .obtain⟨out,⟨⟩⟩:=s;obtain⟨hl,hJ⟩:=hJ;dsimp only;refine bV (by omega) ?_;have hJ:out=Sp.negated q:=hJ;rw[hJ]
theorem XY:OK yt.e:=by
 refine PA.ok mixed (ax [kC.e] ⟨qM,trivial⟩) Zw (by kernel_rfl) (show∀q,yt.goal (XZ q) (q,())from ?_);intro q hin hp;dsimp only[yt]at hp ⊢;have hp:q.length<=1000:=hp;refine⟨by omega,af (λh=>?_) λh=>⟨⟨by omega,by omega,by rw[bM];omega⟩,?_⟩⟩
 .have h:=dX h;unfold Sp.negated;rw[h];rfl
 have hok:=dw h;have hR:Sp.negated q=jr q q.length (List.replicate q.length (false,())):=by unfold Sp.negated;rw[hok];rfl
 refine ako q.length (by omega) (λn(s:List (Bool×Unit)×Unit)=>s.1.length=q.length/\jr q n s.1=Sp.negated q) ⟨by simp,hR.symm⟩ (λI μ n s hn hJ next=>?_) λI μ s hJ=>?_
 .obtain⟨out,⟨⟩⟩:=s;obtain⟨hl,hJ⟩:=hJ;have hl:out.length=q.length:=hl;have hJ:jr q n (kT q n out)=Sp.negated q:=hJ;have hk:=ahZ hok hn;have e:q.getD n (0,0,0,[],0,0,[],())=Sp.nodeAt q n:=rfl;dsimp only;rw[awO,e];simp only[aw5];refine bU (by omega) ⟨⟨by omega,by omega⟩,?_⟩;by_cases h5:(Sp.nodeAt q n).1=5
  .have hb:=PN hk (.inl h5);simp only[h5,Int.reduceBEq,azw,ayV];have fin:jr q n (out.set (Sp.nodeAt q n).2.1.toNat (true,()))=Sp.negated q:=by rw[← adS h5];exact hJ
   exact⟨⟨by omega,by omega⟩,by omega,trivial,next _ ⟨by simp[hl],fin⟩⟩
  by_cases VR:(Sp.nodeAt q n).1=6\/(Sp.nodeAt q n).1=7
  .have hb:=PN hk (.inr VR);have hb2:=PO hk VR;have hne:(Sp.nodeAt q n).2.1.toNat≠n:=by omega
   have fin:jr q n ((out.set (Sp.nodeAt q n).2.1.toNat ((out.getD n (false,())).1,())).set (Sp.nodeAt q n).2.2.1.toNat ((out.getD n (false,())).1,()))=Sp.negated q:=by rw[← adT VR];exact hJ
   rcases VR with h6|h6
   all_goals
    simp only[h6,Int.reduceBEq,azw,ayV,getD_set_ne _ _ _ _ _ hne];exact⟨⟨by omega,by omega⟩,by omega,⟨by omega,by omega⟩,by omega,⟨by omega,by omega⟩,by omega,⟨by omega,by omega⟩,by omega,trivial,next _ ⟨by simp[hl],fin⟩⟩
  .have h6:(Sp.nodeAt q n).1≠6:=λh=>VR (.inl h);have h7:(Sp.nodeAt q n).1≠7:=λh=>VR (.inr h);have fin:jr q n out=Sp.negated q:=by rw[abI h5 h6 h7]at hJ;exact hJ
   simp only[awJ.2 h5,awJ.2 h6,awJ.2 h7,ayV];exact⟨rfl,next _ ⟨hl,fin⟩⟩
 .obtain⟨out,⟨⟩⟩:=s;obtain⟨hl,hJ⟩:=hJ;dsimp only;refine bV (by omega) ?_;have hJ:out=Sp.negated q:=hJ;rw[hJ]
end Go.Proofs.Tryz
