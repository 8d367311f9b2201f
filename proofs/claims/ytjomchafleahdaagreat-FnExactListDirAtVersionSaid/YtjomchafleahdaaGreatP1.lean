import Derived.Test.YtjomchafleahdaaGreatV1
import Derived.Test.YtjomchafleahdaaGreatV2
import Derived.Test.YtjomchafleahdaaGreatV3
import Derived.Test.YtjomchafleahdaaGreatV4
import Derived.Test.YtjomchafleahdaaGreatV5
import Derived.Test.YtjomchafleahdaaGreatV6
import Derived.Test.YtjomchafleahdaaGreatSp
import Derived.Test.YtjomchafleahdaaGreatFwC
import Derived.Test.YtjomchafleahdaaGreatL1
namespace Go.Proofs.Tryz
open Go Go.Fw Go.IntWalk Sp
theorem jO:OK iJ.e:=by
 refine aZ [] ⟨⟩ H0 λx a b=>show iJ.goal (ad9 x a b) (x,a,b,())fromλhin hp=>?_
 dsimp only[iJ]at hp ⊢;refine af (λh=>?_) λh=>?_
 .have h:=iq h;show(decide (x<=b),())=(decide (a<=x)&&decide (x<=b),());rw[arh (show a<=x from h)];rfl
 .have h:=iG h;show(false,())=(decide (a<=x)&&decide (x<=b),());rw[ars (show ¬a<=x from h)];rfl
theorem nG:OK jK.e:=by
 refine aZ [] ⟨⟩ H0 λx a b=>show jK.goal (abN x a b) (x,a,b,())fromλhin hp=>?_
 dsimp only[jK]at hp ⊢;refine af (λh=>?_) λh=>?_
 .show(decide (x<=b),())=(decide (a<=x)&&decide (x<=b),());rw[h];rfl
 .show(false,())=(decide (a<=x)&&decide (x<=b),());rw[h];rfl
theorem He{s:List UInt8}{n:Nat}(hlt:n<s.length)(hl:Sp.lower s=true):97<=(s.getD n 0).toNat/\(s.getD n 0).toNat<=122:=by have:=arv.1 hl _ (getD_mem (d:=0) hlt);simpa using this
theorem JL:OK uI.e:=by
 refine aZ [iJ.e] ⟨jO,⟨⟩⟩ abO λs most=>show uI.goal (Y4 s most) (s,most,())fromλhin hp=>?_
 dsimp only[uI]at hp ⊢;have hlen:s.length<=maxLen:=hin.1;rw[maxLen_eq]at hlen;refine⟨λy=>∃n:Nat,y.1.1=n/\n<=s.length/\Sp.lower (s.take n)=true,λy=>((s.length:Int)-y.1.1).toNat,⟨0,rfl,by omega,rfl⟩,?_⟩;rintro⟨⟨_,⟨⟩⟩,⟨⟩⟩ ⟨n,rfl,hn,hJ⟩;dsimp only;refine af (λh=>?_) λh=>?_<;>simp only[arx,arC]at h
 .have hlt:n<s.length:=by omega
  rw[gm _ (by omega),arn];refine⟨⟨by omega,by omega⟩,af (λh2=>?_) λh2=>⟨⟨by omega,by omega⟩,af (λh3=>?_) λh3=>?_⟩⟩<;>simp only[arx,arC]at*
  .cases hl:Sp.lower s with
   |false=>rfl
   |true=>have:=He hlt hl;omega
  .cases hl:Sp.lower s with
   |false=>rfl
   |true=>have:=He hlt hl;omega
  .refine⟨rfl,⟨n+1,by simp,by omega,?_⟩,by dsimp only;omega⟩;rw[Sp.take_succ' s n 0 hlt];unfold Sp.lower at hJ ⊢;rw[List.all_append,hJ];simp only[arX,ati,asC,atb,aq5,arx];omega
 .have hge:n=s.length:=by omega
  rw[hge,arA]at hJ;rw[hJ];exact⟨trivial,rfl⟩
theorem vJ:OK jQ.e:=by
 refine aZ [uI.e] ⟨JL,⟨⟩⟩ H0 λs=>show jQ.goal (L8 s) (s,())fromλhin hp=>?_
 dsimp only[jQ]at hp ⊢;exact⟨trivial,rfl⟩
theorem Es:OK mX.e:=by
 refine aZ [jQ.e,iJ.e] ⟨vJ,jO,⟨⟩⟩ H0 λk n s=>show mX.goal (NW k n s) ((k,n,s,()),())fromλhin hp=>?_
 dsimp only[mX]at hp ⊢;refine af (λh=>?_) λh=>af (λh2=>⟨trivial,af (λh3=>?_) λh3=>?_⟩) λh2=>af (λh3=>⟨trivial,af (λh4=>?_) λh4=>?_⟩) λh3=>?_
 .have e:k=0:=by simpa using h
  subst e;exact congrArg (·,()) (arz.2 (by simp[gJ]))
 .have e:k=1:=by simpa using h2
  subst e;exact congrArg (·,()) (arz.2 (by simp only[aq5,arx]at h3;simp[gJ,h3]))
 .have e:k=1:=by simpa using h2
  subst e;exact congrArg (·,()) (arz.2 (by simp only[gJ,h3];simp))
 .have e:k=2:=by simpa using h3
  subst e;exact congrArg (·,()) (arz.2 (by simp[gJ,h4]))
 .have e:k=2:=by simpa using h3
  subst e;exact congrArg (·,()) (arz.2 (by simp[gJ,h4]))
 .have e1:k≠0:=by simpa using h
  have e2:k≠1:=by simpa using h2
  have e3:k≠2:=by simpa using h3
  exact congrArg (·,()) (arz.2 (by simp[gJ,e1,e2,e3]))
theorem Bc:OK kN.e:=by
 refine aZ [uI.e] ⟨JL,⟨⟩⟩ H0 λs=>show kN.goal (Jf s) (s,())fromλhin hp=>?_
 dsimp only[kN]at hp ⊢;exact⟨trivial,rfl⟩
theorem Ut:OK vW.e:=by
 refine aZ [] ⟨⟩ WG λs name=>show vW.goal (Uu s name) (s,name,())fromλhin hp=>?_
 dsimp only[vW]at hp ⊢;have hlen:s.length<=maxLen:=hin.1.1;rw[maxLen_eq]at hlen;refine dW s.length hlen (λn=>∀i,i<n->(s.getD i ([],0,())).1≠name) (λi hi=>by omega) (λI μ n hn hJ next=>?_) λI μ hJ=>?_
 .dsimp only;refine dB (by omega) ⟨⟨by omega,by omega⟩,af (λh=>⟨⟨by omega,by omega⟩,?_⟩) λh=>⟨rfl,next λi hi=>?_⟩⟩
  .exact congrArg (·,()) (Rw s n hn hJ (by simpa only[arn,aq9]using h)).symm
  .rcases ark i n with h'|h'
   .exact hJ i h'
   .have:i=n:=by omega
    subst this;have h2:((s.getD i ([],0,())).1==name)=false:=h;exactλe=>by rw[e]at h2;simp at h2
 .dsimp only;exact dm (by omega) (congrArg (·,()) (KJ s hJ).symm)
theorem Dx:OK lM.e:=by
 refine aZ [iJ.e,kN.e] ⟨jO,Bc,⟨⟩⟩ NY λs=>show lM.goal (L9 s) (s,())fromλhin hp=>?_
 dsimp only[lM]at hp ⊢;have hlen:s.length<=maxLen:=hin.1.1;rw[maxLen_eq]at hlen;refine dW s.length hlen (λn=>∀i,i<n->iH s i=true) (λi hi=>by omega) (λI μ n hn hJ next=>?_) λI μ hJ=>?_
 .dsimp only;have no:iH s n=false->(false,())=(dL s,()):=λh=>by rw[VD hn h]
  refine dB (by omega) ⟨⟨by omega,by omega⟩,trivial,af (λh2=>no ?_) λh2=>⟨⟨by omega,by omega⟩,trivial,af (λh3=>no ?_) λh3=>af (λh4=>?_) λh4=>⟨rfl,next (dJ hJ ?_)⟩⟩⟩
  .have h2:fM (Sp.fieldAt s n).1=false:=jb h2;unfold iH;rw[h2];rfl
  .have h2:fM (Sp.fieldAt s n).1=true:=dZ h2;have h3:(decide (1<=(Sp.fieldAt s n).2.1)&&decide ((Sp.fieldAt s n).2.1<=2))=false:=jb h3;unfold iH;rw[h2,h3];rfl
  .have h2:fM (Sp.fieldAt s n).1=true:=dZ h2;have h3:(decide (1<=(Sp.fieldAt s n).2.1)&&decide ((Sp.fieldAt s n).2.1<=2))=true:=dZ h3;have h4:0<n:=by have:=iq h4;omega
   rw[rJ h4 (by omega)];refine⟨⟨by omega,by omega⟩,⟨by omega,by omega⟩,af (λh5=>no ?_) λh5=>⟨rfl,next (dJ hJ ?_)⟩⟩
   .have h5:Op.bytesLess (Sp.fieldAt s (n-1)).1 (Sp.fieldAt s n).1=false:=jb h5;unfold iH;rw[h2,h3,h5,arh h4];rfl
   .have h5:Op.bytesLess (Sp.fieldAt s (n-1)).1 (Sp.fieldAt s n).1=true:=dZ h5;unfold iH;rw[h2,h3,h5,arh h4];rfl
  .have h2:fM (Sp.fieldAt s n).1=true:=dZ h2;have h3:(decide (1<=(Sp.fieldAt s n).2.1)&&decide ((Sp.fieldAt s n).2.1<=2))=true:=dZ h3;have h4:¬0<n:=by have:=iG h4;omega
   unfold iH;rw[h2,h3,ars h4];rfl
 .dsimp only;refine dm (by omega) (congrArg (·,()) ?_);unfold dL;rw[kT hJ];rfl
theorem Mc:OK pG.e:=by
 refine aZ [vW.e,mX.e] ⟨Ut,Es,⟨⟩⟩ H0 λfs s k n w=>show pG.goal (Md fs s k n w) (fs,s,(k,n,w,()),())fromλhin hp=>?_
 dsimp only[pG]at hp ⊢;refine⟨trivial,af (λh=>af (λh2=>⟨trivial,?_⟩) λh2=>?_) λh=>?_⟩
 .exact congrArg (·,()) (arz.2 (by simp only[bne_iff_ne,ne_eq]at h2;simp[gB,h,h2]))
 .exact congrArg (·,()) (arz.2 (by simp at h2;simp[gB,h2]))
 .exact congrArg (·,()) (arz.2 (by simp[gB,h]))
theorem PE:OK rM.e:=by
 refine aZ [iJ.e,lM.e,pG.e] ⟨jO,Dx,Mc,⟨⟩⟩ Rx λfs f0 f1 f2 f3 f4=>show rM.goal (PG fs f0 f1 f2 f3 f4) (fs,(f0,f1,f2,f3,f4,()),())fromλhin hp=>?_
 dsimp only[rM]at hp ⊢;have hlen:f4.length<=maxLen:=hin.2.1.2.2.2.2.1.1;rw[maxLen_eq]at hlen;refine dW f4.length hlen (λn=>∀i,i<n->iO fs f4 i=true) (λi hi=>by omega) (λI μ n hn hJ next=>?_) λI μ hJ=>?_
 .dsimp only;have no:iO fs f4 n=false->(false,())=(dP fs (f0,f1,f2,f3,f4,()),()):=λh=>by rw[adD (f:=(f0,f1,f2,f3,f4,())) hn h]
  refine dB (by omega) ⟨⟨by omega,by omega⟩,⟨by omega,by omega⟩,trivial,af (λh2=>no ?_) λh2=>af (λh4=>?_) λh4=>⟨rfl,next (dJ hJ ?_)⟩⟩
  .have h2:gB fs (bV f4 n).1 (bV f4 n).2.1 (bV f4 n).2.2.1 (bV f4 n).2.2.2.1=false:=jb h2;unfold iO;rw[h2];rfl
  .have h2:gB fs (bV f4 n).1 (bV f4 n).2.1 (bV f4 n).2.2.1 (bV f4 n).2.2.2.1=true:=dZ h2;have h4:0<n:=by have:=iq h4;omega
   rw[rJ h4 (by omega)];refine⟨⟨by omega,by omega⟩,⟨by omega,by omega⟩,af (λh5=>no ?_) λh5=>⟨rfl,next (dJ hJ ?_)⟩⟩
   .have h5:Op.bytesLess (bV f4 (n-1)).1 (bV f4 n).1=false:=jb h5;unfold iO;rw[h2,h5,arh h4];rfl
   .have h5:Op.bytesLess (bV f4 (n-1)).1 (bV f4 n).1=true:=dZ h5;unfold iO;rw[h2,h5,arh h4];rfl
  .have h2:gB fs (bV f4 n).1 (bV f4 n).2.1 (bV f4 n).2.2.1 (bV f4 n).2.2.2.1=true:=dZ h2;have h4:¬0<n:=by have:=iG h4;omega
   unfold iO;rw[h2,ars h4];rfl
 .dsimp only;have ha:nH fs f4=true:=kT hJ;refine dm (by omega) ⟨trivial,af (λh1=>⟨trivial,af (λh2=>⟨trivial,af (λh3=>⟨trivial,?_⟩) λh3=>?_⟩) λh2=>?_⟩) λh1=>?_⟩
  .refine congrArg (·,()) ?_;unfold dP;rw[ha,h1,h2,h3];rfl
  .refine congrArg (·,()) ?_;unfold dP;rw[ha,h1,h2,h3];rfl
  .refine congrArg (·,()) ?_;unfold dP;rw[ha,h1,h2];rfl
  .refine congrArg (·,()) ?_;unfold dP;rw[ha,h1];rfl
theorem Et:OK mZ.e:=by
 refine aZ [iJ.e,lM.e,rM.e] ⟨jO,Dx,PE,⟨⟩⟩ PI λs0 s1 s2=>show mZ.goal (NZ s0 s1 s2) ((s0,s1,s2,()),())fromλhin hp=>?_
 dsimp only[mZ]at hp ⊢;have hlen:s1.length<=maxLen:=hin.1.2.1.1;rw[maxLen_eq]at hlen;refine dW s1.length hlen (λn=>∀i,i<n->jc (s0,s1,s2,()) i=true) (λi hi=>by omega) (λI μ n hn hJ next=>?_) λI μ hJ=>?_
 .dsimp only;have no:jc (s0,s1,s2,()) n=false->(false,())=(bf (s0,s1,s2,()),()):=λh=>by rw[Y5 (s:=(s0,s1,s2,())) hn h]
  refine dB (by omega) ⟨⟨by omega,by omega⟩,trivial,af (λh2=>no ?_) λh2=>⟨⟨by omega,by omega⟩,af (λh3=>no ?_) λh3=>af (λh4=>?_) λh4=>⟨rfl,next (dJ hJ ?_)⟩⟩⟩
  .have h2:dP s0 (Sp.fileAt s1 n)=false:=jb h2;show(dP s0 (Sp.fileAt s1 n)&&_&&_)=false;rw[h2];rfl
  .have h2:dP s0 (Sp.fileAt s1 n)=true:=dZ h2;have h3:¬(Sp.fileAt s1 n).1<s2:=by have h3:(Sp.fileAt s1 n).1>=s2:=iq h3;omega
   show(dP s0 (Sp.fileAt s1 n)&&decide ((Sp.fileAt s1 n).1<s2)&&_)=false;rw[h2,ars h3];rfl
  .have h2:dP s0 (Sp.fileAt s1 n)=true:=dZ h2;have h3:(Sp.fileAt s1 n).1<s2:=by have h3:¬(Sp.fileAt s1 n).1>=s2:=iG h3;omega
   have h4:0<n:=by have:=iq h4;omega
   rw[rJ h4 (by omega)];refine⟨⟨by omega,by omega⟩,⟨by omega,by omega⟩,af (λh5=>no ?_) λh5=>⟨rfl,next (dJ hJ ?_)⟩⟩
   .have h5:¬(Sp.fileAt s1 (n-1)).1<(Sp.fileAt s1 n).1:=by have h5:(Sp.fileAt s1 (n-1)).1>=(Sp.fileAt s1 n).1:=iq h5;omega
    show(dP s0 (Sp.fileAt s1 n)&&decide ((Sp.fileAt s1 n).1<s2)&&!(decide (0<n)&&!decide ((Sp.fileAt s1 (n-1)).1<(Sp.fileAt s1 n).1)))=false;rw[h2,arh h3,arh h4,ars h5];rfl
   .have h5:(Sp.fileAt s1 (n-1)).1<(Sp.fileAt s1 n).1:=by have h5:¬(Sp.fileAt s1 (n-1)).1>=(Sp.fileAt s1 n).1:=iG h5;omega
    show(dP s0 (Sp.fileAt s1 n)&&decide ((Sp.fileAt s1 n).1<s2)&&!(decide (0<n)&&!decide ((Sp.fileAt s1 (n-1)).1<(Sp.fileAt s1 n).1)))=true;rw[h2,arh h3,arh h4,arh h5];rfl
  .have h2:dP s0 (Sp.fileAt s1 n)=true:=dZ h2;have h3:(Sp.fileAt s1 n).1<s2:=by have h3:¬(Sp.fileAt s1 n).1>=s2:=iG h3;omega
   have h4:¬0<n:=by have:=iG h4;omega
   show(dP s0 (Sp.fileAt s1 n)&&decide ((Sp.fileAt s1 n).1<s2)&&!(decide (0<n)&&!decide ((Sp.fileAt s1 (n-1)).1<(Sp.fileAt s1 n).1)))=true;rw[h2,arh h3,ars h4];rfl
 .dsimp only;have ha:fF s1.length (jc (s0,s1,s2,()))=true:=kT hJ;refine dm (by omega) ⟨trivial,af (λh1=>af (λh2=>⟨trivial,?_⟩) λh2=>?_) λh1=>?_⟩
  .refine congrArg (·,()) ?_;show _=(fF s1.length (jc (s0,s1,s2,()))&&dL s0&&decide ((s1.length:Int)<=12)&&(decide (1<=s2)&&decide (s2<=61)));rw[ha,h1,h2];rfl
  .refine congrArg (·,()) ?_;show _=(fF s1.length (jc (s0,s1,s2,()))&&dL s0&&decide ((s1.length:Int)<=12)&&(decide (1<=s2)&&decide (s2<=61)));rw[ha,h1,h2];rfl
  .refine congrArg (·,()) ?_;show _=(fF s1.length (jc (s0,s1,s2,()))&&dL s0&&decide ((s1.length:Int)<=12)&&(decide (1<=s2)&&decide (s2<=61)));rw[ha,h1];rfl
theorem JM:OK uJ.e:=by
 refine aZ [] ⟨⟩ abP λf0 f1 f2 f3 f4=>show uJ.goal (Y6 f0 f1 f2 f3 f4) ((f0,f1,f2,f3,f4,()),())fromλhin hp=>?_
 dsimp only[uJ]at hp ⊢;have hp:f4.length<=2000000:=hp;exact⟨by rw[dw];omega,rfl⟩
theorem xI:OK jy.e:=by
 refine aZ [] ⟨⟩ Hf λl=>show jy.goal (Gq l) (l,())fromλhin hp=>?_
 dsimp only[jy]at hp ⊢;intro g hg;have hp:l.length<=10000000:=hp;refine af (λh=>?_) λh=>⟨by rw[dw];omega,rfl⟩;have:=arP.1 (hg h);rw[this]
theorem Hg:OK lQ.e:=by
 refine aZ [] ⟨⟩ IC λl=>show lQ.goal (Hl l) (l,())fromλhin hp=>?_
 dsimp only[lQ]at hp ⊢;intro g hg;have hp:l.length<=10000000:=hp;refine af (λh=>?_) λh=>⟨by rw[dw];omega,rfl⟩;have:=arP.1 (hg h);rw[this]
theorem IE:OK rP.e:=by
 refine aZ [lQ.e] ⟨Hg,⟨⟩⟩ Y7 λf0 f1 f2 f3 f4=>show rP.goal (WH f0 f1 f2 f3 f4) ((f0,f1,f2,f3,f4,()),())fromλhin hp=>?_
 dsimp only[rP]at hp ⊢;exact⟨aq7 (show f4.length<=2000000 from hp) (by decide),rfl⟩
theorem Fh:OK rF.e:=by
 refine aZ [jK.e] ⟨nG,⟨⟩⟩ H0 λn=>show rF.goal (abQ n) (n,())fromλhin hp=>?_
 dsimp only[rF]at hp ⊢;exact⟨trivial,rfl⟩
theorem WI:OK yB.e:=by
 refine aZ [] ⟨⟩ Y8 λs0 s1 s2 id=>show yB.goal (WJ s0 s1 s2 id) ((s0,s1,s2,()),id,())fromλhin hp=>?_
 dsimp only[yB]at hp ⊢;have hlen:s1.length<=maxLen:=hin.1.2.1.1;rw[maxLen_eq]at hlen;refine dW s1.length hlen (λn=>∀i,i<n->(Sp.fileAt s1 i).1≠id) (λi hi=>by omega) (λI μ n hn hJ next=>?_) λI μ hJ=>?_
 .dsimp only;refine dB (by omega) ⟨⟨by omega,by omega⟩,af (λh=>?_) λh=>⟨rfl,next λi hi=>?_⟩⟩
  .have h:(Sp.fileAt s1 n).1=id:=iq h;exact congrArg (·,()) (Sp.IG hn hJ h).symm
  .rcases ark i n with h'|h'
   .exact hJ i h'
   .have:i=n:=by omega
    subst this;have h:¬(Sp.fileAt s1 i).1=id:=iG h;exact h
 .dsimp only;exact dm (by omega) (congrArg (·,()) (Y9 hJ).symm)
theorem FM{s:List ay}(p:ay->Bool){n:Nat}(hn:n<s.length):(s.take (n+1)).filter p=(s.take n).filter p++(if p (Sp.fileAt s n)=true then[Sp.fileAt s n]else[]):=by
 rw[Sp.take_succ' s n (0,0,false,0,[],()) hn,List.filter_append];congr 1;show List.filter _ [Sp.fileAt s n]=_;by_cases h:p (Sp.fileAt s n)=true
 .rw[List.filter_cons_of_pos h,if_pos h];rfl
 .rw[List.filter_cons_of_neg h,if_neg h];rfl
theorem JO(s:List ay)(p:ay->Bool)(n:Nat):((s.take n).filter p).length<=n:=by have:=asx p (s.take n);rw[arF]at this;omega
def gZ(fs:List ay)(n:Nat):List ay:=(fs.take n).map (Sp.unlink fs)++fs.drop n
theorem zG(fs:List ay){n:Nat}(hn:n<=fs.length):(gZ fs n).length=fs.length:=by unfold gZ;rw[arL,arq,arF,asP];omega
theorem afL(fs:List ay)(n:Nat):(gZ fs n).map (·.1)=fs.map (·.1):=by unfold gZ;rw[ar6,asv];have:((·.1) ∘ Sp.unlink fs:ay->Int)=(·.1):=rfl;rw[this,← ar6,asR]
theorem KL(fs:List ay){n:Nat}(hn:n<fs.length):(gZ fs n).getD n (0,0,false,0,[],())=Sp.fileAt fs n:=by unfold gZ Sp.fileAt;rw[arp,asD (by simp;omega),arq,arF,asF (by omega),asW,arV,asI,← arp]
theorem Pn(fs:List ay){n:Nat}(hn:n<fs.length):gZ fs (n+1)=(gZ fs n).set n (Sp.unlink fs (Sp.fileAt fs n)):=by unfold gZ;rw[drop_cons fs n (0,0,false,0,[],()) hn,Sp.take_succ' fs n (0,0,false,0,[],()) hn,ar6,ast _ _ (by simp;omega),arq,arF,asF (by omega),asW,as9,ar9];rfl
theorem set_self{fs:List ay}{n:Nat}(hn:n<fs.length):fs.set n (fs.getD n (0,0,false,0,[],()))=fs:=by
 refine List.ext_getElem (by simp) λi h1 h2=>?_;rw[List.getElem_set];split
 .next e=>subst e;rw[arp,aq8 hn];rfl
 .rfl
theorem CZ(fs:List ay){n:Nat}(hn:n<fs.length):
 (Sp.place (gZ fs n) (Sp.fileAt fs n).2.2.2.1<0->gZ fs (n+1)=(gZ fs n).set n ((Sp.fileAt fs n).1,(Sp.fileAt fs n).2.1,(Sp.fileAt fs n).2.2.1,0,(Sp.fileAt fs n).2.2.2.2.1,()))/\
 (¬Sp.place (gZ fs n) (Sp.fileAt fs n).2.2.2.1<0->gZ fs (n+1)=gZ fs n):=by
 rw[ajD _ (afL fs n)];refine⟨λh=>?_,λh=>?_⟩
 .rw[Pn fs hn];unfold Sp.unlink;rw[arh h];rfl
 .rw[Pn fs hn];have e:Sp.unlink fs (Sp.fileAt fs n)=(gZ fs n).getD n (0,0,false,0,[],()):=by rw[KL fs hn];unfold Sp.unlink;rw[ars h];rfl
  rw[e];exact set_self (by rw[zG fs (by omega)];exact hn)
theorem Ry(fs:List ay):gZ fs fs.length=fs.map (Sp.unlink fs):=by unfold gZ;rw[arA,List.drop_length,arU]
def names:List (Int×Int×Sp.Bytes):=[(2,0,[105,110,107]),(2,0,[115,101,97])]
theorem aky:dL Sp.usual=true:=by kernel_rfl
structure N7(k:Int)(s:cu):Prop where
 sch:s.1=Sp.usual
 ok:bf s=true
 nx:s.2.2.1<=s.2.1.length+k
 small:iK s
theorem N7.more{k k':Int}{s:cu}(h:N7 k s)(hk:k<=k'):N7 k' s:=⟨h.sch,h.ok,by have:=h.nx;omega,h.small⟩
theorem N7.grows{s:cu}(h:N7 2 s)(hl:s.2.1.length<12){f:ay}(ho:0<=f.2.1/\f.2.1<=2)(hk:0<=f.2.2.2.1/\f.2.2.2.1<=6)(ha:nH Sp.usual f.2.2.2.2.1=true):(wV s f).1.2.1.length=s.2.1.length+1:=by
 have hnx:=(FN.1 h.ok).2.2.2;have h2:=h.nx;have hf:dP s.1 (s.2.2.1,f.2)=true:=by rw[h.sch];show(nH Sp.usual f.2.2.2.2.1&&dL Sp.usual&&(decide (1<=s.2.2.1)&&decide (s.2.2.1<=60))&&(decide (0<=f.2.1)&&decide (f.2.1<=2))&&(decide (0<=f.2.2.2.1)&&decide (f.2.2.2.1<=60)))=true;rw[ha,aky,arh hnx.1,arh (by omega),arh ho.1,arh ho.2,arh hk.1,arh (by omega)];rfl
 rcases II s f with⟨_,e⟩|⟨_,_,_,e⟩
 .exact(e ⟨h.ok,hl,hf⟩).elim
 .rw[e];show(s.2.1++[_]).length=_;rw[arL];rfl
theorem N7.one{s:cu}(h:N7 1 s){f:ay}(ho:0<=f.2.1/\f.2.1<=2)(hk:0<=f.2.2.2.1/\f.2.2.2.1<=6)(ha:nH Sp.usual f.2.2.2.2.1=true):0<(wV s f).1.2.1.length:=by
 by_cases hl:s.2.1.length<12
 .rw[(h.more (show(1:Int)<=2 by decide)).grows hl ho hk ha];omega
 .rcases II s f with⟨e,_⟩|⟨_,_,_,e⟩
  .rw[e];show 0<s.2.1.length;omega
  .rw[e];show 0<(s.2.1++[_]).length;rw[arL,List.length_singleton];omega
theorem vK:OK jR.e:=by
 refine aZ [jK.e] ⟨nG,⟨⟩⟩ N8 λs=>show jR.goal (Me s) (s,())fromλhin hp=>?_
 dsimp only[jR]at hp ⊢;have hlen:s.length<=maxLen:=hin.1;rw[maxLen_eq]at hlen;refine⟨λy=>∃n:Nat,y.1.1=n/\n<=s.length/\Sp.lower (s.take n)=true,λy=>((s.length:Int)-y.1.1).toNat,⟨0,rfl,by omega,rfl⟩,?_⟩;rintro⟨⟨_,⟨⟩⟩,⟨⟩⟩ ⟨n,rfl,hn,hJ⟩;dsimp only;refine af (λh=>?_) λh=>?_<;>simp only[arx,arC]at h
 .have hlt:n<s.length:=by omega
  rw[gm _ (by omega),arn];refine⟨⟨by omega,by omega⟩,af (λh2=>?_) λh2=>⟨⟨by omega,by omega⟩,af (λh3=>?_) λh3=>?_⟩⟩<;>simp only[arx,arC]at*
  .unfold dX;cases hl:Sp.lower s with
   |false=>rfl
   |true=>have:=He hlt hl;omega
  .unfold dX;cases hl:Sp.lower s with
   |false=>rfl
   |true=>have:=He hlt hl;omega
  .refine⟨rfl,⟨n+1,by simp,by omega,?_⟩,by dsimp only;omega⟩;rw[Sp.take_succ' s n 0 hlt];unfold Sp.lower at hJ ⊢;rw[List.all_append,hJ];simp only[arX,ati,asC,atb,aq5,arx];omega
 .have hge:n=s.length:=by omega
  rw[hge,arA]at hJ;unfold dX;rw[hJ];exact⟨trivial,rfl⟩
theorem Eu:OK mY.e:=by
 refine aZ [jR.e,jK.e] ⟨vK,nG,⟨⟩⟩ H0 λk n s=>show mY.goal (N9 k n s) ((k,n,s,()),())fromλhin hp=>?_
 dsimp only[mY]at hp ⊢;refine af (λh=>?_) λh=>af (λh2=>⟨trivial,af (λh3=>?_) λh3=>?_⟩) λh2=>af (λh3=>⟨trivial,af (λh4=>?_) λh4=>?_⟩) λh3=>?_
 .have e:k=0:=by simpa using h
  subst e;exact congrArg (·,()) (arz.2 (by simp[gJ]))
 .have e:k=1:=by simpa using h2
  subst e;exact congrArg (·,()) (arz.2 (by simp only[aq5,arx]at h3;simp[gJ,h3]))
 .have e:k=1:=by simpa using h2
  subst e;exact congrArg (·,()) (arz.2 (by simp only[gJ,h3];simp))
 .have e:k=2:=by simpa using h3
  subst e;exact congrArg (·,()) (arz.2 (by simp[gJ,h4]))
 .have e:k=2:=by simpa using h3
  subst e;exact congrArg (·,()) (arz.2 (by simp[gJ,h4]))
 .have e1:k≠0:=by simpa using h
  have e2:k≠1:=by simpa using h2
  have e3:k≠2:=by simpa using h3
  exact congrArg (·,()) (arz.2 (by simp[gJ,e1,e2,e3]))
theorem Bd:OK kP.e:=by
 refine aZ [] ⟨⟩ H0 λs=>show kP.goal (Jg s) (s,())fromλhin hp=>?_
 dsimp only[kP]at hp ⊢;refine af (λh=>?_) λh=>?_
 .have h:(s.length:Int)=1:=iq h
  match s,h with
  |[c],_=>
   refine⟨⟨by decide,(by show(0:Int)<1;decide)⟩,af (λh2=>⟨⟨by decide,(by show(0:Int)<1;decide)⟩,?_⟩) λh2=>?_⟩
   .have h2:(c.toNat:Int)>=97:=iq h2;refine congrArg (·,()) (arz.2 ?_);simp only[fM,Sp.lower,arX,ati,asC,aq5,arx,arl,arI];constructor
    .intro h3;have h3:(c.toNat:Int)<=122:=h3;exact⟨⟨⟨by omega,by omega⟩,by decide⟩,by decide⟩
    .rintro⟨⟨⟨_,h4⟩,_⟩,_⟩;show(c.toNat:Int)<=122;omega
   .have h2:¬(c.toNat:Int)>=97:=iG h2;refine congrArg (·,()) (arz.2 ?_);simp only[fM,Sp.lower,arX,ati,asC,aq5,arx];constructor
    .intro h3;cases h3
    .rintro⟨⟨⟨h4,_⟩,_⟩,_⟩;omega
 .have h:¬(s.length:Int)=1:=iG h;refine congrArg (·,()) (arz.2 ?_);simp only[fM,aq5,arx];constructor
  .intro h3;cases h3
  .rintro⟨⟨_,h4⟩,h5⟩;omega
theorem Uw:OK vX.e:=by
 refine aZ [] ⟨⟩ WL λs name=>show vX.goal (Ux s name) (s,name,())fromλhin hp=>?_
 dsimp only[vX]at hp ⊢;have hlen:s.length<=maxLen:=hin.1.1;rw[maxLen_eq]at hlen;refine dW s.length hlen (λn=>∀i,i<n->(s.getD i ([],0,())).1≠name) (λi hi=>by omega) (λI μ n hn hJ next=>?_) λI μ hJ=>?_
 .dsimp only;refine dB (by omega) ⟨⟨by omega,by omega⟩,af (λh=>?_) λh=>⟨rfl,next λi hi=>?_⟩⟩
  .exact congrArg (·,()) (Rw s n hn hJ (by simpa only[arn,aq9]using h)).symm
  .rcases ark i n with h'|h'
   .exact hJ i h'
   .have:i=n:=by omega
    subst this;have h2:((s.getD i ([],0,())).1==name)=false:=h;exactλe=>by rw[e]at h2;simp at h2
 .dsimp only;exact dm (by omega) (congrArg (·,()) (KJ s hJ).symm)
theorem ajE{k:Int}(h:(k !=1)=false\/(k !=2)=false):(decide (1<=k)&&decide (k<=2))=true:=by have:k=1\/k=2:=h.imp (by simp) (by simp);rcases this with h|h<;>subst h<;>rfl
theorem al8{k:Int}(h1:(k !=1)=true)(h2:(k !=2)=true):(decide (1<=k)&&decide (k<=2))=false:=by
 have h1:k≠1:=by simpa using h1
 have h2:k≠2:=by simpa using h2
 rw[Bool.and_eq_false_iff];by_cases h:k<1
 .left;exact ars (by omega)
 .right;exact ars (by omega)
theorem Dy:OK lN.e:=by
 refine aZ [kP.e] ⟨Bd,⟨⟩⟩ Oa λs=>show lN.goal (MB s) (s,())fromλhin hp=>?_
 dsimp only[lN]at hp ⊢;have hlen:s.length<=maxLen:=hin.1.1;rw[maxLen_eq]at hlen;refine dW s.length hlen (λn=>∀i,i<n->iH s i=true) (λi hi=>by omega) (λI μ n hn hJ next=>?_) λI μ hJ=>?_
 .dsimp only;have no:iH s n=false->(false,())=(dL s,()):=λh=>by rw[VD hn h]
  have rest:fM (Sp.fieldAt s n).1=true->(decide (1<=(Sp.fieldAt s n).2.1)&&decide ((Sp.fieldAt s n).2.1<=2))=true->
   bif decide ((n:Int)>0)then
    ((0:Int)<=IntKind.i64.wrap ((n:Int)-1)/\IntKind.i64.wrap ((n:Int)-1)<(s.length:Int))/\
      bif !Op.bytesLess (s.getD (IntKind.i64.wrap ((n:Int)-1)).toNat ([],0,())).fst (s.getD (Int.toNat (n:Int)) ([],0,())).fst then(false,())=(dL s,())
      else NX ((s,s,(s.length:Int),()),()) I μ ((IntKind.i64.wrap ((n:Int)+1),()),()) (((n:Int),()),())
   else NX ((s,s,(s.length:Int),()),()) I μ ((IntKind.i64.wrap ((n:Int)+1),()),()) (((n:Int),()),()):=by
   intro h2 h3;refine af (λh4=>?_) λh4=>⟨rfl,next (dJ hJ ?_)⟩
   .have h4:0<n:=by have:=iq h4;omega
    rw[rJ h4 (by omega)];refine⟨⟨by omega,by omega⟩,af (λh5=>no ?_) λh5=>⟨rfl,next (dJ hJ ?_)⟩⟩
    .have h5:Op.bytesLess (Sp.fieldAt s (n-1)).1 (Sp.fieldAt s n).1=false:=jb h5;unfold iH;rw[h2,h3,h5,arh h4];rfl
    .have h5:Op.bytesLess (Sp.fieldAt s (n-1)).1 (Sp.fieldAt s n).1=true:=dZ h5;unfold iH;rw[h2,h3,h5,arh h4];rfl
   .have h4:¬0<n:=by have:=iG h4;omega
    unfold iH;rw[h2,h3,ars h4];rfl
  refine dB (by omega) ⟨⟨by omega,by omega⟩,trivial,af (λh2=>no ?_) λh2=>af (λh3=>af (λh4=>no ?_) λh4=>?_) λh3=>?_⟩
  .have h2:fM (Sp.fieldAt s n).1=false:=jb h2;unfold iH;rw[h2];rfl
  .have h2:fM (Sp.fieldAt s n).1=true:=dZ h2;have h3:(decide (1<=(Sp.fieldAt s n).2.1)&&decide ((Sp.fieldAt s n).2.1<=2))=false:=al8 h3 h4;unfold iH;rw[h2,h3];rfl
  .have h2:fM (Sp.fieldAt s n).1=true:=dZ h2;have h3:(decide (1<=(Sp.fieldAt s n).2.1)&&decide ((Sp.fieldAt s n).2.1<=2))=true:=ajE (.inr h4);exact rest h2 h3
  .have h2:fM (Sp.fieldAt s n).1=true:=dZ h2;have h3:(decide (1<=(Sp.fieldAt s n).2.1)&&decide ((Sp.fieldAt s n).2.1<=2))=true:=ajE (.inl h3);exact rest h2 h3
 .dsimp only;refine dm (by omega) (congrArg (·,()) ?_);unfold dL;rw[kT hJ];rfl
theorem MC:OK pI.e:=by
 refine aZ [vX.e,mY.e] ⟨Uw,Eu,⟨⟩⟩ H0 λfs s k n w=>show pI.goal (MF fs s k n w) (fs,s,(k,n,w,()),())fromλhin hp=>?_
 dsimp only[pI]at hp ⊢;refine⟨trivial,af (λh=>af (λh2=>⟨trivial,?_⟩) λh2=>?_) λh=>?_⟩
 .exact congrArg (·,()) (arz.2 (by simp only[bne_iff_ne,ne_eq]at h2;simp[gB,h,h2]))
 .exact congrArg (·,()) (arz.2 (by simp at h2;simp[gB,h2]))
 .exact congrArg (·,()) (arz.2 (by simp[gB,h]))
theorem PK:OK rO.e:=by
 refine aZ [lN.e,rF.e,jK.e,pI.e] ⟨Dy,Fh,nG,MC,⟨⟩⟩ Rz λfs f0 f1 f2 f3 f4=>show rO.goal (PL fs f0 f1 f2 f3 f4) (fs,(f0,f1,f2,f3,f4,()),())fromλhin hp=>?_
 dsimp only[rO]at hp ⊢;have hlen:f4.length<=maxLen:=hin.2.1.2.2.2.2.1.1;rw[maxLen_eq]at hlen;refine dW f4.length hlen (λn=>∀i,i<n->iO fs f4 i=true) (λi hi=>by omega) (λI μ n hn hJ next=>?_) λI μ hJ=>?_
 .dsimp only;have no:iO fs f4 n=false->(false,())=(dP fs (f0,f1,f2,f3,f4,()),()):=λh=>by rw[adD (f:=(f0,f1,f2,f3,f4,())) hn h]
  refine dB (by omega) ⟨⟨by omega,by omega⟩,af (λh4=>?_) λh4=>⟨trivial,af (λh2=>no ?_) λh2=>⟨rfl,next (dJ hJ ?_)⟩⟩⟩
  .have h4:0<n:=by have:=iq h4;omega
   rw[rJ h4 (by omega)];refine⟨⟨by omega,by omega⟩,af (λh5=>no ?_) λh5=>⟨trivial,af (λh2=>no ?_) λh2=>⟨rfl,next (dJ hJ ?_)⟩⟩⟩
   .have h5:Op.bytesLess (bV f4 (n-1)).1 (bV f4 n).1=false:=jb h5;unfold iO;rw[h5,arh h4];exact asj _
   .have h2:gB fs (bV f4 n).1 (bV f4 n).2.1 (bV f4 n).2.2.1 (bV f4 n).2.2.2.1=false:=jb h2;unfold iO;rw[h2];rfl
   .have h2:gB fs (bV f4 n).1 (bV f4 n).2.1 (bV f4 n).2.2.1 (bV f4 n).2.2.2.1=true:=dZ h2;have h5:Op.bytesLess (bV f4 (n-1)).1 (bV f4 n).1=true:=dZ h5;unfold iO;rw[h2,h5,arh h4];rfl
  .have h2:gB fs (bV f4 n).1 (bV f4 n).2.1 (bV f4 n).2.2.1 (bV f4 n).2.2.2.1=false:=jb h2;unfold iO;rw[h2];rfl
  .have h2:gB fs (bV f4 n).1 (bV f4 n).2.1 (bV f4 n).2.2.1 (bV f4 n).2.2.2.1=true:=dZ h2;have h4:¬0<n:=by have:=iG h4;omega
   unfold iO;rw[h2,ars h4];rfl
 .dsimp only;have ha:nH fs f4=true:=kT hJ;refine dm (by omega) ⟨trivial,af (λh1=>⟨trivial,af (λh2=>⟨trivial,af (λh3=>⟨trivial,?_⟩) λh3=>?_⟩) λh2=>?_⟩) λh1=>?_⟩
  all_goals refine congrArg (·,()) ?_
  .show dL fs=(nH fs f4&&dL fs&&(decide (1<=f0)&&decide (f0<=60))&&(decide (0<=f1)&&decide (f1<=2))&&(decide (0<=f3)&&decide (f3<=60)));rw[ha,h1,h2,h3];cases dL fs<;>rfl
  .show false=(nH fs f4&&dL fs&&(decide (1<=f0)&&decide (f0<=60))&&(decide (0<=f1)&&decide (f1<=2))&&(decide (0<=f3)&&decide (f3<=60)));rw[h3,asj]
  .show false=(nH fs f4&&dL fs&&(decide (1<=f0)&&decide (f0<=60))&&(decide (0<=f1)&&decide (f1<=2))&&(decide (0<=f3)&&decide (f3<=60)));rw[h2,asj,as6]
  .show false=(nH fs f4&&dL fs&&(decide (1<=f0)&&decide (f0<=60))&&(decide (0<=f1)&&decide (f1<=2))&&(decide (0<=f3)&&decide (f3<=60)));rw[h1,asj,as6,as6]
theorem Ew:OK ng.e:=by
 refine aZ [jK.e,lN.e,rO.e] ⟨nG,Dy,PK,⟨⟩⟩ PN λs0 s1 s2=>show ng.goal (Ob s0 s1 s2) ((s0,s1,s2,()),())fromλhin hp=>?_
 dsimp only[ng]at hp ⊢;have hlen:s1.length<=maxLen:=hin.1.2.1.1;rw[maxLen_eq]at hlen;refine dW s1.length hlen (λn=>∀i,i<n->jc (s0,s1,s2,()) i=true) (λi hi=>by omega) (λI μ n hn hJ next=>?_) λI μ hJ=>?_
 .dsimp only;have no:jc (s0,s1,s2,()) n=false->(false,())=(bf (s0,s1,s2,()),()):=λh=>by rw[Y5 (s:=(s0,s1,s2,())) hn h]
  refine dB (by omega) ⟨⟨by omega,by omega⟩,trivial,af (λh2=>no ?_) λh2=>af (λh3=>no ?_) λh3=>af (λh4=>?_) λh4=>⟨rfl,next (dJ hJ ?_)⟩⟩
  .have h2:dP s0 (Sp.fileAt s1 n)=false:=jb h2;show(dP s0 (Sp.fileAt s1 n)&&_&&_)=false;rw[h2];rfl
  .have h2:dP s0 (Sp.fileAt s1 n)=true:=dZ h2;have h3:¬(Sp.fileAt s1 n).1<s2:=by have h3:(Sp.fileAt s1 n).1>=s2:=iq h3;omega
   show(dP s0 (Sp.fileAt s1 n)&&decide ((Sp.fileAt s1 n).1<s2)&&_)=false;rw[h2,ars h3];rfl
  .have h2:dP s0 (Sp.fileAt s1 n)=true:=dZ h2;have h3:(Sp.fileAt s1 n).1<s2:=by have h3:¬(Sp.fileAt s1 n).1>=s2:=iG h3;omega
   have h4:0<n:=by have:=iq h4;omega
   rw[rJ h4 (by omega)];refine⟨⟨by omega,by omega⟩,af (λh5=>no ?_) λh5=>⟨rfl,next (dJ hJ ?_)⟩⟩
   .have h5:¬(Sp.fileAt s1 (n-1)).1<(Sp.fileAt s1 n).1:=by have h5:(Sp.fileAt s1 (n-1)).1>=(Sp.fileAt s1 n).1:=iq h5;omega
    show(dP s0 (Sp.fileAt s1 n)&&decide ((Sp.fileAt s1 n).1<s2)&&!(decide (0<n)&&!decide ((Sp.fileAt s1 (n-1)).1<(Sp.fileAt s1 n).1)))=false;rw[h2,arh h3,arh h4,ars h5];rfl
   .have h5:(Sp.fileAt s1 (n-1)).1<(Sp.fileAt s1 n).1:=by have h5:¬(Sp.fileAt s1 (n-1)).1>=(Sp.fileAt s1 n).1:=iG h5;omega
    show(dP s0 (Sp.fileAt s1 n)&&decide ((Sp.fileAt s1 n).1<s2)&&!(decide (0<n)&&!decide ((Sp.fileAt s1 (n-1)).1<(Sp.fileAt s1 n).1)))=true;rw[h2,arh h3,arh h4,arh h5];rfl
  .have h2:dP s0 (Sp.fileAt s1 n)=true:=dZ h2;have h3:(Sp.fileAt s1 n).1<s2:=by have h3:¬(Sp.fileAt s1 n).1>=s2:=iG h3;omega
   have h4:¬0<n:=by have:=iG h4;omega
   show(dP s0 (Sp.fileAt s1 n)&&decide ((Sp.fileAt s1 n).1<s2)&&!(decide (0<n)&&!decide ((Sp.fileAt s1 (n-1)).1<(Sp.fileAt s1 n).1)))=true;rw[h2,arh h3,ars h4];rfl
 .dsimp only;have ha:fF s1.length (jc (s0,s1,s2,()))=true:=kT hJ;refine dm (by omega) ⟨trivial,af (λh1=>af (λh2=>⟨trivial,?_⟩) λh2=>?_) λh1=>?_⟩
  .refine congrArg (·,()) ?_;show _=(fF s1.length (jc (s0,s1,s2,()))&&dL s0&&decide ((s1.length:Int)<=12)&&(decide (1<=s2)&&decide (s2<=61)));rw[ha,h1,h2];rfl
  .refine congrArg (·,()) ?_;show _=(fF s1.length (jc (s0,s1,s2,()))&&dL s0&&decide ((s1.length:Int)<=12)&&(decide (1<=s2)&&decide (s2<=61)));rw[ha,h1,h2];rfl
  .refine congrArg (·,()) ?_;show _=(fF s1.length (jc (s0,s1,s2,()))&&dL s0&&decide ((s1.length:Int)<=12)&&(decide (1<=s2)&&decide (s2<=61)));rw[ha,h1];rfl
end Go.Proofs.Tryz
namespace Go.Proofs.Tryz
open Go Go.Fw Go.IntWalk Sp
theorem Hu(n0 n1 n2:Int)(n3:Sp.Bytes)(n4 n5:Int)(n6:Sp.Bytes)(a:Int):iR (n0,n1,n2,n3,n4,n5,n6,()) a=
 (bif n0==1 then(n1==0&&n2==0)&&(n3==[]&&(n4==0&&(n5==0&&n6==[])))else bif n0==2 then(n1==0&&n2==0)&&(n4==0&&(n5==0&&n6==[]))&&fM n3 else
 bif n0==3 then(n1==0&&n2==0)&&fM n3&&gJ n4 n5 n6&&!(n4==0)else bif n0==4 then(n1==0&&n2==0)&&fM n3&&gJ n4 n5 n6&&n4==1 else
 bif n0==5 then(decide (0<=n1)&&decide (n1<=a-1)&&decide (0<a))&&n2==0&&(n3==[]&&(n4==0&&(n5==0&&n6==[])))else
 bif n0==6||n0==7 then(decide (0<=n1)&&decide (n1<=a-1)&&decide (0<a))&&(decide (0<=n2)&&decide (n2<=a-1))&&(n3==[]&&(n4==0&&(n5==0&&n6==[])))else
 bif n0==8||n0==9 then(n1==0&&n2==0)&&(n4==0&&(n5==0&&n6==[]))&&dX n3 else false):=rfl
theorem Qg:OK rU.e:=by
 refine aZ [jR.e,jK.e,mY.e,kP.e] ⟨vK,nG,Eu,Bd,⟨⟩⟩ Tc λn0 n1 n2 n3 n4 n5 n6 a=>show rU.goal (ET n0 n1 n2 n3 n4 n5 n6 a) ((n0,n1,n2,n3,n4,n5,n6,()),a,())fromλhin hp=>?_
 dsimp only[rU]at hp ⊢;have ha:-9223372036854775808<=a/\a<=9223372036854775807:=hin.2.1;show ET n0 n1 n2 n3 n4 n5 n6 a λr=>r=(iR (n0,n1,n2,n3,n4,n5,n6,()) a,());rw[Hu];have w:0<a->IntKind.i64.wrap (a-1)=a-1:=λh=>gm _ (by omega);refine af (λ_=>?_) λ_=>af (λ_=>af (λ_=>⟨trivial,?_⟩) λ_=>?_) λ_=>⟨λy=>y=((n0==3||n0==4,()),()),?_,?_⟩
 .first|(simp_all;done)|(simp_all;grind)
 .first|(simp_all;done)|(simp_all;grind)
 .first|(simp_all;done)|(simp_all;grind)
 .refine af (λ_=>⟨rfl,?_⟩) λ_=>⟨rfl,?_⟩<;>first|(simp_all;done)|(simp_all;grind)
 .rintro _ rfl;refine af (λ_=>?_) λ_=>af (λ_=>af (λ_=>af (λh=>⟨trivial,?_⟩) λ_=>?_) λ_=>?_) λ_=>⟨λy=>y=((n0==6||n0==7,()),()),?_,?_⟩
  .refine af (λ_=>⟨trivial,af (λ_=>⟨trivial,af (λ_=>af (λ_=>af (λ_=>?_) λ_=>?_) λ_=>?_) λ_=>?_⟩) λ_=>?_⟩) λ_=>?_
   all_goals first|(simp_all;done)|(simp_all;grind)
  .rw[w (iq h)]
   first|(simp_all;done)|(simp_all;grind)
  .first|(simp_all;done)|(simp_all;grind)
  .first|(simp_all;done)|(simp_all;grind)
  .refine af (λ_=>⟨rfl,?_⟩) λ_=>⟨rfl,?_⟩<;>first|(simp_all;done)|(simp_all;grind)
  .rintro _ rfl;refine af (λ_=>af (λ_=>af (λh=>⟨trivial,?_⟩) λ_=>?_) λ_=>?_) λ_=>?_
   .rw[w (iq h)];refine af (λ_=>⟨trivial,?_⟩) λ_=>?_<;>first|(simp_all;done)|(simp_all;grind)
   .first|(simp_all;done)|(simp_all;grind)
   .first|(simp_all;done)|(simp_all;grind)
   .refine af (λ_=>af (λ_=>af (λ_=>⟨trivial,?_⟩) λ_=>?_) λ_=>?_) λ_=>af (λ_=>af (λ_=>⟨trivial,?_⟩) λ_=>?_) λ_=>?_
    all_goals first|(simp_all;done)|(simp_all;grind)
theorem Qh:OK rQ.e:=by
 refine aZ [jQ.e,mX.e,kN.e,iJ.e] ⟨vJ,Es,Bc,jO,⟨⟩⟩ Td λn0 n1 n2 n3 n4 n5 n6 a=>show rQ.goal (EU n0 n1 n2 n3 n4 n5 n6 a) ((n0,n1,n2,n3,n4,n5,n6,()),a,())fromλhin hp=>?_
 dsimp only[rQ]at hp ⊢;have ha:-9223372036854775808<=a/\a<=9223372036854775807:=hin.2.1;show EU n0 n1 n2 n3 n4 n5 n6 a λr=>r=(iR (n0,n1,n2,n3,n4,n5,n6,()) a,());rw[Hu];have w:0<a->IntKind.i64.wrap (a-1)=a-1:=λh=>gm _ (by omega);refine⟨λy=>y=((decide (0<=n1)&&decide (n1<=a-1)&&decide (0<a),()),()),⟨trivial,?_⟩,?_⟩
 .by_cases h:0<a
  .dsimp only;rw[w h];refine af (λ_=>⟨rfl,?_⟩) λ_=>⟨rfl,?_⟩<;>first|(simp_all;done)|(simp_all;grind)
  .dsimp only;refine af (λ_=>⟨rfl,?_⟩) λ_=>⟨rfl,?_⟩<;>first|(simp_all;done)|(simp_all;grind)
 .rintro _ rfl;refine⟨λy=>y=(((decide (0<=n1)&&decide (n1<=a-1)&&decide (0<a))&&(decide (0<=n2)&&decide (n2<=a-1)),()),()),?_,?_⟩
  .refine af (λh=>⟨trivial,rfl,?_⟩) λh=>⟨rfl,?_⟩
   .have h:(decide (0<=n1)&&decide (n1<=a-1)&&decide (0<a))=true:=h;have h2:0<a:=by simp at h;omega
    rw[w h2,h,atb]
   .have h:(decide (0<=n1)&&decide (n1<=a-1)&&decide (0<a))=false:=h;rw[h,as6]
  .rintro _ rfl;dsimp only;generalize (decide (0<=n1)&&decide (n1<=a-1)&&decide (0<a))=kids;generalize (decide (0<=n2)&&decide (n2<=a-1))=two
   repeat' first
    |exact trivial
    |refine af (λ_=>?_) λ_=>?_
    |refine And.intro trivial ?_
   all_goals first|(simp_all;done)|(simp_all;grind)
end Go.Proofs.Tryz
namespace Go.Proofs.Tryz
open Go Go.Fw Go.IntWalk Sp
theorem JQ:OK uM.e:=by
 refine aZ [] ⟨⟩ acS λa b=>show uM.goal (aaR a b) (a,b,())fromλhin hp=>?_
 dsimp only[uM]at hp ⊢;have hlen:a.length<=maxLen:=hin.1.1;rw[maxLen_eq]at hlen;refine af (λh=>?_) λh=>?_
 .have h:(a.length:Int)≠b.length:=by simpa using h
  exact congrArg (·,()) (ars λe=>h (by rw[e])).symm
 .have h:(a.length:Int)=b.length:=by simpa using h
  exact ahs (K:=λr=>r=(decide (a=b),())) (λx y=>x.1 !=y.1) (λx y=>by simp[Prod.ext_iff]) _ a b _ hlen (by omega) (λe=>by rw[ars e]) λe=>by rw[arh e]
theorem X6:OK yC.e:=by
 refine aZ [] ⟨⟩ H0 λn0 n1 n2 n3 n4 n5 n6=>show yC.goal (X7 n0 n1 n2 n3 n4 n5 n6) ((n0,n1,n2,n3,n4,n5,n6,()),())fromλhin hp=>?_
 dsimp only[yC]at hp ⊢;exact af (λh=>by rw[h];rfl) λh=>by rw[h];rfl
theorem Fj{d:List aC}(h:qC d){n:Nat}(hn:n<d.length):(d.getD n ([],[],())).2.1.length<=1000:=h.2 _ (getD_mem hn)
end Go.Proofs.Tryz
namespace Go.Proofs.Tryz
open Go Go.Fw Go.IntWalk Sp
theorem OC(a:Int)(x:aT):(Sp.refsOf a x:Int)=(if(x.1=6\/x.1=7\/x.1=5)/\x.2.1=a then 1 else 0)+(if(x.1=6\/x.1=7)/\x.2.2.1=a then 1 else 0):=by unfold Sp.refsOf kK;by_cases h6:x.1=6<;>by_cases h7:x.1=7<;>by_cases h5:x.1=5<;>by_cases hl:x.2.1=a<;>by_cases hr:x.2.2.1=a<;>simp[cond_eq_ite,h6,h7,h5,hl,hr]
theorem amd(a:Int)(x:aT):Sp.refsOf a x<=2:=by have:=OC a x;split at this<;>split at this<;>omega
def kU(q:List aT)(a:Int)(n:Nat):Nat:=((q.take n).map (Sp.refsOf a)).sum
theorem La(q:List aT)(a:Int){n:Nat}(hn:n<q.length):kU q a (n+1)=kU q a n+Sp.refsOf a (Sp.nodeAt q n):=by unfold kU;rw[Sp.take_succ' q n (0,0,0,[],0,0,[],()) hn];simp only[ar6,List.sum_append,arB,List.map_nil,List.sum_cons,List.sum_nil,asI];rfl
theorem Tj(q:List aT)(a:Int):∀n,n<=q.length->kU q a n<=2*n
 |0,_=>by simp[kU]
 |n+1,h=>by rw[La q a (by omega)];have:=Tj q a n (by omega);have:=amd a (Sp.nodeAt q n);omega
theorem aaS(q:List aT)(a:Int):kU q a q.length=kC q a:=by unfold kU kC;rw[arA]
theorem Jo:OK nJ.e:=by
 refine aZ [] ⟨⟩ Lc λq a=>show nJ.goal (Jp q a) (q,a,())fromλhin hp=>?_
 dsimp only[nJ]at hp ⊢;have hp:q.length<=2000000:=hp;refine fZ (λi(c:Int)=>((c,i,()),())) (λy=>y.1.2.1) (λ_ _=>rfl) q.length (by omega) (λn c=>c=(kU q a n:Int)) rfl (λI μ n c hn hJ next=>?_) λI μ c hJ=>?_
 .subst hJ;have hs:=La q a hn;have hb:=Tj q a n (by omega);have hr:=OC a (Sp.nodeAt q n);dsimp only;rw[arn];have e:q.getD n (0,0,0,[],0,0,[],())=Sp.nodeAt q n:=rfl;rw[e];have w1:IntKind.i64.wrap ((kU q a n:Int)+1)=(kU q a n:Int)+1:=gm _ (by omega);have w2:IntKind.i64.wrap ((kU q a n:Int)+1+1)=(kU q a n:Int)+1+1:=gm _ (by omega);refine dB (by omega) ⟨⟨by omega,by omega⟩,af (λh6=>⟨λy=>y=(((kU q a n:Int)+(if(Sp.nodeAt q n).2.1=a then 1 else 0),()),()),⟨⟨by omega,by omega⟩,af (λhl=>⟨rfl,?_⟩) λhl=>⟨rfl,?_⟩⟩,?_⟩) λh6=>⟨⟨by omega,by omega⟩,λy=>y=(((kU q a n:Int)+(if((Sp.nodeAt q n).1=7\/(Sp.nodeAt q n).1=5)/\(Sp.nodeAt q n).2.1=a then 1 else 0),()),()),?_,?_⟩⟩
  .simp only[aq9]at hl;rw[w1,if_pos hl]
  .simp only[aq4]at hl;rw[if_neg hl,asy]
  .rintro _ rfl;simp only[aq9]at h6;refine⟨⟨by omega,by omega⟩,af (λhrr=>⟨rfl,next _ ?_⟩) λhrr=>⟨rfl,next _ ?_⟩⟩
   all_goals
    dsimp only;simp only[aq9,aq4,ne_eq]at hrr;by_cases hl:(Sp.nodeAt q n).2.1=a<;>simp[h6,hl,hrr]at hr<;>simp only[hl,if_true,ath,asy,w1,w2]<;>omega
  .simp only[aq4,ne_eq]at h6;refine af (λh7=>⟨⟨by omega,by omega⟩,af (λhl=>⟨rfl,?_⟩) λhl=>⟨rfl,?_⟩⟩) λh7=>⟨⟨by omega,by omega⟩,af (λh5=>⟨⟨by omega,by omega⟩,af (λhl=>⟨rfl,?_⟩) λhl=>⟨rfl,?_⟩⟩) λh5=>⟨rfl,?_⟩⟩
   all_goals simp_all
  .rintro _ rfl;simp only[aq4,ne_eq]at h6;refine af (λh7=>⟨⟨by omega,by omega⟩,af (λhrr=>⟨rfl,next _ ?_⟩) λhrr=>⟨rfl,next _ ?_⟩⟩) λh7=>⟨rfl,next _ ?_⟩
   .simp only[aq9]at h7 hrr;by_cases hl:(Sp.nodeAt q n).2.1=a<;>simp[h6,h7,hl,hrr]at hr<;>simp only[h7,hl,true_or,and_self,and_false,if_true,ath,asy,w1,w2]<;>omega
   .simp only[aq9,aq4,ne_eq]at h7 hrr;by_cases hl:(Sp.nodeAt q n).2.1=a<;>simp[h6,h7,hl,hrr]at hr<;>simp only[h7,hl,true_or,and_self,and_false,if_true,ath,asy,w1,w2]<;>omega
   .simp only[aq4,ne_eq]at h7;dsimp only;by_cases h5:(Sp.nodeAt q n).1=5<;>by_cases hl:(Sp.nodeAt q n).2.1=a<;>simp[h6,h7,h5,hl]at hr<;>simp[h7,h5,hl]<;>omega
 .dsimp only;refine dm (by omega) ?_;rw[hJ,aaS]
theorem Jq:OK nK.e:=by
 refine aZ [] ⟨⟩ Ld λq a=>show nK.goal (Jr q a) (q,a,())fromλhin hp=>?_
 dsimp only[nK]at hp ⊢;have hp:q.length<=2000000:=hp;refine fZ (λi(c:Int)=>((c,i,()),())) (λy=>y.1.2.1) (λ_ _=>rfl) q.length (by omega) (λn c=>c=(kU q a n:Int)) rfl (λI μ n c hn hJ next=>?_) λI μ c hJ=>?_
 .subst hJ;have hs:=La q a hn;have hb:=Tj q a n (by omega);have hr:=OC a (Sp.nodeAt q n);dsimp only;rw[arn];have e:q.getD n (0,0,0,[],0,0,[],())=Sp.nodeAt q n:=rfl;rw[e];have w1:IntKind.i64.wrap ((kU q a n:Int)+1)=(kU q a n:Int)+1:=gm _ (by omega);have w2:IntKind.i64.wrap ((kU q a n:Int)+1+1)=(kU q a n:Int)+1+1:=gm _ (by omega);refine dB (by omega) ⟨⟨by omega,by omega⟩,af (λh6=>⟨λy=>y=(((kU q a n:Int)+(if(Sp.nodeAt q n).2.1=a then 1 else 0),()),()),af (λhl=>⟨rfl,?_⟩) λhl=>⟨rfl,?_⟩,?_⟩) λh6=>⟨λy=>y=(((kU q a n:Int)+(if((Sp.nodeAt q n).1=7\/(Sp.nodeAt q n).1=5)/\(Sp.nodeAt q n).2.1=a then 1 else 0),()),()),?_,?_⟩⟩
  .simp only[aq9]at hl;rw[w1,if_pos hl]
  .simp only[aq4]at hl;rw[if_neg hl,asy]
  .rintro _ rfl;simp only[aq9]at h6;refine af (λhrr=>⟨rfl,next _ ?_⟩) λhrr=>⟨rfl,next _ ?_⟩
   all_goals
    dsimp only;simp only[aq9,aq4,ne_eq]at hrr;by_cases hl:(Sp.nodeAt q n).2.1=a<;>simp[h6,hl,hrr]at hr<;>simp only[hl,if_true,ath,asy,w1,w2]<;>omega
  .simp only[aq4,ne_eq]at h6;refine af (λhl=>af (λh7=>⟨rfl,?_⟩) λh7=>af (λh5=>⟨rfl,?_⟩) λh5=>⟨rfl,?_⟩) λhl=>⟨rfl,?_⟩
   all_goals simp_all
  .rintro _ rfl;simp only[aq4,ne_eq]at h6;refine af (λhrr=>af (λh7=>⟨rfl,next _ ?_⟩) λh7=>⟨rfl,next _ ?_⟩) λhrr=>⟨rfl,next _ ?_⟩
   .simp only[aq9]at h7 hrr;by_cases hl:(Sp.nodeAt q n).2.1=a<;>simp[h6,h7,hl,hrr]at hr<;>simp only[h7,hl,true_or,and_self,and_false,if_true,ath,asy,w1,w2]<;>omega
   .simp only[aq4,ne_eq]at h7;dsimp only;by_cases h5:(Sp.nodeAt q n).1=5<;>by_cases hl:(Sp.nodeAt q n).2.1=a<;>simp[h6,h7,h5,hl]at hr<;>simp[h7,h5,hl]<;>omega
   .simp only[aq4,ne_eq]at hrr;dsimp only;by_cases h7:(Sp.nodeAt q n).1=7<;>by_cases h5:(Sp.nodeAt q n).1=5<;>by_cases hl:(Sp.nodeAt q n).2.1=a<;>simp[h6,h7,h5,hl,hrr]at hr<;>simp[h7,h5,hl]<;>omega
 .dsimp only;refine dm (by omega) ?_;rw[hJ,aaS]
theorem aaT{q:List aT}{n:Nat}(hn:n<q.length)(h:jJ q n=false):aU q=false:=by unfold aU;rw[xK hn h];rfl
theorem wX:OK kL.e:=by
 refine aZ [iJ.e,nJ.e,rQ.e] ⟨jO,Jo,Qh,⟨⟩⟩ Qk λq=>show kL.goal (OD q) (q,())fromλhin hp=>?_
 dsimp only[kL]at hp ⊢;have hp:q.length<=2000000:=hp;refine dW q.length (by omega) (λn=>∀i,i<n->jJ q i=true) (λi hi=>by omega) (λI μ n hn hJ next=>?_) λI μ hJ=>?_
 .dsimp only;have no:jJ q n=false->(false,())=(aU q,()):=λh=>by rw[aaT hn h]
  rw[rJ (show 0<q.length by omega) (by omega)];refine dB (by omega) ⟨⟨by omega,by omega⟩,trivial,af (λh2=>no ?_) λh2=>af (λh3=>⟨hp,af (λh4=>no ?_) λh4=>⟨rfl,next (dJ hJ ?_)⟩⟩) λh3=>⟨rfl,next (dJ hJ ?_)⟩⟩
  .have h2:iR (Sp.nodeAt q n) n=false:=jb h2;unfold jJ;rw[h2];rfl
  .have h2:iR (Sp.nodeAt q n) n=true:=dZ h2;have h4:(kC q n:Int)≠1:=by simpa using h4
   have h3:(n:Int)<(q.length:Int)-1:=by have:=iq h3;omega
   unfold jJ;simp only[h3,h2];simp;omega
  .have h2:iR (Sp.nodeAt q n) n=true:=dZ h2;have h4:(kC q n:Int)=1:=by simpa using h4
   have h4:kC q n=1:=by omega
   unfold jJ;simp[h2,h4]
  .have h2:iR (Sp.nodeAt q n) n=true:=dZ h2;have h3:¬(n:Int)<(q.length:Int)-1:=by have:=iG h3;omega
   unfold jJ;simp[h2,h3]
 .dsimp only;refine dm (by omega) ⟨trivial,congrArg (·,()) ?_⟩;unfold aU;rw[kT hJ];rfl
theorem wW:OK kM.e:=by
 refine aZ [jK.e,nK.e,rU.e] ⟨nG,Jq,Qg,⟨⟩⟩ Ql λq=>show kM.goal (OE q) (q,())fromλhin hp=>?_
 dsimp only[kM]at hp ⊢;have hp:q.length<=2000000:=hp;refine dW q.length (by omega) (λn=>∀i,i<n->jJ q i=true) (λi hi=>by omega) (λI μ n hn hJ next=>?_) λI μ hJ=>?_
 .dsimp only;have no:jJ q n=false->(false,())=(aU q,()):=λh=>by rw[aaT hn h]
  rw[rJ (show 0<q.length by omega) (by omega)];refine dB (by omega) ⟨⟨by omega,by omega⟩,trivial,af (λh2=>no ?_) λh2=>af (λh3=>⟨hp,af (λh4=>no ?_) λh4=>⟨rfl,next (dJ hJ ?_)⟩⟩) λh3=>⟨rfl,next (dJ hJ ?_)⟩⟩
  .have h2:iR (Sp.nodeAt q n) n=false:=jb h2;unfold jJ;rw[h2];rfl
  .have h2:iR (Sp.nodeAt q n) n=true:=dZ h2;have h4:(kC q n:Int)≠1:=by simpa using h4
   have h3:(n:Int)<(q.length:Int)-1:=by have:=iq h3;omega
   unfold jJ;simp only[h3,h2];simp;omega
  .have h2:iR (Sp.nodeAt q n) n=true:=dZ h2;have h4:(kC q n:Int)=1:=by simpa using h4
   have h4:kC q n=1:=by omega
   unfold jJ;simp[h2,h4]
  .have h2:iR (Sp.nodeAt q n) n=true:=dZ h2;have h3:¬(n:Int)<(q.length:Int)-1:=by have:=iG h3;omega
   unfold jJ;simp[h2,h3]
 .dsimp only;refine dm (by omega) ⟨trivial,congrArg (·,()) ?_⟩;unfold aU;rw[kT hJ];rfl
theorem adN{d:List aC}{n:Nat}(hn:n<d.length)(h:iP d n=false):dR d=false:=by unfold dR;rw[xK hn h];rfl
theorem PO:OK rV.e:=by
 refine aZ [kL.e,jQ.e] ⟨wX,vJ,⟨⟩⟩ Tm λd=>show rV.goal (Qm d) (d,())fromλhin hp=>?_
 dsimp only[rV]at hp ⊢;have hp:fO d:=hp;have hlen:d.length<=2000000:=hp.1;refine dW d.length (by omega) (λn=>∀i,i<n->iP d i=true) (λi hi=>by omega) (λI μ n hn hJ next=>?_) λI μ hJ=>?_
 .dsimp only;have no:iP d n=false->(false,())=(dR d,()):=λh=>by rw[adN hn h]
  have hq:(bT d n).2.1.length<=2000000:=hp.2 _ (aht hn);refine dB (by omega) ⟨⟨by omega,by omega⟩,trivial,af (λh2=>no ?_) λh2=>⟨⟨by omega,by omega⟩,hq,af (λh3=>no ?_) λh3=>af (λh4=>?_) λh4=>⟨rfl,next (dJ hJ ?_)⟩⟩⟩
  .have h2:dX (bT d n).1=false:=jb h2;unfold iP;rw[h2];rfl
  .have h3:aU (bT d n).2.1=false:=jb h3;unfold iP;rw[h3];simp
  .have h2:dX (bT d n).1=true:=dZ h2;have h3:aU (bT d n).2.1=true:=dZ h3;have h4:0<n:=by have:=iq h4;omega
   rw[rJ h4 (by omega)];refine⟨⟨by omega,by omega⟩,⟨by omega,by omega⟩,af (λh5=>no ?_) λh5=>⟨rfl,next (dJ hJ ?_)⟩⟩
   .have h5:Op.bytesLess (bT d (n-1)).1 (bT d n).1=false:=jb h5;unfold iP;rw[h2,h3,h5,arh h4];rfl
   .have h5:Op.bytesLess (bT d (n-1)).1 (bT d n).1=true:=dZ h5;unfold iP;rw[h2,h3,h5,arh h4];rfl
  .have h2:dX (bT d n).1=true:=dZ h2;have h3:aU (bT d n).2.1=true:=dZ h3;have h4:¬0<n:=by have:=iG h4;omega
   unfold iP;rw[h2,h3,ars h4];rfl
 .dsimp only;refine dm (by omega) (congrArg (·,()) ?_);unfold dR;rw[kT hJ];rfl
theorem PU:OK rW.e:=by
 refine aZ [kM.e,jR.e] ⟨wW,vK,⟨⟩⟩ Tn λd=>show rW.goal (Qn d) (d,())fromλhin hp=>?_
 dsimp only[rW]at hp ⊢;have hp:fO d:=hp;have hlen:d.length<=2000000:=hp.1;refine dW d.length (by omega) (λn=>∀i,i<n->iP d i=true) (λi hi=>by omega) (λI μ n hn hJ next=>?_) λI μ hJ=>?_
 .dsimp only;have no:iP d n=false->(false,())=(dR d,()):=λh=>by rw[adN hn h]
  have hq:(bT d n).2.1.length<=2000000:=hp.2 _ (aht hn);refine dB (by omega) ⟨⟨by omega,by omega⟩,trivial,af (λh2=>no ?_) λh2=>af (λh4=>?_) λh4=>⟨hq,af (λh3=>no ?_) λh3=>⟨rfl,next (dJ hJ ?_)⟩⟩⟩
  .have h2:dX (bT d n).1=false:=jb h2;unfold iP;rw[h2];rfl
  .have h2:dX (bT d n).1=true:=dZ h2;have h4:0<n:=by have:=iq h4;omega
   rw[rJ h4 (by omega)];refine⟨⟨by omega,by omega⟩,af (λh5=>no ?_) λh5=>⟨hq,af (λh3=>no ?_) λh3=>⟨rfl,next (dJ hJ ?_)⟩⟩⟩
   .have h5:Op.bytesLess (bT d (n-1)).1 (bT d n).1=false:=jb h5;unfold iP;rw[h5,arh h4];simp
   .have h3:aU (bT d n).2.1=false:=jb h3;unfold iP;rw[h3];simp
   .have h3:aU (bT d n).2.1=true:=dZ h3;have h5:Op.bytesLess (bT d (n-1)).1 (bT d n).1=true:=dZ h5;unfold iP;rw[h2,h3,h5,arh h4];rfl
  .have h3:aU (bT d n).2.1=false:=jb h3;unfold iP;rw[h3];simp
  .have h2:dX (bT d n).1=true:=dZ h2;have h3:aU (bT d n).2.1=true:=dZ h3;have h4:¬0<n:=by have:=iG h4;omega
   unfold iP;rw[h2,h3,ars h4];rfl
 .dsimp only;refine dm (by omega) (congrArg (·,()) ?_);unfold dR;rw[kT hJ];rfl
end Go.Proofs.Tryz
namespace Go.Proofs.Tryz
open Go Go.Fw Go.IntWalk Sp
theorem adO{S:Type}{B:((Int×Unit)×S->Prop)->((Int×Unit)×S->Nat)->(Int×Unit)×S->Prop}(len:Nat)(hlen:len<=9223372036854775807)(J:Nat->S->Prop){s0:S}(h0:J len s0)
 (hstep:∀I μ(n:Nat)(s:S),n<len->J (n+1) s->(∀s',J n s'->I ((IntKind.i64.wrap ((n:Int)-1),()),s')/\μ ((IntKind.i64.wrap ((n:Int)-1),()),s')<μ (((n:Int),()),s))->B I μ (((n:Int),()),s))
 (hend:∀I μ s,J 0 s->B I μ ((-1,()),s)):∃I,∃μ,I ((IntKind.i64.wrap ((len:Int)-1),()),s0)/\∀y,I y->B I μ y:=by
 have w:∀n:Nat,n<=len->IntKind.i64.wrap ((n:Int)-1)=(n:Int)-1:=λn hn=>gm _ (by omega);refine⟨λy=>∃(n:Nat)(s:S),y=(((n:Int)-1,()),s)/\n<=len/\J n s,λy=>(y.1.1+1).toNat,⟨len,s0,by rw[w len (ara _)],ara _,h0⟩,?_⟩;rintro _ ⟨n,s,rfl,hn,hJ⟩;cases n with
 |zero=>exact hend _ _ s hJ
 |succ n=>
  have e:((n+1:Nat):Int)-1=n:=by omega
  rw[e];refine hstep _ _ n s hn hJ λs' hJ'=>?_;rw[w n (by omega)];refine⟨⟨n,s',rfl,by omega,hJ'⟩,?_⟩;show((n:Int)-1+1).toNat<((n:Int)+1).toNat;omega
theorem getD_set_ne{α:Type}(l:List α)(i n:Nat)(x d:α)(h:i≠n):(l.set i x).getD n d=l.getD n d:=by rw[arp,arp,ash h]
theorem Hw{x:aT}{a:Int}(h:iR x a=true)(h2:x.1=5\/x.1=6\/x.1=7):0<=x.2.1/\x.2.1<a:=by obtain⟨x0,x1,x2,x3,x4,x5,x6,_⟩:=x;rw[Hu]at h;rcases h2 with rfl|rfl|rfl<;>simp at h<;>exact⟨h.1.1.1.1,by dsimp only;omega⟩
theorem Hy{x:aT}{a:Int}(h:iR x a=true)(h2:x.1=6\/x.1=7):0<=x.2.2.1/\x.2.2.1<a:=by obtain⟨x0,x1,x2,x3,x4,x5,x6,_⟩:=x;rw[Hu]at h;rcases h2 with rfl|rfl<;>simp at h<;>exact⟨h.1.2.1,by dsimp only;omega⟩
theorem aaU{q:List aT}(h:aU q=true){n:Nat}(hn:n<q.length):iR (Sp.nodeAt q n) n=true:=by unfold aU at h;simp only[aq5]at h;have:=Le.1 h.1 n hn;unfold jJ at this;simp only[aq5]at this;exact this.1
theorem yg{q:List aT}(h:aU q=true):1<=q.length/\q.length<=9:=by unfold aU at h;simp only[aq5,arx]at h;omega
theorem VJ{q:List aT}{n:Nat}{out:List (Bool×Unit)}(h:(Sp.nodeAt q n).1=5):iY q n out=out.set (Sp.nodeAt q n).2.1.toNat (true,()):=by unfold iY;simp[h]
theorem VK{q:List aT}{n:Nat}{out:List (Bool×Unit)}(h:(Sp.nodeAt q n).1=6\/(Sp.nodeAt q n).1=7):iY q n out=(out.set (Sp.nodeAt q n).2.1.toNat ((out.getD n (false,())).1,())).set (Sp.nodeAt q n).2.2.1.toNat ((out.getD n (false,())).1,()):=by unfold iY kK;rcases h with h|h<;>simp[h]
theorem Tq{q:List aT}{n:Nat}{out:List (Bool×Unit)}(h5:(Sp.nodeAt q n).1≠5)(h6:(Sp.nodeAt q n).1≠6)(h7:(Sp.nodeAt q n).1≠7):iY q n out=out:=by unfold iY kK;dsimp only;rw[aq4.2 h5,aq4.2 h6,aq4.2 h7];rfl
theorem BP(q:List aT):∀(n:Nat)(out:List (Bool×Unit)),(gQ q n out).length=out.length
 |0,out=>rfl
 |n+1,out=>by
  rw[gQ,BP q n];unfold iY;simp only[cond_eq_ite];split
  .simp
  .split<;>simp
theorem agV{q:List aT}(h:aU q=true):(Sp.negated q).length=q.length:=by unfold Sp.negated;rw[h];show(gQ q _ _).length=_;rw[BP];simp
theorem OG:OK qN.e:=by
 refine aZ [kM.e] ⟨wW,⟨⟩⟩ Qo λq=>show qN.goal (OH q) (q,())fromλhin hp=>?_
 dsimp only[qN]at hp ⊢;have hp:q.length<=1000:=hp;refine⟨by omega,af (λh=>?_) λh=>⟨⟨by omega,by omega,by rw[dw];omega⟩,?_⟩⟩
 .have h:=jb h;unfold Sp.negated;rw[h];rfl
 have hok:=dZ h;have hR:Sp.negated q=gQ q q.length (List.replicate q.length (false,())):=by unfold Sp.negated;rw[hok];rfl
 refine adO q.length (by omega) (λn(s:List (Bool×Unit)×Unit)=>s.1.length=q.length/\gQ q n s.1=Sp.negated q) ⟨by simp,hR.symm⟩ (λI μ n s hn hJ next=>?_) λI μ s hJ=>?_
 .obtain⟨out,⟨⟩⟩:=s;obtain⟨hl,hJ⟩:=hJ;have hl:out.length=q.length:=hl;have hJ:gQ q n (iY q n out)=Sp.negated q:=hJ;have hk:=aaU hok hn;have e:q.getD n (0,0,0,[],0,0,[],())=Sp.nodeAt q n:=rfl;dsimp only;rw[arn,e];simp only[ato];refine dB (by omega) ⟨⟨by omega,by omega⟩,by omega,?_⟩;by_cases h5:(Sp.nodeAt q n).1=5
  .have hb:=Hw hk (.inl h5);simp only[h5,Int.reduceBEq,atl,asJ];have fin:gQ q n (out.set (Sp.nodeAt q n).2.1.toNat (true,()))=Sp.negated q:=by rw[← VJ h5];exact hJ
   refine af (λ_=>⟨⟨by omega,by omega⟩,⟨by omega,by omega⟩,⟨by omega,by omega⟩,by omega,trivial,next _ ⟨by simp[hl],fin⟩⟩) λ_=>⟨⟨by omega,by omega⟩,⟨by omega,by omega⟩,⟨by omega,by omega⟩,⟨by omega,by omega⟩,by omega,trivial,next _ ⟨by simp[hl],fin⟩⟩
  by_cases Na:(Sp.nodeAt q n).1=6\/(Sp.nodeAt q n).1=7
  .have hb:=Hw hk (.inr Na);have hb2:=Hy hk Na;have fin:∀b,(out.getD n (false,())).1=b->gQ q n ((out.set (Sp.nodeAt q n).2.1.toNat (b,())).set (Sp.nodeAt q n).2.2.1.toNat (b,()))=Sp.negated q:=λb hb=>by rw[← hb,← VK Na];exact hJ
   rcases Na with h6|h6
   all_goals
    simp only[h6,Int.reduceBEq,atl,asJ];refine af (λhc=>⟨⟨by omega,by omega⟩,⟨by omega,by omega⟩,⟨by omega,by omega⟩,⟨by omega,by omega⟩,by omega,⟨by omega,by omega⟩,by omega,trivial,next _ ⟨by simp[hl],fin true hc⟩⟩) λhc=>⟨⟨by omega,by omega⟩,⟨by omega,by omega⟩,⟨by omega,by omega⟩,⟨by omega,by omega⟩,⟨by omega,by omega⟩,by omega,⟨by omega,by omega⟩,by omega,trivial,next _ ⟨by simp[hl],fin false hc⟩⟩
  .have h6:(Sp.nodeAt q n).1≠6:=λh=>Na (.inl h);have h7:(Sp.nodeAt q n).1≠7:=λh=>Na (.inr h);have fin:gQ q n out=Sp.negated q:=by rw[Tq h5 h6 h7]at hJ;exact hJ
   simp only[aq4.2 h5,aq4.2 h6,aq4.2 h7,asJ];exact af (λ_=>⟨⟨by omega,by omega⟩,rfl,next _ ⟨hl,fin⟩⟩) λ_=>⟨⟨by omega,by omega⟩,⟨by omega,by omega⟩,rfl,next _ ⟨hl,fin⟩⟩
 .obtain⟨out,⟨⟩⟩:=s;obtain⟨hl,hJ⟩:=hJ;dsimp only;refine dm (by omega) ?_;have hJ:out=Sp.negated q:=hJ;rw[hJ]
theorem OI:OK qM.e:=by
 refine aZ [kL.e] ⟨wX,⟨⟩⟩ Qp λq=>show qM.goal (OJ q) (q,())fromλhin hp=>?_
 dsimp only[qM]at hp ⊢;have hp:q.length<=1000:=hp;refine⟨by omega,af (λh=>?_) λh=>⟨⟨by omega,by omega,by rw[dw];omega⟩,?_⟩⟩
 .have h:=jb h;unfold Sp.negated;rw[h];rfl
 have hok:=dZ h;have hR:Sp.negated q=gQ q q.length (List.replicate q.length (false,())):=by unfold Sp.negated;rw[hok];rfl
 refine adO q.length (by omega) (λn(s:List (Bool×Unit)×Unit)=>s.1.length=q.length/\gQ q n s.1=Sp.negated q) ⟨by simp,hR.symm⟩ (λI μ n s hn hJ next=>?_) λI μ s hJ=>?_
 .obtain⟨out,⟨⟩⟩:=s;obtain⟨hl,hJ⟩:=hJ;have hl:out.length=q.length:=hl;have hJ:gQ q n (iY q n out)=Sp.negated q:=hJ;have hk:=aaU hok hn;have e:q.getD n (0,0,0,[],0,0,[],())=Sp.nodeAt q n:=rfl;dsimp only;rw[arn,e];simp only[ato];refine dB (by omega) ⟨⟨by omega,by omega⟩,?_⟩;by_cases h5:(Sp.nodeAt q n).1=5
  .have hb:=Hw hk (.inl h5);simp only[h5,Int.reduceBEq,atl,asJ];have fin:gQ q n (out.set (Sp.nodeAt q n).2.1.toNat (true,()))=Sp.negated q:=by rw[← VJ h5];exact hJ
   exact⟨⟨by omega,by omega⟩,by omega,trivial,next _ ⟨by simp[hl],fin⟩⟩
  by_cases Na:(Sp.nodeAt q n).1=6\/(Sp.nodeAt q n).1=7
  .have hb:=Hw hk (.inr Na);have hb2:=Hy hk Na;have hne:(Sp.nodeAt q n).2.1.toNat≠n:=by omega
   have fin:gQ q n ((out.set (Sp.nodeAt q n).2.1.toNat ((out.getD n (false,())).1,())).set (Sp.nodeAt q n).2.2.1.toNat ((out.getD n (false,())).1,()))=Sp.negated q:=by rw[← VK Na];exact hJ
   rcases Na with h6|h6
   all_goals
    simp only[h6,Int.reduceBEq,atl,asJ,getD_set_ne _ _ _ _ _ hne];exact⟨⟨by omega,by omega⟩,by omega,⟨by omega,by omega⟩,by omega,⟨by omega,by omega⟩,by omega,⟨by omega,by omega⟩,by omega,trivial,next _ ⟨by simp[hl],fin⟩⟩
  .have h6:(Sp.nodeAt q n).1≠6:=λh=>Na (.inl h);have h7:(Sp.nodeAt q n).1≠7:=λh=>Na (.inr h);have fin:gQ q n out=Sp.negated q:=by rw[Tq h5 h6 h7]at hJ;exact hJ
   simp only[aq4.2 h5,aq4.2 h6,aq4.2 h7,asJ];exact⟨rfl,next _ ⟨hl,fin⟩⟩
 .obtain⟨out,⟨⟩⟩:=s;obtain⟨hl,hJ⟩:=hJ;dsimp only;refine dm (by omega) ?_;have hJ:out=Sp.negated q:=hJ;rw[hJ]
end Go.Proofs.Tryz
namespace Go.Proofs.Tryz
open Go Go.Fw Go.IntWalk Sp
def acT(q:List aT)(neg:Bool)(i:Nat):Option Sp.Bytes:=bif xM (Sp.nodeAt q i)&&((Sp.negated q).getD i (false,())).1==neg then some (Sp.nodeAt q i).2.2.2.1 else none
def zM(q:List aT)(neg:Bool)(n:Nat):List Sp.Bytes:=(List.range n).filterMap (acT q neg)
theorem tu(q:List aT)(neg:Bool):zM q neg (Sp.negated q).length=dM q neg:=rfl
theorem aaV{q:List aT}{neg:Bool}{n:Nat}(h1:xM (Sp.nodeAt q n)=true)(h2:((Sp.negated q).getD n (false,())).1=neg):zM q neg (n+1)=zM q neg n++[(Sp.nodeAt q n).2.2.2.1]:=by
 unfold zM;rw[atm,List.filterMap_append];congr 1;show List.filterMap _ [n]=_;rw[List.filterMap_cons];have:acT q neg n=some (Sp.nodeAt q n).2.2.2.1:=by unfold acT;rw[h1,h2];simp
 rw[this];rfl
theorem Kq{q:List aT}{neg:Bool}{n:Nat}(h:¬(xM (Sp.nodeAt q n)=true/\((Sp.negated q).getD n (false,())).1=neg)):zM q neg (n+1)=zM q neg n:=by
 unfold zM;rw[atm,List.filterMap_append];have:acT q neg n=none:=by
  unfold acT;have:(xM (Sp.nodeAt q n)&&((Sp.negated q).getD n (false,())).1==neg)=false:=by rw[asL];intro h';rw[aq5,aq9]at h';exact h h'
  rw[this];rfl
 rw[List.filterMap_cons,this];simp
theorem tC(q:List aT)(neg:Bool)(n:Nat):(zM q neg n).length<=n:=by have:=List.length_filterMap_le (acT q neg) (List.range n);rw[List.length_range]at this;exact this
theorem tH(q:List aT):(Sp.negated q).length<=q.length:=by
 cases h:aU q with
 |true=>rw[agV h];exact ara _
 |false=>unfold Sp.negated;rw[h];exact arw _
theorem GI:OK qB.e:=by
 refine xH [(Bh,.eff (afn nU) yw),yC.e,qN.e] ⟨⟨Rt,PD⟩,X6,OG,⟨⟩⟩ X8 (λ⟨q,neg,_⟩ hp=>⟨((((dM q neg).map λs=>(s,()),()),())),⟨by show((dM q neg).map _).length<=1000;rw[arq];have:=tC q neg (Sp.negated q).length;have:=tH q;have hp:q.length<=1000:=hp;rw[tu]at*;omega,λs=>by show(s,())∈(dM q neg).map _↔_;simp⟩⟩) λq neg=>show qB.goal (Vb q neg) (q,neg,())fromλhin hp=>?_
 dsimp only[qB]at hp ⊢;have hp:q.length<=1000:=hp;have hnl:=tH q;refine⟨hp,?_⟩;refine fZ (λi(x:Sp.LS)=>(((),i,()),x,())) (λy=>y.1.2.1) (λ_ _=>rfl) (Sp.negated q).length (by omega) (λn l=>l=(zM q neg n).map λs=>(s,())) rfl (λI μ n l hn hJ next=>?_) λI μ l hJ=>?_
 .subst hJ;have hl:=tC q neg n;dsimp only;refine dB (by omega) ⟨⟨by omega,by omega⟩,⟨by omega,by omega⟩,trivial,af (λh1=>af (λh2=>⟨⟨by omega,by omega⟩,?_,rfl,next _ ?_⟩) λh2=>⟨rfl,next _ ?_⟩) λh1=>⟨rfl,next _ ?_⟩⟩
  .rw[dw];simp only[arl,arI,arq];omega
  .rw[aaV (show xM (Sp.nodeAt q n)=true from h1) (aq9.1 h2),ar6];rfl
  .rw[Kq λh=>by have h2:=aq4.1 h2;exact h2 h.2]
  .rw[Kq λh=>by have h1:xM (Sp.nodeAt q n)=false:=h1;rw[h1]at h;cases h.1]
 .subst hJ;have hl:=tC q neg (Sp.negated q).length;rw[tu]at hl ⊢;dsimp only;refine dm (by omega) ⟨by rw[arq];omega,?_⟩;rintro⟨⟨r,⟨⟩⟩,⟨⟩⟩ ⟨h1,h2⟩;have h1:r.length<=((dM q neg).map λs=>(s,())).length:=h1;rw[arq]at h1;refine⟨by show r.length<=1000;omega,λs=>?_⟩;have:=h2 (s,());show(s,())∈r↔_;rw[this];simp
theorem Og:OK qO.e:=by
 refine xH [qB.e] ⟨GI,⟨⟩⟩ H0 (λ⟨q,_⟩ hp=>⟨((((dM q false).map λs=>(s,()),()),())),⟨by show((dM q false).map _).length<=1000;rw[arq];have:=tC q false (Sp.negated q).length;have:=tH q;have hp:q.length<=1000:=hp;rw[tu]at*;omega,λs=>by show(s,())∈(dM q false).map _↔_;simp⟩⟩) λq=>show qO.goal (OL q) (q,())fromλhin hp=>?_
 dsimp only[qO]at hp ⊢;exact⟨hp,λr hr=>hr⟩
theorem Oe:OK qP.e:=by
 refine xH [qB.e] ⟨GI,⟨⟩⟩ H0 (λ⟨q,_⟩ hp=>⟨((((dM q true).map λs=>(s,()),()),())),⟨by show((dM q true).map _).length<=1000;rw[arq];have:=tC q true (Sp.negated q).length;have:=tH q;have hp:q.length<=1000:=hp;rw[tu]at*;omega,λs=>by show(s,())∈(dM q true).map _↔_;simp⟩⟩) λq=>show qP.goal (OM q) (q,())fromλhin hp=>?_
 dsimp only[qP]at hp ⊢;exact⟨hp,λr hr=>hr⟩
theorem ahu{l:Sp.LS}{s:Sp.Bytes}{m:Nat}(hm:m<=l.length)(h1:∀i,i<m->Op.bytesLess (l.getD i ([],())).1 s=true)(h2:m<l.length->Op.bytesLess (l.getD m ([],())).1 s=false):
 Di l s=bif decide (m<l.length)&&(l.getD m ([],())).1==s then l else l.take m++[(s,())]++l.drop m:=by
 obtain⟨e1,_⟩:=Tt (d:=(([]:List UInt8),())) l m hm (p:=λx=>Op.bytesLess x.1 s) h1 h2;unfold Di;rw[e1];have:(l.take m).length=m:=by rw[arF];omega
 rw[this]
theorem I7{l:Sp.LS}{s:Sp.Bytes}(x:Sp.Bytes×Unit):x∈Di l s↔x=(s,())\/x∈l:=by
 unfold Di;dsimp only;generalize (l.takeWhile λx=>Op.bytesLess x.1 s).length=n;cases h:decide (n<l.length)&&(l.getD n ([],())).1==s with
 |true=>
  rw[aq5,aq9]at h;refine⟨.inr,λhx=>?_⟩;rcases hx with rfl|hx
  .have:=getD_mem (d:=(([]:List UInt8),())) (iq h.1);rw[show l.getD n ([],())=(s,())from Prod.ext h.2 rfl]at this;exact this
  .exact hx
 |false=>
  show x∈l.take n++[(s,())]++l.drop n↔_;rw[arH,arH,arQ]
  conv=>rhs;rw[← asR n l,arH]
  constructor
  .rintro((h|h)|h)
   .exact .inr (.inl h)
   .exact .inl h
   .exact .inr (.inr h)
  .rintro(h|h|h)
   .exact .inl (.inr h)
   .exact .inl (.inl h)
   .exact .inr h
theorem akK(l:Sp.LS)(s:Sp.Bytes):(Di l s).length<=l.length+1:=by
 unfold Di;dsimp only;generalize (l.takeWhile λx=>Op.bytesLess x.1 s).length=n;cases decide (n<l.length)&&(l.getD n ([],())).1==s with
 |true=>exact Nat.le_succ _
 |false=>show(l.take n++[(s,())]++l.drop n).length<=_;simp;omega
theorem acU:OK BU.e:=by
 refine aZ [] ⟨⟩ aeo λl s=>show BU.goal (acV l s) (l,s,())fromλhin hp=>?_
 dsimp only[BU]at hp ⊢;have hp:l.length<=1000:=hp;have fin:∀m:Nat,m<=l.length->Di l s=l.take m++[(s,())]++l.drop m->((0:Int)<=m/\(m:Int)<=l.length)/\0+(List.drop 0 (List.take m l)).length<=big/\(List.drop 0 (List.take m l)).length+[(s,())].length<=big/\((0:Int)<=m/\(m:Int)<=l.length)/\
  (List.drop 0 (List.take m l)++[(s,())]).length+(List.drop m (List.take l.length l)).length<=big/\(List.drop 0 (List.take m l)++[(s,())]++List.drop m (List.take l.length l),())=(Di l s,()):=by
  intro m hm h;refine⟨⟨by omega,by omega⟩,?_,?_,⟨by omega,by omega⟩,?_,?_⟩
  .rw[dw];simp only[asP,arF];omega
  .rw[dw];simp only[asP,arF,arl,arI];omega
  .rw[dw];simp only[arL,asP,arF,arl,arI];omega
  .rw[h,arA,List.drop_zero]
 refine dW l.length (by omega) (λn=>∀i,i<n->Op.bytesLess (l.getD i ([],())).1 s=true) (λi hi=>by omega) (λI μ n hn hJ next=>?_) λI μ hJ=>?_
 .dsimp only;refine dB (by omega) ⟨⟨by omega,by omega⟩,af (λh=>⟨rfl,next (dJ (f:=λi=>Op.bytesLess (l.getD i ([],())).1 s) hJ h)⟩) λh=>dB (by omega) ⟨⟨by omega,by omega⟩,?_⟩⟩;have e:=ahu (Nat.le_of_lt hn) hJ λ_=>h;rw[arh hn,atb]at e;refine af (λh2=>?_) λh2=>fin n (Nat.le_of_lt hn) ?_
  .rw[show((l.getD n ([],())).1==s)=true from h2]at e;rw[e];rfl
  .rw[show((l.getD n ([],())).1==s)=false from h2]at e;exact e
 .dsimp only;refine dm (by omega) (dm (by omega) (fin l.length (ara _) ?_));have e:=ahu (ara _) hJ λh=>by omega
  rw[ars (by omega)]at e;exact e
theorem ajS(x:aT):xM x=(decide (8<=x.1)&&decide (x.1<=9)):=by unfold xM;rw[arz];simp;omega
theorem I8:OK rX.e:=by
 refine xH [BU.e,iJ.e,qM.e] ⟨acU,jO,OI,⟨⟩⟩ aaW (λ⟨q,neg,_⟩ hp=>⟨((((dM q neg).map λs=>(s,()),()),())),⟨by show((dM q neg).map _).length<=1000;rw[arq];have:=tC q neg (Sp.negated q).length;have:=tH q;have hp:q.length<=1000:=hp;rw[tu]at*;omega,λs=>by show(s,())∈(dM q neg).map _↔_;simp⟩⟩) λq neg=>show rX.goal (X9 q neg) (q,neg,())fromλhin hp=>?_
 dsimp only[rX]at hp ⊢;have hp:q.length<=1000:=hp;have hnl:=tH q;refine⟨hp,?_⟩;refine fZ (λi(x:Sp.LS)=>((x,i,()),())) (λy=>y.1.2.1) (λ_ _=>rfl) (Sp.negated q).length (by omega) (λn l=>l.length<=n/\∀s,(s,())∈l↔s∈zM q neg n) ⟨ara _,λs=>by simp[zM]⟩ (λI μ n l hn hJ next=>?_) λI μ l hJ=>?_
 .obtain⟨hl,hJ⟩:=hJ;dsimp only;have hnm:=ajS (Sp.nodeAt q n);refine dB (by omega) ⟨⟨by omega,by omega⟩,trivial,af (λh1=>⟨⟨by omega,by omega⟩,af (λh2=>⟨⟨by omega,by omega⟩,by omega,rfl,next _ ?_⟩) λh2=>⟨rfl,next _ ⟨by omega,?_⟩⟩⟩) λh1=>⟨rfl,next _ ⟨by omega,?_⟩⟩⟩
  .have h1:(decide (8<=(Sp.nodeAt q n).1)&&decide ((Sp.nodeAt q n).1<=9))=true:=h1;rw[aaV (hnm.trans h1) (aq9.1 h2)];refine⟨aq7 (akK _ _) (by omega),λs=>?_⟩;rw[I7,arH,arQ,hJ,Prod.mk.injEq];constructor
   .rintro(⟨h,_⟩|h)
    .exact .inr h
    .exact .inl h
   .rintro(h|h)
    .exact .inr h
    .exact .inl ⟨h,rfl⟩
  .rw[Kq λh=>by have h2:=aq4.1 h2;exact h2 h.2];exact hJ
  .rw[Kq λh=>by have h1:(decide (8<=(Sp.nodeAt q n).1)&&decide ((Sp.nodeAt q n).1<=9))=false:=h1;rw[hnm,h1]at h;cases h.1];exact hJ
 .obtain⟨hl,hJ⟩:=hJ;rw[tu]at hJ;dsimp only;exact dm (by omega) ⟨by rw[dw];omega,by show l.length<=1000;omega,hJ⟩
theorem OO:OK qQ.e:=by
 refine xH [rX.e] ⟨I8,⟨⟩⟩ H0 (λ⟨q,_⟩ hp=>⟨((((dM q false).map λs=>(s,()),()),())),⟨by show((dM q false).map _).length<=1000;rw[arq];have:=tC q false (Sp.negated q).length;have:=tH q;have hp:q.length<=1000:=hp;rw[tu]at*;omega,λs=>by show(s,())∈(dM q false).map _↔_;simp⟩⟩) λq=>show qQ.goal (OQ q) (q,())fromλhin hp=>?_
 dsimp only[qQ]at hp ⊢;exact⟨hp,λr hr=>hr⟩
theorem OT:OK qR.e:=by
 refine xH [rX.e] ⟨I8,⟨⟩⟩ H0 (λ⟨q,_⟩ hp=>⟨((((dM q true).map λs=>(s,()),()),())),⟨by show((dM q true).map _).length<=1000;rw[arq];have:=tC q true (Sp.negated q).length;have:=tH q;have hp:q.length<=1000:=hp;rw[tu]at*;omega,λs=>by show(s,())∈(dM q true).map _↔_;simp⟩⟩) λq=>show qR.goal (OU q) (q,())fromλhin hp=>?_
 dsimp only[qR]at hp ⊢;exact⟨hp,λr hr=>hr⟩
end Go.Proofs.Tryz
namespace Go.Proofs.Tryz
open Go Go.Fw Go.IntWalk Sp
theorem Kr:OK uK.e:=by
 refine aZ [] ⟨⟩ H0 λx0 x1 p=>show uK.goal (aaX x0 x1 p) ((x0,x1,()),(p,()),())fromλhin hp=>?_
 dsimp only[uK]at hp ⊢;exact rfl
theorem IG{d:List aC}{s:Sp.Bytes}{n:Nat}(hn:n<d.length)(h1:(bT d n).1=s)(h2:∀i,i<n->(bT d i).1≠s):aG d s=n:=by
 rcases AZ d s with⟨_,h⟩|⟨m,g1,g2,g3,g4⟩
 .exact(h _ (getD_mem (d:=(([]:List UInt8),([]:List aT),())) hn) h1).elim
 .have:m=n:=by
   rcases asM m n with h|h|h
   .exact(h2 m h g3).elim
   .exact h
   .exact(g4 n h h1).elim
  rw[g2,this]
theorem af6{d:List aC}{s:Sp.Bytes}(h2:∀i,i<d.length->(bT d i).1≠s):aG d s=-1:=by
 rcases AZ d s with⟨h,_⟩|⟨m,g1,_,g3,_⟩
 .exact h
 .exact(h2 m g1 g3).elim
theorem vS:OK fJ.e:=by
 refine aZ [uK.e] ⟨Kr,⟨⟩⟩ vU λd s=>show fJ.goal (vT d s) (d,((s,()),()),())fromλhin hp=>?_
 dsimp only[fJ]at hp ⊢;have hlen:d.length<=maxLen:=hin.1.1;rw[maxLen_eq]at hlen;refine dW d.length hlen (λn=>∀i,i<n->(bT d i).1≠s) (λi hi=>by omega) (λI μ n hn hJ next=>?_) λI μ hJ=>?_
 .dsimp only;refine dB (by omega) ⟨⟨by omega,by omega⟩,trivial,af (λh=>?_) λh=>⟨rfl,next λi hi=>?_⟩⟩
  .rw[IG hn (aq9.1 h) hJ]
  .rcases ark i n with h'|h'
   .exact hJ i h'
   .have:i=n:=by omega
    rw[this];exact aq4.1 h
 .dsimp only;refine dm (by omega) ?_;rw[af6 hJ]
theorem aep:OK DR.e:=by
 refine aZ [fJ.e,uK.e] ⟨vS,Kr,⟨⟩⟩ H0 λd s=>show DR.goal (aer d s) (d,s,())fromλhin hp=>?_
 dsimp only[DR]at hp ⊢;exact⟨trivial,rfl⟩
theorem Ya:OK yE.e:=by
 refine aZ [] ⟨⟩ aaY λd s=>show yE.goal (Yb d s) (d,s,())fromλhin hp=>?_
 dsimp only[yE]at hp ⊢;have hlen:d.length<=maxLen:=hin.1.1;rw[maxLen_eq]at hlen;refine dW d.length hlen (λn=>∀i,i<n->(bT d i).1≠s) (λi hi=>by omega) (λI μ n hn hJ next=>?_) λI μ hJ=>?_
 .dsimp only;refine dB (by omega) ⟨⟨by omega,by omega⟩,af (λh=>?_) λh=>⟨rfl,next λi hi=>?_⟩⟩
  .rw[IG hn (aq9.1 h) hJ]
  .rcases ark i n with h'|h'
   .exact hJ i h'
   .have:i=n:=by omega
    rw[this];exact aq4.1 h
 .dsimp only;refine dm (by omega) ?_;rw[af6 hJ]
theorem PS:OK rY.e:=by
 refine aZ [DR.e] ⟨aep,⟨⟩⟩ Tv λd ax names more=>show rY.goal (Qq d ax names more) (d,ax,names,more,())fromλhin hp=>?_
 dsimp only[rY]at hp ⊢;obtain⟨h1,h2,h3,h4,h5⟩:d.length<=ax.length/\names.length<=1000/\0<=more/\more<=1/\∀x∈ax,0<=x.1/\x.1<=1000000:=hp;refine fZ (λi(c:Int)=>((c,i,()),())) (λy=>y.1.2.1) (λ_ _=>rfl) names.length (by omega) (λn c=>∀B,c<=B↔0<=B/\∀x∈names.take n,0<=aG d x.1->Sp.lv ax (aG d x.1).toNat+more<=B) (λB=>by simp) (λI μ n c hn hJ next=>?_) λI μ c hJ=>?_
 .dsimp only;rw[arn];have e:=Sp.take_succ' names n ([],()) hn;refine dB (by omega) ⟨⟨by omega,by omega⟩,trivial,af (λh=>?_) λh=>⟨rfl,next _ λB=>?_⟩⟩
  .have h:0<=aG d (names.getD n ([],())).1:=iq h;have hlt:=FQ h;have hb:=h5 _ (SL (l:=ax) (i:=(aG d (names.getD n ([],())).1).toNat) (by omega));dsimp only at hb;have hw:IntKind.i64.wrap (Sp.lv ax (aG d (names.getD n ([],())).1).toNat+more)=Sp.lv ax (aG d (names.getD n ([],())).1).toNat+more:=gm _ (by omega);have e2:(ax.getD (aG d (names.getD n ([],())).1).toNat (0,())).1=Sp.lv ax (aG d (names.getD n ([],())).1).toNat:=rfl;refine⟨⟨h,by omega⟩,rfl,next _ λB=>?_⟩;rw[e2,hw,e];simp only[arH,arQ];have:=hJ B;constructor
   .intro hB;have hc:c<=B:=by split at hB<;>omega
    have hv:Sp.lv ax (aG d (names.getD n ([],())).1).toNat+more<=B:=by split at hB<;>omega
    obtain⟨a,b⟩:=this.1 hc;refine⟨a,λx hx hx0=>?_⟩;rcases hx with hx|rfl
    .exact b x hx hx0
    .exact hv
   .rintro⟨a,b⟩;have hc:=this.2 ⟨a,λx hx=>b x (.inl hx)⟩;have hv:=b _ (.inr rfl) h;split<;>omega
  .have h:¬0<=aG d (names.getD n ([],())).1:=iG h;rw[hJ B,e];simp only[arH,arQ];constructor
   .rintro⟨a,b⟩;refine⟨a,λx hx hx0=>?_⟩;rcases hx with hx|rfl
    .exact b x hx hx0
    .exact(h hx0).elim
   .exactλ⟨a,b⟩=>⟨a,λx hx=>b x (.inl hx)⟩
 .dsimp only;refine dm (by omega) (congrArg (·,()) ?_);rw[arA]at hJ;have h6:=λB=>(hJ B).trans (Dz (d:=d) (ax:=ax) (more:=more) names B).symm;have a:=(h6 c).1 (arM _);have b:=(h6 (rZ d ax more names)).2 (arM _);omega
end Go.Proofs.Tryz
namespace Go.Proofs.Tryz
open Go Go.Fw Go.IntWalk Sp
theorem adP{d:List aC}{i:Nat}(hi:i<d.length){neg:Bool}{r:Sp.LS}(hr:gK r (dM (bT d i).2.1 neg)){p:Nat}(hp:p<r.length)(h0:0<=aG d (r.getD p ([],())).1):
 (i,(aG d (r.getD p ([],())).1).toNat,if neg then 1 else 0)∈bW d:=by
 have hm:=getD_mem (d:=(([]:List UInt8),())) hp;have:=(hr.2 (r.getD p ([],())).1).1 hm;cases neg with
 |false=>exact zI.2 ⟨hi,_,.inl ⟨rfl,this⟩,h0,rfl⟩
 |true=>exact zI.2 ⟨hi,_,.inr ⟨rfl,this⟩,h0,rfl⟩
theorem JR{d:List aC}{i j m:Nat}{neg:Bool}{r:Sp.LS}(hr:gK r (dM (bT d i).2.1 neg))(he:(i,j,m)∈bW d)(hm:m=if neg then 1 else 0):
 ∃p,p<r.length/\0<=aG d (r.getD p ([],())).1/\j=(aG d (r.getD p ([],())).1).toNat:=by
 obtain⟨_,s,h2,h3,h4⟩:=zI.1 he;have hs:s∈dM (bT d i).2.1 neg:=by
  cases neg with
  |false=>rcases h2 with⟨_,h⟩|⟨h,_⟩;exact h;simp at hm;omega
  |true=>rcases h2 with⟨h,_⟩|⟨_,h⟩;simp at hm;omega;exact h
 have hm:=(hr.2 s).2 hs;obtain⟨p,hp,e⟩:=arN hm;have e2:r.getD p ([],())=(s,()):=by rw[arp,aq8 hp,e];rfl
 exact⟨p,hp,by rw[e2];exact h3,by rw[e2];exact h4⟩
theorem ajT:∀x,(oC.F x).1->∃t,(oC.F x).2 t:=by rintro⟨d,ax,_⟩ hp;obtain⟨_,_,h3,h4⟩:qC d/\d.length<=5/\ax.length=d.length/\∀x∈ax,0<=x.1/\x.1<=1000000:=hp;obtain⟨r,hr⟩:=agW d ax h3 λi hi=>(h4 _ (SL (by omega))).1;exact⟨((r,()),()),hr⟩
theorem WM:OK oC.e:=by
 refine xH [qR.e,yE.e,qQ.e] ⟨OT,Ya,OO,⟨⟩⟩ aaZ (ajT) λd ax=>show oC.goal (Yc d ax) (d,ax,())fromλhin hp=>?_
 dsimp only[oC]at hp ⊢;obtain⟨h1,h2,h3,h4⟩:qC d/\d.length<=5/\ax.length=d.length/\∀x∈ax,0<=x.1/\x.1<=1000000:=hp;have h0:∀i,i<d.length->0<=Sp.lv ax i/\Sp.lv ax i<=1000000:=λi hi=>h4 _ (SL (by omega));have hB:∀i,i<d.length->Sp.lv ax i<=1000000:=λi hi=>(h0 i hi).2;refine⟨by rw[dw];omega,?_⟩;refine fZ (λi(x:List (Int×Unit))=>((i,()),x,())) (λy=>y.1.1) (λ_ _=>rfl) d.length (by omega) (λi cur=>EW d ax cur (1000*i) λe=>e∈bW d/\e.1<i) ((EW.start h3).weaken (by omega) λe he=>by have:=he.2;omega) (λI μ i cur hi hJ next=>?_) λI μ cur hJ=>?_
 .dsimp only;rw[arn];refine dB (by omega) ⟨⟨by omega,by omega⟩,Fj h1 hi,?_⟩;rintro⟨⟨r,⟨⟩⟩,⟨⟩⟩ hr;have hr:gK r (dM (bT d i).2.1 false):=hr;have hrl:r.length<=1000:=hr.1;refine fZ (λi(x:List (Int×Unit))=>((i,()),x,())) (λy=>y.1.1) (λ_ _=>rfl) r.length (by omega) (λp cur=>EW d ax cur (1000*i) λe=>e∈bW d/\(e.1<i\/(e.1=i/\e.2.2=0/\∃p',p'<p/\e.2.1=(aG d (r.getD p' ([],())).1).toNat/\0<=aG d (r.getD p' ([],())).1))) (hJ.weaken (arM _) λe he=>⟨he.1,by rcases he.2 with h|⟨_,_,_,h,_⟩;exact h;omega⟩) (λI1 μ1 p cur hp hJ aiH=>?_) λI1 μ1 cur hJ=>?_
  .dsimp only;rw[arn];have hl:=hJ.len;have hP:∀e:Nat×Nat×Nat,(e∈bW d/\(e.1<i\/(e.1=i/\e.2.2=0/\∃p',p'<p+1/\e.2.1=(aG d (r.getD p' ([],())).1).toNat/\0<=aG d (r.getD p' ([],())).1)))->
    (e∈bW d/\(e.1<i\/(e.1=i/\e.2.2=0/\∃p',p'<p/\e.2.1=(aG d (r.getD p' ([],())).1).toNat/\0<=aG d (r.getD p' ([],())).1)))\/(e=(i,(aG d (r.getD p ([],())).1).toNat,0)/\0<=aG d (r.getD p ([],())).1):=by
    rintro⟨a,b,c⟩ ⟨he,h|⟨h,h5,p',h6,h7,h8⟩⟩
    .exact .inl ⟨he,.inl h⟩
    .by_cases hpp:p'=p
     .subst hpp;have h:a=i:=h;have h5:c=0:=h5;have h7:b=(aG d (r.getD p' ([],())).1).toNat:=h7;exact .inr ⟨by rw[h,h5,h7],h8⟩
     .exact .inl ⟨he,.inr ⟨h,h5,p',by omega,h7,h8⟩⟩
   refine dB (by omega) ⟨⟨by omega,by omega⟩,trivial,af (λh=>?_) λh=>⟨rfl,aiH _ (hJ.weaken (arM _) λe he=>?_)⟩⟩
   .have h:0<=aG d (r.getD p ([],())).1:=iq h;have hlt:=FQ h;have he:=adP hi hr hp h;refine⟨⟨h,by omega⟩,by omega,⟨by omega,by omega⟩,by omega,af (λhc=>⟨⟨h,by omega⟩,by omega,⟨by omega,by omega⟩,by omega,rfl,aiH _ ?_⟩) λhc=>⟨rfl,aiH _ ?_⟩⟩
    .have hc:Sp.lv cur i<Sp.lv cur (aG d (r.getD p ([],())).1).toNat:=iq hc;have:=hJ.set he (by show _<_+((0:Nat):Int);omega);have e0:Sp.lv cur (aG d (r.getD p ([],())).1).toNat+((if false=true then 1 else 0:Nat):Int)=Sp.lv cur (aG d (r.getD p ([],())).1).toNat:=by show _+((0:Nat):Int)=_;omega
     rw[e0]at this;exact this.weaken (by show 1000*(i:Int)+((0:Nat):Int)<=_;omega) λe he=>(hP e he).imp_right λh=>h.1
    .have hc:¬Sp.lv cur i<Sp.lv cur (aG d (r.getD p ([],())).1).toNat:=iG hc;have:=hJ.still he (by show _+((0:Nat):Int)<=_;omega);exact this.weaken (arM _) λe he=>(hP e he).imp_right λh=>h.1
   .have h:¬0<=aG d (r.getD p ([],())).1:=iG h;rcases hP e he with h'|h'
    .exact h'
    .exact(h h'.2).elim
  .dsimp only;have hJ2:EW d ax cur (1000*i) λe=>e∈bW d/\(e.1<i\/(e.1=i/\e.2.2=0)):=hJ.weaken (arM _) λe he=>⟨he.1,he.2.imp_right λh=>⟨h.1,h.2,by obtain⟨a,b,c⟩:=e;obtain⟨he,_⟩:=he;obtain⟨h,h5⟩:=h;have h:a=i:=h;have h5:c=0:=h5;subst h h5;obtain⟨p,q1,q2,q3⟩:=JR hr he rfl;exact⟨p,q1,q3,q2⟩⟩⟩;clear hJ;refine dm (by omega) ⟨⟨by omega,by omega⟩,Fj h1 hi,?_⟩;rintro⟨⟨r2,⟨⟩⟩,⟨⟩⟩ hr2;have hr2:gK r2 (dM (bT d i).2.1 true):=hr2;have hrl2:r2.length<=1000:=hr2.1;refine fZ (λi(x:List (Int×Unit))=>((i,()),x,())) (λy=>y.1.1) (λ_ _=>rfl) r2.length (by omega) (λp cur=>EW d ax cur (1000*i+p) λe=>e∈bW d/\(e.1<i\/(e.1=i/\e.2.2=0)\/(e.1=i/\e.2.2=1/\∃p',p'<p/\e.2.1=(aG d (r2.getD p' ([],())).1).toNat/\0<=aG d (r2.getD p' ([],())).1))) (hJ2.weaken (by omega) λe he=>⟨he.1,by rcases he.2 with h|h|⟨_,_,_,h,_⟩;exact .inl h;exact .inr h;omega⟩) (λI2 μ2 p cur hp hJ aiI=>?_) λI2 μ2 cur hJ=>?_
   .dsimp only;rw[arn];have hl:=hJ.len;have hP:∀e:Nat×Nat×Nat,(e∈bW d/\(e.1<i\/(e.1=i/\e.2.2=0)\/(e.1=i/\e.2.2=1/\∃p',p'<p+1/\e.2.1=(aG d (r2.getD p' ([],())).1).toNat/\0<=aG d (r2.getD p' ([],())).1)))->
     (e∈bW d/\(e.1<i\/(e.1=i/\e.2.2=0)\/(e.1=i/\e.2.2=1/\∃p',p'<p/\e.2.1=(aG d (r2.getD p' ([],())).1).toNat/\0<=aG d (r2.getD p' ([],())).1)))\/(e=(i,(aG d (r2.getD p ([],())).1).toNat,1)/\0<=aG d (r2.getD p ([],())).1):=by
     rintro⟨a,b,c⟩ ⟨he,h|h|⟨h,h5,p',h6,h7,h8⟩⟩
     .exact .inl ⟨he,.inl h⟩
     .exact .inl ⟨he,.inr (.inl h)⟩
     .by_cases hpp:p'=p
      .subst hpp;have h:a=i:=h;have h5:c=1:=h5;have h7:b=(aG d (r2.getD p' ([],())).1).toNat:=h7;exact .inr ⟨by rw[h,h5,h7],h8⟩
      .exact .inl ⟨he,.inr (.inr ⟨h,h5,p',by omega,h7,h8⟩)⟩
    refine dB (by omega) ⟨⟨by omega,by omega⟩,trivial,af (λh=>?_) λh=>⟨rfl,aiI _ (hJ.weaken (by omega) λe he=>?_)⟩⟩
    .have h:0<=aG d (r2.getD p ([],())).1:=iq h;have hlt:=FQ h;have he:=adP hi hr2 hp h;have hg:=hJ.grow 1000000 hB (aG d (r2.getD p ([],())).1).toNat (by omega);have hu:=hJ.up (aG d (r2.getD p ([],())).1).toNat (by omega);have hz:=(h0 (aG d (r2.getD p ([],())).1).toNat (by omega)).1;have hw:IntKind.i64.wrap (Sp.lv cur (aG d (r2.getD p ([],())).1).toNat+1)=Sp.lv cur (aG d (r2.getD p ([],())).1).toNat+1:=gm _ (by omega);have e2:(cur.getD (aG d (r2.getD p ([],())).1).toNat (0,())).1=Sp.lv cur (aG d (r2.getD p ([],())).1).toNat:=rfl;rw[e2,hw];refine⟨⟨h,by omega⟩,by omega,⟨by omega,by omega⟩,by omega,af (λhc=>⟨⟨h,by omega⟩,by omega,⟨by omega,by omega⟩,by omega,rfl,aiI _ ?_⟩) λhc=>⟨rfl,aiI _ ?_⟩⟩
     .have hc:Sp.lv cur i<Sp.lv cur (aG d (r2.getD p ([],())).1).toNat+1:=iq hc;have:=hJ.set he (by show _<_+((1:Nat):Int);omega);exact this.weaken (by show 1000*(i:Int)+p+((1:Nat):Int)<=_;omega) λe he=>(hP e he).imp_right λh=>h.1
     .have hc:¬Sp.lv cur i<Sp.lv cur (aG d (r2.getD p ([],())).1).toNat+1:=iG hc;have:=hJ.still he (by show _+((1:Nat):Int)<=_;omega);exact this.weaken (by omega) λe he=>(hP e he).imp_right λh=>h.1
    .have h:¬0<=aG d (r2.getD p ([],())).1:=iG h;rcases hP e he with h'|h'
     .exact h'
     .exact(h h'.2).elim
   .dsimp only;refine dm (by omega) ⟨rfl,next _ (hJ.weaken (by omega) λe he=>⟨he.1,?_⟩)⟩;obtain⟨a,b,c⟩:=e;obtain⟨he,h⟩:=he;have h:a<i+1:=h;rcases ark a i with h'|h'
    .exact .inl h'
    .have:a=i:=by omega
     subst this;obtain⟨_,_,hc⟩:=jv d _ he;have hc:c<=1:=hc;rcases asq c with hc0|hc0
     .exact .inr (.inl ⟨rfl,hc0⟩)
     .have hc1:c=1:=by omega
      subst hc1;obtain⟨p,q1,q2,q3⟩:=JR hr2 he rfl;exact .inr (.inr ⟨rfl,rfl,p,q1,q3,q2⟩)
 .dsimp only;refine dm (by omega) ?_;exact hJ.raised (by omega) (λe he=>⟨he,(jv d e he).1⟩) λi hi=>(h0 i hi).1
end Go.Proofs.Tryz
