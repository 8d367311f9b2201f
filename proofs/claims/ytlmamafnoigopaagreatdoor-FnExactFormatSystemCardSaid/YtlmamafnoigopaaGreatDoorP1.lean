import Derived.Test.YtlmamafnoigopaaGreatDoorV1
import Derived.Test.YtlmamafnoigopaaGreatDoorV2
import Derived.Test.YtlmamafnoigopaaGreatDoorV3
import Derived.Test.YtlmamafnoigopaaGreatDoorV4
import Derived.Test.YtlmamafnoigopaaGreatDoorV5
import Derived.Test.YtlmamafnoigopaaGreatDoorV6
import Derived.Test.YtlmamafnoigopaaGreatDoorSp
import Derived.Test.YtlmamafnoigopaaGreatDoorFwC
import Derived.Test.YtlmamafnoigopaaGreatDoorL1
namespace Go.Proofs.Tryz
open Go Go.Fw Go.IntWalk Sp
theorem jQ:OK iO.e:=by
 refine aV [] ⟨⟩ H0 λx a b=>show iO.goal (afy x a b) (x,a,b,())fromλhin hp=>?_
 dsimp only[iO]at hp ⊢;refine af (λh=>?_) λh=>?_
 .have h:=iK h;show(decide (x<=b),())=(decide (a<=x)&&decide (x<=b),());rw[atj (show a<=x from h)];rfl
 .have h:=iW h;show(false,())=(decide (a<=x)&&decide (x<=b),());rw[atp (show ¬a<=x from h)];rfl
theorem nY:OK jO.e:=by
 refine aV [] ⟨⟩ H0 λx a b=>show jO.goal (adn x a b) (x,a,b,())fromλhin hp=>?_
 dsimp only[jO]at hp ⊢;refine af (λh=>?_) λh=>?_
 .show(decide (x<=b),())=(decide (a<=x)&&decide (x<=b),());rw[h];rfl
 .show(false,())=(decide (a<=x)&&decide (x<=b),());rw[h];rfl
theorem IL{s:List UInt8}{n:Nat}(hlt:n<s.length)(hl:Sp.lower s=true):97<=(s.getD n 0).toNat/\(s.getD n 0).toNat<=122:=by have:=atq.1 hl _ (getD_mem (d:=0) hlt);simpa using this
theorem KW:OK vC.e:=by
 refine aV [iO.e] ⟨jQ,⟨⟩⟩ ado λs most=>show vC.goal (aaF s most) (s,most,())fromλhin hp=>?_
 dsimp only[vC]at hp ⊢;have hlen:s.length<=maxLen:=hin.1;rw[maxLen_eq]at hlen;refine⟨λy=>∃n:Nat,y.1.1=n/\n<=s.length/\Sp.lower (s.take n)=true,λy=>((s.length:Int)-y.1.1).toNat,⟨0,rfl,by omega,rfl⟩,?_⟩;rintro⟨⟨_,⟨⟩⟩,⟨⟩⟩ ⟨n,rfl,hn,hJ⟩;dsimp only;refine af (λh=>?_) λh=>?_<;>simp only[ate,atc]at h
 .have hlt:n<s.length:=by omega
  rw[eu _ (by omega),ata];refine⟨⟨by omega,by omega⟩,af (λh2=>?_) λh2=>⟨⟨by omega,by omega⟩,af (λh3=>?_) λh3=>?_⟩⟩<;>simp only[ate,atc]at*
  .cases hl:Sp.lower s with
   |false=>rfl
   |true=>have:=IL hlt hl;omega
  .cases hl:Sp.lower s with
   |false=>rfl
   |true=>have:=IL hlt hl;omega
  .refine⟨rfl,⟨n+1,by simp,by omega,?_⟩,by dsimp only;omega⟩;rw[Sp.take_succ' s n 0 hlt];unfold Sp.lower at hJ ⊢;rw[List.all_append,hJ];simp only[atQ,avd,auw,au4,as1,ate];omega
 .have hge:n=s.length:=by omega
  rw[hge,atg]at hJ;rw[hJ];exact⟨trivial,rfl⟩
theorem wC:OK jT.e:=by
 refine aV [vC.e] ⟨KW,⟨⟩⟩ H0 λs=>show jT.goal (NK s) (s,())fromλhin hp=>?_
 dsimp only[jT]at hp ⊢;exact⟨trivial,rfl⟩
theorem E5:OK nJ.e:=by
 refine aV [jT.e,iO.e] ⟨wC,jQ,⟨⟩⟩ H0 λk n s=>show nJ.goal (O4 k n s) ((k,n,s,()),())fromλhin hp=>?_
 dsimp only[nJ]at hp ⊢;refine af (λh=>?_) λh=>af (λh2=>⟨trivial,af (λh3=>?_) λh3=>?_⟩) λh2=>af (λh3=>⟨trivial,af (λh4=>?_) λh4=>?_⟩) λh3=>?_
 .have e:k=0:=by simpa using h
  subst e;exact congrArg (·,()) (atu.2 (by simp[gV]))
 .have e:k=1:=by simpa using h2
  subst e;exact congrArg (·,()) (atu.2 (by simp only[as1,ate]at h3;simp[gV,h3]))
 .have e:k=1:=by simpa using h2
  subst e;exact congrArg (·,()) (atu.2 (by simp only[gV,h3];simp))
 .have e:k=2:=by simpa using h3
  subst e;exact congrArg (·,()) (atu.2 (by simp[gV,h4]))
 .have e:k=2:=by simpa using h3
  subst e;exact congrArg (·,()) (atu.2 (by simp[gV,h4]))
 .have e1:k≠0:=by simpa using h
  have e2:k≠1:=by simpa using h2
  have e3:k≠2:=by simpa using h3
  exact congrArg (·,()) (atu.2 (by simp[gV,e1,e2,e3]))
theorem BO:OK kU.e:=by
 refine aV [vC.e] ⟨KW,⟨⟩⟩ H0 λs=>show kU.goal (J5 s) (s,())fromλhin hp=>?_
 dsimp only[kU]at hp ⊢;exact⟨trivial,rfl⟩
theorem VL:OK wM.e:=by
 refine aV [] ⟨⟩ Yg λs name=>show wM.goal (VN s name) (s,name,())fromλhin hp=>?_
 dsimp only[wM]at hp ⊢;have hlen:s.length<=maxLen:=hin.1.1;rw[maxLen_eq]at hlen;refine eP s.length hlen (λn=>∀i,i<n->(s.getD i ([],0,())).1≠name) (λi hi=>by omega) (λI μ n hn hJ next=>?_) λI μ hJ=>?_
 .dsimp only;refine bY (by omega) ⟨⟨by omega,by omega⟩,af (λh=>⟨⟨by omega,by omega⟩,?_⟩) λh=>⟨rfl,next λi hi=>?_⟩⟩
  .exact congrArg (·,()) (TM s n hn hJ (by simpa only[ata,atd]using h)).symm
  .rcases atm i n with h'|h'
   .exact hJ i h'
   .have:i=n:=by omega
    subst this;have h2:((s.getD i ([],0,())).1==name)=false:=h;exactλe=>by rw[e]at h2;simp at h2
 .dsimp only;exact bV (by omega) (congrArg (·,()) (MG s hJ).symm)
theorem Eh:OK l7.e:=by
 refine aV [iO.e,kU.e] ⟨jQ,BO,⟨⟩⟩ O5 λs=>show l7.goal (NM s) (s,())fromλhin hp=>?_
 dsimp only[l7]at hp ⊢;have hlen:s.length<=maxLen:=hin.1.1;rw[maxLen_eq]at hlen;refine eP s.length hlen (λn=>∀i,i<n->iL s i=true) (λi hi=>by omega) (λI μ n hn hJ next=>?_) λI μ hJ=>?_
 .dsimp only;have no:iL s n=false->(false,())=(dO s,()):=λh=>by rw[Xq hn h]
  refine bY (by omega) ⟨⟨by omega,by omega⟩,trivial,af (λh2=>no ?_) λh2=>⟨⟨by omega,by omega⟩,trivial,af (λh3=>no ?_) λh3=>af (λh4=>?_) λh4=>⟨rfl,next (dM hJ ?_)⟩⟩⟩
  .have h2:gq (Sp.fieldAt s n).1=false:=iR h2;unfold iL;rw[h2];rfl
  .have h2:gq (Sp.fieldAt s n).1=true:=dY h2;have h3:(decide (1<=(Sp.fieldAt s n).2.1)&&decide ((Sp.fieldAt s n).2.1<=2))=false:=iR h3;unfold iL;rw[h2,h3];rfl
  .have h2:gq (Sp.fieldAt s n).1=true:=dY h2;have h3:(decide (1<=(Sp.fieldAt s n).2.1)&&decide ((Sp.fieldAt s n).2.1<=2))=true:=dY h3;have h4:0<n:=by have:=iK h4;omega
   rw[rZ h4 (by omega)];refine⟨⟨by omega,by omega⟩,⟨by omega,by omega⟩,af (λh5=>no ?_) λh5=>⟨rfl,next (dM hJ ?_)⟩⟩
   .have h5:Op.bytesLess (Sp.fieldAt s (n-1)).1 (Sp.fieldAt s n).1=false:=iR h5;unfold iL;rw[h2,h3,h5,atj h4];rfl
   .have h5:Op.bytesLess (Sp.fieldAt s (n-1)).1 (Sp.fieldAt s n).1=true:=dY h5;unfold iL;rw[h2,h3,h5,atj h4];rfl
  .have h2:gq (Sp.fieldAt s n).1=true:=dY h2;have h3:(decide (1<=(Sp.fieldAt s n).2.1)&&decide ((Sp.fieldAt s n).2.1<=2))=true:=dY h3;have h4:¬0<n:=by have:=iW h4;omega
   unfold iL;rw[h2,h3,atp h4];rfl
 .dsimp only;refine bV (by omega) (congrArg (·,()) ?_);unfold dO;rw[lq hJ];rfl
theorem NP:OK qw.e:=by
 refine aV [wM.e,nJ.e] ⟨VL,E5,⟨⟩⟩ H0 λfs s k n w=>show qw.goal (NQ fs s k n w) (fs,s,(k,n,w,()),())fromλhin hp=>?_
 dsimp only[qw]at hp ⊢;refine⟨trivial,af (λh=>af (λh2=>⟨trivial,?_⟩) λh2=>?_) λh=>?_⟩
 .exact congrArg (·,()) (atu.2 (by simp only[bne_iff_ne,ne_eq]at h2;simp[gK,h,h2]))
 .exact congrArg (·,()) (atu.2 (by simp at h2;simp[gK,h2]))
 .exact congrArg (·,()) (atu.2 (by simp[gK,h]))
theorem QG:OK su.e:=by
 refine aV [iO.e,l7.e,qw.e] ⟨jQ,Eh,NP,⟨⟩⟩ TN λfs f0 f1 f2 f3 f4=>show su.goal (QI fs f0 f1 f2 f3 f4) (fs,(f0,f1,f2,f3,f4,()),())fromλhin hp=>?_
 dsimp only[su]at hp ⊢;have hlen:f4.length<=maxLen:=hin.2.1.2.2.2.2.1.1;rw[maxLen_eq]at hlen;refine eP f4.length hlen (λn=>∀i,i<n->iT fs f4 i=true) (λi hi=>by omega) (λI μ n hn hJ next=>?_) λI μ hJ=>?_
 .dsimp only;have no:iT fs f4 n=false->(false,())=(dL fs (f0,f1,f2,f3,f4,()),()):=λh=>by rw[ae1 (f:=(f0,f1,f2,f3,f4,())) hn h]
  refine bY (by omega) ⟨⟨by omega,by omega⟩,⟨by omega,by omega⟩,trivial,af (λh2=>no ?_) λh2=>af (λh4=>?_) λh4=>⟨rfl,next (dM hJ ?_)⟩⟩
  .have h2:gK fs (bZ f4 n).1 (bZ f4 n).2.1 (bZ f4 n).2.2.1 (bZ f4 n).2.2.2.1=false:=iR h2;unfold iT;rw[h2];rfl
  .have h2:gK fs (bZ f4 n).1 (bZ f4 n).2.1 (bZ f4 n).2.2.1 (bZ f4 n).2.2.2.1=true:=dY h2;have h4:0<n:=by have:=iK h4;omega
   rw[rZ h4 (by omega)];refine⟨⟨by omega,by omega⟩,⟨by omega,by omega⟩,af (λh5=>no ?_) λh5=>⟨rfl,next (dM hJ ?_)⟩⟩
   .have h5:Op.bytesLess (bZ f4 (n-1)).1 (bZ f4 n).1=false:=iR h5;unfold iT;rw[h2,h5,atj h4];rfl
   .have h5:Op.bytesLess (bZ f4 (n-1)).1 (bZ f4 n).1=true:=dY h5;unfold iT;rw[h2,h5,atj h4];rfl
  .have h2:gK fs (bZ f4 n).1 (bZ f4 n).2.1 (bZ f4 n).2.2.1 (bZ f4 n).2.2.2.1=true:=dY h2;have h4:¬0<n:=by have:=iW h4;omega
   unfold iT;rw[h2,atp h4];rfl
 .dsimp only;have ha:nZ fs f4=true:=lq hJ;refine bV (by omega) ⟨trivial,af (λh1=>⟨trivial,af (λh2=>⟨trivial,af (λh3=>⟨trivial,?_⟩) λh3=>?_⟩) λh2=>?_⟩) λh1=>?_⟩
  .refine congrArg (·,()) ?_;unfold dL;rw[ha,h1,h2,h3];rfl
  .refine congrArg (·,()) ?_;unfold dL;rw[ha,h1,h2,h3];rfl
  .refine congrArg (·,()) ?_;unfold dL;rw[ha,h1,h2];rfl
  .refine congrArg (·,()) ?_;unfold dL;rw[ha,h1];rfl
theorem E8:OK nM.e:=by
 refine aV [iO.e,l7.e,su.e] ⟨jQ,Eh,QG,⟨⟩⟩ QJ λs0 s1 s2=>show nM.goal (O6 s0 s1 s2) ((s0,s1,s2,()),())fromλhin hp=>?_
 dsimp only[nM]at hp ⊢;have hlen:s1.length<=maxLen:=hin.1.2.1.1;rw[maxLen_eq]at hlen;refine eP s1.length hlen (λn=>∀i,i<n->jc (s0,s1,s2,()) i=true) (λi hi=>by omega) (λI μ n hn hJ next=>?_) λI μ hJ=>?_
 .dsimp only;have no:jc (s0,s1,s2,()) n=false->(false,())=(bf (s0,s1,s2,()),()):=λh=>by rw[aaG (s:=(s0,s1,s2,())) hn h]
  refine bY (by omega) ⟨⟨by omega,by omega⟩,trivial,af (λh2=>no ?_) λh2=>⟨⟨by omega,by omega⟩,af (λh3=>no ?_) λh3=>af (λh4=>?_) λh4=>⟨rfl,next (dM hJ ?_)⟩⟩⟩
  .have h2:dL s0 (Sp.fileAt s1 n)=false:=iR h2;show(dL s0 (Sp.fileAt s1 n)&&_&&_)=false;rw[h2];rfl
  .have h2:dL s0 (Sp.fileAt s1 n)=true:=dY h2;have h3:¬(Sp.fileAt s1 n).1<s2:=by have h3:(Sp.fileAt s1 n).1>=s2:=iK h3;omega
   show(dL s0 (Sp.fileAt s1 n)&&decide ((Sp.fileAt s1 n).1<s2)&&_)=false;rw[h2,atp h3];rfl
  .have h2:dL s0 (Sp.fileAt s1 n)=true:=dY h2;have h3:(Sp.fileAt s1 n).1<s2:=by have h3:¬(Sp.fileAt s1 n).1>=s2:=iW h3;omega
   have h4:0<n:=by have:=iK h4;omega
   rw[rZ h4 (by omega)];refine⟨⟨by omega,by omega⟩,⟨by omega,by omega⟩,af (λh5=>no ?_) λh5=>⟨rfl,next (dM hJ ?_)⟩⟩
   .have h5:¬(Sp.fileAt s1 (n-1)).1<(Sp.fileAt s1 n).1:=by have h5:(Sp.fileAt s1 (n-1)).1>=(Sp.fileAt s1 n).1:=iK h5;omega
    show(dL s0 (Sp.fileAt s1 n)&&decide ((Sp.fileAt s1 n).1<s2)&&!(decide (0<n)&&!decide ((Sp.fileAt s1 (n-1)).1<(Sp.fileAt s1 n).1)))=false;rw[h2,atj h3,atj h4,atp h5];rfl
   .have h5:(Sp.fileAt s1 (n-1)).1<(Sp.fileAt s1 n).1:=by have h5:¬(Sp.fileAt s1 (n-1)).1>=(Sp.fileAt s1 n).1:=iW h5;omega
    show(dL s0 (Sp.fileAt s1 n)&&decide ((Sp.fileAt s1 n).1<s2)&&!(decide (0<n)&&!decide ((Sp.fileAt s1 (n-1)).1<(Sp.fileAt s1 n).1)))=true;rw[h2,atj h3,atj h4,atj h5];rfl
  .have h2:dL s0 (Sp.fileAt s1 n)=true:=dY h2;have h3:(Sp.fileAt s1 n).1<s2:=by have h3:¬(Sp.fileAt s1 n).1>=s2:=iW h3;omega
   have h4:¬0<n:=by have:=iW h4;omega
   show(dL s0 (Sp.fileAt s1 n)&&decide ((Sp.fileAt s1 n).1<s2)&&!(decide (0<n)&&!decide ((Sp.fileAt s1 (n-1)).1<(Sp.fileAt s1 n).1)))=true;rw[h2,atj h3,atp h4];rfl
 .dsimp only;have ha:fK s1.length (jc (s0,s1,s2,()))=true:=lq hJ;refine bV (by omega) ⟨trivial,af (λh1=>af (λh2=>⟨trivial,?_⟩) λh2=>?_) λh1=>?_⟩
  .refine congrArg (·,()) ?_;show _=(fK s1.length (jc (s0,s1,s2,()))&&dO s0&&decide ((s1.length:Int)<=12)&&(decide (1<=s2)&&decide (s2<=61)));rw[ha,h1,h2];rfl
  .refine congrArg (·,()) ?_;show _=(fK s1.length (jc (s0,s1,s2,()))&&dO s0&&decide ((s1.length:Int)<=12)&&(decide (1<=s2)&&decide (s2<=61)));rw[ha,h1,h2];rfl
  .refine congrArg (·,()) ?_;show _=(fK s1.length (jc (s0,s1,s2,()))&&dO s0&&decide ((s1.length:Int)<=12)&&(decide (1<=s2)&&decide (s2<=61)));rw[ha,h1];rfl
theorem KX:OK vF.e:=by
 refine aV [] ⟨⟩ adp λf0 f1 f2 f3 f4=>show vF.goal (aaH f0 f1 f2 f3 f4) ((f0,f1,f2,f3,f4,()),())fromλhin hp=>?_
 dsimp only[vF]at hp ⊢;have hp:f4.length<=2000000:=hp;exact⟨by rw[dm];omega,rfl⟩
theorem H8:OK lV.e:=by
 refine aV [] ⟨⟩ IQ λl=>show lV.goal (H9 l) (l,())fromλhin hp=>?_
 dsimp only[lV]at hp ⊢;intro g hg;have hp:l.length<=10000000:=hp;refine af (λh=>?_) λh=>⟨by rw[dm];omega,rfl⟩;have:=atH.1 (hg h);rw[this]
theorem IU:OK mg.e:=by
 refine aV [] ⟨⟩ JC λl=>show mg.goal (IV l) (l,())fromλhin hp=>?_
 dsimp only[mg]at hp ⊢;intro g hg;have hp:l.length<=10000000:=hp;refine af (λh=>?_) λh=>⟨by rw[dm];omega,rfl⟩;have:=atH.1 (hg h);rw[this]
theorem JD:OK sF.e:=by
 refine aV [mg.e] ⟨IU,⟨⟩⟩ aaI λf0 f1 f2 f3 f4=>show sF.goal (Yh f0 f1 f2 f3 f4) ((f0,f1,f2,f3,f4,()),())fromλhin hp=>?_
 dsimp only[sF]at hp ⊢;exact⟨as3 (show f4.length<=2000000 from hp) (by decide),rfl⟩
theorem Gl:OK rW.e:=by
 refine aV [jO.e] ⟨nY,⟨⟩⟩ H0 λn=>show rW.goal (adq n) (n,())fromλhin hp=>?_
 dsimp only[rW]at hp ⊢;exact⟨trivial,rfl⟩
theorem JE:OK sG.e:=by
 refine aV [] ⟨⟩ aaJ λs0 s1 s2 id=>show sG.goal (Yi s0 s1 s2 id) ((s0,s1,s2,()),id,())fromλhin hp=>?_
 dsimp only[sG]at hp ⊢;have hlen:s1.length<=maxLen:=hin.1.2.1.1;rw[maxLen_eq]at hlen;refine eP s1.length hlen (λn=>∀i,i<n->(Sp.fileAt s1 i).1≠id) (λi hi=>by omega) (λI μ n hn hJ next=>?_) λI μ hJ=>?_
 .dsimp only;refine bY (by omega) ⟨⟨by omega,by omega⟩,af (λh=>?_) λh=>⟨rfl,next λi hi=>?_⟩⟩
  .have h:(Sp.fileAt s1 n).1=id:=iK h;exact congrArg (·,()) (Sp.Gm hn hJ h).symm
  .rcases atm i n with h'|h'
   .exact hJ i h'
   .have:i=n:=by omega
    subst this;have h:¬(Sp.fileAt s1 i).1=id:=iW h;exact h
 .dsimp only;exact bV (by omega) (congrArg (·,()) (O7 hJ).symm)
theorem Gx{s:List aA}(p:aA->Bool){n:Nat}(hn:n<s.length):(s.take (n+1)).filter p=(s.take n).filter p++(if p (Sp.fileAt s n)=true then[Sp.fileAt s n]else[]):=by
 rw[Sp.take_succ' s n (0,0,false,0,[],()) hn,List.filter_append];congr 1;show List.filter _ [Sp.fileAt s n]=_;by_cases h:p (Sp.fileAt s n)=true
 .rw[List.filter_cons_of_pos h,if_pos h];rfl
 .rw[List.filter_cons_of_neg h,if_neg h];rfl
theorem KY(s:List aA)(p:aA->Bool)(n:Nat):((s.take n).filter p).length<=n:=by have:=aur p (s.take n);rw[atv]at this;omega
def iD(fs:List aA)(n:Nat):List aA:=(fs.take n).map (Sp.unlink fs)++fs.drop n
theorem Af(fs:List aA){n:Nat}(hn:n<=fs.length):(iD fs n).length=fs.length:=by unfold iD;rw[as4,atb,atv,auN];omega
theorem ahf(fs:List aA)(n:Nat):(iD fs n).map (·.1)=fs.map (·.1):=by unfold iD;rw[atE,aud];have:((·.1) ∘ Sp.unlink fs:aA->Int)=(·.1):=rfl;rw[this,← atE,auP]
theorem MH(fs:List aA){n:Nat}(hn:n<fs.length):(iD fs n).getD n (0,0,false,0,[],())=Sp.fileAt fs n:=by unfold iD Sp.fileAt;rw[atn,auy (by simp;omega),atb,atv,auC (by omega),auT,atN,auE,← atn]
theorem Qw(fs:List aA){n:Nat}(hn:n<fs.length):iD fs (n+1)=(iD fs n).set n (Sp.unlink fs (Sp.fileAt fs n)):=by unfold iD;rw[drop_cons fs n (0,0,false,0,[],()) hn,Sp.take_succ' fs n (0,0,false,0,[],()) hn,atE,auo _ _ (by simp;omega),atb,atv,auC (by omega),auT,au3,atz];rfl
theorem set_self{fs:List aA}{n:Nat}(hn:n<fs.length):fs.set n (fs.getD n (0,0,false,0,[],()))=fs:=by
 refine List.ext_getElem (by simp) λi h1 h2=>?_;rw[List.getElem_set];split
 .next e=>subst e;rw[atn,as5 hn];rfl
 .rfl
theorem DJ(fs:List aA){n:Nat}(hn:n<fs.length):
 (Sp.place (iD fs n) (Sp.fileAt fs n).2.2.2.1<0->iD fs (n+1)=(iD fs n).set n ((Sp.fileAt fs n).1,(Sp.fileAt fs n).2.1,(Sp.fileAt fs n).2.2.1,0,(Sp.fileAt fs n).2.2.2.2.1,()))/\
 (¬Sp.place (iD fs n) (Sp.fileAt fs n).2.2.2.1<0->iD fs (n+1)=iD fs n):=by
 rw[ala _ (ahf fs n)];refine⟨λh=>?_,λh=>?_⟩
 .rw[Qw fs hn];unfold Sp.unlink;rw[atj h];rfl
 .rw[Qw fs hn];have e:Sp.unlink fs (Sp.fileAt fs n)=(iD fs n).getD n (0,0,false,0,[],()):=by rw[MH fs hn];unfold Sp.unlink;rw[atp h];rfl
  rw[e];exact set_self (by rw[Af fs (by omega)];exact hn)
theorem TP(fs:List aA):iD fs fs.length=fs.map (Sp.unlink fs):=by unfold iD;rw[atg,List.drop_length,atM]
def names:List (Int×Int×Sp.Bytes):=[(2,0,[105,110,107]),(2,0,[115,101,97])]
theorem amc:dO Sp.usual=true:=by kernel_rfl
structure O8(k:Int)(s:aT):Prop where
 sch:s.1=Sp.usual
 ok:bf s=true
 nx:s.2.2.1<=s.2.1.length+k
 small:dH s
theorem O8.more{k k':Int}{s:aT}(h:O8 k s)(hk:k<=k'):O8 k' s:=⟨h.sch,h.ok,by have:=h.nx;omega,h.small⟩
theorem O8.grows{s:aT}(h:O8 2 s)(hl:s.2.1.length<12){f:aA}(ho:0<=f.2.1/\f.2.1<=2)(hk:0<=f.2.2.2.1/\f.2.2.2.1<=6)(ha:nZ Sp.usual f.2.2.2.2.1=true):(xK s f).1.2.1.length=s.2.1.length+1:=by
 have hnx:=(Gy.1 h.ok).2.2.2;have h2:=h.nx;have hf:dL s.1 (s.2.2.1,f.2)=true:=by rw[h.sch];show(nZ Sp.usual f.2.2.2.2.1&&dO Sp.usual&&(decide (1<=s.2.2.1)&&decide (s.2.2.1<=60))&&(decide (0<=f.2.1)&&decide (f.2.1<=2))&&(decide (0<=f.2.2.2.1)&&decide (f.2.2.2.1<=60)))=true;rw[ha,amc,atj hnx.1,atj (by omega),atj ho.1,atj ho.2,atj hk.1,atj (by omega)];rfl
 rcases JF s f with⟨_,e⟩|⟨_,_,_,e⟩
 .exact(e ⟨h.ok,hl,hf⟩).elim
 .rw[e];show(s.2.1++[_]).length=_;rw[as4];rfl
theorem O8.one{s:aT}(h:O8 1 s){f:aA}(ho:0<=f.2.1/\f.2.1<=2)(hk:0<=f.2.2.2.1/\f.2.2.2.1<=6)(ha:nZ Sp.usual f.2.2.2.2.1=true):0<(xK s f).1.2.1.length:=by
 by_cases hl:s.2.1.length<12
 .rw[(h.more (show(1:Int)<=2 by decide)).grows hl ho hk ha];omega
 .rcases JF s f with⟨e,_⟩|⟨_,_,_,e⟩
  .rw[e];show 0<s.2.1.length;omega
  .rw[e];show 0<(s.2.1++[_]).length;rw[as4,List.length_singleton];omega
theorem wE:OK jU.e:=by
 refine aV [jO.e] ⟨nY,⟨⟩⟩ O9 λs=>show jU.goal (NR s) (s,())fromλhin hp=>?_
 dsimp only[jU]at hp ⊢;have hlen:s.length<=maxLen:=hin.1;rw[maxLen_eq]at hlen;refine⟨λy=>∃n:Nat,y.1.1=n/\n<=s.length/\Sp.lower (s.take n)=true,λy=>((s.length:Int)-y.1.1).toNat,⟨0,rfl,by omega,rfl⟩,?_⟩;rintro⟨⟨_,⟨⟩⟩,⟨⟩⟩ ⟨n,rfl,hn,hJ⟩;dsimp only;refine af (λh=>?_) λh=>?_<;>simp only[ate,atc]at h
 .have hlt:n<s.length:=by omega
  rw[eu _ (by omega),ata];refine⟨⟨by omega,by omega⟩,af (λh2=>?_) λh2=>⟨⟨by omega,by omega⟩,af (λh3=>?_) λh3=>?_⟩⟩<;>simp only[ate,atc]at*
  .unfold eF;cases hl:Sp.lower s with
   |false=>rfl
   |true=>have:=IL hlt hl;omega
  .unfold eF;cases hl:Sp.lower s with
   |false=>rfl
   |true=>have:=IL hlt hl;omega
  .refine⟨rfl,⟨n+1,by simp,by omega,?_⟩,by dsimp only;omega⟩;rw[Sp.take_succ' s n 0 hlt];unfold Sp.lower at hJ ⊢;rw[List.all_append,hJ];simp only[atQ,avd,auw,au4,as1,ate];omega
 .have hge:n=s.length:=by omega
  rw[hge,atg]at hJ;unfold eF;rw[hJ];exact⟨trivial,rfl⟩
theorem Fa:OK nK.e:=by
 refine aV [jU.e,jO.e] ⟨wE,nY,⟨⟩⟩ H0 λk n s=>show nK.goal (Pe k n s) ((k,n,s,()),())fromλhin hp=>?_
 dsimp only[nK]at hp ⊢;refine af (λh=>?_) λh=>af (λh2=>⟨trivial,af (λh3=>?_) λh3=>?_⟩) λh2=>af (λh3=>⟨trivial,af (λh4=>?_) λh4=>?_⟩) λh3=>?_
 .have e:k=0:=by simpa using h
  subst e;exact congrArg (·,()) (atu.2 (by simp[gV]))
 .have e:k=1:=by simpa using h2
  subst e;exact congrArg (·,()) (atu.2 (by simp only[as1,ate]at h3;simp[gV,h3]))
 .have e:k=1:=by simpa using h2
  subst e;exact congrArg (·,()) (atu.2 (by simp only[gV,h3];simp))
 .have e:k=2:=by simpa using h3
  subst e;exact congrArg (·,()) (atu.2 (by simp[gV,h4]))
 .have e:k=2:=by simpa using h3
  subst e;exact congrArg (·,()) (atu.2 (by simp[gV,h4]))
 .have e1:k≠0:=by simpa using h
  have e2:k≠1:=by simpa using h2
  have e3:k≠2:=by simpa using h3
  exact congrArg (·,()) (atu.2 (by simp[gV,e1,e2,e3]))
theorem BP:OK kV.e:=by
 refine aV [] ⟨⟩ H0 λs=>show kV.goal (J6 s) (s,())fromλhin hp=>?_
 dsimp only[kV]at hp ⊢;refine af (λh=>?_) λh=>?_
 .have h:(s.length:Int)=1:=iK h
  match s,h with
  |[c],_=>
   refine⟨⟨by decide,(by show(0:Int)<1;decide)⟩,af (λh2=>⟨⟨by decide,(by show(0:Int)<1;decide)⟩,?_⟩) λh2=>?_⟩
   .have h2:(c.toNat:Int)>=97:=iK h2;refine congrArg (·,()) (atu.2 ?_);simp only[gq,Sp.lower,atQ,avd,auw,as1,ate,asY,as6];constructor
    .intro h3;have h3:(c.toNat:Int)<=122:=h3;exact⟨⟨⟨by omega,by omega⟩,by decide⟩,by decide⟩
    .rintro⟨⟨⟨_,h4⟩,_⟩,_⟩;show(c.toNat:Int)<=122;omega
   .have h2:¬(c.toNat:Int)>=97:=iW h2;refine congrArg (·,()) (atu.2 ?_);simp only[gq,Sp.lower,atQ,avd,auw,as1,ate];constructor
    .intro h3;cases h3
    .rintro⟨⟨⟨h4,_⟩,_⟩,_⟩;omega
 .have h:¬(s.length:Int)=1:=iW h;refine congrArg (·,()) (atu.2 ?_);simp only[gq,as1,ate];constructor
  .intro h3;cases h3
  .rintro⟨⟨_,h4⟩,h5⟩;omega
theorem VO:OK wO.e:=by
 refine aV [] ⟨⟩ Yj λs name=>show wO.goal (VP s name) (s,name,())fromλhin hp=>?_
 dsimp only[wO]at hp ⊢;have hlen:s.length<=maxLen:=hin.1.1;rw[maxLen_eq]at hlen;refine eP s.length hlen (λn=>∀i,i<n->(s.getD i ([],0,())).1≠name) (λi hi=>by omega) (λI μ n hn hJ next=>?_) λI μ hJ=>?_
 .dsimp only;refine bY (by omega) ⟨⟨by omega,by omega⟩,af (λh=>?_) λh=>⟨rfl,next λi hi=>?_⟩⟩
  .exact congrArg (·,()) (TM s n hn hJ (by simpa only[ata,atd]using h)).symm
  .rcases atm i n with h'|h'
   .exact hJ i h'
   .have:i=n:=by omega
    subst this;have h2:((s.getD i ([],0,())).1==name)=false:=h;exactλe=>by rw[e]at h2;simp at h2
 .dsimp only;exact bV (by omega) (congrArg (·,()) (MG s hJ).symm)
theorem alb{k:Int}(h:(k !=1)=false\/(k !=2)=false):(decide (1<=k)&&decide (k<=2))=true:=by have:k=1\/k=2:=h.imp (by simp) (by simp);rcases this with h|h<;>subst h<;>rfl
theorem anP{k:Int}(h1:(k !=1)=true)(h2:(k !=2)=true):(decide (1<=k)&&decide (k<=2))=false:=by
 have h1:k≠1:=by simpa using h1
 have h2:k≠2:=by simpa using h2
 rw[Bool.and_eq_false_iff];by_cases h:k<1
 .left;exact atp (by omega)
 .right;exact atp (by omega)
theorem Ei:OK l9.e:=by
 refine aV [kV.e] ⟨BP,⟨⟩⟩ Pg λs=>show l9.goal (NS s) (s,())fromλhin hp=>?_
 dsimp only[l9]at hp ⊢;have hlen:s.length<=maxLen:=hin.1.1;rw[maxLen_eq]at hlen;refine eP s.length hlen (λn=>∀i,i<n->iL s i=true) (λi hi=>by omega) (λI μ n hn hJ next=>?_) λI μ hJ=>?_
 .dsimp only;have no:iL s n=false->(false,())=(dO s,()):=λh=>by rw[Xq hn h]
  have rest:gq (Sp.fieldAt s n).1=true->(decide (1<=(Sp.fieldAt s n).2.1)&&decide ((Sp.fieldAt s n).2.1<=2))=true->
   bif decide ((n:Int)>0)then
    ((0:Int)<=IntKind.i64.wrap ((n:Int)-1)/\IntKind.i64.wrap ((n:Int)-1)<(s.length:Int))/\
      bif !Op.bytesLess (s.getD (IntKind.i64.wrap ((n:Int)-1)).toNat ([],0,())).fst (s.getD (Int.toNat (n:Int)) ([],0,())).fst then(false,())=(dO s,())
      else NX ((s,s,(s.length:Int),()),()) I μ ((IntKind.i64.wrap ((n:Int)+1),()),()) (((n:Int),()),())
   else NX ((s,s,(s.length:Int),()),()) I μ ((IntKind.i64.wrap ((n:Int)+1),()),()) (((n:Int),()),()):=by
   intro h2 h3;refine af (λh4=>?_) λh4=>⟨rfl,next (dM hJ ?_)⟩
   .have h4:0<n:=by have:=iK h4;omega
    rw[rZ h4 (by omega)];refine⟨⟨by omega,by omega⟩,af (λh5=>no ?_) λh5=>⟨rfl,next (dM hJ ?_)⟩⟩
    .have h5:Op.bytesLess (Sp.fieldAt s (n-1)).1 (Sp.fieldAt s n).1=false:=iR h5;unfold iL;rw[h2,h3,h5,atj h4];rfl
    .have h5:Op.bytesLess (Sp.fieldAt s (n-1)).1 (Sp.fieldAt s n).1=true:=dY h5;unfold iL;rw[h2,h3,h5,atj h4];rfl
   .have h4:¬0<n:=by have:=iW h4;omega
    unfold iL;rw[h2,h3,atp h4];rfl
  refine bY (by omega) ⟨⟨by omega,by omega⟩,trivial,af (λh2=>no ?_) λh2=>af (λh3=>af (λh4=>no ?_) λh4=>?_) λh3=>?_⟩
  .have h2:gq (Sp.fieldAt s n).1=false:=iR h2;unfold iL;rw[h2];rfl
  .have h2:gq (Sp.fieldAt s n).1=true:=dY h2;have h3:(decide (1<=(Sp.fieldAt s n).2.1)&&decide ((Sp.fieldAt s n).2.1<=2))=false:=anP h3 h4;unfold iL;rw[h2,h3];rfl
  .have h2:gq (Sp.fieldAt s n).1=true:=dY h2;have h3:(decide (1<=(Sp.fieldAt s n).2.1)&&decide ((Sp.fieldAt s n).2.1<=2))=true:=alb (.inr h4);exact rest h2 h3
  .have h2:gq (Sp.fieldAt s n).1=true:=dY h2;have h3:(decide (1<=(Sp.fieldAt s n).2.1)&&decide ((Sp.fieldAt s n).2.1<=2))=true:=alb (.inl h3);exact rest h2 h3
 .dsimp only;refine bV (by omega) (congrArg (·,()) ?_);unfold dO;rw[lq hJ];rfl
theorem NT:OK qx.e:=by
 refine aV [wO.e,nK.e] ⟨VO,Fa,⟨⟩⟩ H0 λfs s k n w=>show qx.goal (NU fs s k n w) (fs,s,(k,n,w,()),())fromλhin hp=>?_
 dsimp only[qx]at hp ⊢;refine⟨trivial,af (λh=>af (λh2=>⟨trivial,?_⟩) λh2=>?_) λh=>?_⟩
 .exact congrArg (·,()) (atu.2 (by simp only[bne_iff_ne,ne_eq]at h2;simp[gK,h,h2]))
 .exact congrArg (·,()) (atu.2 (by simp at h2;simp[gK,h2]))
 .exact congrArg (·,()) (atu.2 (by simp[gK,h]))
theorem QK:OK sD.e:=by
 refine aV [l9.e,rW.e,jO.e,qx.e] ⟨Ei,Gl,nY,NT,⟨⟩⟩ TQ λfs f0 f1 f2 f3 f4=>show sD.goal (QL fs f0 f1 f2 f3 f4) (fs,(f0,f1,f2,f3,f4,()),())fromλhin hp=>?_
 dsimp only[sD]at hp ⊢;have hlen:f4.length<=maxLen:=hin.2.1.2.2.2.2.1.1;rw[maxLen_eq]at hlen;refine eP f4.length hlen (λn=>∀i,i<n->iT fs f4 i=true) (λi hi=>by omega) (λI μ n hn hJ next=>?_) λI μ hJ=>?_
 .dsimp only;have no:iT fs f4 n=false->(false,())=(dL fs (f0,f1,f2,f3,f4,()),()):=λh=>by rw[ae1 (f:=(f0,f1,f2,f3,f4,())) hn h]
  refine bY (by omega) ⟨⟨by omega,by omega⟩,af (λh4=>?_) λh4=>⟨trivial,af (λh2=>no ?_) λh2=>⟨rfl,next (dM hJ ?_)⟩⟩⟩
  .have h4:0<n:=by have:=iK h4;omega
   rw[rZ h4 (by omega)];refine⟨⟨by omega,by omega⟩,af (λh5=>no ?_) λh5=>⟨trivial,af (λh2=>no ?_) λh2=>⟨rfl,next (dM hJ ?_)⟩⟩⟩
   .have h5:Op.bytesLess (bZ f4 (n-1)).1 (bZ f4 n).1=false:=iR h5;unfold iT;rw[h5,atj h4];exact aub _
   .have h2:gK fs (bZ f4 n).1 (bZ f4 n).2.1 (bZ f4 n).2.2.1 (bZ f4 n).2.2.2.1=false:=iR h2;unfold iT;rw[h2];rfl
   .have h2:gK fs (bZ f4 n).1 (bZ f4 n).2.1 (bZ f4 n).2.2.1 (bZ f4 n).2.2.2.1=true:=dY h2;have h5:Op.bytesLess (bZ f4 (n-1)).1 (bZ f4 n).1=true:=dY h5;unfold iT;rw[h2,h5,atj h4];rfl
  .have h2:gK fs (bZ f4 n).1 (bZ f4 n).2.1 (bZ f4 n).2.2.1 (bZ f4 n).2.2.2.1=false:=iR h2;unfold iT;rw[h2];rfl
  .have h2:gK fs (bZ f4 n).1 (bZ f4 n).2.1 (bZ f4 n).2.2.1 (bZ f4 n).2.2.2.1=true:=dY h2;have h4:¬0<n:=by have:=iW h4;omega
   unfold iT;rw[h2,atp h4];rfl
 .dsimp only;have ha:nZ fs f4=true:=lq hJ;refine bV (by omega) ⟨trivial,af (λh1=>⟨trivial,af (λh2=>⟨trivial,af (λh3=>⟨trivial,?_⟩) λh3=>?_⟩) λh2=>?_⟩) λh1=>?_⟩
  all_goals refine congrArg (·,()) ?_
  .show dO fs=(nZ fs f4&&dO fs&&(decide (1<=f0)&&decide (f0<=60))&&(decide (0<=f1)&&decide (f1<=2))&&(decide (0<=f3)&&decide (f3<=60)));rw[ha,h1,h2,h3];cases dO fs<;>rfl
  .show false=(nZ fs f4&&dO fs&&(decide (1<=f0)&&decide (f0<=60))&&(decide (0<=f1)&&decide (f1<=2))&&(decide (0<=f3)&&decide (f3<=60)));rw[h3,aub]
  .show false=(nZ fs f4&&dO fs&&(decide (1<=f0)&&decide (f0<=60))&&(decide (0<=f1)&&decide (f1<=2))&&(decide (0<=f3)&&decide (f3<=60)));rw[h2,aub,auH]
  .show false=(nZ fs f4&&dO fs&&(decide (1<=f0)&&decide (f0<=60))&&(decide (0<=f1)&&decide (f1<=2))&&(decide (0<=f3)&&decide (f3<=60)));rw[h1,aub,auH,auH]
theorem Fb:OK nN.e:=by
 refine aV [jO.e,l9.e,sD.e] ⟨nY,Ei,QK,⟨⟩⟩ QM λs0 s1 s2=>show nN.goal (Ph s0 s1 s2) ((s0,s1,s2,()),())fromλhin hp=>?_
 dsimp only[nN]at hp ⊢;have hlen:s1.length<=maxLen:=hin.1.2.1.1;rw[maxLen_eq]at hlen;refine eP s1.length hlen (λn=>∀i,i<n->jc (s0,s1,s2,()) i=true) (λi hi=>by omega) (λI μ n hn hJ next=>?_) λI μ hJ=>?_
 .dsimp only;have no:jc (s0,s1,s2,()) n=false->(false,())=(bf (s0,s1,s2,()),()):=λh=>by rw[aaG (s:=(s0,s1,s2,())) hn h]
  refine bY (by omega) ⟨⟨by omega,by omega⟩,trivial,af (λh2=>no ?_) λh2=>af (λh3=>no ?_) λh3=>af (λh4=>?_) λh4=>⟨rfl,next (dM hJ ?_)⟩⟩
  .have h2:dL s0 (Sp.fileAt s1 n)=false:=iR h2;show(dL s0 (Sp.fileAt s1 n)&&_&&_)=false;rw[h2];rfl
  .have h2:dL s0 (Sp.fileAt s1 n)=true:=dY h2;have h3:¬(Sp.fileAt s1 n).1<s2:=by have h3:(Sp.fileAt s1 n).1>=s2:=iK h3;omega
   show(dL s0 (Sp.fileAt s1 n)&&decide ((Sp.fileAt s1 n).1<s2)&&_)=false;rw[h2,atp h3];rfl
  .have h2:dL s0 (Sp.fileAt s1 n)=true:=dY h2;have h3:(Sp.fileAt s1 n).1<s2:=by have h3:¬(Sp.fileAt s1 n).1>=s2:=iW h3;omega
   have h4:0<n:=by have:=iK h4;omega
   rw[rZ h4 (by omega)];refine⟨⟨by omega,by omega⟩,af (λh5=>no ?_) λh5=>⟨rfl,next (dM hJ ?_)⟩⟩
   .have h5:¬(Sp.fileAt s1 (n-1)).1<(Sp.fileAt s1 n).1:=by have h5:(Sp.fileAt s1 (n-1)).1>=(Sp.fileAt s1 n).1:=iK h5;omega
    show(dL s0 (Sp.fileAt s1 n)&&decide ((Sp.fileAt s1 n).1<s2)&&!(decide (0<n)&&!decide ((Sp.fileAt s1 (n-1)).1<(Sp.fileAt s1 n).1)))=false;rw[h2,atj h3,atj h4,atp h5];rfl
   .have h5:(Sp.fileAt s1 (n-1)).1<(Sp.fileAt s1 n).1:=by have h5:¬(Sp.fileAt s1 (n-1)).1>=(Sp.fileAt s1 n).1:=iW h5;omega
    show(dL s0 (Sp.fileAt s1 n)&&decide ((Sp.fileAt s1 n).1<s2)&&!(decide (0<n)&&!decide ((Sp.fileAt s1 (n-1)).1<(Sp.fileAt s1 n).1)))=true;rw[h2,atj h3,atj h4,atj h5];rfl
  .have h2:dL s0 (Sp.fileAt s1 n)=true:=dY h2;have h3:(Sp.fileAt s1 n).1<s2:=by have h3:¬(Sp.fileAt s1 n).1>=s2:=iW h3;omega
   have h4:¬0<n:=by have:=iW h4;omega
   show(dL s0 (Sp.fileAt s1 n)&&decide ((Sp.fileAt s1 n).1<s2)&&!(decide (0<n)&&!decide ((Sp.fileAt s1 (n-1)).1<(Sp.fileAt s1 n).1)))=true;rw[h2,atj h3,atp h4];rfl
 .dsimp only;have ha:fK s1.length (jc (s0,s1,s2,()))=true:=lq hJ;refine bV (by omega) ⟨trivial,af (λh1=>af (λh2=>⟨trivial,?_⟩) λh2=>?_) λh1=>?_⟩
  .refine congrArg (·,()) ?_;show _=(fK s1.length (jc (s0,s1,s2,()))&&dO s0&&decide ((s1.length:Int)<=12)&&(decide (1<=s2)&&decide (s2<=61)));rw[ha,h1,h2];rfl
  .refine congrArg (·,()) ?_;show _=(fK s1.length (jc (s0,s1,s2,()))&&dO s0&&decide ((s1.length:Int)<=12)&&(decide (1<=s2)&&decide (s2<=61)));rw[ha,h1,h2];rfl
  .refine congrArg (·,()) ?_;show _=(fK s1.length (jc (s0,s1,s2,()))&&dO s0&&decide ((s1.length:Int)<=12)&&(decide (1<=s2)&&decide (s2<=61)));rw[ha,h1];rfl
end Go.Proofs.Tryz
namespace Go.Proofs.Tryz
open Go Go.Fw Go.IntWalk Sp
theorem IZ(n0 n1 n2:Int)(n3:Sp.Bytes)(n4 n5:Int)(n6:Sp.Bytes)(a:Int):iY (n0,n1,n2,n3,n4,n5,n6,()) a=
 (bif n0==1 then(n1==0&&n2==0)&&(n3==[]&&(n4==0&&(n5==0&&n6==[])))else bif n0==2 then(n1==0&&n2==0)&&(n4==0&&(n5==0&&n6==[]))&&gq n3 else
 bif n0==3 then(n1==0&&n2==0)&&gq n3&&gV n4 n5 n6&&!(n4==0)else bif n0==4 then(n1==0&&n2==0)&&gq n3&&gV n4 n5 n6&&n4==1 else
 bif n0==5 then(decide (0<=n1)&&decide (n1<=a-1)&&decide (0<a))&&n2==0&&(n3==[]&&(n4==0&&(n5==0&&n6==[])))else
 bif n0==6||n0==7 then(decide (0<=n1)&&decide (n1<=a-1)&&decide (0<a))&&(decide (0<=n2)&&decide (n2<=a-1))&&(n3==[]&&(n4==0&&(n5==0&&n6==[])))else
 bif n0==8||n0==9 then(n1==0&&n2==0)&&(n4==0&&(n5==0&&n6==[]))&&eF n3 else false):=rfl
theorem Rx:OK sJ.e:=by
 refine aV [jU.e,jO.e,nK.e,kV.e] ⟨wE,nY,Fa,BP,⟨⟩⟩ UX λn0 n1 n2 n3 n4 n5 n6 a=>show sJ.goal (FW n0 n1 n2 n3 n4 n5 n6 a) ((n0,n1,n2,n3,n4,n5,n6,()),a,())fromλhin hp=>?_
 dsimp only[sJ]at hp ⊢;have ha:-9223372036854775808<=a/\a<=9223372036854775807:=hin.2.1;show FW n0 n1 n2 n3 n4 n5 n6 a λr=>r=(iY (n0,n1,n2,n3,n4,n5,n6,()) a,());rw[IZ];have w:0<a->IntKind.i64.wrap (a-1)=a-1:=λh=>eu _ (by omega);refine af (λ_=>?_) λ_=>af (λ_=>af (λ_=>⟨trivial,?_⟩) λ_=>?_) λ_=>⟨λy=>y=((n0==3||n0==4,()),()),?_,?_⟩
 .first|(simp_all;done)|(simp_all;grind)
 .first|(simp_all;done)|(simp_all;grind)
 .first|(simp_all;done)|(simp_all;grind)
 .refine af (λ_=>⟨rfl,?_⟩) λ_=>⟨rfl,?_⟩<;>first|(simp_all;done)|(simp_all;grind)
 .rintro _ rfl;refine af (λ_=>?_) λ_=>af (λ_=>af (λ_=>af (λh=>⟨trivial,?_⟩) λ_=>?_) λ_=>?_) λ_=>⟨λy=>y=((n0==6||n0==7,()),()),?_,?_⟩
  .refine af (λ_=>⟨trivial,af (λ_=>⟨trivial,af (λ_=>af (λ_=>af (λ_=>?_) λ_=>?_) λ_=>?_) λ_=>?_⟩) λ_=>?_⟩) λ_=>?_
   all_goals first|(simp_all;done)|(simp_all;grind)
  .rw[w (iK h)]
   first|(simp_all;done)|(simp_all;grind)
  .first|(simp_all;done)|(simp_all;grind)
  .first|(simp_all;done)|(simp_all;grind)
  .refine af (λ_=>⟨rfl,?_⟩) λ_=>⟨rfl,?_⟩<;>first|(simp_all;done)|(simp_all;grind)
  .rintro _ rfl;refine af (λ_=>af (λ_=>af (λh=>⟨trivial,?_⟩) λ_=>?_) λ_=>?_) λ_=>?_
   .rw[w (iK h)];refine af (λ_=>⟨trivial,?_⟩) λ_=>?_<;>first|(simp_all;done)|(simp_all;grind)
   .first|(simp_all;done)|(simp_all;grind)
   .first|(simp_all;done)|(simp_all;grind)
   .refine af (λ_=>af (λ_=>af (λ_=>⟨trivial,?_⟩) λ_=>?_) λ_=>?_) λ_=>af (λ_=>af (λ_=>⟨trivial,?_⟩) λ_=>?_) λ_=>?_
    all_goals first|(simp_all;done)|(simp_all;grind)
theorem Ry:OK sH.e:=by
 refine aV [jT.e,nJ.e,kU.e,iO.e] ⟨wC,E5,BO,jQ,⟨⟩⟩ UY λn0 n1 n2 n3 n4 n5 n6 a=>show sH.goal (FX n0 n1 n2 n3 n4 n5 n6 a) ((n0,n1,n2,n3,n4,n5,n6,()),a,())fromλhin hp=>?_
 dsimp only[sH]at hp ⊢;have ha:-9223372036854775808<=a/\a<=9223372036854775807:=hin.2.1;show FX n0 n1 n2 n3 n4 n5 n6 a λr=>r=(iY (n0,n1,n2,n3,n4,n5,n6,()) a,());rw[IZ];have w:0<a->IntKind.i64.wrap (a-1)=a-1:=λh=>eu _ (by omega);refine⟨λy=>y=((decide (0<=n1)&&decide (n1<=a-1)&&decide (0<a),()),()),⟨trivial,?_⟩,?_⟩
 .by_cases h:0<a
  .dsimp only;rw[w h];refine af (λ_=>⟨rfl,?_⟩) λ_=>⟨rfl,?_⟩<;>first|(simp_all;done)|(simp_all;grind)
  .dsimp only;refine af (λ_=>⟨rfl,?_⟩) λ_=>⟨rfl,?_⟩<;>first|(simp_all;done)|(simp_all;grind)
 .rintro _ rfl;refine⟨λy=>y=(((decide (0<=n1)&&decide (n1<=a-1)&&decide (0<a))&&(decide (0<=n2)&&decide (n2<=a-1)),()),()),?_,?_⟩
  .refine af (λh=>⟨trivial,rfl,?_⟩) λh=>⟨rfl,?_⟩
   .have h:(decide (0<=n1)&&decide (n1<=a-1)&&decide (0<a))=true:=h;have h2:0<a:=by simp at h;omega
    rw[w h2,h,au4]
   .have h:(decide (0<=n1)&&decide (n1<=a-1)&&decide (0<a))=false:=h;rw[h,auH]
  .rintro _ rfl;dsimp only;generalize (decide (0<=n1)&&decide (n1<=a-1)&&decide (0<a))=kids;generalize (decide (0<=n2)&&decide (n2<=a-1))=two
   repeat' first
    |exact trivial
    |refine af (λ_=>?_) λ_=>?_
    |refine And.intro trivial ?_
   all_goals first|(simp_all;done)|(simp_all;grind)
end Go.Proofs.Tryz
namespace Go.Proofs.Tryz
open Go Go.Fw Go.IntWalk Sp
theorem KZ:OK vH.e:=by
 refine aV [] ⟨⟩ aeg λa b=>show vH.goal (acs a b) (a,b,())fromλhin hp=>?_
 dsimp only[vH]at hp ⊢;have hlen:a.length<=maxLen:=hin.1.1;rw[maxLen_eq]at hlen;refine af (λh=>?_) λh=>?_
 .have h:(a.length:Int)≠b.length:=by simpa using h
  exact congrArg (·,()) (atp λe=>h (by rw[e])).symm
 .have h:(a.length:Int)=b.length:=by simpa using h
  exact aiV (K:=λr=>r=(decide (a=b),())) (λx y=>x.1 !=y.1) (λx y=>by simp[Prod.ext_iff]) _ a b _ hlen (by omega) (λe=>by rw[atp e]) λe=>by rw[atj e]
theorem Zw:OK yR.e:=by
 refine aV [] ⟨⟩ H0 λn0 n1 n2 n3 n4 n5 n6=>show yR.goal (Zx n0 n1 n2 n3 n4 n5 n6) ((n0,n1,n2,n3,n4,n5,n6,()),())fromλhin hp=>?_
 dsimp only[yR]at hp ⊢;exact af (λh=>by rw[h];rfl) λh=>by rw[h];rfl
theorem Gn{d:List ay}(h:qW d){n:Nat}(hn:n<d.length):(d.getD n ([],[],())).2.1.length<=1000:=h.2 _ (getD_mem hn)
end Go.Proofs.Tryz
namespace Go.Proofs.Tryz
open Go Go.Fw Go.IntWalk Sp
theorem PU(a:Int)(x:aS):(Sp.refsOf a x:Int)=(if(x.1=6\/x.1=7\/x.1=5)/\x.2.1=a then 1 else 0)+(if(x.1=6\/x.1=7)/\x.2.2.1=a then 1 else 0):=by unfold Sp.refsOf kN;by_cases h6:x.1=6<;>by_cases h7:x.1=7<;>by_cases h5:x.1=5<;>by_cases hl:x.2.1=a<;>by_cases hr:x.2.2.1=a<;>simp[cond_eq_ite,h6,h7,h5,hl,hr]
theorem anU(a:Int)(x:aS):Sp.refsOf a x<=2:=by have:=PU a x;split at this<;>split at this<;>omega
def lC(q:List aS)(a:Int)(n:Nat):Nat:=((q.take n).map (Sp.refsOf a)).sum
theorem MS(q:List aS)(a:Int){n:Nat}(hn:n<q.length):lC q a (n+1)=lC q a n+Sp.refsOf a (Sp.nodeAt q n):=by unfold lC;rw[Sp.take_succ' q n (0,0,0,[],0,0,[],()) hn];simp only[atE,List.sum_append,att,List.map_nil,List.sum_cons,List.sum_nil,auE];rfl
theorem U1(q:List aS)(a:Int):∀n,n<=q.length->lC q a n<=2*n
 |0,_=>by simp[lC]
 |n+1,h=>by rw[MS q a (by omega)];have:=U1 q a n (by omega);have:=anU a (Sp.nodeAt q n);omega
theorem acu(q:List aS)(a:Int):lC q a q.length=kF q a:=by unfold lC kF;rw[atg]
theorem Kq:OK oz.e:=by
 refine aV [] ⟨⟩ MV λq a=>show oz.goal (Kr q a) (q,a,())fromλhin hp=>?_
 dsimp only[oz]at hp ⊢;have hp:q.length<=2000000:=hp;refine eH (λi(c:Int)=>((c,i,()),())) (λy=>y.1.2.1) (λ_ _=>rfl) q.length (by omega) (λn c=>c=(lC q a n:Int)) rfl (λI μ n c hn hJ next=>?_) λI μ c hJ=>?_
 .subst hJ;have hs:=MS q a hn;have hb:=U1 q a n (by omega);have hr:=PU a (Sp.nodeAt q n);dsimp only;rw[ata];have e:q.getD n (0,0,0,[],0,0,[],())=Sp.nodeAt q n:=rfl;rw[e];have w1:IntKind.i64.wrap ((lC q a n:Int)+1)=(lC q a n:Int)+1:=eu _ (by omega);have w2:IntKind.i64.wrap ((lC q a n:Int)+1+1)=(lC q a n:Int)+1+1:=eu _ (by omega);refine bY (by omega) ⟨⟨by omega,by omega⟩,af (λh6=>⟨λy=>y=(((lC q a n:Int)+(if(Sp.nodeAt q n).2.1=a then 1 else 0),()),()),⟨⟨by omega,by omega⟩,af (λhl=>⟨rfl,?_⟩) λhl=>⟨rfl,?_⟩⟩,?_⟩) λh6=>⟨⟨by omega,by omega⟩,λy=>y=(((lC q a n:Int)+(if((Sp.nodeAt q n).1=7\/(Sp.nodeAt q n).1=5)/\(Sp.nodeAt q n).2.1=a then 1 else 0),()),()),?_,?_⟩⟩
  .simp only[atd]at hl;rw[w1,if_pos hl]
  .simp only[asZ]at hl;rw[if_neg hl,aus]
  .rintro _ rfl;simp only[atd]at h6;refine⟨⟨by omega,by omega⟩,af (λhrr=>⟨rfl,next _ ?_⟩) λhrr=>⟨rfl,next _ ?_⟩⟩
   all_goals
    dsimp only;simp only[atd,asZ,ne_eq]at hrr;by_cases hl:(Sp.nodeAt q n).2.1=a<;>simp[h6,hl,hrr]at hr<;>simp only[hl,if_true,avc,aus,w1,w2]<;>omega
  .simp only[asZ,ne_eq]at h6;refine af (λh7=>⟨⟨by omega,by omega⟩,af (λhl=>⟨rfl,?_⟩) λhl=>⟨rfl,?_⟩⟩) λh7=>⟨⟨by omega,by omega⟩,af (λh5=>⟨⟨by omega,by omega⟩,af (λhl=>⟨rfl,?_⟩) λhl=>⟨rfl,?_⟩⟩) λh5=>⟨rfl,?_⟩⟩
   all_goals simp_all
  .rintro _ rfl;simp only[asZ,ne_eq]at h6;refine af (λh7=>⟨⟨by omega,by omega⟩,af (λhrr=>⟨rfl,next _ ?_⟩) λhrr=>⟨rfl,next _ ?_⟩⟩) λh7=>⟨rfl,next _ ?_⟩
   .simp only[atd]at h7 hrr;by_cases hl:(Sp.nodeAt q n).2.1=a<;>simp[h6,h7,hl,hrr]at hr<;>simp only[h7,hl,true_or,and_self,and_false,if_true,avc,aus,w1,w2]<;>omega
   .simp only[atd,asZ,ne_eq]at h7 hrr;by_cases hl:(Sp.nodeAt q n).2.1=a<;>simp[h6,h7,hl,hrr]at hr<;>simp only[h7,hl,true_or,and_self,and_false,if_true,avc,aus,w1,w2]<;>omega
   .simp only[asZ,ne_eq]at h7;dsimp only;by_cases h5:(Sp.nodeAt q n).1=5<;>by_cases hl:(Sp.nodeAt q n).2.1=a<;>simp[h6,h7,h5,hl]at hr<;>simp[h7,h5,hl]<;>omega
 .dsimp only;refine bV (by omega) ?_;rw[hJ,acu]
theorem Kt:OK oC.e:=by
 refine aV [] ⟨⟩ MW λq a=>show oC.goal (Ku q a) (q,a,())fromλhin hp=>?_
 dsimp only[oC]at hp ⊢;have hp:q.length<=2000000:=hp;refine eH (λi(c:Int)=>((c,i,()),())) (λy=>y.1.2.1) (λ_ _=>rfl) q.length (by omega) (λn c=>c=(lC q a n:Int)) rfl (λI μ n c hn hJ next=>?_) λI μ c hJ=>?_
 .subst hJ;have hs:=MS q a hn;have hb:=U1 q a n (by omega);have hr:=PU a (Sp.nodeAt q n);dsimp only;rw[ata];have e:q.getD n (0,0,0,[],0,0,[],())=Sp.nodeAt q n:=rfl;rw[e];have w1:IntKind.i64.wrap ((lC q a n:Int)+1)=(lC q a n:Int)+1:=eu _ (by omega);have w2:IntKind.i64.wrap ((lC q a n:Int)+1+1)=(lC q a n:Int)+1+1:=eu _ (by omega);refine bY (by omega) ⟨⟨by omega,by omega⟩,af (λh6=>⟨λy=>y=(((lC q a n:Int)+(if(Sp.nodeAt q n).2.1=a then 1 else 0),()),()),af (λhl=>⟨rfl,?_⟩) λhl=>⟨rfl,?_⟩,?_⟩) λh6=>⟨λy=>y=(((lC q a n:Int)+(if((Sp.nodeAt q n).1=7\/(Sp.nodeAt q n).1=5)/\(Sp.nodeAt q n).2.1=a then 1 else 0),()),()),?_,?_⟩⟩
  .simp only[atd]at hl;rw[w1,if_pos hl]
  .simp only[asZ]at hl;rw[if_neg hl,aus]
  .rintro _ rfl;simp only[atd]at h6;refine af (λhrr=>⟨rfl,next _ ?_⟩) λhrr=>⟨rfl,next _ ?_⟩
   all_goals
    dsimp only;simp only[atd,asZ,ne_eq]at hrr;by_cases hl:(Sp.nodeAt q n).2.1=a<;>simp[h6,hl,hrr]at hr<;>simp only[hl,if_true,avc,aus,w1,w2]<;>omega
  .simp only[asZ,ne_eq]at h6;refine af (λhl=>af (λh7=>⟨rfl,?_⟩) λh7=>af (λh5=>⟨rfl,?_⟩) λh5=>⟨rfl,?_⟩) λhl=>⟨rfl,?_⟩
   all_goals simp_all
  .rintro _ rfl;simp only[asZ,ne_eq]at h6;refine af (λhrr=>af (λh7=>⟨rfl,next _ ?_⟩) λh7=>⟨rfl,next _ ?_⟩) λhrr=>⟨rfl,next _ ?_⟩
   .simp only[atd]at h7 hrr;by_cases hl:(Sp.nodeAt q n).2.1=a<;>simp[h6,h7,hl,hrr]at hr<;>simp only[h7,hl,true_or,and_self,and_false,if_true,avc,aus,w1,w2]<;>omega
   .simp only[asZ,ne_eq]at h7;dsimp only;by_cases h5:(Sp.nodeAt q n).1=5<;>by_cases hl:(Sp.nodeAt q n).2.1=a<;>simp[h6,h7,h5,hl]at hr<;>simp[h7,h5,hl]<;>omega
   .simp only[asZ,ne_eq]at hrr;dsimp only;by_cases h7:(Sp.nodeAt q n).1=7<;>by_cases h5:(Sp.nodeAt q n).1=5<;>by_cases hl:(Sp.nodeAt q n).2.1=a<;>simp[h6,h7,h5,hl,hrr]at hr<;>simp[h7,h5,hl]<;>omega
 .dsimp only;refine bV (by omega) ?_;rw[hJ,acu]
theorem acv{q:List aS}{n:Nat}(hn:n<q.length)(h:jM q n=false):aW q=false:=by unfold aW;rw[yA hn h];rfl
theorem xO:OK kP.e:=by
 refine aV [iO.e,oz.e,sH.e] ⟨jQ,Kq,Ry,⟨⟩⟩ RG λq=>show kP.goal (PV q) (q,())fromλhin hp=>?_
 dsimp only[kP]at hp ⊢;have hp:q.length<=2000000:=hp;refine eP q.length (by omega) (λn=>∀i,i<n->jM q i=true) (λi hi=>by omega) (λI μ n hn hJ next=>?_) λI μ hJ=>?_
 .dsimp only;have no:jM q n=false->(false,())=(aW q,()):=λh=>by rw[acv hn h]
  rw[rZ (show 0<q.length by omega) (by omega)];refine bY (by omega) ⟨⟨by omega,by omega⟩,trivial,af (λh2=>no ?_) λh2=>af (λh3=>⟨hp,af (λh4=>no ?_) λh4=>⟨rfl,next (dM hJ ?_)⟩⟩) λh3=>⟨rfl,next (dM hJ ?_)⟩⟩
  .have h2:iY (Sp.nodeAt q n) n=false:=iR h2;unfold jM;rw[h2];rfl
  .have h2:iY (Sp.nodeAt q n) n=true:=dY h2;have h4:(kF q n:Int)≠1:=by simpa using h4
   have h3:(n:Int)<(q.length:Int)-1:=by have:=iK h3;omega
   unfold jM;simp only[h3,h2];simp;omega
  .have h2:iY (Sp.nodeAt q n) n=true:=dY h2;have h4:(kF q n:Int)=1:=by simpa using h4
   have h4:kF q n=1:=by omega
   unfold jM;simp[h2,h4]
  .have h2:iY (Sp.nodeAt q n) n=true:=dY h2;have h3:¬(n:Int)<(q.length:Int)-1:=by have:=iW h3;omega
   unfold jM;simp[h2,h3]
 .dsimp only;refine bV (by omega) ⟨trivial,congrArg (·,()) ?_⟩;unfold aW;rw[lq hJ];rfl
theorem xM:OK kQ.e:=by
 refine aV [jO.e,oC.e,sJ.e] ⟨nY,Kt,Rx,⟨⟩⟩ RH λq=>show kQ.goal (PW q) (q,())fromλhin hp=>?_
 dsimp only[kQ]at hp ⊢;have hp:q.length<=2000000:=hp;refine eP q.length (by omega) (λn=>∀i,i<n->jM q i=true) (λi hi=>by omega) (λI μ n hn hJ next=>?_) λI μ hJ=>?_
 .dsimp only;have no:jM q n=false->(false,())=(aW q,()):=λh=>by rw[acv hn h]
  rw[rZ (show 0<q.length by omega) (by omega)];refine bY (by omega) ⟨⟨by omega,by omega⟩,trivial,af (λh2=>no ?_) λh2=>af (λh3=>⟨hp,af (λh4=>no ?_) λh4=>⟨rfl,next (dM hJ ?_)⟩⟩) λh3=>⟨rfl,next (dM hJ ?_)⟩⟩
  .have h2:iY (Sp.nodeAt q n) n=false:=iR h2;unfold jM;rw[h2];rfl
  .have h2:iY (Sp.nodeAt q n) n=true:=dY h2;have h4:(kF q n:Int)≠1:=by simpa using h4
   have h3:(n:Int)<(q.length:Int)-1:=by have:=iK h3;omega
   unfold jM;simp only[h3,h2];simp;omega
  .have h2:iY (Sp.nodeAt q n) n=true:=dY h2;have h4:(kF q n:Int)=1:=by simpa using h4
   have h4:kF q n=1:=by omega
   unfold jM;simp[h2,h4]
  .have h2:iY (Sp.nodeAt q n) n=true:=dY h2;have h3:¬(n:Int)<(q.length:Int)-1:=by have:=iW h3;omega
   unfold jM;simp[h2,h3]
 .dsimp only;refine bV (by omega) ⟨trivial,congrArg (·,()) ?_⟩;unfold aW;rw[lq hJ];rfl
theorem afd{d:List ay}{n:Nat}(hn:n<d.length)(h:iU d n=false):dV d=false:=by unfold dV;rw[yA hn h];rfl
theorem QN:OK sK.e:=by
 refine aV [kP.e,jT.e] ⟨xO,wC,⟨⟩⟩ U2 λd=>show sK.goal (RI d) (d,())fromλhin hp=>?_
 dsimp only[sK]at hp ⊢;have hp:fF d:=hp;have hlen:d.length<=2000000:=hp.1;refine eP d.length (by omega) (λn=>∀i,i<n->iU d i=true) (λi hi=>by omega) (λI μ n hn hJ next=>?_) λI μ hJ=>?_
 .dsimp only;have no:iU d n=false->(false,())=(dV d,()):=λh=>by rw[afd hn h]
  have hq:(bQ d n).2.1.length<=2000000:=hp.2 _ (aiW hn);refine bY (by omega) ⟨⟨by omega,by omega⟩,trivial,af (λh2=>no ?_) λh2=>⟨⟨by omega,by omega⟩,hq,af (λh3=>no ?_) λh3=>af (λh4=>?_) λh4=>⟨rfl,next (dM hJ ?_)⟩⟩⟩
  .have h2:eF (bQ d n).1=false:=iR h2;unfold iU;rw[h2];rfl
  .have h3:aW (bQ d n).2.1=false:=iR h3;unfold iU;rw[h3];simp
  .have h2:eF (bQ d n).1=true:=dY h2;have h3:aW (bQ d n).2.1=true:=dY h3;have h4:0<n:=by have:=iK h4;omega
   rw[rZ h4 (by omega)];refine⟨⟨by omega,by omega⟩,⟨by omega,by omega⟩,af (λh5=>no ?_) λh5=>⟨rfl,next (dM hJ ?_)⟩⟩
   .have h5:Op.bytesLess (bQ d (n-1)).1 (bQ d n).1=false:=iR h5;unfold iU;rw[h2,h3,h5,atj h4];rfl
   .have h5:Op.bytesLess (bQ d (n-1)).1 (bQ d n).1=true:=dY h5;unfold iU;rw[h2,h3,h5,atj h4];rfl
  .have h2:eF (bQ d n).1=true:=dY h2;have h3:aW (bQ d n).2.1=true:=dY h3;have h4:¬0<n:=by have:=iW h4;omega
   unfold iU;rw[h2,h3,atp h4];rfl
 .dsimp only;refine bV (by omega) (congrArg (·,()) ?_);unfold dV;rw[lq hJ];rfl
theorem QS:OK sN.e:=by
 refine aV [kQ.e,jU.e] ⟨xM,wE,⟨⟩⟩ U3 λd=>show sN.goal (RJ d) (d,())fromλhin hp=>?_
 dsimp only[sN]at hp ⊢;have hp:fF d:=hp;have hlen:d.length<=2000000:=hp.1;refine eP d.length (by omega) (λn=>∀i,i<n->iU d i=true) (λi hi=>by omega) (λI μ n hn hJ next=>?_) λI μ hJ=>?_
 .dsimp only;have no:iU d n=false->(false,())=(dV d,()):=λh=>by rw[afd hn h]
  have hq:(bQ d n).2.1.length<=2000000:=hp.2 _ (aiW hn);refine bY (by omega) ⟨⟨by omega,by omega⟩,trivial,af (λh2=>no ?_) λh2=>af (λh4=>?_) λh4=>⟨hq,af (λh3=>no ?_) λh3=>⟨rfl,next (dM hJ ?_)⟩⟩⟩
  .have h2:eF (bQ d n).1=false:=iR h2;unfold iU;rw[h2];rfl
  .have h2:eF (bQ d n).1=true:=dY h2;have h4:0<n:=by have:=iK h4;omega
   rw[rZ h4 (by omega)];refine⟨⟨by omega,by omega⟩,af (λh5=>no ?_) λh5=>⟨hq,af (λh3=>no ?_) λh3=>⟨rfl,next (dM hJ ?_)⟩⟩⟩
   .have h5:Op.bytesLess (bQ d (n-1)).1 (bQ d n).1=false:=iR h5;unfold iU;rw[h5,atj h4];simp
   .have h3:aW (bQ d n).2.1=false:=iR h3;unfold iU;rw[h3];simp
   .have h3:aW (bQ d n).2.1=true:=dY h3;have h5:Op.bytesLess (bQ d (n-1)).1 (bQ d n).1=true:=dY h5;unfold iU;rw[h2,h3,h5,atj h4];rfl
  .have h3:aW (bQ d n).2.1=false:=iR h3;unfold iU;rw[h3];simp
  .have h2:eF (bQ d n).1=true:=dY h2;have h3:aW (bQ d n).2.1=true:=dY h3;have h4:¬0<n:=by have:=iW h4;omega
   unfold iU;rw[h2,h3,atp h4];rfl
 .dsimp only;refine bV (by omega) (congrArg (·,()) ?_);unfold dV;rw[lq hJ];rfl
end Go.Proofs.Tryz
namespace Go.Proofs.Tryz
open Go Go.Fw Go.IntWalk Sp
theorem afe{S:Type}{B:((Int×Unit)×S->Prop)->((Int×Unit)×S->Nat)->(Int×Unit)×S->Prop}(len:Nat)(hlen:len<=9223372036854775807)(J:Nat->S->Prop){s0:S}(h0:J len s0)
 (hstep:∀I μ(n:Nat)(s:S),n<len->J (n+1) s->(∀s',J n s'->I ((IntKind.i64.wrap ((n:Int)-1),()),s')/\μ ((IntKind.i64.wrap ((n:Int)-1),()),s')<μ (((n:Int),()),s))->B I μ (((n:Int),()),s))
 (hend:∀I μ s,J 0 s->B I μ ((-1,()),s)):∃I,∃μ,I ((IntKind.i64.wrap ((len:Int)-1),()),s0)/\∀y,I y->B I μ y:=by
 have w:∀n:Nat,n<=len->IntKind.i64.wrap ((n:Int)-1)=(n:Int)-1:=λn hn=>eu _ (by omega);refine⟨λy=>∃(n:Nat)(s:S),y=(((n:Int)-1,()),s)/\n<=len/\J n s,λy=>(y.1.1+1).toNat,⟨len,s0,by rw[w len (as7 _)],as7 _,h0⟩,?_⟩;rintro _ ⟨n,s,rfl,hn,hJ⟩;cases n with
 |zero=>exact hend _ _ s hJ
 |succ n=>
  have e:((n+1:Nat):Int)-1=n:=by omega
  rw[e];refine hstep _ _ n s hn hJ λs' hJ'=>?_;rw[w n (by omega)];refine⟨⟨n,s',rfl,by omega,hJ'⟩,?_⟩;show((n:Int)-1+1).toNat<((n:Int)+1).toNat;omega
theorem getD_set_ne{α:Type}(l:List α)(i n:Nat)(x d:α)(h:i≠n):(l.set i x).getD n d=l.getD n d:=by rw[atn,atn,aui h]
theorem I4{x:aS}{a:Int}(h:iY x a=true)(h2:x.1=5\/x.1=6\/x.1=7):0<=x.2.1/\x.2.1<a:=by obtain⟨x0,x1,x2,x3,x4,x5,x6,_⟩:=x;rw[IZ]at h;rcases h2 with rfl|rfl|rfl<;>simp at h<;>exact⟨h.1.1.1.1,by dsimp only;omega⟩
theorem I5{x:aS}{a:Int}(h:iY x a=true)(h2:x.1=6\/x.1=7):0<=x.2.2.1/\x.2.2.1<a:=by obtain⟨x0,x1,x2,x3,x4,x5,x6,_⟩:=x;rw[IZ]at h;rcases h2 with rfl|rfl<;>simp at h<;>exact⟨h.1.2.1,by dsimp only;omega⟩
theorem acw{q:List aS}(h:aW q=true){n:Nat}(hn:n<q.length):iY (Sp.nodeAt q n) n=true:=by unfold aW at h;simp only[as1]at h;have:=MX.1 h.1 n hn;unfold jM at this;simp only[as1]at this;exact this.1
theorem yK{q:List aS}(h:aW q=true):1<=q.length/\q.length<=9:=by unfold aW at h;simp only[as1,ate]at h;omega
theorem Xx{q:List aS}{n:Nat}{out:List (Bool×Unit)}(h:(Sp.nodeAt q n).1=5):jb q n out=out.set (Sp.nodeAt q n).2.1.toNat (true,()):=by unfold jb;simp[h]
theorem Xy{q:List aS}{n:Nat}{out:List (Bool×Unit)}(h:(Sp.nodeAt q n).1=6\/(Sp.nodeAt q n).1=7):jb q n out=(out.set (Sp.nodeAt q n).2.1.toNat ((out.getD n (false,())).1,())).set (Sp.nodeAt q n).2.2.1.toNat ((out.getD n (false,())).1,()):=by unfold jb kN;rcases h with h|h<;>simp[h]
theorem U4{q:List aS}{n:Nat}{out:List (Bool×Unit)}(h5:(Sp.nodeAt q n).1≠5)(h6:(Sp.nodeAt q n).1≠6)(h7:(Sp.nodeAt q n).1≠7):jb q n out=out:=by unfold jb kN;dsimp only;rw[asZ.2 h5,asZ.2 h6,asZ.2 h7];rfl
theorem CZ(q:List aS):∀(n:Nat)(out:List (Bool×Unit)),(gX q n out).length=out.length
 |0,out=>rfl
 |n+1,out=>by
  rw[gX,CZ q n];unfold jb;simp only[cond_eq_ite];split
  .simp
  .split<;>simp
theorem aip{q:List aS}(h:aW q=true):(Sp.negated q).length=q.length:=by unfold Sp.negated;rw[h];show(gX q _ _).length=_;rw[CZ];simp
theorem PX:OK rF.e:=by
 refine aV [kQ.e] ⟨xM,⟨⟩⟩ RN λq=>show rF.goal (PY q) (q,())fromλhin hp=>?_
 dsimp only[rF]at hp ⊢;have hp:q.length<=1000:=hp;refine⟨by omega,af (λh=>?_) λh=>⟨⟨by omega,by omega,by rw[dm];omega⟩,?_⟩⟩
 .have h:=iR h;unfold Sp.negated;rw[h];rfl
 have hok:=dY h;have hR:Sp.negated q=gX q q.length (List.replicate q.length (false,())):=by unfold Sp.negated;rw[hok];rfl
 refine afe q.length (by omega) (λn(s:List (Bool×Unit)×Unit)=>s.1.length=q.length/\gX q n s.1=Sp.negated q) ⟨by simp,hR.symm⟩ (λI μ n s hn hJ next=>?_) λI μ s hJ=>?_
 .obtain⟨out,⟨⟩⟩:=s;obtain⟨hl,hJ⟩:=hJ;have hl:out.length=q.length:=hl;have hJ:gX q n (jb q n out)=Sp.negated q:=hJ;have hk:=acw hok hn;have e:q.getD n (0,0,0,[],0,0,[],())=Sp.nodeAt q n:=rfl;dsimp only;rw[ata,e];simp only[avk];refine bY (by omega) ⟨⟨by omega,by omega⟩,by omega,?_⟩;by_cases h5:(Sp.nodeAt q n).1=5
  .have hb:=I4 hk (.inl h5);simp only[h5,Int.reduceBEq,avh,auF];have fin:gX q n (out.set (Sp.nodeAt q n).2.1.toNat (true,()))=Sp.negated q:=by rw[← Xx h5];exact hJ
   refine af (λ_=>⟨⟨by omega,by omega⟩,⟨by omega,by omega⟩,⟨by omega,by omega⟩,by omega,trivial,next _ ⟨by simp[hl],fin⟩⟩) λ_=>⟨⟨by omega,by omega⟩,⟨by omega,by omega⟩,⟨by omega,by omega⟩,⟨by omega,by omega⟩,by omega,trivial,next _ ⟨by simp[hl],fin⟩⟩
  by_cases Ou:(Sp.nodeAt q n).1=6\/(Sp.nodeAt q n).1=7
  .have hb:=I4 hk (.inr Ou);have hb2:=I5 hk Ou;have fin:∀b,(out.getD n (false,())).1=b->gX q n ((out.set (Sp.nodeAt q n).2.1.toNat (b,())).set (Sp.nodeAt q n).2.2.1.toNat (b,()))=Sp.negated q:=λb hb=>by rw[← hb,← Xy Ou];exact hJ
   rcases Ou with h6|h6
   all_goals
    simp only[h6,Int.reduceBEq,avh,auF];refine af (λhc=>⟨⟨by omega,by omega⟩,⟨by omega,by omega⟩,⟨by omega,by omega⟩,⟨by omega,by omega⟩,by omega,⟨by omega,by omega⟩,by omega,trivial,next _ ⟨by simp[hl],fin true hc⟩⟩) λhc=>⟨⟨by omega,by omega⟩,⟨by omega,by omega⟩,⟨by omega,by omega⟩,⟨by omega,by omega⟩,⟨by omega,by omega⟩,by omega,⟨by omega,by omega⟩,by omega,trivial,next _ ⟨by simp[hl],fin false hc⟩⟩
  .have h6:(Sp.nodeAt q n).1≠6:=λh=>Ou (.inl h);have h7:(Sp.nodeAt q n).1≠7:=λh=>Ou (.inr h);have fin:gX q n out=Sp.negated q:=by rw[U4 h5 h6 h7]at hJ;exact hJ
   simp only[asZ.2 h5,asZ.2 h6,asZ.2 h7,auF];exact af (λ_=>⟨⟨by omega,by omega⟩,rfl,next _ ⟨hl,fin⟩⟩) λ_=>⟨⟨by omega,by omega⟩,⟨by omega,by omega⟩,rfl,next _ ⟨hl,fin⟩⟩
 .obtain⟨out,⟨⟩⟩:=s;obtain⟨hl,hJ⟩:=hJ;dsimp only;refine bV (by omega) ?_;have hJ:out=Sp.negated q:=hJ;rw[hJ]
theorem PZ:OK rE.e:=by
 refine aV [kP.e] ⟨xO,⟨⟩⟩ RP λq=>show rE.goal (P5 q) (q,())fromλhin hp=>?_
 dsimp only[rE]at hp ⊢;have hp:q.length<=1000:=hp;refine⟨by omega,af (λh=>?_) λh=>⟨⟨by omega,by omega,by rw[dm];omega⟩,?_⟩⟩
 .have h:=iR h;unfold Sp.negated;rw[h];rfl
 have hok:=dY h;have hR:Sp.negated q=gX q q.length (List.replicate q.length (false,())):=by unfold Sp.negated;rw[hok];rfl
 refine afe q.length (by omega) (λn(s:List (Bool×Unit)×Unit)=>s.1.length=q.length/\gX q n s.1=Sp.negated q) ⟨by simp,hR.symm⟩ (λI μ n s hn hJ next=>?_) λI μ s hJ=>?_
 .obtain⟨out,⟨⟩⟩:=s;obtain⟨hl,hJ⟩:=hJ;have hl:out.length=q.length:=hl;have hJ:gX q n (jb q n out)=Sp.negated q:=hJ;have hk:=acw hok hn;have e:q.getD n (0,0,0,[],0,0,[],())=Sp.nodeAt q n:=rfl;dsimp only;rw[ata,e];simp only[avk];refine bY (by omega) ⟨⟨by omega,by omega⟩,?_⟩;by_cases h5:(Sp.nodeAt q n).1=5
  .have hb:=I4 hk (.inl h5);simp only[h5,Int.reduceBEq,avh,auF];have fin:gX q n (out.set (Sp.nodeAt q n).2.1.toNat (true,()))=Sp.negated q:=by rw[← Xx h5];exact hJ
   exact⟨⟨by omega,by omega⟩,by omega,trivial,next _ ⟨by simp[hl],fin⟩⟩
  by_cases Ou:(Sp.nodeAt q n).1=6\/(Sp.nodeAt q n).1=7
  .have hb:=I4 hk (.inr Ou);have hb2:=I5 hk Ou;have hne:(Sp.nodeAt q n).2.1.toNat≠n:=by omega
   have fin:gX q n ((out.set (Sp.nodeAt q n).2.1.toNat ((out.getD n (false,())).1,())).set (Sp.nodeAt q n).2.2.1.toNat ((out.getD n (false,())).1,()))=Sp.negated q:=by rw[← Xy Ou];exact hJ
   rcases Ou with h6|h6
   all_goals
    simp only[h6,Int.reduceBEq,avh,auF,getD_set_ne _ _ _ _ _ hne];exact⟨⟨by omega,by omega⟩,by omega,⟨by omega,by omega⟩,by omega,⟨by omega,by omega⟩,by omega,⟨by omega,by omega⟩,by omega,trivial,next _ ⟨by simp[hl],fin⟩⟩
  .have h6:(Sp.nodeAt q n).1≠6:=λh=>Ou (.inl h);have h7:(Sp.nodeAt q n).1≠7:=λh=>Ou (.inr h);have fin:gX q n out=Sp.negated q:=by rw[U4 h5 h6 h7]at hJ;exact hJ
   simp only[asZ.2 h5,asZ.2 h6,asZ.2 h7,auF];exact⟨rfl,next _ ⟨hl,fin⟩⟩
 .obtain⟨out,⟨⟩⟩:=s;obtain⟨hl,hJ⟩:=hJ;dsimp only;refine bV (by omega) ?_;have hJ:out=Sp.negated q:=hJ;rw[hJ]
end Go.Proofs.Tryz
namespace Go.Proofs.Tryz
open Go Go.Fw Go.IntWalk Sp
def aeh(q:List aS)(neg:Bool)(i:Nat):Option Sp.Bytes:=bif yB (Sp.nodeAt q i)&&((Sp.negated q).getD i (false,())).1==neg then some (Sp.nodeAt q i).2.2.2.1 else none
def Ak(q:List aS)(neg:Bool)(n:Nat):List Sp.Bytes:=(List.range n).filterMap (aeh q neg)
theorem uh(q:List aS)(neg:Bool):Ak q neg (Sp.negated q).length=dP q neg:=rfl
theorem acy{q:List aS}{neg:Bool}{n:Nat}(h1:yB (Sp.nodeAt q n)=true)(h2:((Sp.negated q).getD n (false,())).1=neg):Ak q neg (n+1)=Ak q neg n++[(Sp.nodeAt q n).2.2.2.1]:=by
 unfold Ak;rw[avi,List.filterMap_append];congr 1;show List.filterMap _ [n]=_;rw[List.filterMap_cons];have:aeh q neg n=some (Sp.nodeAt q n).2.2.2.1:=by unfold aeh;rw[h1,h2];simp
 rw[this];rfl
theorem LV{q:List aS}{neg:Bool}{n:Nat}(h:¬(yB (Sp.nodeAt q n)=true/\((Sp.negated q).getD n (false,())).1=neg)):Ak q neg (n+1)=Ak q neg n:=by
 unfold Ak;rw[avi,List.filterMap_append];have:aeh q neg n=none:=by
  unfold aeh;have:(yB (Sp.nodeAt q n)&&((Sp.negated q).getD n (false,())).1==neg)=false:=by rw[auJ];intro h';rw[as1,atd]at h';exact h h'
  rw[this];rfl
 rw[List.filterMap_cons,this];simp
theorem uj(q:List aS)(neg:Bool)(n:Nat):(Ak q neg n).length<=n:=by have:=List.length_filterMap_le (aeh q neg) (List.range n);rw[List.length_range]at this;exact this
theorem um(q:List aS):(Sp.negated q).length<=q.length:=by
 cases h:aW q with
 |true=>rw[aip h];exact as7 _
 |false=>unfold Sp.negated;rw[h];exact atl _
theorem Io:OK qV.e:=by
 refine FV [(BV,.eff (agQ oM) yP),yR.e,rF.e] ⟨⟨TJ,QF⟩,Zw,PX,⟨⟩⟩ Zy (λ⟨q,neg,_⟩ hp=>⟨((((dP q neg).map λs=>(s,()),()),())),⟨by show((dP q neg).map _).length<=1000;rw[atb];have:=uj q neg (Sp.negated q).length;have:=um q;have hp:q.length<=1000:=hp;rw[uh]at*;omega,λs=>by show(s,())∈(dP q neg).map _↔_;simp⟩⟩) λq neg=>show qV.goal (WU q neg) (q,neg,())fromλhin hp=>?_
 dsimp only[qV]at hp ⊢;have hp:q.length<=1000:=hp;have hnl:=um q;refine⟨hp,?_⟩;refine eH (λi(x:Sp.LS)=>(((),i,()),x,())) (λy=>y.1.2.1) (λ_ _=>rfl) (Sp.negated q).length (by omega) (λn l=>l=(Ak q neg n).map λs=>(s,())) rfl (λI μ n l hn hJ next=>?_) λI μ l hJ=>?_
 .subst hJ;have hl:=uj q neg n;dsimp only;refine bY (by omega) ⟨⟨by omega,by omega⟩,⟨by omega,by omega⟩,trivial,af (λh1=>af (λh2=>⟨⟨by omega,by omega⟩,?_,rfl,next _ ?_⟩) λh2=>⟨rfl,next _ ?_⟩) λh1=>⟨rfl,next _ ?_⟩⟩
  .rw[dm];simp only[asY,as6,atb];omega
  .rw[acy (show yB (Sp.nodeAt q n)=true from h1) (atd.1 h2),atE];rfl
  .rw[LV λh=>by have h2:=asZ.1 h2;exact h2 h.2]
  .rw[LV λh=>by have h1:yB (Sp.nodeAt q n)=false:=h1;rw[h1]at h;cases h.1]
 .subst hJ;have hl:=uj q neg (Sp.negated q).length;rw[uh]at hl ⊢;dsimp only;refine bV (by omega) ⟨by rw[atb];omega,?_⟩;rintro⟨⟨r,⟨⟩⟩,⟨⟩⟩ ⟨h1,h2⟩;have h1:r.length<=((dP q neg).map λs=>(s,())).length:=h1;rw[atb]at h1;refine⟨by show r.length<=1000;omega,λs=>?_⟩;have:=h2 (s,());show(s,())∈r↔_;rw[this];simp
theorem Pn:OK rG.e:=by
 refine FV [qV.e] ⟨Io,⟨⟩⟩ H0 (λ⟨q,_⟩ hp=>⟨((((dP q false).map λs=>(s,()),()),())),⟨by show((dP q false).map _).length<=1000;rw[atb];have:=uj q false (Sp.negated q).length;have:=um q;have hp:q.length<=1000:=hp;rw[uh]at*;omega,λs=>by show(s,())∈(dP q false).map _↔_;simp⟩⟩) λq=>show rG.goal (P6 q) (q,())fromλhin hp=>?_
 dsimp only[rG]at hp ⊢;exact⟨hp,λr hr=>hr⟩
theorem Pm:OK rH.e:=by
 refine FV [qV.e] ⟨Io,⟨⟩⟩ H0 (λ⟨q,_⟩ hp=>⟨((((dP q true).map λs=>(s,()),()),())),⟨by show((dP q true).map _).length<=1000;rw[atb];have:=uj q true (Sp.negated q).length;have:=um q;have hp:q.length<=1000:=hp;rw[uh]at*;omega,λs=>by show(s,())∈(dP q true).map _↔_;simp⟩⟩) λq=>show rH.goal (P7 q) (q,())fromλhin hp=>?_
 dsimp only[rH]at hp ⊢;exact⟨hp,λr hr=>hr⟩
theorem aiX{l:Sp.LS}{s:Sp.Bytes}{m:Nat}(hm:m<=l.length)(h1:∀i,i<m->Op.bytesLess (l.getD i ([],())).1 s=true)(h2:m<l.length->Op.bytesLess (l.getD m ([],())).1 s=false):
 DW l s=bif decide (m<l.length)&&(l.getD m ([],())).1==s then l else l.take m++[(s,())]++l.drop m:=by
 obtain⟨e1,_⟩:=U5 (d:=(([]:List UInt8),())) l m hm (p:=λx=>Op.bytesLess x.1 s) h1 h2;unfold DW;rw[e1];have:(l.take m).length=m:=by rw[atv];omega
 rw[this]
theorem JR{l:Sp.LS}{s:Sp.Bytes}(x:Sp.Bytes×Unit):x∈DW l s↔x=(s,())\/x∈l:=by
 unfold DW;dsimp only;generalize (l.takeWhile λx=>Op.bytesLess x.1 s).length=n;cases h:decide (n<l.length)&&(l.getD n ([],())).1==s with
 |true=>
  rw[as1,atd]at h;refine⟨.inr,λhx=>?_⟩;rcases hx with rfl|hx
  .have:=getD_mem (d:=(([]:List UInt8),())) (iK h.1);rw[show l.getD n ([],())=(s,())from Prod.ext h.2 rfl]at this;exact this
  .exact hx
 |false=>
  show x∈l.take n++[(s,())]++l.drop n↔_;rw[atA,atA,atI]
  conv=>rhs;rw[← auP n l,atA]
  constructor
  .rintro((h|h)|h)
   .exact .inr (.inl h)
   .exact .inl h
   .exact .inr (.inr h)
  .rintro(h|h|h)
   .exact .inl (.inr h)
   .exact .inl (.inl h)
   .exact .inr h
theorem amr(l:Sp.LS)(s:Sp.Bytes):(DW l s).length<=l.length+1:=by
 unfold DW;dsimp only;generalize (l.takeWhile λx=>Op.bytesLess x.1 s).length=n;cases decide (n<l.length)&&(l.getD n ([],())).1==s with
 |true=>exact Nat.le_succ _
 |false=>show(l.take n++[(s,())]++l.drop n).length<=_;simp;omega
theorem aei:OK Df.e:=by
 refine aV [] ⟨⟩ afN λl s=>show Df.goal (aej l s) (l,s,())fromλhin hp=>?_
 dsimp only[Df]at hp ⊢;have hp:l.length<=1000:=hp;have fin:∀m:Nat,m<=l.length->DW l s=l.take m++[(s,())]++l.drop m->((0:Int)<=m/\(m:Int)<=l.length)/\0+(List.drop 0 (List.take m l)).length<=big/\(List.drop 0 (List.take m l)).length+[(s,())].length<=big/\((0:Int)<=m/\(m:Int)<=l.length)/\
  (List.drop 0 (List.take m l)++[(s,())]).length+(List.drop m (List.take l.length l)).length<=big/\(List.drop 0 (List.take m l)++[(s,())]++List.drop m (List.take l.length l),())=(DW l s,()):=by
  intro m hm h;refine⟨⟨by omega,by omega⟩,?_,?_,⟨by omega,by omega⟩,?_,?_⟩
  .rw[dm];simp only[auN,atv];omega
  .rw[dm];simp only[auN,atv,asY,as6];omega
  .rw[dm];simp only[as4,auN,atv,asY,as6];omega
  .rw[h,atg,List.drop_zero]
 refine eP l.length (by omega) (λn=>∀i,i<n->Op.bytesLess (l.getD i ([],())).1 s=true) (λi hi=>by omega) (λI μ n hn hJ next=>?_) λI μ hJ=>?_
 .dsimp only;refine bY (by omega) ⟨⟨by omega,by omega⟩,af (λh=>⟨rfl,next (dM (f:=λi=>Op.bytesLess (l.getD i ([],())).1 s) hJ h)⟩) λh=>bY (by omega) ⟨⟨by omega,by omega⟩,?_⟩⟩;have e:=aiX (ave hn) hJ λ_=>h;rw[atj hn,au4]at e;refine af (λh2=>?_) λh2=>fin n (ave hn) ?_
  .rw[show((l.getD n ([],())).1==s)=true from h2]at e;rw[e];rfl
  .rw[show((l.getD n ([],())).1==s)=false from h2]at e;exact e
 .dsimp only;refine bV (by omega) (bV (by omega) (fin l.length (as7 _) ?_));have e:=aiX (as7 _) hJ λh=>by omega
  rw[atp (by omega)]at e;exact e
theorem alx(x:aS):yB x=(decide (8<=x.1)&&decide (x.1<=9)):=by unfold yB;rw[atu];simp;omega
theorem JS:OK sO.e:=by
 refine FV [Df.e,iO.e,rE.e] ⟨aei,jQ,PZ,⟨⟩⟩ acz (λ⟨q,neg,_⟩ hp=>⟨((((dP q neg).map λs=>(s,()),()),())),⟨by show((dP q neg).map _).length<=1000;rw[atb];have:=uj q neg (Sp.negated q).length;have:=um q;have hp:q.length<=1000:=hp;rw[uh]at*;omega,λs=>by show(s,())∈(dP q neg).map _↔_;simp⟩⟩) λq neg=>show sO.goal (Zz q neg) (q,neg,())fromλhin hp=>?_
 dsimp only[sO]at hp ⊢;have hp:q.length<=1000:=hp;have hnl:=um q;refine⟨hp,?_⟩;refine eH (λi(x:Sp.LS)=>((x,i,()),())) (λy=>y.1.2.1) (λ_ _=>rfl) (Sp.negated q).length (by omega) (λn l=>l.length<=n/\∀s,(s,())∈l↔s∈Ak q neg n) ⟨as7 _,λs=>by simp[Ak]⟩ (λI μ n l hn hJ next=>?_) λI μ l hJ=>?_
 .obtain⟨hl,hJ⟩:=hJ;dsimp only;have hnm:=alx (Sp.nodeAt q n);refine bY (by omega) ⟨⟨by omega,by omega⟩,trivial,af (λh1=>⟨⟨by omega,by omega⟩,af (λh2=>⟨⟨by omega,by omega⟩,by omega,rfl,next _ ?_⟩) λh2=>⟨rfl,next _ ⟨by omega,?_⟩⟩⟩) λh1=>⟨rfl,next _ ⟨by omega,?_⟩⟩⟩
  .have h1:(decide (8<=(Sp.nodeAt q n).1)&&decide ((Sp.nodeAt q n).1<=9))=true:=h1;rw[acy (hnm.trans h1) (atd.1 h2)];refine⟨as3 (amr _ _) (by omega),λs=>?_⟩;rw[JR,atA,atI,hJ,Prod.mk.injEq];constructor
   .rintro(⟨h,_⟩|h)
    .exact .inr h
    .exact .inl h
   .rintro(h|h)
    .exact .inr h
    .exact .inl ⟨h,rfl⟩
  .rw[LV λh=>by have h2:=asZ.1 h2;exact h2 h.2];exact hJ
  .rw[LV λh=>by have h1:(decide (8<=(Sp.nodeAt q n).1)&&decide ((Sp.nodeAt q n).1<=9))=false:=h1;rw[hnm,h1]at h;cases h.1];exact hJ
 .obtain⟨hl,hJ⟩:=hJ;rw[uh]at hJ;dsimp only;exact bV (by omega) ⟨by rw[dm];omega,by show l.length<=1000;omega,hJ⟩
theorem P8:OK rJ.e:=by
 refine FV [sO.e] ⟨JS,⟨⟩⟩ H0 (λ⟨q,_⟩ hp=>⟨((((dP q false).map λs=>(s,()),()),())),⟨by show((dP q false).map _).length<=1000;rw[atb];have:=uj q false (Sp.negated q).length;have:=um q;have hp:q.length<=1000:=hp;rw[uh]at*;omega,λs=>by show(s,())∈(dP q false).map _↔_;simp⟩⟩) λq=>show rJ.goal (P9 q) (q,())fromλhin hp=>?_
 dsimp only[rJ]at hp ⊢;exact⟨hp,λr hr=>hr⟩
theorem Qa:OK rM.e:=by
 refine FV [sO.e] ⟨JS,⟨⟩⟩ H0 (λ⟨q,_⟩ hp=>⟨((((dP q true).map λs=>(s,()),()),())),⟨by show((dP q true).map _).length<=1000;rw[atb];have:=uj q true (Sp.negated q).length;have:=um q;have hp:q.length<=1000:=hp;rw[uh]at*;omega,λs=>by show(s,())∈(dP q true).map _↔_;simp⟩⟩) λq=>show rM.goal (Qb q) (q,())fromλhin hp=>?_
 dsimp only[rM]at hp ⊢;exact⟨hp,λr hr=>hr⟩
end Go.Proofs.Tryz
namespace Go.Proofs.Tryz
open Go Go.Fw Go.IntWalk Sp
theorem LW:OK vG.e:=by
 refine aV [] ⟨⟩ H0 λx0 x1 p=>show vG.goal (acA x0 x1 p) ((x0,x1,()),(p,()),())fromλhin hp=>?_
 dsimp only[vG]at hp ⊢;exact rfl
theorem Gm{d:List ay}{s:Sp.Bytes}{n:Nat}(hn:n<d.length)(h1:(bQ d n).1=s)(h2:∀i,i<n->(bQ d i).1≠s):aG d s=n:=by
 rcases BJ d s with⟨_,h⟩|⟨m,g1,g2,g3,g4⟩
 .exact(h _ (getD_mem (d:=(([]:List UInt8),([]:List aS),())) hn) h1).elim
 .have:m=n:=by
   rcases au6 m n with h|h|h
   .exact(h2 m h g3).elim
   .exact h
   .exact(g4 n h h1).elim
  rw[g2,this]
theorem ahz{d:List ay}{s:Sp.Bytes}(h2:∀i,i<d.length->(bQ d i).1≠s):aG d s=-1:=by
 rcases BJ d s with⟨h,_⟩|⟨m,g1,_,g3,_⟩
 .exact h
 .exact(h2 m g1 g3).elim
theorem wI:OK fZ.e:=by
 refine aV [vG.e] ⟨LW,⟨⟩⟩ wK λd s=>show fZ.goal (wJ d s) (d,((s,()),()),())fromλhin hp=>?_
 dsimp only[fZ]at hp ⊢;have hlen:d.length<=maxLen:=hin.1.1;rw[maxLen_eq]at hlen;refine eP d.length hlen (λn=>∀i,i<n->(bQ d i).1≠s) (λi hi=>by omega) (λI μ n hn hJ next=>?_) λI μ hJ=>?_
 .dsimp only;refine bY (by omega) ⟨⟨by omega,by omega⟩,trivial,af (λh=>?_) λh=>⟨rfl,next λi hi=>?_⟩⟩
  .rw[Gm hn (atd.1 h) hJ]
  .rcases atm i n with h'|h'
   .exact hJ i h'
   .have:i=n:=by omega
    rw[this];exact asZ.1 h
 .dsimp only;refine bV (by omega) ?_;rw[ahz hJ]
theorem afO:OK Ep.e:=by
 refine aV [fZ.e,vG.e] ⟨wI,LW,⟨⟩⟩ H0 λd s=>show Ep.goal (afP d s) (d,s,())fromλhin hp=>?_
 dsimp only[Ep]at hp ⊢;exact⟨trivial,rfl⟩
theorem ZA:OK yT.e:=by
 refine aV [] ⟨⟩ acB λd s=>show yT.goal (ZB d s) (d,s,())fromλhin hp=>?_
 dsimp only[yT]at hp ⊢;have hlen:d.length<=maxLen:=hin.1.1;rw[maxLen_eq]at hlen;refine eP d.length hlen (λn=>∀i,i<n->(bQ d i).1≠s) (λi hi=>by omega) (λI μ n hn hJ next=>?_) λI μ hJ=>?_
 .dsimp only;refine bY (by omega) ⟨⟨by omega,by omega⟩,af (λh=>?_) λh=>⟨rfl,next λi hi=>?_⟩⟩
  .rw[Gm hn (atd.1 h) hJ]
  .rcases atm i n with h'|h'
   .exact hJ i h'
   .have:i=n:=by omega
    rw[this];exact asZ.1 h
 .dsimp only;refine bV (by omega) ?_;rw[ahz hJ]
theorem QO:OK sQ.e:=by
 refine aV [Ep.e] ⟨afO,⟨⟩⟩ U6 λd au names more=>show sQ.goal (RQ d au names more) (d,au,names,more,())fromλhin hp=>?_
 dsimp only[sQ]at hp ⊢;obtain⟨h1,h2,h3,h4,h5⟩:d.length<=au.length/\names.length<=1000/\0<=more/\more<=1/\∀x∈au,0<=x.1/\x.1<=1000000:=hp;refine eH (λi(c:Int)=>((c,i,()),())) (λy=>y.1.2.1) (λ_ _=>rfl) names.length (by omega) (λn c=>∀B,c<=B↔0<=B/\∀x∈names.take n,0<=aG d x.1->Sp.lv au (aG d x.1).toNat+more<=B) (λB=>by simp) (λI μ n c hn hJ next=>?_) λI μ c hJ=>?_
 .dsimp only;rw[ata];have e:=Sp.take_succ' names n ([],()) hn;refine bY (by omega) ⟨⟨by omega,by omega⟩,trivial,af (λh=>?_) λh=>⟨rfl,next _ λB=>?_⟩⟩
  .have h:0<=aG d (names.getD n ([],())).1:=iK h;have hlt:=GR h;have hb:=h5 _ (UM (l:=au) (i:=(aG d (names.getD n ([],())).1).toNat) (by omega));dsimp only at hb;have hw:IntKind.i64.wrap (Sp.lv au (aG d (names.getD n ([],())).1).toNat+more)=Sp.lv au (aG d (names.getD n ([],())).1).toNat+more:=eu _ (by omega);have e2:(au.getD (aG d (names.getD n ([],())).1).toNat (0,())).1=Sp.lv au (aG d (names.getD n ([],())).1).toNat:=rfl;refine⟨⟨h,by omega⟩,rfl,next _ λB=>?_⟩;rw[e2,hw,e];simp only[atA,atI];have:=hJ B;constructor
   .intro hB;have hc:c<=B:=by split at hB<;>omega
    have hv:Sp.lv au (aG d (names.getD n ([],())).1).toNat+more<=B:=by split at hB<;>omega
    obtain⟨a,b⟩:=this.1 hc;refine⟨a,λx hx hx0=>?_⟩;rcases hx with hx|rfl
    .exact b x hx hx0
    .exact hv
   .rintro⟨a,b⟩;have hc:=this.2 ⟨a,λx hx=>b x (.inl hx)⟩;have hv:=b _ (.inr rfl) h;split<;>omega
  .have h:¬0<=aG d (names.getD n ([],())).1:=iW h;rw[hJ B,e];simp only[atA,atI];constructor
   .rintro⟨a,b⟩;refine⟨a,λx hx hx0=>?_⟩;rcases hx with hx|rfl
    .exact b x hx hx0
    .exact(h hx0).elim
   .exactλ⟨a,b⟩=>⟨a,λx hx=>b x (.inl hx)⟩
 .dsimp only;refine bV (by omega) (congrArg (·,()) ?_);rw[atg]at hJ;have h6:=λB=>(hJ B).trans (Ej (d:=d) (au:=au) (more:=more) names B).symm;have a:=(h6 c).1 (atD _);have b:=(h6 (sS d au more names)).2 (atD _);omega
end Go.Proofs.Tryz
namespace Go.Proofs.Tryz
open Go Go.Fw Go.IntWalk Sp
theorem aff{d:List ay}{i:Nat}(hi:i<d.length){neg:Bool}{r:Sp.LS}(hr:gW r (dP (bQ d i).2.1 neg)){p:Nat}(hp:p<r.length)(h0:0<=aG d (r.getD p ([],())).1):
 (i,(aG d (r.getD p ([],())).1).toNat,if neg then 1 else 0)∈cO d:=by
 have hm:=getD_mem (d:=(([]:List UInt8),())) hp;have:=(hr.2 (r.getD p ([],())).1).1 hm;cases neg with
 |false=>exact Ah.2 ⟨hi,_,.inl ⟨rfl,this⟩,h0,rfl⟩
 |true=>exact Ah.2 ⟨hi,_,.inr ⟨rfl,this⟩,h0,rfl⟩
theorem La{d:List ay}{i j m:Nat}{neg:Bool}{r:Sp.LS}(hr:gW r (dP (bQ d i).2.1 neg))(he:(i,j,m)∈cO d)(hm:m=if neg then 1 else 0):
 ∃p,p<r.length/\0<=aG d (r.getD p ([],())).1/\j=(aG d (r.getD p ([],())).1).toNat:=by
 obtain⟨_,s,h2,h3,h4⟩:=Ah.1 he;have hs:s∈dP (bQ d i).2.1 neg:=by
  cases neg with
  |false=>rcases h2 with⟨_,h⟩|⟨h,_⟩;exact h;simp at hm;omega
  |true=>rcases h2 with⟨h,_⟩|⟨_,h⟩;simp at hm;omega;exact h
 have hm:=(hr.2 s).2 hs;obtain⟨p,hp,e⟩:=atF hm;have e2:r.getD p ([],())=(s,()):=by rw[atn,as5 hp,e];rfl
 exact⟨p,hp,by rw[e2];exact h3,by rw[e2];exact h4⟩
theorem aly:∀x,(oZ.F x).1->∃t,(oZ.F x).2 t:=by rintro⟨d,au,_⟩ hp;obtain⟨_,_,h3,h4⟩:qW d/\d.length<=5/\au.length=d.length/\∀x∈au,0<=x.1/\x.1<=1000000:=hp;obtain⟨r,hr⟩:=aiq d au h3 λi hi=>(h4 _ (UM (by omega))).1;exact⟨((r,()),()),hr⟩
theorem Yk:OK oZ.e:=by
 refine FV [rM.e,yT.e,rJ.e] ⟨Qa,ZA,P8,⟨⟩⟩ acC (aly) λd au=>show oZ.goal (ZC d au) (d,au,())fromλhin hp=>?_
 dsimp only[oZ]at hp ⊢;obtain⟨h1,h2,h3,h4⟩:qW d/\d.length<=5/\au.length=d.length/\∀x∈au,0<=x.1/\x.1<=1000000:=hp;have h0:∀i,i<d.length->0<=Sp.lv au i/\Sp.lv au i<=1000000:=λi hi=>h4 _ (UM (by omega));have hB:∀i,i<d.length->Sp.lv au i<=1000000:=λi hi=>(h0 i hi).2;refine⟨by rw[dm];omega,?_⟩;refine eH (λi(x:List (Int×Unit))=>((i,()),x,())) (λy=>y.1.1) (λ_ _=>rfl) d.length (by omega) (λi cur=>FY d au cur (1000*i) λe=>e∈cO d/\e.1<i) ((FY.start h3).weaken (by omega) λe he=>by have:=he.2;omega) (λI μ i cur hi hJ next=>?_) λI μ cur hJ=>?_
 .dsimp only;rw[ata];refine bY (by omega) ⟨⟨by omega,by omega⟩,Gn h1 hi,?_⟩;rintro⟨⟨r,⟨⟩⟩,⟨⟩⟩ hr;have hr:gW r (dP (bQ d i).2.1 false):=hr;have hrl:r.length<=1000:=hr.1;refine eH (λi(x:List (Int×Unit))=>((i,()),x,())) (λy=>y.1.1) (λ_ _=>rfl) r.length (by omega) (λp cur=>FY d au cur (1000*i) λe=>e∈cO d/\(e.1<i\/(e.1=i/\e.2.2=0/\∃p',p'<p/\e.2.1=(aG d (r.getD p' ([],())).1).toNat/\0<=aG d (r.getD p' ([],())).1))) (hJ.weaken (atD _) λe he=>⟨he.1,by rcases he.2 with h|⟨_,_,_,h,_⟩;exact h;omega⟩) (λI1 μ1 p cur hp hJ akd=>?_) λI1 μ1 cur hJ=>?_
  .dsimp only;rw[ata];have hl:=hJ.len;have hP:∀e:Nat×Nat×Nat,(e∈cO d/\(e.1<i\/(e.1=i/\e.2.2=0/\∃p',p'<p+1/\e.2.1=(aG d (r.getD p' ([],())).1).toNat/\0<=aG d (r.getD p' ([],())).1)))->
    (e∈cO d/\(e.1<i\/(e.1=i/\e.2.2=0/\∃p',p'<p/\e.2.1=(aG d (r.getD p' ([],())).1).toNat/\0<=aG d (r.getD p' ([],())).1)))\/(e=(i,(aG d (r.getD p ([],())).1).toNat,0)/\0<=aG d (r.getD p ([],())).1):=by
    rintro⟨a,b,c⟩ ⟨he,h|⟨h,h5,p',h6,h7,h8⟩⟩
    .exact .inl ⟨he,.inl h⟩
    .by_cases hpp:p'=p
     .subst hpp;have h:a=i:=h;have h5:c=0:=h5;have h7:b=(aG d (r.getD p' ([],())).1).toNat:=h7;exact .inr ⟨by rw[h,h5,h7],h8⟩
     .exact .inl ⟨he,.inr ⟨h,h5,p',by omega,h7,h8⟩⟩
   refine bY (by omega) ⟨⟨by omega,by omega⟩,trivial,af (λh=>?_) λh=>⟨rfl,akd _ (hJ.weaken (atD _) λe he=>?_)⟩⟩
   .have h:0<=aG d (r.getD p ([],())).1:=iK h;have hlt:=GR h;have he:=aff hi hr hp h;refine⟨⟨h,by omega⟩,by omega,⟨by omega,by omega⟩,by omega,af (λhc=>⟨⟨h,by omega⟩,by omega,⟨by omega,by omega⟩,by omega,rfl,akd _ ?_⟩) λhc=>⟨rfl,akd _ ?_⟩⟩
    .have hc:Sp.lv cur i<Sp.lv cur (aG d (r.getD p ([],())).1).toNat:=iK hc;have:=hJ.set he (by show _<_+((0:Nat):Int);omega);have e0:Sp.lv cur (aG d (r.getD p ([],())).1).toNat+((if false=true then 1 else 0:Nat):Int)=Sp.lv cur (aG d (r.getD p ([],())).1).toNat:=by show _+((0:Nat):Int)=_;omega
     rw[e0]at this;exact this.weaken (by show 1000*(i:Int)+((0:Nat):Int)<=_;omega) λe he=>(hP e he).imp_right λh=>h.1
    .have hc:¬Sp.lv cur i<Sp.lv cur (aG d (r.getD p ([],())).1).toNat:=iW hc;have:=hJ.still he (by show _+((0:Nat):Int)<=_;omega);exact this.weaken (atD _) λe he=>(hP e he).imp_right λh=>h.1
   .have h:¬0<=aG d (r.getD p ([],())).1:=iW h;rcases hP e he with h'|h'
    .exact h'
    .exact(h h'.2).elim
  .dsimp only;have hJ2:FY d au cur (1000*i) λe=>e∈cO d/\(e.1<i\/(e.1=i/\e.2.2=0)):=hJ.weaken (atD _) λe he=>⟨he.1,he.2.imp_right λh=>⟨h.1,h.2,by obtain⟨a,b,c⟩:=e;obtain⟨he,_⟩:=he;obtain⟨h,h5⟩:=h;have h:a=i:=h;have h5:c=0:=h5;subst h h5;obtain⟨p,q1,q2,q3⟩:=La hr he rfl;exact⟨p,q1,q3,q2⟩⟩⟩;clear hJ;refine bV (by omega) ⟨⟨by omega,by omega⟩,Gn h1 hi,?_⟩;rintro⟨⟨r2,⟨⟩⟩,⟨⟩⟩ hr2;have hr2:gW r2 (dP (bQ d i).2.1 true):=hr2;have hrl2:r2.length<=1000:=hr2.1;refine eH (λi(x:List (Int×Unit))=>((i,()),x,())) (λy=>y.1.1) (λ_ _=>rfl) r2.length (by omega) (λp cur=>FY d au cur (1000*i+p) λe=>e∈cO d/\(e.1<i\/(e.1=i/\e.2.2=0)\/(e.1=i/\e.2.2=1/\∃p',p'<p/\e.2.1=(aG d (r2.getD p' ([],())).1).toNat/\0<=aG d (r2.getD p' ([],())).1))) (hJ2.weaken (by omega) λe he=>⟨he.1,by rcases he.2 with h|h|⟨_,_,_,h,_⟩;exact .inl h;exact .inr h;omega⟩) (λI2 μ2 p cur hp hJ ake=>?_) λI2 μ2 cur hJ=>?_
   .dsimp only;rw[ata];have hl:=hJ.len;have hP:∀e:Nat×Nat×Nat,(e∈cO d/\(e.1<i\/(e.1=i/\e.2.2=0)\/(e.1=i/\e.2.2=1/\∃p',p'<p+1/\e.2.1=(aG d (r2.getD p' ([],())).1).toNat/\0<=aG d (r2.getD p' ([],())).1)))->
     (e∈cO d/\(e.1<i\/(e.1=i/\e.2.2=0)\/(e.1=i/\e.2.2=1/\∃p',p'<p/\e.2.1=(aG d (r2.getD p' ([],())).1).toNat/\0<=aG d (r2.getD p' ([],())).1)))\/(e=(i,(aG d (r2.getD p ([],())).1).toNat,1)/\0<=aG d (r2.getD p ([],())).1):=by
     rintro⟨a,b,c⟩ ⟨he,h|h|⟨h,h5,p',h6,h7,h8⟩⟩
     .exact .inl ⟨he,.inl h⟩
     .exact .inl ⟨he,.inr (.inl h)⟩
     .by_cases hpp:p'=p
      .subst hpp;have h:a=i:=h;have h5:c=1:=h5;have h7:b=(aG d (r2.getD p' ([],())).1).toNat:=h7;exact .inr ⟨by rw[h,h5,h7],h8⟩
      .exact .inl ⟨he,.inr (.inr ⟨h,h5,p',by omega,h7,h8⟩)⟩
    refine bY (by omega) ⟨⟨by omega,by omega⟩,trivial,af (λh=>?_) λh=>⟨rfl,ake _ (hJ.weaken (by omega) λe he=>?_)⟩⟩
    .have h:0<=aG d (r2.getD p ([],())).1:=iK h;have hlt:=GR h;have he:=aff hi hr2 hp h;have hg:=hJ.grow 1000000 hB (aG d (r2.getD p ([],())).1).toNat (by omega);have hu:=hJ.up (aG d (r2.getD p ([],())).1).toNat (by omega);have hz:=(h0 (aG d (r2.getD p ([],())).1).toNat (by omega)).1;have hw:IntKind.i64.wrap (Sp.lv cur (aG d (r2.getD p ([],())).1).toNat+1)=Sp.lv cur (aG d (r2.getD p ([],())).1).toNat+1:=eu _ (by omega);have e2:(cur.getD (aG d (r2.getD p ([],())).1).toNat (0,())).1=Sp.lv cur (aG d (r2.getD p ([],())).1).toNat:=rfl;rw[e2,hw];refine⟨⟨h,by omega⟩,by omega,⟨by omega,by omega⟩,by omega,af (λhc=>⟨⟨h,by omega⟩,by omega,⟨by omega,by omega⟩,by omega,rfl,ake _ ?_⟩) λhc=>⟨rfl,ake _ ?_⟩⟩
     .have hc:Sp.lv cur i<Sp.lv cur (aG d (r2.getD p ([],())).1).toNat+1:=iK hc;have:=hJ.set he (by show _<_+((1:Nat):Int);omega);exact this.weaken (by show 1000*(i:Int)+p+((1:Nat):Int)<=_;omega) λe he=>(hP e he).imp_right λh=>h.1
     .have hc:¬Sp.lv cur i<Sp.lv cur (aG d (r2.getD p ([],())).1).toNat+1:=iW hc;have:=hJ.still he (by show _+((1:Nat):Int)<=_;omega);exact this.weaken (by omega) λe he=>(hP e he).imp_right λh=>h.1
    .have h:¬0<=aG d (r2.getD p ([],())).1:=iW h;rcases hP e he with h'|h'
     .exact h'
     .exact(h h'.2).elim
   .dsimp only;refine bV (by omega) ⟨rfl,next _ (hJ.weaken (by omega) λe he=>⟨he.1,?_⟩)⟩;obtain⟨a,b,c⟩:=e;obtain⟨he,h⟩:=he;have h:a<i+1:=h;rcases atm a i with h'|h'
    .exact .inl h'
    .have:a=i:=by omega
     subst this;obtain⟨_,_,hc⟩:=jv d _ he;have hc:c<=1:=hc;rcases aum c with hc0|hc0
     .exact .inr (.inl ⟨rfl,hc0⟩)
     .have hc1:c=1:=by omega
      subst hc1;obtain⟨p,q1,q2,q3⟩:=La hr2 he rfl;exact .inr (.inr ⟨rfl,rfl,p,q1,q3,q2⟩)
 .dsimp only;refine bV (by omega) ?_;exact hJ.raised (by omega) (λe he=>⟨he,(jv d e he).1⟩) λi hi=>(h0 i hi).1
end Go.Proofs.Tryz
