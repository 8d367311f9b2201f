import Derived.Test.YtkogcnaellmcdaaGreatV1
import Derived.Test.YtkogcnaellmcdaaGreatV2
import Derived.Test.YtkogcnaellmcdaaGreatV3
import Derived.Test.YtkogcnaellmcdaaGreatV4
import Derived.Test.YtkogcnaellmcdaaGreatV5
import Derived.Test.YtkogcnaellmcdaaGreatV6
import Derived.Test.YtkogcnaellmcdaaGreatSp
import Derived.Test.YtkogcnaellmcdaaGreatFwC
import Derived.Test.YtkogcnaellmcdaaGreatL1
namespace Go.Proofs.Tryz
open Go Go.Fw Go.IntWalk Sp
theorem iU:OK gW.e:=by
 refine aV [] ⟨⟩ H0 λx a b=>show gW.goal (adD x a b) (x,a,b,())fromλhin hp=>?_
 dsimp only[gW]at hp ⊢;refine af (λh=>?_) λh=>?_
 .have h:=iH h;show(decide (x<=b),())=(decide (a<=x)&&decide (x<=b),());rw[apE (show a<=x from h)];rfl
 .have h:=iV h;show(false,())=(decide (a<=x)&&decide (x<=b),());rw[apK (show ¬a<=x from h)];rfl
theorem kW:OK iR.e:=by
 refine aV [] ⟨⟩ H0 λx a b=>show iR.goal (abn x a b) (x,a,b,())fromλhin hp=>?_
 dsimp only[iR]at hp ⊢;refine af (λh=>?_) λh=>?_
 .show(decide (x<=b),())=(decide (a<=x)&&decide (x<=b),());rw[h];rfl
 .show(false,())=(decide (a<=x)&&decide (x<=b),());rw[h];rfl
theorem GY{s:List UInt8}{n:Nat}(hlt:n<s.length)(hl:Sp.lower s=true):97<=(s.getD n 0).toNat/\(s.getD n 0).toNat<=122:=by have:=apL.1 hl _ (getD_mem (d:=0) hlt);simpa using this
theorem JA:OK tY.e:=by
 refine aV [gW.e] ⟨iU,⟨⟩⟩ abo λs most=>show tY.goal (YP s most) (s,most,())fromλhin hp=>?_
 dsimp only[tY]at hp ⊢;have hlen:s.length<=maxLen:=hin.1;rw[maxLen_eq]at hlen;refine⟨λy=>∃n:Nat,y.1.1=n/\n<=s.length/\Sp.lower (s.take n)=true,λy=>((s.length:Int)-y.1.1).toNat,⟨0,rfl,by omega,rfl⟩,?_⟩;rintro⟨⟨_,⟨⟩⟩,⟨⟩⟩ ⟨n,rfl,hn,hJ⟩;dsimp only;refine af (λh=>?_) λh=>?_<;>simp only[apF,apR]at h
 .have hlt:n<s.length:=by omega
  rw[fH _ (by omega),apG];refine⟨⟨by omega,by omega⟩,af (λh2=>?_) λh2=>⟨⟨by omega,by omega⟩,af (λh3=>?_) λh3=>?_⟩⟩<;>simp only[apF,apR]at*
  .cases hl:Sp.lower s with
   |false=>rfl
   |true=>have:=GY hlt hl;omega
  .cases hl:Sp.lower s with
   |false=>rfl
   |true=>have:=GY hlt hl;omega
  .refine⟨rfl,⟨n+1,by simp,by omega,?_⟩,by dsimp only;omega⟩;rw[Sp.take_succ' s n 0 hlt];unfold Sp.lower at hJ ⊢;rw[List.all_append,hJ];simp only[aqf,arB,aqX,aq6,apt,apF];omega
 .have hge:n=s.length:=by omega
  rw[hge,apZ]at hJ;rw[hJ];exact⟨trivial,rfl⟩
theorem uP:OK jw.e:=by
 refine aV [tY.e] ⟨JA,⟨⟩⟩ H0 λs=>show jw.goal (LJ s) (s,())fromλhin hp=>?_
 dsimp only[jw]at hp ⊢;exact⟨trivial,rfl⟩
theorem D8:OK mQ.e:=by
 refine aV [jw.e,gW.e] ⟨uP,iU,⟨⟩⟩ H0 λk n s=>show mQ.goal (NI k n s) ((k,n,s,()),())fromλhin hp=>?_
 dsimp only[mQ]at hp ⊢;refine af (λh=>?_) λh=>af (λh2=>⟨trivial,af (λh3=>?_) λh3=>?_⟩) λh2=>af (λh3=>⟨trivial,af (λh4=>?_) λh4=>?_⟩) λh3=>?_
 .have e:k=0:=by simpa using h
  subst e;exact congrArg (·,()) (apO.2 (by simp[gq]))
 .have e:k=1:=by simpa using h2
  subst e;exact congrArg (·,()) (apO.2 (by simp only[apt,apF]at h3;simp[gq,h3]))
 .have e:k=1:=by simpa using h2
  subst e;exact congrArg (·,()) (apO.2 (by simp only[gq,h3];simp))
 .have e:k=2:=by simpa using h3
  subst e;exact congrArg (·,()) (apO.2 (by simp[gq,h4]))
 .have e:k=2:=by simpa using h3
  subst e;exact congrArg (·,()) (apO.2 (by simp[gq,h4]))
 .have e1:k≠0:=by simpa using h
  have e2:k≠1:=by simpa using h2
  have e3:k≠2:=by simpa using h3
  exact congrArg (·,()) (apO.2 (by simp[gq,e1,e2,e3]))
theorem AA:OK kz.e:=by
 refine aV [tY.e] ⟨JA,⟨⟩⟩ H0 λs=>show kz.goal (IZ s) (s,())fromλhin hp=>?_
 dsimp only[kz]at hp ⊢;exact⟨trivial,rfl⟩
theorem Ud:OK ve.e:=by
 refine aV [] ⟨⟩ WA λs name=>show ve.goal (Ue s name) (s,name,())fromλhin hp=>?_
 dsimp only[ve]at hp ⊢;have hlen:s.length<=maxLen:=hin.1.1;rw[maxLen_eq]at hlen;refine dP s.length hlen (λn=>∀i,i<n->(s.getD i ([],0,())).1≠name) (λi hi=>by omega) (λI μ n hn hJ next=>?_) λI μ hJ=>?_
 .dsimp only;refine cO (by omega) ⟨⟨by omega,by omega⟩,af (λh=>⟨⟨by omega,by omega⟩,?_⟩) λh=>⟨rfl,next λi hi=>?_⟩⟩
  .exact congrArg (·,()) (JB s n hn hJ (by simpa only[apG,apy]using h)).symm
  .rcases apQ i n with h'|h'
   .exact hJ i h'
   .have:i=n:=by omega
    subst this;have h2:((s.getD i ([],0,())).1==name)=false:=h;exactλe=>by rw[e]at h2;simp at h2
 .dsimp only;exact bY (by omega) (congrArg (·,()) (Kt s hJ).symm)
theorem Df:OK lF.e:=by
 refine aV [gW.e,kz.e] ⟨iU,AA,⟨⟩⟩ NJ λs=>show lF.goal (LK s) (s,())fromλhin hp=>?_
 dsimp only[lF]at hp ⊢;have hlen:s.length<=maxLen:=hin.1.1;rw[maxLen_eq]at hlen;refine dP s.length hlen (λn=>∀i,i<n->gy s i=true) (λi hi=>by omega) (λI μ n hn hJ next=>?_) λI μ hJ=>?_
 .dsimp only;have no:gy s n=false->(false,())=(bP s,()):=λh=>by rw[Vs hn h]
  refine cO (by omega) ⟨⟨by omega,by omega⟩,trivial,af (λh2=>no ?_) λh2=>⟨⟨by omega,by omega⟩,trivial,af (λh3=>no ?_) λh3=>af (λh4=>?_) λh4=>⟨rfl,next (bZ hJ ?_)⟩⟩⟩
  .have h2:fA (Sp.fieldAt s n).1=false:=gY h2;unfold gy;rw[h2];rfl
  .have h2:fA (Sp.fieldAt s n).1=true:=dO h2;have h3:(decide (1<=(Sp.fieldAt s n).2.1)&&decide ((Sp.fieldAt s n).2.1<=2))=false:=gY h3;unfold gy;rw[h2,h3];rfl
  .have h2:fA (Sp.fieldAt s n).1=true:=dO h2;have h3:(decide (1<=(Sp.fieldAt s n).2.1)&&decide ((Sp.fieldAt s n).2.1<=2))=true:=dO h3;have h4:0<n:=by have:=iH h4;omega
   rw[qY h4 (by omega)];refine⟨⟨by omega,by omega⟩,⟨by omega,by omega⟩,af (λh5=>no ?_) λh5=>⟨rfl,next (bZ hJ ?_)⟩⟩
   .have h5:Op.bytesLess (Sp.fieldAt s (n-1)).1 (Sp.fieldAt s n).1=false:=gY h5;unfold gy;rw[h2,h3,h5,apE h4];rfl
   .have h5:Op.bytesLess (Sp.fieldAt s (n-1)).1 (Sp.fieldAt s n).1=true:=dO h5;unfold gy;rw[h2,h3,h5,apE h4];rfl
  .have h2:fA (Sp.fieldAt s n).1=true:=dO h2;have h3:(decide (1<=(Sp.fieldAt s n).2.1)&&decide ((Sp.fieldAt s n).2.1<=2))=true:=dO h3;have h4:¬0<n:=by have:=iV h4;omega
   unfold gy;rw[h2,h3,apK h4];rfl
 .dsimp only;refine bY (by omega) (congrArg (·,()) ?_);unfold bP;rw[kG hJ];rfl
theorem LM:OK oW.e:=by
 refine aV [ve.e,mQ.e] ⟨Ud,D8,⟨⟩⟩ H0 λfs s k n w=>show oW.goal (LQ fs s k n w) (fs,s,(k,n,w,()),())fromλhin hp=>?_
 dsimp only[oW]at hp ⊢;refine⟨trivial,af (λh=>af (λh2=>⟨trivial,?_⟩) λh2=>?_) λh=>?_⟩
 .exact congrArg (·,()) (apO.2 (by simp only[bne_iff_ne,ne_eq]at h2;simp[fU,h,h2]))
 .exact congrArg (·,()) (apO.2 (by simp at h2;simp[fU,h2]))
 .exact congrArg (·,()) (apO.2 (by simp[fU,h]))
theorem Pn:OK qZ.e:=by
 refine aV [gW.e,lF.e,oW.e] ⟨iU,Df,LM,⟨⟩⟩ Q9 λfs f0 f1 f2 f3 f4=>show qZ.goal (Po fs f0 f1 f2 f3 f4) (fs,(f0,f1,f2,f3,f4,()),())fromλhin hp=>?_
 dsimp only[qZ]at hp ⊢;have hlen:f4.length<=maxLen:=hin.2.1.2.2.2.2.1.1;rw[maxLen_eq]at hlen;refine dP f4.length hlen (λn=>∀i,i<n->iD fs f4 i=true) (λi hi=>by omega) (λI μ n hn hJ next=>?_) λI μ hJ=>?_
 .dsimp only;have no:iD fs f4 n=false->(false,())=(dJ fs (f0,f1,f2,f3,f4,()),()):=λh=>by rw[ac1 (f:=(f0,f1,f2,f3,f4,())) hn h]
  refine cO (by omega) ⟨⟨by omega,by omega⟩,⟨by omega,by omega⟩,trivial,af (λh2=>no ?_) λh2=>af (λh4=>?_) λh4=>⟨rfl,next (bZ hJ ?_)⟩⟩
  .have h2:fU fs (bU f4 n).1 (bU f4 n).2.1 (bU f4 n).2.2.1 (bU f4 n).2.2.2.1=false:=gY h2;unfold iD;rw[h2];rfl
  .have h2:fU fs (bU f4 n).1 (bU f4 n).2.1 (bU f4 n).2.2.1 (bU f4 n).2.2.2.1=true:=dO h2;have h4:0<n:=by have:=iH h4;omega
   rw[qY h4 (by omega)];refine⟨⟨by omega,by omega⟩,⟨by omega,by omega⟩,af (λh5=>no ?_) λh5=>⟨rfl,next (bZ hJ ?_)⟩⟩
   .have h5:Op.bytesLess (bU f4 (n-1)).1 (bU f4 n).1=false:=gY h5;unfold iD;rw[h2,h5,apE h4];rfl
   .have h5:Op.bytesLess (bU f4 (n-1)).1 (bU f4 n).1=true:=dO h5;unfold iD;rw[h2,h5,apE h4];rfl
  .have h2:fU fs (bU f4 n).1 (bU f4 n).2.1 (bU f4 n).2.2.1 (bU f4 n).2.2.2.1=true:=dO h2;have h4:¬0<n:=by have:=iV h4;omega
   unfold iD;rw[h2,apK h4];rfl
 .dsimp only;have ha:nC fs f4=true:=kG hJ;refine bY (by omega) ⟨trivial,af (λh1=>⟨trivial,af (λh2=>⟨trivial,af (λh3=>⟨trivial,?_⟩) λh3=>?_⟩) λh2=>?_⟩) λh1=>?_⟩
  .refine congrArg (·,()) ?_;unfold dJ;rw[ha,h1,h2,h3];rfl
  .refine congrArg (·,()) ?_;unfold dJ;rw[ha,h1,h2,h3];rfl
  .refine congrArg (·,()) ?_;unfold dJ;rw[ha,h1,h2];rfl
  .refine congrArg (·,()) ?_;unfold dJ;rw[ha,h1];rfl
theorem D9:OK mW.e:=by
 refine aV [gW.e,lF.e,qZ.e] ⟨iU,Df,Pn,⟨⟩⟩ Pq λs0 s1 s2=>show mW.goal (NK s0 s1 s2) ((s0,s1,s2,()),())fromλhin hp=>?_
 dsimp only[mW]at hp ⊢;have hlen:s1.length<=maxLen:=hin.1.2.1.1;rw[maxLen_eq]at hlen;refine dP s1.length hlen (λn=>∀i,i<n->iQ (s0,s1,s2,()) i=true) (λi hi=>by omega) (λI μ n hn hJ next=>?_) λI μ hJ=>?_
 .dsimp only;have no:iQ (s0,s1,s2,()) n=false->(false,())=(aW (s0,s1,s2,()),()):=λh=>by rw[YQ (s:=(s0,s1,s2,())) hn h]
  refine cO (by omega) ⟨⟨by omega,by omega⟩,trivial,af (λh2=>no ?_) λh2=>⟨⟨by omega,by omega⟩,af (λh3=>no ?_) λh3=>af (λh4=>?_) λh4=>⟨rfl,next (bZ hJ ?_)⟩⟩⟩
  .have h2:dJ s0 (Sp.fileAt s1 n)=false:=gY h2;show(dJ s0 (Sp.fileAt s1 n)&&_&&_)=false;rw[h2];rfl
  .have h2:dJ s0 (Sp.fileAt s1 n)=true:=dO h2;have h3:¬(Sp.fileAt s1 n).1<s2:=by have h3:(Sp.fileAt s1 n).1>=s2:=iH h3;omega
   show(dJ s0 (Sp.fileAt s1 n)&&decide ((Sp.fileAt s1 n).1<s2)&&_)=false;rw[h2,apK h3];rfl
  .have h2:dJ s0 (Sp.fileAt s1 n)=true:=dO h2;have h3:(Sp.fileAt s1 n).1<s2:=by have h3:¬(Sp.fileAt s1 n).1>=s2:=iV h3;omega
   have h4:0<n:=by have:=iH h4;omega
   rw[qY h4 (by omega)];refine⟨⟨by omega,by omega⟩,⟨by omega,by omega⟩,af (λh5=>no ?_) λh5=>⟨rfl,next (bZ hJ ?_)⟩⟩
   .have h5:¬(Sp.fileAt s1 (n-1)).1<(Sp.fileAt s1 n).1:=by have h5:(Sp.fileAt s1 (n-1)).1>=(Sp.fileAt s1 n).1:=iH h5;omega
    show(dJ s0 (Sp.fileAt s1 n)&&decide ((Sp.fileAt s1 n).1<s2)&&!(decide (0<n)&&!decide ((Sp.fileAt s1 (n-1)).1<(Sp.fileAt s1 n).1)))=false;rw[h2,apE h3,apE h4,apK h5];rfl
   .have h5:(Sp.fileAt s1 (n-1)).1<(Sp.fileAt s1 n).1:=by have h5:¬(Sp.fileAt s1 (n-1)).1>=(Sp.fileAt s1 n).1:=iV h5;omega
    show(dJ s0 (Sp.fileAt s1 n)&&decide ((Sp.fileAt s1 n).1<s2)&&!(decide (0<n)&&!decide ((Sp.fileAt s1 (n-1)).1<(Sp.fileAt s1 n).1)))=true;rw[h2,apE h3,apE h4,apE h5];rfl
  .have h2:dJ s0 (Sp.fileAt s1 n)=true:=dO h2;have h3:(Sp.fileAt s1 n).1<s2:=by have h3:¬(Sp.fileAt s1 n).1>=s2:=iV h3;omega
   have h4:¬0<n:=by have:=iV h4;omega
   show(dJ s0 (Sp.fileAt s1 n)&&decide ((Sp.fileAt s1 n).1<s2)&&!(decide (0<n)&&!decide ((Sp.fileAt s1 (n-1)).1<(Sp.fileAt s1 n).1)))=true;rw[h2,apE h3,apK h4];rfl
 .dsimp only;have ha:eX s1.length (iQ (s0,s1,s2,()))=true:=kG hJ;refine bY (by omega) ⟨trivial,af (λh1=>af (λh2=>⟨trivial,?_⟩) λh2=>?_) λh1=>?_⟩
  .refine congrArg (·,()) ?_;show _=(eX s1.length (iQ (s0,s1,s2,()))&&bP s0&&decide ((s1.length:Int)<=12)&&(decide (1<=s2)&&decide (s2<=61)));rw[ha,h1,h2];rfl
  .refine congrArg (·,()) ?_;show _=(eX s1.length (iQ (s0,s1,s2,()))&&bP s0&&decide ((s1.length:Int)<=12)&&(decide (1<=s2)&&decide (s2<=61)));rw[ha,h1,h2];rfl
  .refine congrArg (·,()) ?_;show _=(eX s1.length (iQ (s0,s1,s2,()))&&bP s0&&decide ((s1.length:Int)<=12)&&(decide (1<=s2)&&decide (s2<=61)));rw[ha,h1];rfl
theorem YR:OK zx.e:=by
 refine aV [] ⟨⟩ abp λf0 f1 f2 f3 f4=>show zx.goal (YS f0 f1 f2 f3 f4) ((f0,f1,f2,f3,f4,()),())fromλhin hp=>?_
 dsimp only[zx]at hp ⊢;have hp:f4.length<=1000:=hp;exact⟨by rw[cZ];omega,rfl⟩
theorem F6:OK kZ.e:=by
 refine aV [] ⟨⟩ GZ λl=>show kZ.goal (F7 l) (l,())fromλhin hp=>?_
 dsimp only[kZ]at hp ⊢;intro g hg;have hp:l.length<=1000:=hp;refine af (λh=>?_) λh=>⟨by rw[cZ];omega,rfl⟩;have:=ap1.1 (hg h);rw[this]
theorem G5:OK lH.e:=by
 refine aV [] ⟨⟩ Iw λl=>show lH.goal (G6 l) (l,())fromλhin hp=>?_
 dsimp only[lH]at hp ⊢;intro g hg;have hp:l.length<=1000:=hp;refine af (λh=>?_) λh=>⟨by rw[cZ];omega,rfl⟩;have:=ap1.1 (hg h);rw[this]
theorem WB:OK xW.e:=by
 refine aV [lH.e] ⟨G5,⟨⟩⟩ YT λf0 f1 f2 f3 f4=>show xW.goal (WC f0 f1 f2 f3 f4) ((f0,f1,f2,f3,f4,()),())fromλhin hp=>?_
 dsimp only[xW]at hp ⊢;exact⟨hp,rfl⟩
theorem EN:OK qV.e:=by
 refine aV [iR.e] ⟨kW,⟨⟩⟩ H0 λn=>show qV.goal (abq n) (n,())fromλhin hp=>?_
 dsimp only[qV]at hp ⊢;exact⟨trivial,rfl⟩
theorem WE:OK xX.e:=by
 refine aV [] ⟨⟩ YU λs0 s1 s2 id=>show xX.goal (WG s0 s1 s2 id) ((s0,s1,s2,()),id,())fromλhin hp=>?_
 dsimp only[xX]at hp ⊢;have hlen:s1.length<=maxLen:=hin.1.2.1.1;rw[maxLen_eq]at hlen;refine dP s1.length hlen (λn=>∀i,i<n->(Sp.fileAt s1 i).1≠id) (λi hi=>by omega) (λI μ n hn hJ next=>?_) λI μ hJ=>?_
 .dsimp only;refine cO (by omega) ⟨⟨by omega,by omega⟩,af (λh=>?_) λh=>⟨rfl,next λi hi=>?_⟩⟩
  .have h:(Sp.fileAt s1 n).1=id:=iH h;exact congrArg (·,()) (Sp.Iy hn hJ h).symm
  .rcases apQ i n with h'|h'
   .exact hJ i h'
   .have:i=n:=by omega
    subst this;have h:¬(Sp.fileAt s1 i).1=id:=iV h;exact h
 .dsimp only;exact bY (by omega) (congrArg (·,()) (YV hJ).symm)
theorem Fb{s:List aA}(p:aA->Bool){n:Nat}(hn:n<s.length):(s.take (n+1)).filter p=(s.take n).filter p++(if p (Sp.fileAt s n)=true then[Sp.fileAt s n]else[]):=by
 rw[Sp.take_succ' s n (0,0,false,0,[],()) hn,aqL];congr 1;show List.filter _ [Sp.fileAt s n]=_;by_cases h:p (Sp.fileAt s n)=true
 .rw[List.filter_cons_of_pos h,if_pos h];rfl
 .rw[List.filter_cons_of_neg h,if_neg h];rfl
theorem JC(s:List aA)(p:aA->Bool)(n:Nat):((s.take n).filter p).length<=n:=by have:=aqd p (s.take n);rw[apM]at this;omega
def gU(fs:List aA)(n:Nat):List aA:=(fs.take n).map (Sp.unlink fs)++fs.drop n
theorem zi(fs:List aA){n:Nat}(hn:n<=fs.length):(gU fs n).length=fs.length:=by unfold gU;rw[apT,apD,apM,aqm];omega
theorem ae8(fs:List aA)(n:Nat):(gU fs n).map (·.1)=fs.map (·.1):=by unfold gU;rw[aqb,aqE];have:((·.1) ∘ Sp.unlink fs:aA->Int)=(·.1):=rfl;rw[this,← aqb,aq7]
theorem Ku(fs:List aA){n:Nat}(hn:n<fs.length):(gU fs n).getD n (0,0,false,0,[],())=Sp.fileAt fs n:=by unfold gU Sp.fileAt;rw[apI,aqY (by simp;omega),apD,apM,aqJ (by omega),aq8,aql,aqR,← apI]
theorem O5(fs:List aA){n:Nat}(hn:n<fs.length):gU fs (n+1)=(gU fs n).set n (Sp.unlink fs (Sp.fileAt fs n)):=by unfold gU;rw[drop_cons fs n (0,0,false,0,[],()) hn,Sp.take_succ' fs n (0,0,false,0,[],()) hn,aqb,aqP _ _ (by simp;omega),apD,apM,aqJ (by omega),aq8,arp,aqp];rfl
theorem set_self{fs:List aA}{n:Nat}(hn:n<fs.length):fs.set n (fs.getD n (0,0,false,0,[],()))=fs:=by
 refine List.ext_getElem (by simp) λi h1 h2=>?_;rw[List.getElem_set];split
 .next e=>subst e;rw[apI,apw hn];rfl
 .rfl
theorem Cm(fs:List aA){n:Nat}(hn:n<fs.length):
 (Sp.place (gU fs n) (Sp.fileAt fs n).2.2.2.1<0->gU fs (n+1)=(gU fs n).set n ((Sp.fileAt fs n).1,(Sp.fileAt fs n).2.1,(Sp.fileAt fs n).2.2.1,0,(Sp.fileAt fs n).2.2.2.2.1,()))/\
 (¬Sp.place (gU fs n) (Sp.fileAt fs n).2.2.2.1<0->gU fs (n+1)=gU fs n):=by
 rw[aiR _ (ae8 fs n)];refine⟨λh=>?_,λh=>?_⟩
 .rw[O5 fs hn];unfold Sp.unlink;rw[apE h];rfl
 .rw[O5 fs hn];have e:Sp.unlink fs (Sp.fileAt fs n)=(gU fs n).getD n (0,0,false,0,[],()):=by rw[Ku fs hn];unfold Sp.unlink;rw[apK h];rfl
  rw[e];exact set_self (by rw[zi fs (by omega)];exact hn)
theorem Rf(fs:List aA):gU fs fs.length=fs.map (Sp.unlink fs):=by unfold gU;rw[apZ,List.drop_length,aqe]
def names:List (Int×Int×Sp.Bytes):=[(2,0,[105,110,107]),(2,0,[115,101,97])]
theorem ajJ:bP Sp.usual=true:=by kernel_rfl
structure NM(k:Int)(s:cu):Prop where
 sch:s.1=Sp.usual
 ok:aW s=true
 nx:s.2.2.1<=s.2.1.length+k
 small:iy s
theorem NM.more{k k':Int}{s:cu}(h:NM k s)(hk:k<=k'):NM k' s:=⟨h.sch,h.ok,by have:=h.nx;omega,h.small⟩
theorem NM.grows{s:cu}(h:NM 2 s)(hl:s.2.1.length<12){f:aA}(ho:0<=f.2.1/\f.2.1<=2)(hk:0<=f.2.2.2.1/\f.2.2.2.1<=6)(ha:nC Sp.usual f.2.2.2.2.1=true):(wB s f).1.2.1.length=s.2.1.length+1:=by
 have hnx:=(Fe.1 h.ok).2.2.2;have h2:=h.nx;have hf:dJ s.1 (s.2.2.1,f.2)=true:=by rw[h.sch];show(nC Sp.usual f.2.2.2.2.1&&bP Sp.usual&&(decide (1<=s.2.2.1)&&decide (s.2.2.1<=60))&&(decide (0<=f.2.1)&&decide (f.2.1<=2))&&(decide (0<=f.2.2.2.1)&&decide (f.2.2.2.1<=60)))=true;rw[ha,ajJ,apE hnx.1,apE (by omega),apE ho.1,apE ho.2,apE hk.1,apE (by omega)];rfl
 rcases Iz s f with⟨_,e⟩|⟨_,_,_,e⟩
 .exact(e ⟨h.ok,hl,hf⟩).elim
 .rw[e];show(s.2.1++[_]).length=_;rw[apT];rfl
theorem NM.one{s:cu}(h:NM 1 s){f:aA}(ho:0<=f.2.1/\f.2.1<=2)(hk:0<=f.2.2.2.1/\f.2.2.2.1<=6)(ha:nC Sp.usual f.2.2.2.2.1=true):0<(wB s f).1.2.1.length:=by
 by_cases hl:s.2.1.length<12
 .rw[(h.more (show(1:Int)<=2 by decide)).grows hl ho hk ha];omega
 .rcases Iz s f with⟨e,_⟩|⟨_,_,_,e⟩
  .rw[e];show 0<s.2.1.length;omega
  .rw[e];show 0<(s.2.1++[_]).length;rw[apT,List.length_singleton];omega
theorem uQ:OK jy.e:=by
 refine aV [iR.e] ⟨kW,⟨⟩⟩ NP λs=>show jy.goal (LU s) (s,())fromλhin hp=>?_
 dsimp only[jy]at hp ⊢;have hlen:s.length<=maxLen:=hin.1;rw[maxLen_eq]at hlen;refine⟨λy=>∃n:Nat,y.1.1=n/\n<=s.length/\Sp.lower (s.take n)=true,λy=>((s.length:Int)-y.1.1).toNat,⟨0,rfl,by omega,rfl⟩,?_⟩;rintro⟨⟨_,⟨⟩⟩,⟨⟩⟩ ⟨n,rfl,hn,hJ⟩;dsimp only;refine af (λh=>?_) λh=>?_<;>simp only[apF,apR]at h
 .have hlt:n<s.length:=by omega
  rw[fH _ (by omega),apG];refine⟨⟨by omega,by omega⟩,af (λh2=>?_) λh2=>⟨⟨by omega,by omega⟩,af (λh3=>?_) λh3=>?_⟩⟩<;>simp only[apF,apR]at*
  .unfold dU;cases hl:Sp.lower s with
   |false=>rfl
   |true=>have:=GY hlt hl;omega
  .unfold dU;cases hl:Sp.lower s with
   |false=>rfl
   |true=>have:=GY hlt hl;omega
  .refine⟨rfl,⟨n+1,by simp,by omega,?_⟩,by dsimp only;omega⟩;rw[Sp.take_succ' s n 0 hlt];unfold Sp.lower at hJ ⊢;rw[List.all_append,hJ];simp only[aqf,arB,aqX,aq6,apt,apF];omega
 .have hge:n=s.length:=by omega
  rw[hge,apZ]at hJ;unfold dU;rw[hJ];exact⟨trivial,rfl⟩
theorem Ea:OK mV.e:=by
 refine aV [jy.e,iR.e] ⟨uQ,kW,⟨⟩⟩ H0 λk n s=>show mV.goal (NQ k n s) ((k,n,s,()),())fromλhin hp=>?_
 dsimp only[mV]at hp ⊢;refine af (λh=>?_) λh=>af (λh2=>⟨trivial,af (λh3=>?_) λh3=>?_⟩) λh2=>af (λh3=>⟨trivial,af (λh4=>?_) λh4=>?_⟩) λh3=>?_
 .have e:k=0:=by simpa using h
  subst e;exact congrArg (·,()) (apO.2 (by simp[gq]))
 .have e:k=1:=by simpa using h2
  subst e;exact congrArg (·,()) (apO.2 (by simp only[apt,apF]at h3;simp[gq,h3]))
 .have e:k=1:=by simpa using h2
  subst e;exact congrArg (·,()) (apO.2 (by simp only[gq,h3];simp))
 .have e:k=2:=by simpa using h3
  subst e;exact congrArg (·,()) (apO.2 (by simp[gq,h4]))
 .have e:k=2:=by simpa using h3
  subst e;exact congrArg (·,()) (apO.2 (by simp[gq,h4]))
 .have e1:k≠0:=by simpa using h
  have e2:k≠1:=by simpa using h2
  have e3:k≠2:=by simpa using h3
  exact congrArg (·,()) (apO.2 (by simp[gq,e1,e2,e3]))
theorem AB:OK kC.e:=by
 refine aV [] ⟨⟩ H0 λs=>show kC.goal (I4 s) (s,())fromλhin hp=>?_
 dsimp only[kC]at hp ⊢;refine af (λh=>?_) λh=>?_
 .have h:(s.length:Int)=1:=iH h
  match s,h with
  |[c],_=>
   refine⟨⟨by decide,(by show(0:Int)<1;decide)⟩,af (λh2=>⟨⟨by decide,(by show(0:Int)<1;decide)⟩,?_⟩) λh2=>?_⟩
   .have h2:(c.toNat:Int)>=97:=iH h2;refine congrArg (·,()) (apO.2 ?_);simp only[fA,Sp.lower,aqf,arB,aqX,apt,apF,apH,apV];constructor
    .intro h3;have h3:(c.toNat:Int)<=122:=h3;exact⟨⟨⟨by omega,by omega⟩,by decide⟩,by decide⟩
    .rintro⟨⟨⟨_,h4⟩,_⟩,_⟩;show(c.toNat:Int)<=122;omega
   .have h2:¬(c.toNat:Int)>=97:=iV h2;refine congrArg (·,()) (apO.2 ?_);simp only[fA,Sp.lower,aqf,arB,aqX,apt,apF];constructor
    .intro h3;cases h3
    .rintro⟨⟨⟨h4,_⟩,_⟩,_⟩;omega
 .have h:¬(s.length:Int)=1:=iV h;refine congrArg (·,()) (apO.2 ?_);simp only[fA,apt,apF];constructor
  .intro h3;cases h3
  .rintro⟨⟨_,h4⟩,h5⟩;omega
theorem Uf:OK vg.e:=by
 refine aV [] ⟨⟩ WH λs name=>show vg.goal (Ug s name) (s,name,())fromλhin hp=>?_
 dsimp only[vg]at hp ⊢;have hlen:s.length<=maxLen:=hin.1.1;rw[maxLen_eq]at hlen;refine dP s.length hlen (λn=>∀i,i<n->(s.getD i ([],0,())).1≠name) (λi hi=>by omega) (λI μ n hn hJ next=>?_) λI μ hJ=>?_
 .dsimp only;refine cO (by omega) ⟨⟨by omega,by omega⟩,af (λh=>?_) λh=>⟨rfl,next λi hi=>?_⟩⟩
  .exact congrArg (·,()) (JB s n hn hJ (by simpa only[apG,apy]using h)).symm
  .rcases apQ i n with h'|h'
   .exact hJ i h'
   .have:i=n:=by omega
    subst this;have h2:((s.getD i ([],0,())).1==name)=false:=h;exactλe=>by rw[e]at h2;simp at h2
 .dsimp only;exact bY (by omega) (congrArg (·,()) (Kt s hJ).symm)
theorem aiS{k:Int}(h:(k !=1)=false\/(k !=2)=false):(decide (1<=k)&&decide (k<=2))=true:=by have:k=1\/k=2:=h.imp (by simp) (by simp);rcases this with h|h<;>subst h<;>rfl
theorem ak5{k:Int}(h1:(k !=1)=true)(h2:(k !=2)=true):(decide (1<=k)&&decide (k<=2))=false:=by
 have h1:k≠1:=by simpa using h1
 have h2:k≠2:=by simpa using h2
 rw[Bool.and_eq_false_iff];by_cases h:k<1
 .left;exact apK (by omega)
 .right;exact apK (by omega)
theorem Dh:OK lG.e:=by
 refine aV [kC.e] ⟨AB,⟨⟩⟩ NR λs=>show lG.goal (LV s) (s,())fromλhin hp=>?_
 dsimp only[lG]at hp ⊢;have hlen:s.length<=maxLen:=hin.1.1;rw[maxLen_eq]at hlen;refine dP s.length hlen (λn=>∀i,i<n->gy s i=true) (λi hi=>by omega) (λI μ n hn hJ next=>?_) λI μ hJ=>?_
 .dsimp only;have no:gy s n=false->(false,())=(bP s,()):=λh=>by rw[Vs hn h]
  have rest:fA (Sp.fieldAt s n).1=true->(decide (1<=(Sp.fieldAt s n).2.1)&&decide ((Sp.fieldAt s n).2.1<=2))=true->
   bif decide ((n:Int)>0)then
    ((0:Int)<=IntKind.i64.wrap ((n:Int)-1)/\IntKind.i64.wrap ((n:Int)-1)<(s.length:Int))/\
      bif !Op.bytesLess (s.getD (IntKind.i64.wrap ((n:Int)-1)).toNat ([],0,())).fst (s.getD (Int.toNat (n:Int)) ([],0,())).fst then(false,())=(bP s,())
      else NX ((s,s,(s.length:Int),()),()) I μ ((IntKind.i64.wrap ((n:Int)+1),()),()) (((n:Int),()),())
   else NX ((s,s,(s.length:Int),()),()) I μ ((IntKind.i64.wrap ((n:Int)+1),()),()) (((n:Int),()),()):=by
   intro h2 h3;refine af (λh4=>?_) λh4=>⟨rfl,next (bZ hJ ?_)⟩
   .have h4:0<n:=by have:=iH h4;omega
    rw[qY h4 (by omega)];refine⟨⟨by omega,by omega⟩,af (λh5=>no ?_) λh5=>⟨rfl,next (bZ hJ ?_)⟩⟩
    .have h5:Op.bytesLess (Sp.fieldAt s (n-1)).1 (Sp.fieldAt s n).1=false:=gY h5;unfold gy;rw[h2,h3,h5,apE h4];rfl
    .have h5:Op.bytesLess (Sp.fieldAt s (n-1)).1 (Sp.fieldAt s n).1=true:=dO h5;unfold gy;rw[h2,h3,h5,apE h4];rfl
   .have h4:¬0<n:=by have:=iV h4;omega
    unfold gy;rw[h2,h3,apK h4];rfl
  refine cO (by omega) ⟨⟨by omega,by omega⟩,trivial,af (λh2=>no ?_) λh2=>af (λh3=>af (λh4=>no ?_) λh4=>?_) λh3=>?_⟩
  .have h2:fA (Sp.fieldAt s n).1=false:=gY h2;unfold gy;rw[h2];rfl
  .have h2:fA (Sp.fieldAt s n).1=true:=dO h2;have h3:(decide (1<=(Sp.fieldAt s n).2.1)&&decide ((Sp.fieldAt s n).2.1<=2))=false:=ak5 h3 h4;unfold gy;rw[h2,h3];rfl
  .have h2:fA (Sp.fieldAt s n).1=true:=dO h2;have h3:(decide (1<=(Sp.fieldAt s n).2.1)&&decide ((Sp.fieldAt s n).2.1<=2))=true:=aiS (.inr h4);exact rest h2 h3
  .have h2:fA (Sp.fieldAt s n).1=true:=dO h2;have h3:(decide (1<=(Sp.fieldAt s n).2.1)&&decide ((Sp.fieldAt s n).2.1<=2))=true:=aiS (.inl h3);exact rest h2 h3
 .dsimp only;refine bY (by omega) (congrArg (·,()) ?_);unfold bP;rw[kG hJ];rfl
theorem LW:OK oZ.e:=by
 refine aV [vg.e,mV.e] ⟨Uf,Ea,⟨⟩⟩ H0 λfs s k n w=>show oZ.goal (LX fs s k n w) (fs,s,(k,n,w,()),())fromλhin hp=>?_
 dsimp only[oZ]at hp ⊢;refine⟨trivial,af (λh=>af (λh2=>⟨trivial,?_⟩) λh2=>?_) λh=>?_⟩
 .exact congrArg (·,()) (apO.2 (by simp only[bne_iff_ne,ne_eq]at h2;simp[fU,h,h2]))
 .exact congrArg (·,()) (apO.2 (by simp at h2;simp[fU,h2]))
 .exact congrArg (·,()) (apO.2 (by simp[fU,h]))
theorem Pv:OK rq.e:=by
 refine aV [lG.e,qV.e,iR.e,oZ.e] ⟨Dh,EN,kW,LW,⟨⟩⟩ Rh λfs f0 f1 f2 f3 f4=>show rq.goal (Px fs f0 f1 f2 f3 f4) (fs,(f0,f1,f2,f3,f4,()),())fromλhin hp=>?_
 dsimp only[rq]at hp ⊢;have hlen:f4.length<=maxLen:=hin.2.1.2.2.2.2.1.1;rw[maxLen_eq]at hlen;refine dP f4.length hlen (λn=>∀i,i<n->iD fs f4 i=true) (λi hi=>by omega) (λI μ n hn hJ next=>?_) λI μ hJ=>?_
 .dsimp only;have no:iD fs f4 n=false->(false,())=(dJ fs (f0,f1,f2,f3,f4,()),()):=λh=>by rw[ac1 (f:=(f0,f1,f2,f3,f4,())) hn h]
  refine cO (by omega) ⟨⟨by omega,by omega⟩,af (λh4=>?_) λh4=>⟨trivial,af (λh2=>no ?_) λh2=>⟨rfl,next (bZ hJ ?_)⟩⟩⟩
  .have h4:0<n:=by have:=iH h4;omega
   rw[qY h4 (by omega)];refine⟨⟨by omega,by omega⟩,af (λh5=>no ?_) λh5=>⟨trivial,af (λh2=>no ?_) λh2=>⟨rfl,next (bZ hJ ?_)⟩⟩⟩
   .have h5:Op.bytesLess (bU f4 (n-1)).1 (bU f4 n).1=false:=gY h5;unfold iD;rw[h5,apE h4];exact aqD _
   .have h2:fU fs (bU f4 n).1 (bU f4 n).2.1 (bU f4 n).2.2.1 (bU f4 n).2.2.2.1=false:=gY h2;unfold iD;rw[h2];rfl
   .have h2:fU fs (bU f4 n).1 (bU f4 n).2.1 (bU f4 n).2.2.1 (bU f4 n).2.2.2.1=true:=dO h2;have h5:Op.bytesLess (bU f4 (n-1)).1 (bU f4 n).1=true:=dO h5;unfold iD;rw[h2,h5,apE h4];rfl
  .have h2:fU fs (bU f4 n).1 (bU f4 n).2.1 (bU f4 n).2.2.1 (bU f4 n).2.2.2.1=false:=gY h2;unfold iD;rw[h2];rfl
  .have h2:fU fs (bU f4 n).1 (bU f4 n).2.1 (bU f4 n).2.2.1 (bU f4 n).2.2.2.1=true:=dO h2;have h4:¬0<n:=by have:=iV h4;omega
   unfold iD;rw[h2,apK h4];rfl
 .dsimp only;have ha:nC fs f4=true:=kG hJ;refine bY (by omega) ⟨trivial,af (λh1=>⟨trivial,af (λh2=>⟨trivial,af (λh3=>⟨trivial,?_⟩) λh3=>?_⟩) λh2=>?_⟩) λh1=>?_⟩
  all_goals refine congrArg (·,()) ?_
  .show bP fs=(nC fs f4&&bP fs&&(decide (1<=f0)&&decide (f0<=60))&&(decide (0<=f1)&&decide (f1<=2))&&(decide (0<=f3)&&decide (f3<=60)));rw[ha,h1,h2,h3];cases bP fs<;>rfl
  .show false=(nC fs f4&&bP fs&&(decide (1<=f0)&&decide (f0<=60))&&(decide (0<=f1)&&decide (f1<=2))&&(decide (0<=f3)&&decide (f3<=60)));rw[h3,aqD]
  .show false=(nC fs f4&&bP fs&&(decide (1<=f0)&&decide (f0<=60))&&(decide (0<=f1)&&decide (f1<=2))&&(decide (0<=f3)&&decide (f3<=60)));rw[h2,aqD,arj]
  .show false=(nC fs f4&&bP fs&&(decide (1<=f0)&&decide (f0<=60))&&(decide (0<=f1)&&decide (f1<=2))&&(decide (0<=f3)&&decide (f3<=60)));rw[h1,aqD,arj,arj]
theorem Eb:OK mX.e:=by
 refine aV [iR.e,lG.e,rq.e] ⟨kW,Dh,Pv,⟨⟩⟩ Py λs0 s1 s2=>show mX.goal (NS s0 s1 s2) ((s0,s1,s2,()),())fromλhin hp=>?_
 dsimp only[mX]at hp ⊢;have hlen:s1.length<=maxLen:=hin.1.2.1.1;rw[maxLen_eq]at hlen;refine dP s1.length hlen (λn=>∀i,i<n->iQ (s0,s1,s2,()) i=true) (λi hi=>by omega) (λI μ n hn hJ next=>?_) λI μ hJ=>?_
 .dsimp only;have no:iQ (s0,s1,s2,()) n=false->(false,())=(aW (s0,s1,s2,()),()):=λh=>by rw[YQ (s:=(s0,s1,s2,())) hn h]
  refine cO (by omega) ⟨⟨by omega,by omega⟩,trivial,af (λh2=>no ?_) λh2=>af (λh3=>no ?_) λh3=>af (λh4=>?_) λh4=>⟨rfl,next (bZ hJ ?_)⟩⟩
  .have h2:dJ s0 (Sp.fileAt s1 n)=false:=gY h2;show(dJ s0 (Sp.fileAt s1 n)&&_&&_)=false;rw[h2];rfl
  .have h2:dJ s0 (Sp.fileAt s1 n)=true:=dO h2;have h3:¬(Sp.fileAt s1 n).1<s2:=by have h3:(Sp.fileAt s1 n).1>=s2:=iH h3;omega
   show(dJ s0 (Sp.fileAt s1 n)&&decide ((Sp.fileAt s1 n).1<s2)&&_)=false;rw[h2,apK h3];rfl
  .have h2:dJ s0 (Sp.fileAt s1 n)=true:=dO h2;have h3:(Sp.fileAt s1 n).1<s2:=by have h3:¬(Sp.fileAt s1 n).1>=s2:=iV h3;omega
   have h4:0<n:=by have:=iH h4;omega
   rw[qY h4 (by omega)];refine⟨⟨by omega,by omega⟩,af (λh5=>no ?_) λh5=>⟨rfl,next (bZ hJ ?_)⟩⟩
   .have h5:¬(Sp.fileAt s1 (n-1)).1<(Sp.fileAt s1 n).1:=by have h5:(Sp.fileAt s1 (n-1)).1>=(Sp.fileAt s1 n).1:=iH h5;omega
    show(dJ s0 (Sp.fileAt s1 n)&&decide ((Sp.fileAt s1 n).1<s2)&&!(decide (0<n)&&!decide ((Sp.fileAt s1 (n-1)).1<(Sp.fileAt s1 n).1)))=false;rw[h2,apE h3,apE h4,apK h5];rfl
   .have h5:(Sp.fileAt s1 (n-1)).1<(Sp.fileAt s1 n).1:=by have h5:¬(Sp.fileAt s1 (n-1)).1>=(Sp.fileAt s1 n).1:=iV h5;omega
    show(dJ s0 (Sp.fileAt s1 n)&&decide ((Sp.fileAt s1 n).1<s2)&&!(decide (0<n)&&!decide ((Sp.fileAt s1 (n-1)).1<(Sp.fileAt s1 n).1)))=true;rw[h2,apE h3,apE h4,apE h5];rfl
  .have h2:dJ s0 (Sp.fileAt s1 n)=true:=dO h2;have h3:(Sp.fileAt s1 n).1<s2:=by have h3:¬(Sp.fileAt s1 n).1>=s2:=iV h3;omega
   have h4:¬0<n:=by have:=iV h4;omega
   show(dJ s0 (Sp.fileAt s1 n)&&decide ((Sp.fileAt s1 n).1<s2)&&!(decide (0<n)&&!decide ((Sp.fileAt s1 (n-1)).1<(Sp.fileAt s1 n).1)))=true;rw[h2,apE h3,apK h4];rfl
 .dsimp only;have ha:eX s1.length (iQ (s0,s1,s2,()))=true:=kG hJ;refine bY (by omega) ⟨trivial,af (λh1=>af (λh2=>⟨trivial,?_⟩) λh2=>?_) λh1=>?_⟩
  .refine congrArg (·,()) ?_;show _=(eX s1.length (iQ (s0,s1,s2,()))&&bP s0&&decide ((s1.length:Int)<=12)&&(decide (1<=s2)&&decide (s2<=61)));rw[ha,h1,h2];rfl
  .refine congrArg (·,()) ?_;show _=(eX s1.length (iQ (s0,s1,s2,()))&&bP s0&&decide ((s1.length:Int)<=12)&&(decide (1<=s2)&&decide (s2<=61)));rw[ha,h1,h2];rfl
  .refine congrArg (·,()) ?_;show _=(eX s1.length (iQ (s0,s1,s2,()))&&bP s0&&decide ((s1.length:Int)<=12)&&(decide (1<=s2)&&decide (s2<=61)));rw[ha,h1];rfl
theorem ae9{α:Type}{l:List α}{lo:Nat}{news:List α}(h:lo+news.length<=l.length):(eu l lo news).length=l.length:=by unfold eu;simp only[apT,apM,aqm];omega
theorem ac2{α:Type}{l:List α}{lo k:Nat}{news:List α}(hk:k<=lo)(h:lo<=l.length):(eu l lo news).take k=l.take k:=by unfold eu;rw[aqp,List.take_append_of_le_length (by rw[apM];omega),List.take_take,aqJ hk]
end Go.Proofs.Tryz
namespace Go.Proofs.Tryz
open Go Go.Fw Go.IntWalk Sp
theorem He(n0 n1 n2:Int)(n3:Sp.Bytes)(n4 n5:Int)(n6:Sp.Bytes)(a:Int):iI (n0,n1,n2,n3,n4,n5,n6,()) a=
 (bif n0==1 then(n1==0&&n2==0)&&(n3==[]&&(n4==0&&(n5==0&&n6==[])))else bif n0==2 then(n1==0&&n2==0)&&(n4==0&&(n5==0&&n6==[]))&&fA n3 else
 bif n0==3 then(n1==0&&n2==0)&&fA n3&&gq n4 n5 n6&&!(n4==0)else bif n0==4 then(n1==0&&n2==0)&&fA n3&&gq n4 n5 n6&&n4==1 else
 bif n0==5 then(decide (0<=n1)&&decide (n1<=a-1)&&decide (0<a))&&n2==0&&(n3==[]&&(n4==0&&(n5==0&&n6==[])))else
 bif n0==6||n0==7 then(decide (0<=n1)&&decide (n1<=a-1)&&decide (0<a))&&(decide (0<=n2)&&decide (n2<=a-1))&&(n3==[]&&(n4==0&&(n5==0&&n6==[])))else
 bif n0==8||n0==9 then(n1==0&&n2==0)&&(n4==0&&(n5==0&&n6==[]))&&dU n3 else false):=rfl
theorem PX:OK rC.e:=by
 refine aV [jy.e,iR.e,mV.e,kC.e] ⟨uQ,kW,Ea,AB,⟨⟩⟩ SA λn0 n1 n2 n3 n4 n5 n6 a=>show rC.goal (Ey n0 n1 n2 n3 n4 n5 n6 a) ((n0,n1,n2,n3,n4,n5,n6,()),a,())fromλhin hp=>?_
 dsimp only[rC]at hp ⊢;have ha:-9223372036854775808<=a/\a<=9223372036854775807:=hin.2.1;show Ey n0 n1 n2 n3 n4 n5 n6 a λr=>r=(iI (n0,n1,n2,n3,n4,n5,n6,()) a,());rw[He];have w:0<a->IntKind.i64.wrap (a-1)=a-1:=λh=>fH _ (by omega);refine af (λ_=>?_) λ_=>af (λ_=>af (λ_=>⟨trivial,?_⟩) λ_=>?_) λ_=>⟨λy=>y=((n0==3||n0==4,()),()),?_,?_⟩
 .first|(simp_all;done)|(simp_all;grind)
 .first|(simp_all;done)|(simp_all;grind)
 .first|(simp_all;done)|(simp_all;grind)
 .refine af (λ_=>⟨rfl,?_⟩) λ_=>⟨rfl,?_⟩<;>first|(simp_all;done)|(simp_all;grind)
 .rintro _ rfl;refine af (λ_=>?_) λ_=>af (λ_=>af (λ_=>af (λh=>⟨trivial,?_⟩) λ_=>?_) λ_=>?_) λ_=>⟨λy=>y=((n0==6||n0==7,()),()),?_,?_⟩
  .refine af (λ_=>⟨trivial,af (λ_=>⟨trivial,af (λ_=>af (λ_=>af (λ_=>?_) λ_=>?_) λ_=>?_) λ_=>?_⟩) λ_=>?_⟩) λ_=>?_
   all_goals first|(simp_all;done)|(simp_all;grind)
  .rw[w (iH h)]
   first|(simp_all;done)|(simp_all;grind)
  .first|(simp_all;done)|(simp_all;grind)
  .first|(simp_all;done)|(simp_all;grind)
  .refine af (λ_=>⟨rfl,?_⟩) λ_=>⟨rfl,?_⟩<;>first|(simp_all;done)|(simp_all;grind)
  .rintro _ rfl;refine af (λ_=>af (λ_=>af (λh=>⟨trivial,?_⟩) λ_=>?_) λ_=>?_) λ_=>?_
   .rw[w (iH h)];refine af (λ_=>⟨trivial,?_⟩) λ_=>?_<;>first|(simp_all;done)|(simp_all;grind)
   .first|(simp_all;done)|(simp_all;grind)
   .first|(simp_all;done)|(simp_all;grind)
   .refine af (λ_=>af (λ_=>af (λ_=>⟨trivial,?_⟩) λ_=>?_) λ_=>?_) λ_=>af (λ_=>af (λ_=>⟨trivial,?_⟩) λ_=>?_) λ_=>?_
    all_goals first|(simp_all;done)|(simp_all;grind)
theorem PY:OK ru.e:=by
 refine aV [jw.e,mQ.e,kz.e,gW.e] ⟨uP,D8,AA,iU,⟨⟩⟩ SB λn0 n1 n2 n3 n4 n5 n6 a=>show ru.goal (Ez n0 n1 n2 n3 n4 n5 n6 a) ((n0,n1,n2,n3,n4,n5,n6,()),a,())fromλhin hp=>?_
 dsimp only[ru]at hp ⊢;have ha:-9223372036854775808<=a/\a<=9223372036854775807:=hin.2.1;show Ez n0 n1 n2 n3 n4 n5 n6 a λr=>r=(iI (n0,n1,n2,n3,n4,n5,n6,()) a,());rw[He];have w:0<a->IntKind.i64.wrap (a-1)=a-1:=λh=>fH _ (by omega);refine⟨λy=>y=((decide (0<=n1)&&decide (n1<=a-1)&&decide (0<a),()),()),⟨trivial,?_⟩,?_⟩
 .by_cases h:0<a
  .dsimp only;rw[w h];refine af (λ_=>⟨rfl,?_⟩) λ_=>⟨rfl,?_⟩<;>first|(simp_all;done)|(simp_all;grind)
  .dsimp only;refine af (λ_=>⟨rfl,?_⟩) λ_=>⟨rfl,?_⟩<;>first|(simp_all;done)|(simp_all;grind)
 .rintro _ rfl;refine⟨λy=>y=(((decide (0<=n1)&&decide (n1<=a-1)&&decide (0<a))&&(decide (0<=n2)&&decide (n2<=a-1)),()),()),?_,?_⟩
  .refine af (λh=>⟨trivial,rfl,?_⟩) λh=>⟨rfl,?_⟩
   .have h:(decide (0<=n1)&&decide (n1<=a-1)&&decide (0<a))=true:=h;have h2:0<a:=by simp at h;omega
    rw[w h2,h,aq6]
   .have h:(decide (0<=n1)&&decide (n1<=a-1)&&decide (0<a))=false:=h;rw[h,arj]
  .rintro _ rfl;dsimp only;generalize (decide (0<=n1)&&decide (n1<=a-1)&&decide (0<a))=kids;generalize (decide (0<=n2)&&decide (n2<=a-1))=two
   repeat' first
    |exact trivial
    |refine af (λ_=>?_) λ_=>?_
    |refine And.intro trivial ?_
   all_goals first|(simp_all;done)|(simp_all;grind)
end Go.Proofs.Tryz
namespace Go.Proofs.Tryz
open Go Go.Fw Go.IntWalk Sp
theorem Ed:OK pR.e:=by
 refine aV [] ⟨⟩ acg λa b=>show pR.goal (aat a b) (a,b,())fromλhin hp=>?_
 dsimp only[pR]at hp ⊢;have hlen:a.length<=maxLen:=hin.1.1;rw[maxLen_eq]at hlen;refine af (λh=>?_) λh=>?_
 .have h:(a.length:Int)≠b.length:=by simpa using h
  exact congrArg (·,()) (apK λe=>h (by rw[e])).symm
 .have h:(a.length:Int)=b.length:=by simpa using h
  exact agR (K:=λr=>r=(decide (a=b),())) (λx y=>x.1 !=y.1) (λx y=>by simp[Prod.ext_iff]) _ a b _ hlen (by omega) (λe=>by rw[apK e]) λe=>by rw[apE e]
theorem XO:OK xY.e:=by
 refine aV [] ⟨⟩ H0 λn0 n1 n2 n3 n4 n5 n6=>show xY.goal (XP n0 n1 n2 n3 n4 n5 n6) ((n0,n1,n2,n3,n4,n5,n6,()),())fromλhin hp=>?_
 dsimp only[xY]at hp ⊢;exact af (λh=>by rw[h];rfl) λh=>by rw[h];rfl
theorem EO{d:List aB}(h:qf d){n:Nat}(hn:n<d.length):(d.getD n ([],[],())).2.1.length<=1000:=h.2 _ (getD_mem hn)
end Go.Proofs.Tryz
namespace Go.Proofs.Tryz
open Go Go.Fw Go.IntWalk Sp
theorem Ou(a:Int)(x:aU):(Sp.refsOf a x:Int)=(if(x.1=6\/x.1=7\/x.1=5)/\x.2.1=a then 1 else 0)+(if(x.1=6\/x.1=7)/\x.2.2.1=a then 1 else 0):=by unfold Sp.refsOf jX;by_cases h6:x.1=6<;>by_cases h7:x.1=7<;>by_cases h5:x.1=5<;>by_cases hl:x.2.1=a<;>by_cases hr:x.2.2.1=a<;>simp[cond_eq_ite,h6,h7,h5,hl,hr]
theorem alb(a:Int)(x:aU):Sp.refsOf a x<=2:=by have:=Ou a x;split at this<;>split at this<;>omega
def kH(q:List aU)(a:Int)(n:Nat):Nat:=((q.take n).map (Sp.refsOf a)).sum
theorem KJ(q:List aU)(a:Int){n:Nat}(hn:n<q.length):kH q a (n+1)=kH q a n+Sp.refsOf a (Sp.nodeAt q n):=by unfold kH;rw[Sp.take_succ' q n (0,0,0,[],0,0,[],()) hn];simp only[aqb,arH,apP,List.map_nil,List.sum_cons,List.sum_nil,aqR];rfl
theorem SG(q:List aU)(a:Int):∀n,n<=q.length->kH q a n<=2*n
 |0,_=>by simp[kH]
 |n+1,h=>by rw[KJ q a (by omega)];have:=SG q a n (by omega);have:=alb a (Sp.nodeAt q n);omega
theorem aau(q:List aU)(a:Int):kH q a q.length=jQ q a:=by unfold kH jQ;rw[apZ]
theorem Jd:OK nD.e:=by
 refine aV [] ⟨⟩ KL λq a=>show nD.goal (Je q a) (q,a,())fromλhin hp=>?_
 dsimp only[nD]at hp ⊢;have hp:q.length<=2000000:=hp;refine fB (λi(c:Int)=>((c,i,()),())) (λy=>y.1.2.1) (λ_ _=>rfl) q.length (by omega) (λn c=>c=(kH q a n:Int)) rfl (λI μ n c hn hJ next=>?_) λI μ c hJ=>?_
 .subst hJ;have hs:=KJ q a hn;have hb:=SG q a n (by omega);have hr:=Ou a (Sp.nodeAt q n);dsimp only;rw[apG];have e:q.getD n (0,0,0,[],0,0,[],())=Sp.nodeAt q n:=rfl;rw[e];have w1:IntKind.i64.wrap ((kH q a n:Int)+1)=(kH q a n:Int)+1:=fH _ (by omega);have w2:IntKind.i64.wrap ((kH q a n:Int)+1+1)=(kH q a n:Int)+1+1:=fH _ (by omega);refine cO (by omega) ⟨⟨by omega,by omega⟩,af (λh6=>⟨λy=>y=(((kH q a n:Int)+(if(Sp.nodeAt q n).2.1=a then 1 else 0),()),()),⟨⟨by omega,by omega⟩,af (λhl=>⟨rfl,?_⟩) λhl=>⟨rfl,?_⟩⟩,?_⟩) λh6=>⟨⟨by omega,by omega⟩,λy=>y=(((kH q a n:Int)+(if((Sp.nodeAt q n).1=7\/(Sp.nodeAt q n).1=5)/\(Sp.nodeAt q n).2.1=a then 1 else 0),()),()),?_,?_⟩⟩
  .simp only[apy]at hl;rw[w1,if_pos hl]
  .simp only[apu]at hl;rw[if_neg hl,aqS]
  .rintro _ rfl;simp only[apy]at h6;refine⟨⟨by omega,by omega⟩,af (λhrr=>⟨rfl,next _ ?_⟩) λhrr=>⟨rfl,next _ ?_⟩⟩
   all_goals
    dsimp only;simp only[apy,apu,ne_eq]at hrr;by_cases hl:(Sp.nodeAt q n).2.1=a<;>simp[h6,hl,hrr]at hr<;>simp only[hl,if_true,arz,aqS,w1,w2]<;>omega
  .simp only[apu,ne_eq]at h6;refine af (λh7=>⟨⟨by omega,by omega⟩,af (λhl=>⟨rfl,?_⟩) λhl=>⟨rfl,?_⟩⟩) λh7=>⟨⟨by omega,by omega⟩,af (λh5=>⟨⟨by omega,by omega⟩,af (λhl=>⟨rfl,?_⟩) λhl=>⟨rfl,?_⟩⟩) λh5=>⟨rfl,?_⟩⟩
   all_goals simp_all
  .rintro _ rfl;simp only[apu,ne_eq]at h6;refine af (λh7=>⟨⟨by omega,by omega⟩,af (λhrr=>⟨rfl,next _ ?_⟩) λhrr=>⟨rfl,next _ ?_⟩⟩) λh7=>⟨rfl,next _ ?_⟩
   .simp only[apy]at h7 hrr;by_cases hl:(Sp.nodeAt q n).2.1=a<;>simp[h6,h7,hl,hrr]at hr<;>simp only[h7,hl,true_or,and_self,and_false,if_true,arz,aqS,w1,w2]<;>omega
   .simp only[apy,apu,ne_eq]at h7 hrr;by_cases hl:(Sp.nodeAt q n).2.1=a<;>simp[h6,h7,hl,hrr]at hr<;>simp only[h7,hl,true_or,and_self,and_false,if_true,arz,aqS,w1,w2]<;>omega
   .simp only[apu,ne_eq]at h7;dsimp only;by_cases h5:(Sp.nodeAt q n).1=5<;>by_cases hl:(Sp.nodeAt q n).2.1=a<;>simp[h6,h7,h5,hl]at hr<;>simp[h7,h5,hl]<;>omega
 .dsimp only;refine bY (by omega) ?_;rw[hJ,aau]
theorem Jf:OK nG.e:=by
 refine aV [] ⟨⟩ KN λq a=>show nG.goal (Jg q a) (q,a,())fromλhin hp=>?_
 dsimp only[nG]at hp ⊢;have hp:q.length<=2000000:=hp;refine fB (λi(c:Int)=>((c,i,()),())) (λy=>y.1.2.1) (λ_ _=>rfl) q.length (by omega) (λn c=>c=(kH q a n:Int)) rfl (λI μ n c hn hJ next=>?_) λI μ c hJ=>?_
 .subst hJ;have hs:=KJ q a hn;have hb:=SG q a n (by omega);have hr:=Ou a (Sp.nodeAt q n);dsimp only;rw[apG];have e:q.getD n (0,0,0,[],0,0,[],())=Sp.nodeAt q n:=rfl;rw[e];have w1:IntKind.i64.wrap ((kH q a n:Int)+1)=(kH q a n:Int)+1:=fH _ (by omega);have w2:IntKind.i64.wrap ((kH q a n:Int)+1+1)=(kH q a n:Int)+1+1:=fH _ (by omega);refine cO (by omega) ⟨⟨by omega,by omega⟩,af (λh6=>⟨λy=>y=(((kH q a n:Int)+(if(Sp.nodeAt q n).2.1=a then 1 else 0),()),()),af (λhl=>⟨rfl,?_⟩) λhl=>⟨rfl,?_⟩,?_⟩) λh6=>⟨λy=>y=(((kH q a n:Int)+(if((Sp.nodeAt q n).1=7\/(Sp.nodeAt q n).1=5)/\(Sp.nodeAt q n).2.1=a then 1 else 0),()),()),?_,?_⟩⟩
  .simp only[apy]at hl;rw[w1,if_pos hl]
  .simp only[apu]at hl;rw[if_neg hl,aqS]
  .rintro _ rfl;simp only[apy]at h6;refine af (λhrr=>⟨rfl,next _ ?_⟩) λhrr=>⟨rfl,next _ ?_⟩
   all_goals
    dsimp only;simp only[apy,apu,ne_eq]at hrr;by_cases hl:(Sp.nodeAt q n).2.1=a<;>simp[h6,hl,hrr]at hr<;>simp only[hl,if_true,arz,aqS,w1,w2]<;>omega
  .simp only[apu,ne_eq]at h6;refine af (λhl=>af (λh7=>⟨rfl,?_⟩) λh7=>af (λh5=>⟨rfl,?_⟩) λh5=>⟨rfl,?_⟩) λhl=>⟨rfl,?_⟩
   all_goals simp_all
  .rintro _ rfl;simp only[apu,ne_eq]at h6;refine af (λhrr=>af (λh7=>⟨rfl,next _ ?_⟩) λh7=>⟨rfl,next _ ?_⟩) λhrr=>⟨rfl,next _ ?_⟩
   .simp only[apy]at h7 hrr;by_cases hl:(Sp.nodeAt q n).2.1=a<;>simp[h6,h7,hl,hrr]at hr<;>simp only[h7,hl,true_or,and_self,and_false,if_true,arz,aqS,w1,w2]<;>omega
   .simp only[apu,ne_eq]at h7;dsimp only;by_cases h5:(Sp.nodeAt q n).1=5<;>by_cases hl:(Sp.nodeAt q n).2.1=a<;>simp[h6,h7,h5,hl]at hr<;>simp[h7,h5,hl]<;>omega
   .simp only[apu,ne_eq]at hrr;dsimp only;by_cases h7:(Sp.nodeAt q n).1=7<;>by_cases h5:(Sp.nodeAt q n).1=5<;>by_cases hl:(Sp.nodeAt q n).2.1=a<;>simp[h6,h7,h5,hl,hrr]at hr<;>simp[h7,h5,hl]<;>omega
 .dsimp only;refine bY (by omega) ?_;rw[hJ,aau]
theorem aav{q:List aU}{n:Nat}(hn:n<q.length)(h:jo q n=false):aS q=false:=by unfold aS;rw[wZ hn h];rfl
theorem wE:OK jY.e:=by
 refine aV [gW.e,nD.e,ru.e] ⟨iU,Jd,PY,⟨⟩⟩ P6 λq=>show jY.goal (Ov q) (q,())fromλhin hp=>?_
 dsimp only[jY]at hp ⊢;have hp:q.length<=2000000:=hp;refine dP q.length (by omega) (λn=>∀i,i<n->jo q i=true) (λi hi=>by omega) (λI μ n hn hJ next=>?_) λI μ hJ=>?_
 .dsimp only;have no:jo q n=false->(false,())=(aS q,()):=λh=>by rw[aav hn h]
  rw[qY (show 0<q.length by omega) (by omega)];refine cO (by omega) ⟨⟨by omega,by omega⟩,trivial,af (λh2=>no ?_) λh2=>af (λh3=>⟨hp,af (λh4=>no ?_) λh4=>⟨rfl,next (bZ hJ ?_)⟩⟩) λh3=>⟨rfl,next (bZ hJ ?_)⟩⟩
  .have h2:iI (Sp.nodeAt q n) n=false:=gY h2;unfold jo;rw[h2];rfl
  .have h2:iI (Sp.nodeAt q n) n=true:=dO h2;have h4:(jQ q n:Int)≠1:=by simpa using h4
   have h3:(n:Int)<(q.length:Int)-1:=by have:=iH h3;omega
   unfold jo;simp only[h3,h2];simp;omega
  .have h2:iI (Sp.nodeAt q n) n=true:=dO h2;have h4:(jQ q n:Int)=1:=by simpa using h4
   have h4:jQ q n=1:=by omega
   unfold jo;simp[h2,h4]
  .have h2:iI (Sp.nodeAt q n) n=true:=dO h2;have h3:¬(n:Int)<(q.length:Int)-1:=by have:=iV h3;omega
   unfold jo;simp[h2,h3]
 .dsimp only;refine bY (by omega) ⟨trivial,congrArg (·,()) ?_⟩;unfold aS;rw[kG hJ];rfl
theorem wC:OK jZ.e:=by
 refine aV [iR.e,nG.e,rC.e] ⟨kW,Jf,PX,⟨⟩⟩ P7 λq=>show jZ.goal (Ox q) (q,())fromλhin hp=>?_
 dsimp only[jZ]at hp ⊢;have hp:q.length<=2000000:=hp;refine dP q.length (by omega) (λn=>∀i,i<n->jo q i=true) (λi hi=>by omega) (λI μ n hn hJ next=>?_) λI μ hJ=>?_
 .dsimp only;have no:jo q n=false->(false,())=(aS q,()):=λh=>by rw[aav hn h]
  rw[qY (show 0<q.length by omega) (by omega)];refine cO (by omega) ⟨⟨by omega,by omega⟩,trivial,af (λh2=>no ?_) λh2=>af (λh3=>⟨hp,af (λh4=>no ?_) λh4=>⟨rfl,next (bZ hJ ?_)⟩⟩) λh3=>⟨rfl,next (bZ hJ ?_)⟩⟩
  .have h2:iI (Sp.nodeAt q n) n=false:=gY h2;unfold jo;rw[h2];rfl
  .have h2:iI (Sp.nodeAt q n) n=true:=dO h2;have h4:(jQ q n:Int)≠1:=by simpa using h4
   have h3:(n:Int)<(q.length:Int)-1:=by have:=iH h3;omega
   unfold jo;simp only[h3,h2];simp;omega
  .have h2:iI (Sp.nodeAt q n) n=true:=dO h2;have h4:(jQ q n:Int)=1:=by simpa using h4
   have h4:jQ q n=1:=by omega
   unfold jo;simp[h2,h4]
  .have h2:iI (Sp.nodeAt q n) n=true:=dO h2;have h3:¬(n:Int)<(q.length:Int)-1:=by have:=iV h3;omega
   unfold jo;simp[h2,h3]
 .dsimp only;refine bY (by omega) ⟨trivial,congrArg (·,()) ?_⟩;unfold aS;rw[kG hJ];rfl
theorem adg{d:List aB}{n:Nat}(hn:n<d.length)(h:iE d n=false):dM d=false:=by unfold dM;rw[wZ hn h];rfl
theorem Pz:OK rD.e:=by
 refine aV [jY.e,jw.e] ⟨wE,uP,⟨⟩⟩ SH λd=>show rD.goal (P8 d) (d,())fromλhin hp=>?_
 dsimp only[rD]at hp ⊢;have hp:iq d:=hp;have hlen:d.length<=2000000:=hp.1;refine dP d.length (by omega) (λn=>∀i,i<n->iE d i=true) (λi hi=>by omega) (λI μ n hn hJ next=>?_) λI μ hJ=>?_
 .dsimp only;have no:iE d n=false->(false,())=(dM d,()):=λh=>by rw[adg hn h]
  have hq:(bJ d n).2.1.length<=2000000:=hp.2 _ (agS hn);refine cO (by omega) ⟨⟨by omega,by omega⟩,trivial,af (λh2=>no ?_) λh2=>⟨⟨by omega,by omega⟩,hq,af (λh3=>no ?_) λh3=>af (λh4=>?_) λh4=>⟨rfl,next (bZ hJ ?_)⟩⟩⟩
  .have h2:dU (bJ d n).1=false:=gY h2;unfold iE;rw[h2];rfl
  .have h3:aS (bJ d n).2.1=false:=gY h3;unfold iE;rw[h3];simp
  .have h2:dU (bJ d n).1=true:=dO h2;have h3:aS (bJ d n).2.1=true:=dO h3;have h4:0<n:=by have:=iH h4;omega
   rw[qY h4 (by omega)];refine⟨⟨by omega,by omega⟩,⟨by omega,by omega⟩,af (λh5=>no ?_) λh5=>⟨rfl,next (bZ hJ ?_)⟩⟩
   .have h5:Op.bytesLess (bJ d (n-1)).1 (bJ d n).1=false:=gY h5;unfold iE;rw[h2,h3,h5,apE h4];rfl
   .have h5:Op.bytesLess (bJ d (n-1)).1 (bJ d n).1=true:=dO h5;unfold iE;rw[h2,h3,h5,apE h4];rfl
  .have h2:dU (bJ d n).1=true:=dO h2;have h3:aS (bJ d n).2.1=true:=dO h3;have h4:¬0<n:=by have:=iV h4;omega
   unfold iE;rw[h2,h3,apK h4];rfl
 .dsimp only;refine bY (by omega) (congrArg (·,()) ?_);unfold dM;rw[kG hJ];rfl
theorem PE:OK rE.e:=by
 refine aV [jZ.e,jy.e] ⟨wC,uQ,⟨⟩⟩ SI λd=>show rE.goal (P9 d) (d,())fromλhin hp=>?_
 dsimp only[rE]at hp ⊢;have hp:iq d:=hp;have hlen:d.length<=2000000:=hp.1;refine dP d.length (by omega) (λn=>∀i,i<n->iE d i=true) (λi hi=>by omega) (λI μ n hn hJ next=>?_) λI μ hJ=>?_
 .dsimp only;have no:iE d n=false->(false,())=(dM d,()):=λh=>by rw[adg hn h]
  have hq:(bJ d n).2.1.length<=2000000:=hp.2 _ (agS hn);refine cO (by omega) ⟨⟨by omega,by omega⟩,trivial,af (λh2=>no ?_) λh2=>af (λh4=>?_) λh4=>⟨hq,af (λh3=>no ?_) λh3=>⟨rfl,next (bZ hJ ?_)⟩⟩⟩
  .have h2:dU (bJ d n).1=false:=gY h2;unfold iE;rw[h2];rfl
  .have h2:dU (bJ d n).1=true:=dO h2;have h4:0<n:=by have:=iH h4;omega
   rw[qY h4 (by omega)];refine⟨⟨by omega,by omega⟩,af (λh5=>no ?_) λh5=>⟨hq,af (λh3=>no ?_) λh3=>⟨rfl,next (bZ hJ ?_)⟩⟩⟩
   .have h5:Op.bytesLess (bJ d (n-1)).1 (bJ d n).1=false:=gY h5;unfold iE;rw[h5,apE h4];simp
   .have h3:aS (bJ d n).2.1=false:=gY h3;unfold iE;rw[h3];simp
   .have h3:aS (bJ d n).2.1=true:=dO h3;have h5:Op.bytesLess (bJ d (n-1)).1 (bJ d n).1=true:=dO h5;unfold iE;rw[h2,h3,h5,apE h4];rfl
  .have h3:aS (bJ d n).2.1=false:=gY h3;unfold iE;rw[h3];simp
  .have h2:dU (bJ d n).1=true:=dO h2;have h3:aS (bJ d n).2.1=true:=dO h3;have h4:¬0<n:=by have:=iV h4;omega
   unfold iE;rw[h2,h3,apK h4];rfl
 .dsimp only;refine bY (by omega) (congrArg (·,()) ?_);unfold dM;rw[kG hJ];rfl
end Go.Proofs.Tryz
namespace Go.Proofs.Tryz
open Go Go.Fw Go.IntWalk Sp
theorem adh{S:Type}{B:((Int×Unit)×S->Prop)->((Int×Unit)×S->Nat)->(Int×Unit)×S->Prop}(len:Nat)(hlen:len<=9223372036854775807)(J:Nat->S->Prop){s0:S}(h0:J len s0)
 (hstep:∀I μ(n:Nat)(s:S),n<len->J (n+1) s->(∀s',J n s'->I ((IntKind.i64.wrap ((n:Int)-1),()),s')/\μ ((IntKind.i64.wrap ((n:Int)-1),()),s')<μ (((n:Int),()),s))->B I μ (((n:Int),()),s))
 (hend:∀I μ s,J 0 s->B I μ ((-1,()),s)):∃I,∃μ,I ((IntKind.i64.wrap ((len:Int)-1),()),s0)/\∀y,I y->B I μ y:=by
 have w:∀n:Nat,n<=len->IntKind.i64.wrap ((n:Int)-1)=(n:Int)-1:=λn hn=>fH _ (by omega);refine⟨λy=>∃(n:Nat)(s:S),y=(((n:Int)-1,()),s)/\n<=len/\J n s,λy=>(y.1.1+1).toNat,⟨len,s0,by rw[w len (apz _)],apz _,h0⟩,?_⟩;rintro _ ⟨n,s,rfl,hn,hJ⟩;cases n with
 |zero=>exact hend _ _ s hJ
 |succ n=>
  have e:((n+1:Nat):Int)-1=n:=by omega
  rw[e];refine hstep _ _ n s hn hJ λs' hJ'=>?_;rw[w n (by omega)];refine⟨⟨n,s',rfl,by omega,hJ'⟩,?_⟩;show((n:Int)-1+1).toNat<((n:Int)+1).toNat;omega
theorem getD_set_ne{α:Type}(l:List α)(i n:Nat)(x d:α)(h:i≠n):(l.set i x).getD n d=l.getD n d:=by rw[apI,apI,aqA h]
theorem Hf{x:aU}{a:Int}(h:iI x a=true)(h2:x.1=5\/x.1=6\/x.1=7):0<=x.2.1/\x.2.1<a:=by obtain⟨x0,x1,x2,x3,x4,x5,x6,_⟩:=x;rw[He]at h;rcases h2 with rfl|rfl|rfl<;>simp at h<;>exact⟨h.1.1.1.1,by dsimp only;omega⟩
theorem Hg{x:aU}{a:Int}(h:iI x a=true)(h2:x.1=6\/x.1=7):0<=x.2.2.1/\x.2.2.1<a:=by obtain⟨x0,x1,x2,x3,x4,x5,x6,_⟩:=x;rw[He]at h;rcases h2 with rfl|rfl<;>simp at h<;>exact⟨h.1.2.1,by dsimp only;omega⟩
theorem aaw{q:List aU}(h:aS q=true){n:Nat}(hn:n<q.length):iI (Sp.nodeAt q n) n=true:=by unfold aS at h;simp only[apt]at h;have:=KO.1 h.1 n hn;unfold jo at this;simp only[apt]at this;exact this.1
theorem xG{q:List aU}(h:aS q=true):1<=q.length/\q.length<=9:=by unfold aS at h;simp only[apt,apF]at h;omega
theorem Vx{q:List aU}{n:Nat}{out:List (Bool×Unit)}(h:(Sp.nodeAt q n).1=5):iM q n out=out.set (Sp.nodeAt q n).2.1.toNat (true,()):=by unfold iM;simp[h]
theorem Vy{q:List aU}{n:Nat}{out:List (Bool×Unit)}(h:(Sp.nodeAt q n).1=6\/(Sp.nodeAt q n).1=7):iM q n out=(out.set (Sp.nodeAt q n).2.1.toNat ((out.getD n (false,())).1,())).set (Sp.nodeAt q n).2.2.1.toNat ((out.getD n (false,())).1,()):=by unfold iM jX;rcases h with h|h<;>simp[h]
theorem SK{q:List aU}{n:Nat}{out:List (Bool×Unit)}(h5:(Sp.nodeAt q n).1≠5)(h6:(Sp.nodeAt q n).1≠6)(h7:(Sp.nodeAt q n).1≠7):iM q n out=out:=by unfold iM jX;dsimp only;rw[apu.2 h5,apu.2 h6,apu.2 h7];rfl
theorem BF(q:List aU):∀(n:Nat)(out:List (Bool×Unit)),(gB q n out).length=out.length
 |0,out=>rfl
 |n+1,out=>by
  rw[gB,BF q n];unfold iM;simp only[cond_eq_ite];split
  .simp
  .split<;>simp
theorem agm{q:List aU}(h:aS q=true):(Sp.negated q).length=q.length:=by unfold Sp.negated;rw[h];show(gB q _ _).length=_;rw[BF];simp
theorem Oy:OK qx.e:=by
 refine aV [jZ.e] ⟨wC,⟨⟩⟩ Qa λq=>show qx.goal (Oz q) (q,())fromλhin hp=>?_
 dsimp only[qx]at hp ⊢;have hp:q.length<=1000:=hp;refine⟨by omega,af (λh=>?_) λh=>⟨⟨by omega,by omega,by rw[cZ];omega⟩,?_⟩⟩
 .have h:=gY h;unfold Sp.negated;rw[h];rfl
 have hok:=dO h;have hR:Sp.negated q=gB q q.length (List.replicate q.length (false,())):=by unfold Sp.negated;rw[hok];rfl
 refine adh q.length (by omega) (λn(s:List (Bool×Unit)×Unit)=>s.1.length=q.length/\gB q n s.1=Sp.negated q) ⟨by simp,hR.symm⟩ (λI μ n s hn hJ next=>?_) λI μ s hJ=>?_
 .obtain⟨out,⟨⟩⟩:=s;obtain⟨hl,hJ⟩:=hJ;have hl:out.length=q.length:=hl;have hJ:gB q n (iM q n out)=Sp.negated q:=hJ;have hk:=aaw hok hn;have e:q.getD n (0,0,0,[],0,0,[],())=Sp.nodeAt q n:=rfl;dsimp only;rw[apG,e];simp only[arJ];refine cO (by omega) ⟨⟨by omega,by omega⟩,by omega,?_⟩;by_cases h5:(Sp.nodeAt q n).1=5
  .have hb:=Hf hk (.inl h5);simp only[h5,Int.reduceBEq,arF,aq3];have fin:gB q n (out.set (Sp.nodeAt q n).2.1.toNat (true,()))=Sp.negated q:=by rw[← Vx h5];exact hJ
   refine af (λ_=>⟨⟨by omega,by omega⟩,⟨by omega,by omega⟩,⟨by omega,by omega⟩,by omega,trivial,next _ ⟨by simp[hl],fin⟩⟩) λ_=>⟨⟨by omega,by omega⟩,⟨by omega,by omega⟩,⟨by omega,by omega⟩,⟨by omega,by omega⟩,by omega,trivial,next _ ⟨by simp[hl],fin⟩⟩
  by_cases MQ:(Sp.nodeAt q n).1=6\/(Sp.nodeAt q n).1=7
  .have hb:=Hf hk (.inr MQ);have hb2:=Hg hk MQ;have fin:∀b,(out.getD n (false,())).1=b->gB q n ((out.set (Sp.nodeAt q n).2.1.toNat (b,())).set (Sp.nodeAt q n).2.2.1.toNat (b,()))=Sp.negated q:=λb hb=>by rw[← hb,← Vy MQ];exact hJ
   rcases MQ with h6|h6
   all_goals
    simp only[h6,Int.reduceBEq,arF,aq3];refine af (λhc=>⟨⟨by omega,by omega⟩,⟨by omega,by omega⟩,⟨by omega,by omega⟩,⟨by omega,by omega⟩,by omega,⟨by omega,by omega⟩,by omega,trivial,next _ ⟨by simp[hl],fin true hc⟩⟩) λhc=>⟨⟨by omega,by omega⟩,⟨by omega,by omega⟩,⟨by omega,by omega⟩,⟨by omega,by omega⟩,⟨by omega,by omega⟩,by omega,⟨by omega,by omega⟩,by omega,trivial,next _ ⟨by simp[hl],fin false hc⟩⟩
  .have h6:(Sp.nodeAt q n).1≠6:=λh=>MQ (.inl h);have h7:(Sp.nodeAt q n).1≠7:=λh=>MQ (.inr h);have fin:gB q n out=Sp.negated q:=by rw[SK h5 h6 h7]at hJ;exact hJ
   simp only[apu.2 h5,apu.2 h6,apu.2 h7,aq3];exact af (λ_=>⟨⟨by omega,by omega⟩,rfl,next _ ⟨hl,fin⟩⟩) λ_=>⟨⟨by omega,by omega⟩,⟨by omega,by omega⟩,rfl,next _ ⟨hl,fin⟩⟩
 .obtain⟨out,⟨⟩⟩:=s;obtain⟨hl,hJ⟩:=hJ;dsimp only;refine bY (by omega) ?_;have hJ:out=Sp.negated q:=hJ;rw[hJ]
theorem OA:OK qw.e:=by
 refine aV [jY.e] ⟨wE,⟨⟩⟩ Qb λq=>show qw.goal (OB q) (q,())fromλhin hp=>?_
 dsimp only[qw]at hp ⊢;have hp:q.length<=1000:=hp;refine⟨by omega,af (λh=>?_) λh=>⟨⟨by omega,by omega,by rw[cZ];omega⟩,?_⟩⟩
 .have h:=gY h;unfold Sp.negated;rw[h];rfl
 have hok:=dO h;have hR:Sp.negated q=gB q q.length (List.replicate q.length (false,())):=by unfold Sp.negated;rw[hok];rfl
 refine adh q.length (by omega) (λn(s:List (Bool×Unit)×Unit)=>s.1.length=q.length/\gB q n s.1=Sp.negated q) ⟨by simp,hR.symm⟩ (λI μ n s hn hJ next=>?_) λI μ s hJ=>?_
 .obtain⟨out,⟨⟩⟩:=s;obtain⟨hl,hJ⟩:=hJ;have hl:out.length=q.length:=hl;have hJ:gB q n (iM q n out)=Sp.negated q:=hJ;have hk:=aaw hok hn;have e:q.getD n (0,0,0,[],0,0,[],())=Sp.nodeAt q n:=rfl;dsimp only;rw[apG,e];simp only[arJ];refine cO (by omega) ⟨⟨by omega,by omega⟩,?_⟩;by_cases h5:(Sp.nodeAt q n).1=5
  .have hb:=Hf hk (.inl h5);simp only[h5,Int.reduceBEq,arF,aq3];have fin:gB q n (out.set (Sp.nodeAt q n).2.1.toNat (true,()))=Sp.negated q:=by rw[← Vx h5];exact hJ
   exact⟨⟨by omega,by omega⟩,by omega,trivial,next _ ⟨by simp[hl],fin⟩⟩
  by_cases MQ:(Sp.nodeAt q n).1=6\/(Sp.nodeAt q n).1=7
  .have hb:=Hf hk (.inr MQ);have hb2:=Hg hk MQ;have hne:(Sp.nodeAt q n).2.1.toNat≠n:=by omega
   have fin:gB q n ((out.set (Sp.nodeAt q n).2.1.toNat ((out.getD n (false,())).1,())).set (Sp.nodeAt q n).2.2.1.toNat ((out.getD n (false,())).1,()))=Sp.negated q:=by rw[← Vy MQ];exact hJ
   rcases MQ with h6|h6
   all_goals
    simp only[h6,Int.reduceBEq,arF,aq3,getD_set_ne _ _ _ _ _ hne];exact⟨⟨by omega,by omega⟩,by omega,⟨by omega,by omega⟩,by omega,⟨by omega,by omega⟩,by omega,⟨by omega,by omega⟩,by omega,trivial,next _ ⟨by simp[hl],fin⟩⟩
  .have h6:(Sp.nodeAt q n).1≠6:=λh=>MQ (.inl h);have h7:(Sp.nodeAt q n).1≠7:=λh=>MQ (.inr h);have fin:gB q n out=Sp.negated q:=by rw[SK h5 h6 h7]at hJ;exact hJ
   simp only[apu.2 h5,apu.2 h6,apu.2 h7,aq3];exact⟨rfl,next _ ⟨hl,fin⟩⟩
 .obtain⟨out,⟨⟩⟩:=s;obtain⟨hl,hJ⟩:=hJ;dsimp only;refine bY (by omega) ?_;have hJ:out=Sp.negated q:=hJ;rw[hJ]
end Go.Proofs.Tryz
namespace Go.Proofs.Tryz
open Go Go.Fw Go.IntWalk Sp
def ach(q:List aU)(neg:Bool)(i:Nat):Option Sp.Bytes:=bif xg (Sp.nodeAt q i)&&((Sp.negated q).getD i (false,())).1==neg then some (Sp.nodeAt q i).2.2.2.1 else none
def zo(q:List aU)(neg:Bool)(n:Nat):List Sp.Bytes:=(List.range n).filterMap (ach q neg)
theorem rZ(q:List aU)(neg:Bool):zo q neg (Sp.negated q).length=dH q neg:=rfl
theorem aax{q:List aU}{neg:Bool}{n:Nat}(h1:xg (Sp.nodeAt q n)=true)(h2:((Sp.negated q).getD n (false,())).1=neg):zo q neg (n+1)=zo q neg n++[(Sp.nodeAt q n).2.2.2.1]:=by
 unfold zo;rw[arG,List.filterMap_append];congr 1;show List.filterMap _ [n]=_;rw[List.filterMap_cons];have:ach q neg n=some (Sp.nodeAt q n).2.2.2.1:=by unfold ach;rw[h1,h2];simp
 rw[this];rfl
theorem JV{q:List aU}{neg:Bool}{n:Nat}(h:¬(xg (Sp.nodeAt q n)=true/\((Sp.negated q).getD n (false,())).1=neg)):zo q neg (n+1)=zo q neg n:=by
 unfold zo;rw[arG,List.filterMap_append];have:ach q neg n=none:=by
  unfold ach;have:(xg (Sp.nodeAt q n)&&((Sp.negated q).getD n (false,())).1==neg)=false:=by rw[aq5];intro h';rw[apt,apy]at h';exact h h'
  rw[this];rfl
 rw[List.filterMap_cons,this];simp
theorem su(q:List aU)(neg:Bool)(n:Nat):(zo q neg n).length<=n:=by have:=List.length_filterMap_le (ach q neg) (List.range n);rw[List.length_range]at this;exact this
theorem sD(q:List aU):(Sp.negated q).length<=q.length:=by
 cases h:aS q with
 |true=>rw[agm h];exact apz _
 |false=>unfold Sp.negated;rw[h];exact apW _
theorem Gu:OK qc.e:=by
 refine uO [(AQ,.eff (aeO nS) xM),xY.e,qx.e] ⟨⟨Q7,Pm⟩,XO,Oy,⟨⟩⟩ XQ (λ⟨q,neg,_⟩ hp=>⟨((((dH q neg).map λs=>(s,()),()),())),⟨by show((dH q neg).map _).length<=1000;rw[apD];have:=su q neg (Sp.negated q).length;have:=sD q;have hp:q.length<=1000:=hp;rw[rZ]at*;omega,λs=>by show(s,())∈(dH q neg).map _↔_;simp⟩⟩) λq neg=>show qc.goal (U1 q neg) (q,neg,())fromλhin hp=>?_
 dsimp only[qc]at hp ⊢;have hp:q.length<=1000:=hp;have hnl:=sD q;refine⟨hp,?_⟩;refine fB (λi(x:Sp.LS)=>(((),i,()),x,())) (λy=>y.1.2.1) (λ_ _=>rfl) (Sp.negated q).length (by omega) (λn l=>l=(zo q neg n).map λs=>(s,())) rfl (λI μ n l hn hJ next=>?_) λI μ l hJ=>?_
 .subst hJ;have hl:=su q neg n;dsimp only;refine cO (by omega) ⟨⟨by omega,by omega⟩,⟨by omega,by omega⟩,trivial,af (λh1=>af (λh2=>⟨⟨by omega,by omega⟩,?_,rfl,next _ ?_⟩) λh2=>⟨rfl,next _ ?_⟩) λh1=>⟨rfl,next _ ?_⟩⟩
  .rw[cZ];simp only[apH,apV,apD];omega
  .rw[aax (show xg (Sp.nodeAt q n)=true from h1) (apy.1 h2),aqb];rfl
  .rw[JV λh=>by have h2:=apu.1 h2;exact h2 h.2]
  .rw[JV λh=>by have h1:xg (Sp.nodeAt q n)=false:=h1;rw[h1]at h;cases h.1]
 .subst hJ;have hl:=su q neg (Sp.negated q).length;rw[rZ]at hl ⊢;dsimp only;refine bY (by omega) ⟨by rw[apD];omega,?_⟩;rintro⟨⟨r,⟨⟩⟩,⟨⟩⟩ ⟨h1,h2⟩;have h1:r.length<=((dH q neg).map λs=>(s,())).length:=h1;rw[apD]at h1;refine⟨by show r.length<=1000;omega,λs=>?_⟩;have:=h2 (s,());show(s,())∈r↔_;rw[this];simp
theorem NV:OK qy.e:=by
 refine uO [qc.e] ⟨Gu,⟨⟩⟩ H0 (λ⟨q,_⟩ hp=>⟨((((dH q false).map λs=>(s,()),()),())),⟨by show((dH q false).map _).length<=1000;rw[apD];have:=su q false (Sp.negated q).length;have:=sD q;have hp:q.length<=1000:=hp;rw[rZ]at*;omega,λs=>by show(s,())∈(dH q false).map _↔_;simp⟩⟩) λq=>show qy.goal (OC q) (q,())fromλhin hp=>?_
 dsimp only[qy]at hp ⊢;exact⟨hp,λr hr=>hr⟩
theorem NU:OK qA.e:=by
 refine uO [qc.e] ⟨Gu,⟨⟩⟩ H0 (λ⟨q,_⟩ hp=>⟨((((dH q true).map λs=>(s,()),()),())),⟨by show((dH q true).map _).length<=1000;rw[apD];have:=su q true (Sp.negated q).length;have:=sD q;have hp:q.length<=1000:=hp;rw[rZ]at*;omega,λs=>by show(s,())∈(dH q true).map _↔_;simp⟩⟩) λq=>show qA.goal (OD q) (q,())fromλhin hp=>?_
 dsimp only[qA]at hp ⊢;exact⟨hp,λr hr=>hr⟩
theorem agT{l:Sp.LS}{s:Sp.Bytes}{m:Nat}(hm:m<=l.length)(h1:∀i,i<m->Op.bytesLess (l.getD i ([],())).1 s=true)(h2:m<l.length->Op.bytesLess (l.getD m ([],())).1 s=false):
 CP l s=bif decide (m<l.length)&&(l.getD m ([],())).1==s then l else l.take m++[(s,())]++l.drop m:=by
 obtain⟨e1,_⟩:=Ej (d:=(([]:List UInt8),())) l m hm (p:=λx=>Op.bytesLess x.1 s) h1 h2;unfold CP;rw[e1];have:(l.take m).length=m:=by rw[apM];omega
 rw[this]
theorem IQ{l:Sp.LS}{s:Sp.Bytes}(x:Sp.Bytes×Unit):x∈CP l s↔x=(s,())\/x∈l:=by
 unfold CP;dsimp only;generalize (l.takeWhile λx=>Op.bytesLess x.1 s).length=n;cases h:decide (n<l.length)&&(l.getD n ([],())).1==s with
 |true=>
  rw[apt,apy]at h;refine⟨.inr,λhx=>?_⟩;rcases hx with rfl|hx
  .have:=getD_mem (d:=(([]:List UInt8),())) (iH h.1);rw[show l.getD n ([],())=(s,())from Prod.ext h.2 rfl]at this;exact this
  .exact hx
 |false=>
  show x∈l.take n++[(s,())]++l.drop n↔_;rw[apX,apX,ap9]
  conv=>rhs;rw[← aq7 n l,apX]
  constructor
  .rintro((h|h)|h)
   .exact .inr (.inl h)
   .exact .inl h
   .exact .inr (.inr h)
  .rintro(h|h|h)
   .exact .inl (.inr h)
   .exact .inl (.inl h)
   .exact .inr h
theorem ajO(l:Sp.LS)(s:Sp.Bytes):(CP l s).length<=l.length+1:=by
 unfold CP;dsimp only;generalize (l.takeWhile λx=>Op.bytesLess x.1 s).length=n;cases decide (n<l.length)&&(l.getD n ([],())).1==s with
 |true=>exact Nat.le_succ _
 |false=>show(l.take n++[(s,())]++l.drop n).length<=_;simp;omega
theorem aci:OK BH.e:=by
 refine aV [] ⟨⟩ adT λl s=>show BH.goal (acj l s) (l,s,())fromλhin hp=>?_
 dsimp only[BH]at hp ⊢;have hp:l.length<=1000:=hp;have fin:∀m:Nat,m<=l.length->CP l s=l.take m++[(s,())]++l.drop m->((0:Int)<=m/\(m:Int)<=l.length)/\0+(List.drop 0 (List.take m l)).length<=big/\(List.drop 0 (List.take m l)).length+[(s,())].length<=big/\((0:Int)<=m/\(m:Int)<=l.length)/\
  (List.drop 0 (List.take m l)++[(s,())]).length+(List.drop m (List.take l.length l)).length<=big/\(List.drop 0 (List.take m l)++[(s,())]++List.drop m (List.take l.length l),())=(CP l s,()):=by
  intro m hm h;refine⟨⟨by omega,by omega⟩,?_,?_,⟨by omega,by omega⟩,?_,?_⟩
  .rw[cZ];simp only[aqm,apM];omega
  .rw[cZ];simp only[aqm,apM,apH,apV];omega
  .rw[cZ];simp only[apT,aqm,apM,apH,apV];omega
  .rw[h,apZ,List.drop_zero]
 refine dP l.length (by omega) (λn=>∀i,i<n->Op.bytesLess (l.getD i ([],())).1 s=true) (λi hi=>by omega) (λI μ n hn hJ next=>?_) λI μ hJ=>?_
 .dsimp only;refine cO (by omega) ⟨⟨by omega,by omega⟩,af (λh=>⟨rfl,next (bZ (f:=λi=>Op.bytesLess (l.getD i ([],())).1 s) hJ h)⟩) λh=>cO (by omega) ⟨⟨by omega,by omega⟩,?_⟩⟩;have e:=agT (arC hn) hJ λ_=>h;rw[apE hn,aq6]at e;refine af (λh2=>?_) λh2=>fin n (arC hn) ?_
  .rw[show((l.getD n ([],())).1==s)=true from h2]at e;rw[e];rfl
  .rw[show((l.getD n ([],())).1==s)=false from h2]at e;exact e
 .dsimp only;refine bY (by omega) (bY (by omega) (fin l.length (apz _) ?_));have e:=agT (apz _) hJ λh=>by omega
  rw[apK (by omega)]at e;exact e
theorem ai7(x:aU):xg x=(decide (8<=x.1)&&decide (x.1<=9)):=by unfold xg;rw[apO];simp;omega
theorem IU:OK rF.e:=by
 refine uO [BH.e,gW.e,qw.e] ⟨aci,iU,OA,⟨⟩⟩ aay (λ⟨q,neg,_⟩ hp=>⟨((((dH q neg).map λs=>(s,()),()),())),⟨by show((dH q neg).map _).length<=1000;rw[apD];have:=su q neg (Sp.negated q).length;have:=sD q;have hp:q.length<=1000:=hp;rw[rZ]at*;omega,λs=>by show(s,())∈(dH q neg).map _↔_;simp⟩⟩) λq neg=>show rF.goal (XR q neg) (q,neg,())fromλhin hp=>?_
 dsimp only[rF]at hp ⊢;have hp:q.length<=1000:=hp;have hnl:=sD q;refine⟨hp,?_⟩;refine fB (λi(x:Sp.LS)=>((x,i,()),())) (λy=>y.1.2.1) (λ_ _=>rfl) (Sp.negated q).length (by omega) (λn l=>l.length<=n/\∀s,(s,())∈l↔s∈zo q neg n) ⟨apz _,λs=>by simp[zo]⟩ (λI μ n l hn hJ next=>?_) λI μ l hJ=>?_
 .obtain⟨hl,hJ⟩:=hJ;dsimp only;have hnm:=ai7 (Sp.nodeAt q n);refine cO (by omega) ⟨⟨by omega,by omega⟩,trivial,af (λh1=>⟨⟨by omega,by omega⟩,af (λh2=>⟨⟨by omega,by omega⟩,by omega,rfl,next _ ?_⟩) λh2=>⟨rfl,next _ ⟨by omega,?_⟩⟩⟩) λh1=>⟨rfl,next _ ⟨by omega,?_⟩⟩⟩
  .have h1:(decide (8<=(Sp.nodeAt q n).1)&&decide ((Sp.nodeAt q n).1<=9))=true:=h1;rw[aax (hnm.trans h1) (apy.1 h2)];refine⟨apv (ajO _ _) (by omega),λs=>?_⟩;rw[IQ,apX,ap9,hJ,Prod.mk.injEq];constructor
   .rintro(⟨h,_⟩|h)
    .exact .inr h
    .exact .inl h
   .rintro(h|h)
    .exact .inr h
    .exact .inl ⟨h,rfl⟩
  .rw[JV λh=>by have h2:=apu.1 h2;exact h2 h.2];exact hJ
  .rw[JV λh=>by have h1:(decide (8<=(Sp.nodeAt q n).1)&&decide ((Sp.nodeAt q n).1<=9))=false:=h1;rw[hnm,h1]at h;cases h.1];exact hJ
 .obtain⟨hl,hJ⟩:=hJ;rw[rZ]at hJ;dsimp only;exact bY (by omega) ⟨by rw[cZ];omega,by show l.length<=1000;omega,hJ⟩
theorem OE:OK qB.e:=by
 refine uO [rF.e] ⟨IU,⟨⟩⟩ H0 (λ⟨q,_⟩ hp=>⟨((((dH q false).map λs=>(s,()),()),())),⟨by show((dH q false).map _).length<=1000;rw[apD];have:=su q false (Sp.negated q).length;have:=sD q;have hp:q.length<=1000:=hp;rw[rZ]at*;omega,λs=>by show(s,())∈(dH q false).map _↔_;simp⟩⟩) λq=>show qB.goal (OG q) (q,())fromλhin hp=>?_
 dsimp only[qB]at hp ⊢;exact⟨hp,λr hr=>hr⟩
theorem OH:OK qC.e:=by
 refine uO [rF.e] ⟨IU,⟨⟩⟩ H0 (λ⟨q,_⟩ hp=>⟨((((dH q true).map λs=>(s,()),()),())),⟨by show((dH q true).map _).length<=1000;rw[apD];have:=su q true (Sp.negated q).length;have:=sD q;have hp:q.length<=1000:=hp;rw[rZ]at*;omega,λs=>by show(s,())∈(dH q true).map _↔_;simp⟩⟩) λq=>show qC.goal (OI q) (q,())fromλhin hp=>?_
 dsimp only[qC]at hp ⊢;exact⟨hp,λr hr=>hr⟩
end Go.Proofs.Tryz
namespace Go.Proofs.Tryz
open Go Go.Fw Go.IntWalk Sp
theorem JW:OK tZ.e:=by
 refine aV [] ⟨⟩ H0 λx0 x1 p=>show tZ.goal (aaz x0 x1 p) ((x0,x1,()),(p,()),())fromλhin hp=>?_
 dsimp only[tZ]at hp ⊢;exact rfl
theorem Iy{d:List aB}{s:Sp.Bytes}{n:Nat}(hn:n<d.length)(h1:(bJ d n).1=s)(h2:∀i,i<n->(bJ d i).1≠s):aC d s=n:=by
 rcases Ar d s with⟨_,h⟩|⟨m,g1,g2,g3,g4⟩
 .exact(h _ (getD_mem (d:=(([]:List UInt8),([]:List aU),())) hn) h1).elim
 .have:m=n:=by
   rcases aru m n with h|h|h
   .exact(h2 m h g3).elim
   .exact h
   .exact(g4 n h h1).elim
  rw[g2,this]
theorem afu{d:List aB}{s:Sp.Bytes}(h2:∀i,i<d.length->(bJ d i).1≠s):aC d s=-1:=by
 rcases Ar d s with⟨h,_⟩|⟨m,g1,_,g3,_⟩
 .exact h
 .exact(h2 m g1 g3).elim
theorem uT:OK fD.e:=by
 refine aV [tZ.e] ⟨JW,⟨⟩⟩ uV λd s=>show fD.goal (uU d s) (d,((s,()),()),())fromλhin hp=>?_
 dsimp only[fD]at hp ⊢;have hlen:d.length<=maxLen:=hin.1.1;rw[maxLen_eq]at hlen;refine dP d.length hlen (λn=>∀i,i<n->(bJ d i).1≠s) (λi hi=>by omega) (λI μ n hn hJ next=>?_) λI μ hJ=>?_
 .dsimp only;refine cO (by omega) ⟨⟨by omega,by omega⟩,trivial,af (λh=>?_) λh=>⟨rfl,next λi hi=>?_⟩⟩
  .rw[Iy hn (apy.1 h) hJ]
  .rcases apQ i n with h'|h'
   .exact hJ i h'
   .have:i=n:=by omega
    rw[this];exact apu.1 h
 .dsimp only;refine bY (by omega) ?_;rw[afu hJ]
theorem adU:OK Dn.e:=by
 refine aV [fD.e,tZ.e] ⟨uT,JW,⟨⟩⟩ H0 λd s=>show Dn.goal (adV d s) (d,s,())fromλhin hp=>?_
 dsimp only[Dn]at hp ⊢;exact⟨trivial,rfl⟩
theorem XT:OK yc.e:=by
 refine aV [] ⟨⟩ aaA λd s=>show yc.goal (XU d s) (d,s,())fromλhin hp=>?_
 dsimp only[yc]at hp ⊢;have hlen:d.length<=maxLen:=hin.1.1;rw[maxLen_eq]at hlen;refine dP d.length hlen (λn=>∀i,i<n->(bJ d i).1≠s) (λi hi=>by omega) (λI μ n hn hJ next=>?_) λI μ hJ=>?_
 .dsimp only;refine cO (by omega) ⟨⟨by omega,by omega⟩,af (λh=>?_) λh=>⟨rfl,next λi hi=>?_⟩⟩
  .rw[Iy hn (apy.1 h) hJ]
  .rcases apQ i n with h'|h'
   .exact hJ i h'
   .have:i=n:=by omega
    rw[this];exact apu.1 h
 .dsimp only;refine bY (by omega) ?_;rw[afu hJ]
theorem PD:OK rG.e:=by
 refine aV [Dn.e] ⟨adU,⟨⟩⟩ SL λd au names more=>show rG.goal (Qc d au names more) (d,au,names,more,())fromλhin hp=>?_
 dsimp only[rG]at hp ⊢;obtain⟨h1,h2,h3,h4,h5⟩:d.length<=au.length/\names.length<=1000/\0<=more/\more<=1/\∀x∈au,0<=x.1/\x.1<=1000000:=hp;refine fB (λi(c:Int)=>((c,i,()),())) (λy=>y.1.2.1) (λ_ _=>rfl) names.length (by omega) (λn c=>∀B,c<=B↔0<=B/\∀x∈names.take n,0<=aC d x.1->Sp.lv au (aC d x.1).toNat+more<=B) (λB=>by simp) (λI μ n c hn hJ next=>?_) λI μ c hJ=>?_
 .dsimp only;rw[apG];have e:=Sp.take_succ' names n ([],()) hn;refine cO (by omega) ⟨⟨by omega,by omega⟩,trivial,af (λh=>?_) λh=>⟨rfl,next _ λB=>?_⟩⟩
  .have h:0<=aC d (names.getD n ([],())).1:=iH h;have hlt:=Fh h;have hb:=h5 _ (Si (l:=au) (i:=(aC d (names.getD n ([],())).1).toNat) (by omega));dsimp only at hb;have hw:IntKind.i64.wrap (Sp.lv au (aC d (names.getD n ([],())).1).toNat+more)=Sp.lv au (aC d (names.getD n ([],())).1).toNat+more:=fH _ (by omega);have e2:(au.getD (aC d (names.getD n ([],())).1).toNat (0,())).1=Sp.lv au (aC d (names.getD n ([],())).1).toNat:=rfl;refine⟨⟨h,by omega⟩,rfl,next _ λB=>?_⟩;rw[e2,hw,e];simp only[apX,ap9];have:=hJ B;constructor
   .intro hB;have hc:c<=B:=by split at hB<;>omega
    have hv:Sp.lv au (aC d (names.getD n ([],())).1).toNat+more<=B:=by split at hB<;>omega
    obtain⟨a,b⟩:=this.1 hc;refine⟨a,λx hx hx0=>?_⟩;rcases hx with hx|rfl
    .exact b x hx hx0
    .exact hv
   .rintro⟨a,b⟩;have hc:=this.2 ⟨a,λx hx=>b x (.inl hx)⟩;have hv:=b _ (.inr rfl) h;split<;>omega
  .have h:¬0<=aC d (names.getD n ([],())).1:=iV h;rw[hJ B,e];simp only[apX,ap9];constructor
   .rintro⟨a,b⟩;refine⟨a,λx hx hx0=>?_⟩;rcases hx with hx|rfl
    .exact b x hx hx0
    .exact(h hx0).elim
   .exactλ⟨a,b⟩=>⟨a,λx hx=>b x (.inl hx)⟩
 .dsimp only;refine bY (by omega) (congrArg (·,()) ?_);rw[apZ]at hJ;have h6:=λB=>(hJ B).trans (Di (d:=d) (au:=au) (more:=more) names B).symm;have a:=(h6 c).1 (ap5 _);have b:=(h6 (rH d au more names)).2 (ap5 _);omega
end Go.Proofs.Tryz
namespace Go.Proofs.Tryz
open Go Go.Fw Go.IntWalk Sp
theorem adi{d:List aB}{i:Nat}(hi:i<d.length){neg:Bool}{r:Sp.LS}(hr:gu r (dH (bJ d i).2.1 neg)){p:Nat}(hp:p<r.length)(h0:0<=aC d (r.getD p ([],())).1):
 (i,(aC d (r.getD p ([],())).1).toNat,if neg then 1 else 0)∈bV d:=by
 have hm:=getD_mem (d:=(([]:List UInt8),())) hp;have:=(hr.2 (r.getD p ([],())).1).1 hm;cases neg with
 |false=>exact zl.2 ⟨hi,_,.inl ⟨rfl,this⟩,h0,rfl⟩
 |true=>exact zl.2 ⟨hi,_,.inr ⟨rfl,this⟩,h0,rfl⟩
theorem JD{d:List aB}{i j m:Nat}{neg:Bool}{r:Sp.LS}(hr:gu r (dH (bJ d i).2.1 neg))(he:(i,j,m)∈bV d)(hm:m=if neg then 1 else 0):
 ∃p,p<r.length/\0<=aC d (r.getD p ([],())).1/\j=(aC d (r.getD p ([],())).1).toNat:=by
 obtain⟨_,s,h2,h3,h4⟩:=zl.1 he;have hs:s∈dH (bJ d i).2.1 neg:=by
  cases neg with
  |false=>rcases h2 with⟨_,h⟩|⟨h,_⟩;exact h;simp at hm;omega
  |true=>rcases h2 with⟨h,_⟩|⟨_,h⟩;simp at hm;omega;exact h
 have hm:=(hr.2 s).2 hs;obtain⟨p,hp,e⟩:=ap3 hm;have e2:r.getD p ([],())=(s,()):=by rw[apI,apw hp,e];rfl
 exact⟨p,hp,by rw[e2];exact h3,by rw[e2];exact h4⟩
theorem ai8:∀x,(oh.F x).1->∃t,(oh.F x).2 t:=by rintro⟨d,au,_⟩ hp;obtain⟨_,_,h3,h4⟩:qf d/\d.length<=5/\au.length=d.length/\∀x∈au,0<=x.1/\x.1<=1000000:=hp;obtain⟨r,hr⟩:=agn d au h3 λi hi=>(h4 _ (Si (by omega))).1;exact⟨((r,()),()),hr⟩
theorem WI:OK oh.e:=by
 refine uO [qC.e,yc.e,qB.e] ⟨OH,XT,OE,⟨⟩⟩ aaB (ai8) λd au=>show oh.goal (XV d au) (d,au,())fromλhin hp=>?_
 dsimp only[oh]at hp ⊢;obtain⟨h1,h2,h3,h4⟩:qf d/\d.length<=5/\au.length=d.length/\∀x∈au,0<=x.1/\x.1<=1000000:=hp;have h0:∀i,i<d.length->0<=Sp.lv au i/\Sp.lv au i<=1000000:=λi hi=>h4 _ (Si (by omega));have hB:∀i,i<d.length->Sp.lv au i<=1000000:=λi hi=>(h0 i hi).2;refine⟨by rw[cZ];omega,?_⟩;refine fB (λi(x:List (Int×Unit))=>((i,()),x,())) (λy=>y.1.1) (λ_ _=>rfl) d.length (by omega) (λi cur=>EC d au cur (1000*i) λe=>e∈bV d/\e.1<i) ((EC.start h3).weaken (by omega) λe he=>by have:=he.2;omega) (λI μ i cur hi hJ next=>?_) λI μ cur hJ=>?_
 .dsimp only;rw[apG];refine cO (by omega) ⟨⟨by omega,by omega⟩,EO h1 hi,?_⟩;rintro⟨⟨r,⟨⟩⟩,⟨⟩⟩ hr;have hr:gu r (dH (bJ d i).2.1 false):=hr;have hrl:r.length<=1000:=hr.1;refine fB (λi(x:List (Int×Unit))=>((i,()),x,())) (λy=>y.1.1) (λ_ _=>rfl) r.length (by omega) (λp cur=>EC d au cur (1000*i) λe=>e∈bV d/\(e.1<i\/(e.1=i/\e.2.2=0/\∃p',p'<p/\e.2.1=(aC d (r.getD p' ([],())).1).toNat/\0<=aC d (r.getD p' ([],())).1))) (hJ.weaken (ap5 _) λe he=>⟨he.1,by rcases he.2 with h|⟨_,_,_,h,_⟩;exact h;omega⟩) (λI1 μ1 p cur hp hJ ahW=>?_) λI1 μ1 cur hJ=>?_
  .dsimp only;rw[apG];have hl:=hJ.len;have hP:∀e:Nat×Nat×Nat,(e∈bV d/\(e.1<i\/(e.1=i/\e.2.2=0/\∃p',p'<p+1/\e.2.1=(aC d (r.getD p' ([],())).1).toNat/\0<=aC d (r.getD p' ([],())).1)))->
    (e∈bV d/\(e.1<i\/(e.1=i/\e.2.2=0/\∃p',p'<p/\e.2.1=(aC d (r.getD p' ([],())).1).toNat/\0<=aC d (r.getD p' ([],())).1)))\/(e=(i,(aC d (r.getD p ([],())).1).toNat,0)/\0<=aC d (r.getD p ([],())).1):=by
    rintro⟨a,b,c⟩ ⟨he,h|⟨h,h5,p',h6,h7,h8⟩⟩
    .exact .inl ⟨he,.inl h⟩
    .by_cases hpp:p'=p
     .subst hpp;have h:a=i:=h;have h5:c=0:=h5;have h7:b=(aC d (r.getD p' ([],())).1).toNat:=h7;exact .inr ⟨by rw[h,h5,h7],h8⟩
     .exact .inl ⟨he,.inr ⟨h,h5,p',by omega,h7,h8⟩⟩
   refine cO (by omega) ⟨⟨by omega,by omega⟩,trivial,af (λh=>?_) λh=>⟨rfl,ahW _ (hJ.weaken (ap5 _) λe he=>?_)⟩⟩
   .have h:0<=aC d (r.getD p ([],())).1:=iH h;have hlt:=Fh h;have he:=adi hi hr hp h;refine⟨⟨h,by omega⟩,by omega,⟨by omega,by omega⟩,by omega,af (λhc=>⟨⟨h,by omega⟩,by omega,⟨by omega,by omega⟩,by omega,rfl,ahW _ ?_⟩) λhc=>⟨rfl,ahW _ ?_⟩⟩
    .have hc:Sp.lv cur i<Sp.lv cur (aC d (r.getD p ([],())).1).toNat:=iH hc;have:=hJ.set he (by show _<_+((0:Nat):Int);omega);have e0:Sp.lv cur (aC d (r.getD p ([],())).1).toNat+((if false=true then 1 else 0:Nat):Int)=Sp.lv cur (aC d (r.getD p ([],())).1).toNat:=by show _+((0:Nat):Int)=_;omega
     rw[e0]at this;exact this.weaken (by show 1000*(i:Int)+((0:Nat):Int)<=_;omega) λe he=>(hP e he).imp_right λh=>h.1
    .have hc:¬Sp.lv cur i<Sp.lv cur (aC d (r.getD p ([],())).1).toNat:=iV hc;have:=hJ.still he (by show _+((0:Nat):Int)<=_;omega);exact this.weaken (ap5 _) λe he=>(hP e he).imp_right λh=>h.1
   .have h:¬0<=aC d (r.getD p ([],())).1:=iV h;rcases hP e he with h'|h'
    .exact h'
    .exact(h h'.2).elim
  .dsimp only;have hJ2:EC d au cur (1000*i) λe=>e∈bV d/\(e.1<i\/(e.1=i/\e.2.2=0)):=hJ.weaken (ap5 _) λe he=>⟨he.1,he.2.imp_right λh=>⟨h.1,h.2,by obtain⟨a,b,c⟩:=e;obtain⟨he,_⟩:=he;obtain⟨h,h5⟩:=h;have h:a=i:=h;have h5:c=0:=h5;subst h h5;obtain⟨p,q1,q2,q3⟩:=JD hr he rfl;exact⟨p,q1,q3,q2⟩⟩⟩;clear hJ;refine bY (by omega) ⟨⟨by omega,by omega⟩,EO h1 hi,?_⟩;rintro⟨⟨r2,⟨⟩⟩,⟨⟩⟩ hr2;have hr2:gu r2 (dH (bJ d i).2.1 true):=hr2;have hrl2:r2.length<=1000:=hr2.1;refine fB (λi(x:List (Int×Unit))=>((i,()),x,())) (λy=>y.1.1) (λ_ _=>rfl) r2.length (by omega) (λp cur=>EC d au cur (1000*i+p) λe=>e∈bV d/\(e.1<i\/(e.1=i/\e.2.2=0)\/(e.1=i/\e.2.2=1/\∃p',p'<p/\e.2.1=(aC d (r2.getD p' ([],())).1).toNat/\0<=aC d (r2.getD p' ([],())).1))) (hJ2.weaken (by omega) λe he=>⟨he.1,by rcases he.2 with h|h|⟨_,_,_,h,_⟩;exact .inl h;exact .inr h;omega⟩) (λI2 μ2 p cur hp hJ ahX=>?_) λI2 μ2 cur hJ=>?_
   .dsimp only;rw[apG];have hl:=hJ.len;have hP:∀e:Nat×Nat×Nat,(e∈bV d/\(e.1<i\/(e.1=i/\e.2.2=0)\/(e.1=i/\e.2.2=1/\∃p',p'<p+1/\e.2.1=(aC d (r2.getD p' ([],())).1).toNat/\0<=aC d (r2.getD p' ([],())).1)))->
     (e∈bV d/\(e.1<i\/(e.1=i/\e.2.2=0)\/(e.1=i/\e.2.2=1/\∃p',p'<p/\e.2.1=(aC d (r2.getD p' ([],())).1).toNat/\0<=aC d (r2.getD p' ([],())).1)))\/(e=(i,(aC d (r2.getD p ([],())).1).toNat,1)/\0<=aC d (r2.getD p ([],())).1):=by
     rintro⟨a,b,c⟩ ⟨he,h|h|⟨h,h5,p',h6,h7,h8⟩⟩
     .exact .inl ⟨he,.inl h⟩
     .exact .inl ⟨he,.inr (.inl h)⟩
     .by_cases hpp:p'=p
      .subst hpp;have h:a=i:=h;have h5:c=1:=h5;have h7:b=(aC d (r2.getD p' ([],())).1).toNat:=h7;exact .inr ⟨by rw[h,h5,h7],h8⟩
      .exact .inl ⟨he,.inr (.inr ⟨h,h5,p',by omega,h7,h8⟩)⟩
    refine cO (by omega) ⟨⟨by omega,by omega⟩,trivial,af (λh=>?_) λh=>⟨rfl,ahX _ (hJ.weaken (by omega) λe he=>?_)⟩⟩
    .have h:0<=aC d (r2.getD p ([],())).1:=iH h;have hlt:=Fh h;have he:=adi hi hr2 hp h;have hg:=hJ.grow 1000000 hB (aC d (r2.getD p ([],())).1).toNat (by omega);have hu:=hJ.up (aC d (r2.getD p ([],())).1).toNat (by omega);have hz:=(h0 (aC d (r2.getD p ([],())).1).toNat (by omega)).1;have hw:IntKind.i64.wrap (Sp.lv cur (aC d (r2.getD p ([],())).1).toNat+1)=Sp.lv cur (aC d (r2.getD p ([],())).1).toNat+1:=fH _ (by omega);have e2:(cur.getD (aC d (r2.getD p ([],())).1).toNat (0,())).1=Sp.lv cur (aC d (r2.getD p ([],())).1).toNat:=rfl;rw[e2,hw];refine⟨⟨h,by omega⟩,by omega,⟨by omega,by omega⟩,by omega,af (λhc=>⟨⟨h,by omega⟩,by omega,⟨by omega,by omega⟩,by omega,rfl,ahX _ ?_⟩) λhc=>⟨rfl,ahX _ ?_⟩⟩
     .have hc:Sp.lv cur i<Sp.lv cur (aC d (r2.getD p ([],())).1).toNat+1:=iH hc;have:=hJ.set he (by show _<_+((1:Nat):Int);omega);exact this.weaken (by show 1000*(i:Int)+p+((1:Nat):Int)<=_;omega) λe he=>(hP e he).imp_right λh=>h.1
     .have hc:¬Sp.lv cur i<Sp.lv cur (aC d (r2.getD p ([],())).1).toNat+1:=iV hc;have:=hJ.still he (by show _+((1:Nat):Int)<=_;omega);exact this.weaken (by omega) λe he=>(hP e he).imp_right λh=>h.1
    .have h:¬0<=aC d (r2.getD p ([],())).1:=iV h;rcases hP e he with h'|h'
     .exact h'
     .exact(h h'.2).elim
   .dsimp only;refine bY (by omega) ⟨rfl,next _ (hJ.weaken (by omega) λe he=>⟨he.1,?_⟩)⟩;obtain⟨a,b,c⟩:=e;obtain⟨he,h⟩:=he;have h:a<i+1:=h;rcases apQ a i with h'|h'
    .exact .inl h'
    .have:a=i:=by omega
     subst this;obtain⟨_,_,hc⟩:=jc d _ he;have hc:c<=1:=hc;rcases aqM c with hc0|hc0
     .exact .inr (.inl ⟨rfl,hc0⟩)
     .have hc1:c=1:=by omega
      subst hc1;obtain⟨p,q1,q2,q3⟩:=JD hr2 he rfl;exact .inr (.inr ⟨rfl,rfl,p,q1,q3,q2⟩)
 .dsimp only;refine bY (by omega) ?_;exact hJ.raised (by omega) (λe he=>⟨he,(jc d e he).1⟩) λi hi=>(h0 i hi).1
end Go.Proofs.Tryz
