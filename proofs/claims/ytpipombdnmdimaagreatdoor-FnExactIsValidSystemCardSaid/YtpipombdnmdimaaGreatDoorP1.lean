import Derived.Test.YtpipombdnmdimaaGreatDoorV1
import Derived.Test.YtpipombdnmdimaaGreatDoorV7
import Derived.Test.YtpipombdnmdimaaGreatDoorV9
import Derived.Test.YtpipombdnmdimaaGreatDoorV10
import Derived.Test.YtpipombdnmdimaaGreatDoorV12
import Derived.Test.YtpipombdnmdimaaGreatDoorV13
import Derived.Test.YtpipombdnmdimaaGreatDoorV30
import Derived.Test.YtpipombdnmdimaaGreatDoorV2
import Derived.Test.YtpipombdnmdimaaGreatDoorV3
import Derived.Test.YtpipombdnmdimaaGreatDoorV4
import Derived.Test.YtpipombdnmdimaaGreatDoorV5
import Derived.Test.YtpipombdnmdimaaGreatDoorV6
import Derived.Test.YtpipombdnmdimaaGreatDoorSp
import Derived.Test.YtpipombdnmdimaaGreatDoorFwC
import Derived.Test.YtpipombdnmdimaaGreatDoorL1
namespace Go.Proofs.Tryz
open Go Go.Fw Go.IntWalk Sp
theorem jd:OK gX.e:=by
 refine aO [] ⟨⟩ H0 λx a b=>show gX.goal (aq1 x a b) (x,a,b,())fromλN C=>?_
 dsimp only[gX]at C ⊢;refine af (λh=>?_) λh=>?_
 .have h:=fG h;show(decide (x<=b),())=(decide (a<=x)&&decide (x<=b),());rw[aHF (show a<=x from h)];rfl
 .have h:=fK h;show(false,())=(decide (a<=x)&&decide (x<=b),());rw[aHD (show ¬a<=x from h)];rfl
theorem jE:OK jc.e:=by
 refine aO [] ⟨⟩ H0 λx a b=>show jc.goal (aod x a b) (x,a,b,())fromλN C=>?_
 dsimp only[jc]at C ⊢;refine af (λh=>?_) λh=>?_
 .show(decide (x<=b),())=(decide (a<=x)&&decide (x<=b),());rw[h];rfl
 .show(false,())=(decide (a<=x)&&decide (x<=b),());rw[h];rfl
variable {n:Nat}
theorem SC{s:List UInt8}(a:n<s.length)(Q:Sp.lower s=true):97<=(s.getD n 0).toNat/\(s.getD n 0).toNat<=122:=by have:=aHS.1 Q _ (getD_mem (d:=0) a);simpa using this
theorem V4:OK CX.e:=by
 refine aO [gX.e] ⟨jd,⟨⟩⟩ aoe λs a=>show CX.goal (ak1 s a) (s,a,())fromλN C=>?_
 dsimp only[CX]at C ⊢;have Y:s.length<=maxLen:=N.1;rw[maxLen_eq]at Y;refine⟨λy=>∃n:Nat,y.1.1=n/\n<=s.length/\Sp.lower (s.take n)=true,λy=>((s.length:Int)-y.1.1).toNat,⟨0,rfl,lu,rfl⟩,?_⟩;rintro⟨⟨_,⟨⟩⟩,⟨⟩⟩ ⟨n,rfl,hn,hJ⟩;dsimp only;refine af (λh=>?_) λh=>?_<;>simp only[aHM,aHW]at h
 .have hlt:n<s.length:=lu;rw[fU _ lu,aHB];refine⟨⟨lu,lu⟩,af (λO=>?_) λO=>⟨⟨lu,lu⟩,af (λU=>?_) λU=>?_⟩⟩<;>simp only[aHM,aHW]at*
  .cases hl:Sp.lower s with
   |false=>rfl
   |true=>have:=SC hlt hl;omega
  .cases hl:Sp.lower s with
   |false=>rfl
   |true=>have:=SC hlt hl;omega
  .refine⟨rfl,⟨n+1,vk,lu,?_⟩,X3⟩;rw[Sp.take_succ' s n 0 hlt];unfold Sp.lower at hJ ⊢;rw[aJP,hJ];simp only[aIw,aJ5,aIV,aIK,aHy,aHM];omega
 .have hge:n=s.length:=lu;rw[hge,aH4]at hJ;rw[hJ];exact⟨trivial,rfl⟩
theorem DX:OK nZ.e:=by
 refine aO [CX.e] ⟨V4,⟨⟩⟩ H0 λs=>show nZ.goal (Yx s) (s,())fromλN C=>?_
 dsimp only[nZ]at C ⊢;exact⟨trivial,rfl⟩
theorem wV:OK mG.e:=by
 refine aO [nZ.e,gX.e] ⟨DX,jd,⟨⟩⟩ H0 λk n s=>show mG.goal (ZT k n s) ((k,n,s,()),())fromλN C=>?_
 dsimp only[mG]at C ⊢;refine af (λh=>?_) λh=>af (λO=>⟨trivial,af (λU=>?_) λU=>?_⟩) λO=>af (λU=>⟨trivial,af (λj=>?_) λj=>?_⟩) λU=>?_
 .have e:k=0:=y7;subst e;exact congrArg (·,()) (aHX.2 (by simp[dB]))
 .have e:k=1:=abV;subst e;exact congrArg (·,()) (aHX.2 (by simp only[aHy,aHM]at U;simp[dB,U]))
 .have e:k=1:=abV;subst e;exact congrArg (·,()) (aHX.2 (by simp only[dB,U];simp))
 .have e:k=2:=ah6;subst e;exact congrArg (·,()) (aHX.2 (by simp[dB,j]))
 .have e:k=2:=ah6;subst e;exact congrArg (·,()) (aHX.2 (by simp[dB,j]))
 .have e1:k≠0:=y7;have T:k≠1:=abV;have a:k≠2:=ah6;exact congrArg (·,()) (aHX.2 (by simp[dB,e1,T,a]))
theorem zD:OK l7.e:=by
 refine aO [CX.e] ⟨V4,⟨⟩⟩ H0 λs=>show l7.goal (Vg s) (s,())fromλN C=>?_
 dsimp only[l7]at C ⊢;exact⟨trivial,rfl⟩
theorem af5:OK Ef.e:=by
 refine aO [] ⟨⟩ aiF λs a=>show Ef.goal (af6 s a) (s,a,())fromλN C=>?_
 dsimp only[Ef]at C ⊢;have Y:s.length<=maxLen:=N.1.1;rw[maxLen_eq]at Y;refine dY s.length Y (λn=>∀i,i<n->(s.getD i ([],0,())).1≠a) (λi D=>lu) (λI P n H o next=>?_) λI P o=>?_
 .dsimp only;refine bT lu ⟨⟨lu,lu⟩,af (λh=>⟨⟨lu,lu⟩,?_⟩) λh=>⟨rfl,next λi D=>?_⟩⟩
  .exact congrArg (·,()) (V5 s n H o (by simpa only[aHB,aHE]using h)).symm
  .rcases aHU i n with h'|h'
   .exact o i h'
   .have:i=n:=lu;subst this;have O:((s.getD i ([],0,())).1==a)=false:=h;exactλe=>by rw[e]at O;simp at O
 .dsimp only;exact bP lu (congrArg (·,()) (Xl s o).symm)
theorem MO:OK qV.e:=by
 refine aO [gX.e,l7.e] ⟨jd,zD,⟨⟩⟩ ZU λs=>show qV.goal (Yy s) (s,())fromλN C=>?_
 dsimp only[qV]at C ⊢;have Y:s.length<=maxLen:=N.1.1;rw[maxLen_eq]at Y;refine dY s.length Y (λn=>∀i,i<n->jW s i=true) (λi D=>lu) (λI P n H o next=>?_) λI P o=>?_
 .dsimp only;have a:jW s n=false->(false,())=(dN s,()):=λh=>by rw[ahy H h]
  refine bT lu ⟨⟨lu,lu⟩,trivial,af (λO=>a ?_) λO=>⟨⟨lu,lu⟩,trivial,af (λU=>a ?_) λU=>af (λj=>?_) λj=>⟨rfl,next (bV o ?_)⟩⟩⟩
  .have O:dP (Sp.fieldAt s n).1=false:=dD O;unfold jW;rw[O];rfl
  .have O:dP (Sp.fieldAt s n).1=true:=bI O;have U:(decide (1<=(Sp.fieldAt s n).2.1)&&decide ((Sp.fieldAt s n).2.1<=2))=false:=dD U;unfold jW;rw[O,U];rfl
  .have O:dP (Sp.fieldAt s n).1=true:=bI O;have U:(decide (1<=(Sp.fieldAt s n).2.1)&&decide ((Sp.fieldAt s n).2.1<=2))=true:=bI U;have j:0<n:=afh;rw[nH j lu];refine⟨⟨lu,lu⟩,⟨lu,lu⟩,af (λM=>a ?_) λM=>⟨rfl,next (bV o ?_)⟩⟩
   .have M:Op.bytesLess (Sp.fieldAt s (n-1)).1 (Sp.fieldAt s n).1=false:=dD M;unfold jW;rw[O,U,M,aHF j];rfl
   .have M:Op.bytesLess (Sp.fieldAt s (n-1)).1 (Sp.fieldAt s n).1=true:=bI M;unfold jW;rw[O,U,M,aHF j];rfl
  .have O:dP (Sp.fieldAt s n).1=true:=bI O;have U:(decide (1<=(Sp.fieldAt s n).2.1)&&decide ((Sp.fieldAt s n).2.1<=2))=true:=bI U;have j:¬0<n:=ab3;unfold jW;rw[O,U,aHD j];rfl
 .dsimp only;refine bP lu (congrArg (·,()) ?_);unfold dN;rw[kG o];rfl
theorem Yz:OK wH.e:=by
 refine aO [Ef.e,mG.e] ⟨af5,wV,⟨⟩⟩ H0 λa s k n w=>show wH.goal (YA a s k n w) (a,s,(k,n,w,()),())fromλN C=>?_
 dsimp only[wH]at C ⊢;refine⟨trivial,af (λh=>af (λO=>⟨trivial,?_⟩) λO=>?_) λh=>?_⟩
 .exact congrArg (·,()) (aHX.2 (by simp only[aI0,ne_eq]at O;simp[jI,h,O]))
 .exact congrArg (·,()) (aHX.2 (by simp at O;simp[jI,O]))
 .exact congrArg (·,()) (aHX.2 (by simp[jI,h]))
theorem ab5:OK zS.e:=by
 refine aO [gX.e,qV.e,wH.e] ⟨jd,MO,Yz,⟨⟩⟩ adS λb d e g k a=>show zS.goal (ab6 b d e g k a) (b,(d,e,g,k,a,()),())fromλN C=>?_
 dsimp only[zS]at C ⊢;have Y:a.length<=maxLen:=N.2.1.2.2.2.2.1.1;rw[maxLen_eq]at Y;refine dY a.length Y (λn=>∀i,i<n->lg b a i=true) (λi D=>lu) (λI P n H o next=>?_) λI P o=>?_
 .dsimp only;have m:lg b a n=false->(false,())=(gq b (d,e,g,k,a,()),()):=λh=>by rw[aqb (f:=(d,e,g,k,a,())) H h]
  refine bT lu ⟨⟨lu,lu⟩,⟨lu,lu⟩,trivial,af (λO=>m ?_) λO=>af (λj=>?_) λj=>⟨rfl,next (bV o ?_)⟩⟩
  .have O:jI b (dU a n).1 (dU a n).2.1 (dU a n).2.2.1 (dU a n).2.2.2.1=false:=dD O;unfold lg;rw[O];rfl
  .have O:jI b (dU a n).1 (dU a n).2.1 (dU a n).2.2.1 (dU a n).2.2.2.1=true:=bI O;have j:0<n:=afh;rw[nH j lu];refine⟨⟨lu,lu⟩,⟨lu,lu⟩,af (λM=>m ?_) λM=>⟨rfl,next (bV o ?_)⟩⟩
   .have M:Op.bytesLess (dU a (n-1)).1 (dU a n).1=false:=dD M;unfold lg;rw[O,M,aHF j];rfl
   .have M:Op.bytesLess (dU a (n-1)).1 (dU a n).1=true:=bI M;unfold lg;rw[O,M,aHF j];rfl
  .have O:jI b (dU a n).1 (dU a n).2.1 (dU a n).2.2.1 (dU a n).2.2.2.1=true:=bI O;have j:¬0<n:=ab3;unfold lg;rw[O,aHD j];rfl
 .dsimp only;have l:um b a=true:=kG o;refine bP lu ⟨trivial,af (λE=>⟨trivial,af (λO=>⟨trivial,af (λU=>⟨trivial,?_⟩) λU=>?_⟩) λO=>?_⟩) λE=>?_⟩
  .refine congrArg (·,()) ?_;unfold gq;rw[l,E,O,U];rfl
  .refine congrArg (·,()) ?_;unfold gq;rw[l,E,O,U];rfl
  .refine congrArg (·,()) ?_;unfold gq;rw[l,E,O];rfl
  .refine congrArg (·,()) ?_;unfold gq;rw[l,E];rfl
theorem EX:OK o8.e:=by
 refine aO [gX.e,qV.e,zS.e] ⟨jd,MO,ab5,⟨⟩⟩ ab7 λb w a=>show o8.goal (ZV b w a) ((b,w,a,()),())fromλN C=>?_
 dsimp only[o8]at C ⊢;have Y:w.length<=maxLen:=N.1.2.1.1;rw[maxLen_eq]at Y;refine dY w.length Y (λn=>∀i,i<n->lV (b,w,a,()) i=true) (λi D=>lu) (λI P n H o next=>?_) λI P o=>?_
 .dsimp only;have e:lV (b,w,a,()) n=false->(false,())=(bg (b,w,a,()),()):=λh=>by rw[ak2 (s:=(b,w,a,())) H h]
  refine bT lu ⟨⟨lu,lu⟩,trivial,af (λO=>e ?_) λO=>⟨⟨lu,lu⟩,af (λU=>e ?_) λU=>af (λj=>?_) λj=>⟨rfl,next (bV o ?_)⟩⟩⟩
  .have O:gq b (Sp.fileAt w n)=false:=dD O;show(gq b (Sp.fileAt w n)&&_&&_)=false;rw[O];rfl
  .have O:gq b (Sp.fileAt w n)=true:=bI O;have U:¬(Sp.fileAt w n).1<a:=by have U:(Sp.fileAt w n).1>=a:=fG U;omega
   show(gq b (Sp.fileAt w n)&&decide ((Sp.fileAt w n).1<a)&&_)=false;rw[O,aHD U];rfl
  .have O:gq b (Sp.fileAt w n)=true:=bI O;have U:(Sp.fileAt w n).1<a:=aa2;have j:0<n:=afh;rw[nH j lu];refine⟨⟨lu,lu⟩,⟨lu,lu⟩,af (λM=>e ?_) λM=>⟨rfl,next (bV o ?_)⟩⟩
   .have M:¬(Sp.fileAt w (n-1)).1<(Sp.fileAt w n).1:=by have M:(Sp.fileAt w (n-1)).1>=(Sp.fileAt w n).1:=fG M;omega
    show(gq b (Sp.fileAt w n)&&decide ((Sp.fileAt w n).1<a)&&!(decide (0<n)&&!decide ((Sp.fileAt w (n-1)).1<(Sp.fileAt w n).1)))=false;rw[O,aHF U,aHF j,aHD M];rfl
   .have M:(Sp.fileAt w (n-1)).1<(Sp.fileAt w n).1:=by have M:¬(Sp.fileAt w (n-1)).1>=(Sp.fileAt w n).1:=fK M;omega
    show(gq b (Sp.fileAt w n)&&decide ((Sp.fileAt w n).1<a)&&!(decide (0<n)&&!decide ((Sp.fileAt w (n-1)).1<(Sp.fileAt w n).1)))=true;rw[O,aHF U,aHF j,aHF M];rfl
  .have O:gq b (Sp.fileAt w n)=true:=bI O;have U:(Sp.fileAt w n).1<a:=aa2;have j:¬0<n:=ab3;show(gq b (Sp.fileAt w n)&&decide ((Sp.fileAt w n).1<a)&&!(decide (0<n)&&!decide ((Sp.fileAt w (n-1)).1<(Sp.fileAt w n).1)))=true;rw[O,aHF U,aHD j];rfl
 .dsimp only;have d:iF w.length (lV (b,w,a,()))=true:=kG o;refine bP lu ⟨trivial,af (λE=>af (λO=>⟨trivial,?_⟩) λO=>?_) λE=>?_⟩
  .refine congrArg (·,()) ?_;show _=(iF w.length (lV (b,w,a,()))&&dN b&&decide ((w.length:Int)<=12)&&(decide (1<=a)&&decide (a<=61)));rw[d,E,O];rfl
  .refine congrArg (·,()) ?_;show _=(iF w.length (lV (b,w,a,()))&&dN b&&decide ((w.length:Int)<=12)&&(decide (1<=a)&&decide (a<=61)));rw[d,E,O];rfl
  .refine congrArg (·,()) ?_;show _=(iF w.length (lV (b,w,a,()))&&dN b&&decide ((w.length:Int)<=12)&&(decide (1<=a)&&decide (a<=61)));rw[d,E];rfl
theorem V6:OK CY.e:=by
 refine aO [] ⟨⟩ aof λb d e f a=>show CY.goal (ak3 b d e f a) ((b,d,e,f,a,()),())fromλN C=>?_
 dsimp only[CY]at C ⊢;have C:a.length<=2000000:=C;exact⟨FT,rfl⟩
theorem FK:OK mV.e:=by
 refine aO [] ⟨⟩ SE λl=>show mV.goal (Rh l) (l,())fromλN C=>?_
 dsimp only[mV]at C ⊢;intro g d;have C:l.length<=10000000:=C;refine af (λh=>?_) λh=>⟨FT,rfl⟩;have:=aH0.1 (d h);rw[this]
theorem SG:OK qX.e:=by
 refine aO [] ⟨⟩ Uo λl=>show qX.goal (SH l) (l,())fromλN C=>?_
 dsimp only[qX]at C ⊢;intro g d;have C:l.length<=10000000:=C;refine af (λh=>?_) λh=>⟨FT,rfl⟩;have:=aH0.1 (d h);rw[this]
theorem Ur:OK zU.e:=by
 refine aO [qX.e] ⟨SG,⟨⟩⟩ ak4 λb d e f a=>show zU.goal (aiG b d e f a) ((b,d,e,f,a,()),())fromλN C=>?_
 dsimp only[zU]at C ⊢;exact⟨aHw (show a.length<=2000000 from C) lZ,rfl⟩
theorem Jv:OK vP.e:=by
 refine aO [jc.e] ⟨jE,⟨⟩⟩ H0 λn=>show vP.goal (aog n) (n,())fromλN C=>?_
 dsimp only[vP]at C ⊢;exact⟨trivial,rfl⟩
theorem aiH:OK Gs.e:=by
 refine aO [] ⟨⟩ ak5 λa w b id=>show Gs.goal (aiI a w b id) ((a,w,b,()),id,())fromλN C=>?_
 dsimp only[Gs]at C ⊢;have Y:w.length<=maxLen:=N.1.2.1.1;rw[maxLen_eq]at Y;refine dY w.length Y (λn=>∀i,i<n->(Sp.fileAt w i).1≠id) (λi D=>lu) (λI P n H o next=>?_) λI P o=>?_
 .dsimp only;refine bT lu ⟨⟨lu,lu⟩,af (λh=>?_) λh=>⟨rfl,next λi D=>?_⟩⟩
  .have h:(Sp.fileAt w n).1=id:=fG h;exact congrArg (·,()) (Sp.Us H o h).symm
  .rcases aHU i n with h'|h'
   .exact o i h'
   .have:i=n:=lu;subst this;have h:¬(Sp.fileAt w i).1=id:=fK h;exact h
 .dsimp only;exact bP lu (congrArg (·,()) (ak6 o).symm)
theorem Qc{s:List aF}(p:aF->Bool)(H:n<s.length):(s.take (n+1)).filter p=(s.take n).filter p++(if p (Sp.fileAt s n)=true then[Sp.fileAt s n]else[]):=by
 rw[Sp.take_succ' s n (0,0,false,0,[],()) H,aJd];congr 1;show List.filter _ [Sp.fileAt s n]=_;by_cases h:p (Sp.fileAt s n)=true
 .rw[List.filter_cons_of_pos h,if_pos h];rfl
 .rw[List.filter_cons_of_neg h,if_neg h];rfl
theorem V7(s:List aF)(p:aF->Bool)(n:Nat):((s.take n).filter p).length<=n:=by have:=aIq p (s.take n);rw[aHP]at this;omega
def kD(fs:List aF)(n:Nat):List aF:=(fs.take n).map (Sp.unlink fs)++fs.drop n
theorem Ip(fs:List aF)(H:n<=fs.length):(kD fs n).length=fs.length:=by unfold kD;rw[aHu,aHL,aHP,aH7];omega
theorem asU(fs:List aF)(n:Nat):(kD fs n).map (·.1)=fs.map (·.1):=by unfold kD;rw[aIk,aIR];have:((·.1) ∘ Sp.unlink fs:aF->Int)=(·.1):=rfl;rw[this,← aIk,aJo]
theorem Xm(fs:List aF)(H:n<fs.length):(kD fs n).getD n (0,0,false,0,[],())=Sp.fileAt fs n:=by unfold kD Sp.fileAt;rw[aHI,aIJ KW,aHL,aHP,aIQ lu,aJl,aIp,aJn,← aHI]
theorem abQ(fs:List aF)(H:n<fs.length):kD fs (n+1)=(kD fs n).set n (Sp.unlink fs (Sp.fileAt fs n)):=by unfold kD;rw[drop_cons fs n (0,0,false,0,[],()) H,Sp.take_succ' fs n (0,0,false,0,[],()) H,aIk,aJk _ _ KW,aHL,aHP,aIQ lu,aJl,aJZ,aHO];rfl
theorem set_self{fs:List aF}(H:n<fs.length):fs.set n (fs.getD n (0,0,false,0,[],()))=fs:=by
 refine List.ext_getElem vk λi E O=>?_;rw[List.getElem_set];split
 .next e=>subst e;rw[aHI,aHK H];rfl
 .rfl
theorem LJ(fs:List aF)(H:n<fs.length):
 (Sp.place (kD fs n) (Sp.fileAt fs n).2.2.2.1<0->kD fs (n+1)=(kD fs n).set n ((Sp.fileAt fs n).1,(Sp.fileAt fs n).2.1,(Sp.fileAt fs n).2.2.1,0,(Sp.fileAt fs n).2.2.2.2.1,()))/\
 (¬Sp.place (kD fs n) (Sp.fileAt fs n).2.2.2.1<0->kD fs (n+1)=kD fs n):=by
 rw[ayc _ (asU fs n)];refine⟨λh=>?_,λh=>?_⟩
 .rw[abQ fs H];unfold Sp.unlink;rw[aHF h];rfl
 .rw[abQ fs H];have e:Sp.unlink fs (Sp.fileAt fs n)=(kD fs n).getD n (0,0,false,0,[],()):=by rw[Xm fs H];unfold Sp.unlink;rw[aHD h];rfl
  rw[e];exact set_self (by rw[Ip fs lu];exact H)
theorem adT(fs:List aF):kD fs fs.length=fs.map (Sp.unlink fs):=by unfold kD;rw[aH4,aJ6,aH1]
def names:List (Int×Int×Sp.Bytes):=[(2,0,[105,110,107]),(2,0,[115,101,97])]
theorem azE:dN Sp.usual=true:=mF
structure ZW(k:Int)(s:dV):Prop where
 sch:s.1=Sp.usual
 ok:bg s=true
 nx:s.2.2.1<=s.2.1.length+k
 small:qp s
theorem ZW.more{k a:Int}{s:dV}(h:ZW k s)(u:k<=a):ZW a s:=⟨h.sch,h.ok,by have:=h.nx;omega,h.small⟩
theorem ZW.grows{s:dV}(h:ZW 2 s)(Q:s.2.1.length<12){f:aF}(F:0<=f.2.1/\f.2.1<=2)(u:0<=f.2.2.2.1/\f.2.2.2.1<=6)(b:um Sp.usual f.2.2.2.2.1=true):(EY s f).1.2.1.length=s.2.1.length+1:=by
 have a:=(Qd.1 h.ok).2.2.2;have O:=h.nx;have q:gq s.1 (s.2.2.1,f.2)=true:=by rw[h.sch];show(um Sp.usual f.2.2.2.2.1&&dN Sp.usual&&(decide (1<=s.2.2.1)&&decide (s.2.2.1<=60))&&(decide (0<=f.2.1)&&decide (f.2.1<=2))&&(decide (0<=f.2.2.2.1)&&decide (f.2.2.2.1<=60)))=true;rw[b,azE,aHF a.1,aHF lu,aHF F.1,aHF F.2,aHF u.1,aHF lu];rfl
 rcases Ut s f with⟨_,e⟩|⟨_,_,_,e⟩
 .exact(e ⟨h.ok,Q,q⟩).elim
 .rw[e];show(s.2.1++[_]).length=_;rw[aHu];rfl
theorem ZW.one{s:dV}(h:ZW 1 s){f:aF}(F:0<=f.2.1/\f.2.1<=2)(u:0<=f.2.2.2.1/\f.2.2.2.1<=6)(a:um Sp.usual f.2.2.2.2.1=true):0<(EY s f).1.2.1.length:=by
 by_cases Q:s.2.1.length<12
 .rw[(h.more (show(1:Int)<=2 from lZ)).grows Q F u a];omega
 .rcases Ut s f with⟨e,_⟩|⟨_,_,_,e⟩
  .rw[e];show 0<s.2.1.length;omega
  .rw[e];show 0<(s.2.1++[_]).length;rw[aHu,List.length_singleton];omega
theorem DY:OK oh.e:=by
 refine aO [jc.e] ⟨jE,⟨⟩⟩ ZX λs=>show oh.goal (YB s) (s,())fromλN C=>?_
 dsimp only[oh]at C ⊢;have Y:s.length<=maxLen:=N.1;rw[maxLen_eq]at Y;refine⟨λy=>∃n:Nat,y.1.1=n/\n<=s.length/\Sp.lower (s.take n)=true,λy=>((s.length:Int)-y.1.1).toNat,⟨0,rfl,lu,rfl⟩,?_⟩;rintro⟨⟨_,⟨⟩⟩,⟨⟩⟩ ⟨n,rfl,hn,hJ⟩;dsimp only;refine af (λh=>?_) λh=>?_<;>simp only[aHM,aHW]at h
 .have hlt:n<s.length:=lu;rw[fU _ lu,aHB];refine⟨⟨lu,lu⟩,af (λO=>?_) λO=>⟨⟨lu,lu⟩,af (λU=>?_) λU=>?_⟩⟩<;>simp only[aHM,aHW]at*
  .unfold bK;cases Q:Sp.lower s with
   |false=>rfl
   |true=>have:=SC hlt Q;omega
  .unfold bK;cases Q:Sp.lower s with
   |false=>rfl
   |true=>have:=SC hlt Q;omega
  .refine⟨rfl,⟨n+1,vk,lu,?_⟩,X3⟩;rw[Sp.take_succ' s n 0 hlt];unfold Sp.lower at hJ ⊢;rw[aJP,hJ];simp only[aIw,aJ5,aIV,aIK,aHy,aHM];omega
 .have hge:n=s.length:=lu;rw[hge,aH4]at hJ;unfold bK;rw[hJ];exact⟨trivial,rfl⟩
theorem wW:OK mJ.e:=by
 refine aO [oh.e,jc.e] ⟨DY,jE,⟨⟩⟩ H0 λk n s=>show mJ.goal (ZY k n s) ((k,n,s,()),())fromλN C=>?_
 dsimp only[mJ]at C ⊢;refine af (λh=>?_) λh=>af (λO=>⟨trivial,af (λU=>?_) λU=>?_⟩) λO=>af (λU=>⟨trivial,af (λj=>?_) λj=>?_⟩) λU=>?_
 .have e:k=0:=y7;subst e;exact congrArg (·,()) (aHX.2 (by simp[dB]))
 .have e:k=1:=abV;subst e;exact congrArg (·,()) (aHX.2 (by simp only[aHy,aHM]at U;simp[dB,U]))
 .have e:k=1:=abV;subst e;exact congrArg (·,()) (aHX.2 (by simp only[dB,U];simp))
 .have e:k=2:=ah6;subst e;exact congrArg (·,()) (aHX.2 (by simp[dB,j]))
 .have e:k=2:=ah6;subst e;exact congrArg (·,()) (aHX.2 (by simp[dB,j]))
 .have e1:k≠0:=y7;have T:k≠1:=abV;have a:k≠2:=ah6;exact congrArg (·,()) (aHX.2 (by simp[dB,e1,T,a]))
theorem zF:OK l9.e:=by
 refine aO [] ⟨⟩ H0 λs=>show l9.goal (Vh s) (s,())fromλN C=>?_
 dsimp only[l9]at C ⊢;refine af (λh=>?_) λh=>?_
 .have h:(s.length:Int)=1:=fG h
  match s,h with
  |[c],_=>
   refine⟨⟨lZ,(by show(0:Int)<1;decide)⟩,af (λO=>⟨⟨lZ,(by show(0:Int)<1;decide)⟩,?_⟩) λO=>?_⟩
   .have O:(c.toNat:Int)>=97:=fG O;refine congrArg (·,()) (aHX.2 ?_);simp only[dP,Sp.lower,aIw,aJ5,aIV,aHy,aHM,aHx,aHG];constructor
    .intro U;have U:(c.toNat:Int)<=122:=U;exact⟨⟨⟨lu,lu⟩,lZ⟩,lZ⟩
    .rintro⟨⟨⟨_,h4⟩,_⟩,_⟩;show(c.toNat:Int)<=122;omega
   .have O:¬(c.toNat:Int)>=97:=fK O;refine congrArg (·,()) (aHX.2 ?_);simp only[dP,Sp.lower,aIw,aJ5,aIV,aHy,aHM];constructor
    .intro U;cases U
    .rintro⟨⟨⟨h4,_⟩,_⟩,_⟩;omega
 .have h:¬(s.length:Int)=1:=fK h;refine congrArg (·,()) (aHX.2 ?_);simp only[dP,aHy,aHM];constructor
  .intro U;cases U
  .rintro⟨⟨_,h4⟩,h5⟩;omega
theorem af7:OK Eg.e:=by
 refine aO [] ⟨⟩ aiJ λs a=>show Eg.goal (af8 s a) (s,a,())fromλN C=>?_
 dsimp only[Eg]at C ⊢;have Y:s.length<=maxLen:=N.1.1;rw[maxLen_eq]at Y;refine dY s.length Y (λn=>∀i,i<n->(s.getD i ([],0,())).1≠a) (λi D=>lu) (λI P n H o next=>?_) λI P o=>?_
 .dsimp only;refine bT lu ⟨⟨lu,lu⟩,af (λh=>?_) λh=>⟨rfl,next λi D=>?_⟩⟩
  .exact congrArg (·,()) (V5 s n H o (by simpa only[aHB,aHE]using h)).symm
  .rcases aHU i n with h'|h'
   .exact o i h'
   .have:i=n:=lu;subst this;have O:((s.getD i ([],0,())).1==a)=false:=h;exactλe=>by rw[e]at O;simp at O
 .dsimp only;exact bP lu (congrArg (·,()) (Xl s o).symm)
theorem ayd{k:Int}(h:(k !=1)=false\/(k !=2)=false):(decide (1<=k)&&decide (k<=2))=true:=by have:k=1\/k=2:=h.imp vk vk;rcases this with h|h<;>subst h<;>rfl
theorem aBz{k:Int}(E:(k !=1)=true)(O:(k !=2)=true):(decide (1<=k)&&decide (k<=2))=false:=by
 have E:k≠1:=by simpa using E
 have O:k≠2:=abV;rw[aJK];by_cases h:k<1
 .left;exact aHD lu
 .right;exact aHD lu
theorem MP:OK qW.e:=by
 refine aO [l9.e] ⟨zF,⟨⟩⟩ Z4 λs=>show qW.goal (YC s) (s,())fromλN C=>?_
 dsimp only[qW]at C ⊢;have Y:s.length<=maxLen:=N.1.1;rw[maxLen_eq]at Y;refine dY s.length Y (λn=>∀i,i<n->jW s i=true) (λi D=>lu) (λI P n H o next=>?_) λI P o=>?_
 .dsimp only;have a:jW s n=false->(false,())=(dN s,()):=λh=>by rw[ahy H h]
  have e:dP (Sp.fieldAt s n).1=true->(decide (1<=(Sp.fieldAt s n).2.1)&&decide ((Sp.fieldAt s n).2.1<=2))=true->
   bif decide ((n:Int)>0)then
    ((0:Int)<=IntKind.i64.wrap ((n:Int)-1)/\IntKind.i64.wrap ((n:Int)-1)<(s.length:Int))/\
      bif !Op.bytesLess (s.getD (IntKind.i64.wrap ((n:Int)-1)).toNat ([],0,())).fst (s.getD (Int.toNat (n:Int)) ([],0,())).fst then(false,())=(dN s,())
      else NX ((s,s,(s.length:Int),()),()) I P ((IntKind.i64.wrap ((n:Int)+1),()),()) (((n:Int),()),())
   else NX ((s,s,(s.length:Int),()),()) I P ((IntKind.i64.wrap ((n:Int)+1),()),()) (((n:Int),()),()):=by
   intro O U;refine af (λj=>?_) λj=>⟨rfl,next (bV o ?_)⟩
   .have j:0<n:=afh;rw[nH j lu];refine⟨⟨lu,lu⟩,af (λM=>a ?_) λM=>⟨rfl,next (bV o ?_)⟩⟩
    .have M:Op.bytesLess (Sp.fieldAt s (n-1)).1 (Sp.fieldAt s n).1=false:=dD M;unfold jW;rw[O,U,M,aHF j];rfl
    .have M:Op.bytesLess (Sp.fieldAt s (n-1)).1 (Sp.fieldAt s n).1=true:=bI M;unfold jW;rw[O,U,M,aHF j];rfl
   .have j:¬0<n:=ab3;unfold jW;rw[O,U,aHD j];rfl
  refine bT lu ⟨⟨lu,lu⟩,trivial,af (λO=>a ?_) λO=>af (λU=>af (λj=>a ?_) λj=>?_) λU=>?_⟩
  .have O:dP (Sp.fieldAt s n).1=false:=dD O;unfold jW;rw[O];rfl
  .have O:dP (Sp.fieldAt s n).1=true:=bI O;have U:(decide (1<=(Sp.fieldAt s n).2.1)&&decide ((Sp.fieldAt s n).2.1<=2))=false:=aBz U j;unfold jW;rw[O,U];rfl
  .have O:dP (Sp.fieldAt s n).1=true:=bI O;have U:(decide (1<=(Sp.fieldAt s n).2.1)&&decide ((Sp.fieldAt s n).2.1<=2))=true:=ayd (.inr j);exact e O U
  .have O:dP (Sp.fieldAt s n).1=true:=bI O;have U:(decide (1<=(Sp.fieldAt s n).2.1)&&decide ((Sp.fieldAt s n).2.1<=2))=true:=ayd (.inl U);exact e O U
 .dsimp only;refine bP lu (congrArg (·,()) ?_);unfold dN;rw[kG o];rfl
theorem YD:OK wI.e:=by
 refine aO [Eg.e,mJ.e] ⟨af7,wW,⟨⟩⟩ H0 λa s k n w=>show wI.goal (YE a s k n w) (a,s,(k,n,w,()),())fromλN C=>?_
 dsimp only[wI]at C ⊢;refine⟨trivial,af (λh=>af (λO=>⟨trivial,?_⟩) λO=>?_) λh=>?_⟩
 .exact congrArg (·,()) (aHX.2 (by simp only[aI0,ne_eq]at O;simp[jI,h,O]))
 .exact congrArg (·,()) (aHX.2 (by simp at O;simp[jI,O]))
 .exact congrArg (·,()) (aHX.2 (by simp[jI,h]))
theorem ab8:OK zT.e:=by
 refine aO [qW.e,vP.e,jc.e,wI.e] ⟨MP,Jv,jE,YD,⟨⟩⟩ adU λb d e k g a=>show zT.goal (ab9 b d e k g a) (b,(d,e,k,g,a,()),())fromλN C=>?_
 dsimp only[zT]at C ⊢;have Y:a.length<=maxLen:=N.2.1.2.2.2.2.1.1;rw[maxLen_eq]at Y;refine dY a.length Y (λn=>∀i,i<n->lg b a i=true) (λi D=>lu) (λI P n H o next=>?_) λI P o=>?_
 .dsimp only;have l:lg b a n=false->(false,())=(gq b (d,e,k,g,a,()),()):=λh=>by rw[aqb (f:=(d,e,k,g,a,())) H h]
  refine bT lu ⟨⟨lu,lu⟩,af (λj=>?_) λj=>⟨trivial,af (λO=>l ?_) λO=>⟨rfl,next (bV o ?_)⟩⟩⟩
  .have j:0<n:=afh;rw[nH j lu];refine⟨⟨lu,lu⟩,af (λM=>l ?_) λM=>⟨trivial,af (λO=>l ?_) λO=>⟨rfl,next (bV o ?_)⟩⟩⟩
   .have M:Op.bytesLess (dU a (n-1)).1 (dU a n).1=false:=dD M;unfold lg;rw[M,aHF j];exact aH8 _
   .have O:jI b (dU a n).1 (dU a n).2.1 (dU a n).2.2.1 (dU a n).2.2.2.1=false:=dD O;unfold lg;rw[O];rfl
   .have O:jI b (dU a n).1 (dU a n).2.1 (dU a n).2.2.1 (dU a n).2.2.2.1=true:=bI O;have M:Op.bytesLess (dU a (n-1)).1 (dU a n).1=true:=bI M;unfold lg;rw[O,M,aHF j];rfl
  .have O:jI b (dU a n).1 (dU a n).2.1 (dU a n).2.2.1 (dU a n).2.2.2.1=false:=dD O;unfold lg;rw[O];rfl
  .have O:jI b (dU a n).1 (dU a n).2.1 (dU a n).2.2.1 (dU a n).2.2.2.1=true:=bI O;have j:¬0<n:=ab3;unfold lg;rw[O,aHD j];rfl
 .dsimp only;have m:um b a=true:=kG o;refine bP lu ⟨trivial,af (λE=>⟨trivial,af (λO=>⟨trivial,af (λU=>⟨trivial,?_⟩) λU=>?_⟩) λO=>?_⟩) λE=>?_⟩
  all_goals refine congrArg (·,()) ?_
  .show dN b=(um b a&&dN b&&(decide (1<=d)&&decide (d<=60))&&(decide (0<=e)&&decide (e<=2))&&(decide (0<=g)&&decide (g<=60)));rw[m,E,O,U];cases dN b<;>rfl
  .show false=(um b a&&dN b&&(decide (1<=d)&&decide (d<=60))&&(decide (0<=e)&&decide (e<=2))&&(decide (0<=g)&&decide (g<=60)));rw[U,aH8]
  .show false=(um b a&&dN b&&(decide (1<=d)&&decide (d<=60))&&(decide (0<=e)&&decide (e<=2))&&(decide (0<=g)&&decide (g<=60)));rw[O,aH8,aIO]
  .show false=(um b a&&dN b&&(decide (1<=d)&&decide (d<=60))&&(decide (0<=e)&&decide (e<=2))&&(decide (0<=g)&&decide (g<=60)));rw[E,aH8,aIO,aIO]
theorem EZ:OK o9.e:=by
 refine aO [jc.e,qW.e,zT.e] ⟨jE,MP,ab8,⟨⟩⟩ acd λb w a=>show o9.goal (Z5 b w a) ((b,w,a,()),())fromλN C=>?_
 dsimp only[o9]at C ⊢;have Y:w.length<=maxLen:=N.1.2.1.1;rw[maxLen_eq]at Y;refine dY w.length Y (λn=>∀i,i<n->lV (b,w,a,()) i=true) (λi D=>lu) (λI P n H o next=>?_) λI P o=>?_
 .dsimp only;have e:lV (b,w,a,()) n=false->(false,())=(bg (b,w,a,()),()):=λh=>by rw[ak2 (s:=(b,w,a,())) H h]
  refine bT lu ⟨⟨lu,lu⟩,trivial,af (λO=>e ?_) λO=>af (λU=>e ?_) λU=>af (λj=>?_) λj=>⟨rfl,next (bV o ?_)⟩⟩
  .have O:gq b (Sp.fileAt w n)=false:=dD O;show(gq b (Sp.fileAt w n)&&_&&_)=false;rw[O];rfl
  .have O:gq b (Sp.fileAt w n)=true:=bI O;have U:¬(Sp.fileAt w n).1<a:=by have U:(Sp.fileAt w n).1>=a:=fG U;omega
   show(gq b (Sp.fileAt w n)&&decide ((Sp.fileAt w n).1<a)&&_)=false;rw[O,aHD U];rfl
  .have O:gq b (Sp.fileAt w n)=true:=bI O;have U:(Sp.fileAt w n).1<a:=aa2;have j:0<n:=afh;rw[nH j lu];refine⟨⟨lu,lu⟩,af (λM=>e ?_) λM=>⟨rfl,next (bV o ?_)⟩⟩
   .have M:¬(Sp.fileAt w (n-1)).1<(Sp.fileAt w n).1:=by have M:(Sp.fileAt w (n-1)).1>=(Sp.fileAt w n).1:=fG M;omega
    show(gq b (Sp.fileAt w n)&&decide ((Sp.fileAt w n).1<a)&&!(decide (0<n)&&!decide ((Sp.fileAt w (n-1)).1<(Sp.fileAt w n).1)))=false;rw[O,aHF U,aHF j,aHD M];rfl
   .have M:(Sp.fileAt w (n-1)).1<(Sp.fileAt w n).1:=by have M:¬(Sp.fileAt w (n-1)).1>=(Sp.fileAt w n).1:=fK M;omega
    show(gq b (Sp.fileAt w n)&&decide ((Sp.fileAt w n).1<a)&&!(decide (0<n)&&!decide ((Sp.fileAt w (n-1)).1<(Sp.fileAt w n).1)))=true;rw[O,aHF U,aHF j,aHF M];rfl
  .have O:gq b (Sp.fileAt w n)=true:=bI O;have U:(Sp.fileAt w n).1<a:=aa2;have j:¬0<n:=ab3;show(gq b (Sp.fileAt w n)&&decide ((Sp.fileAt w n).1<a)&&!(decide (0<n)&&!decide ((Sp.fileAt w (n-1)).1<(Sp.fileAt w n).1)))=true;rw[O,aHF U,aHD j];rfl
 .dsimp only;have d:iF w.length (lV (b,w,a,()))=true:=kG o;refine bP lu ⟨trivial,af (λE=>af (λO=>⟨trivial,?_⟩) λO=>?_) λE=>?_⟩
  .refine congrArg (·,()) ?_;show _=(iF w.length (lV (b,w,a,()))&&dN b&&decide ((w.length:Int)<=12)&&(decide (1<=a)&&decide (a<=61)));rw[d,E,O];rfl
  .refine congrArg (·,()) ?_;show _=(iF w.length (lV (b,w,a,()))&&dN b&&decide ((w.length:Int)<=12)&&(decide (1<=a)&&decide (a<=61)));rw[d,E,O];rfl
  .refine congrArg (·,()) ?_;show _=(iF w.length (lV (b,w,a,()))&&dN b&&decide ((w.length:Int)<=12)&&(decide (1<=a)&&decide (a<=61)));rw[d,E];rfl
theorem asV{α:Type}{l:List α}{a:Nat}{f:List α}(h:a+f.length<=l.length):(iL l a f).length=l.length:=by unfold iL;simp only[aHu,aHP,aH7];omega
theorem aqc{α:Type}{l:List α}{a k:Nat}{f:List α}(u:k<=a)(h:a<=l.length):(iL l a f).take k=l.take k:=by unfold iL;rw[aHO,aJf aeY,aKj,aIQ u]
theorem SQ(b d f:Int)(g:Sp.Bytes)(e h:Int)(i:Sp.Bytes)(a:Int):fH (b,d,f,g,e,h,i,()) a=
 (bif b==1 then(d==0&&f==0)&&(g==[]&&(e==0&&(h==0&&i==[])))else bif b==2 then(d==0&&f==0)&&(e==0&&(h==0&&i==[]))&&dP g else
 bif b==3 then(d==0&&f==0)&&dP g&&dB e h i&&!(e==0)else bif b==4 then(d==0&&f==0)&&dP g&&dB e h i&&e==1 else
 bif b==5 then(decide (0<=d)&&decide (d<=a-1)&&decide (0<a))&&f==0&&(g==[]&&(e==0&&(h==0&&i==[])))else
 bif b==6||b==7 then(decide (0<=d)&&decide (d<=a-1)&&decide (0<a))&&(decide (0<=f)&&decide (f<=a-1))&&(g==[]&&(e==0&&(h==0&&i==[])))else
 bif b==8||b==9 then(d==0&&f==0)&&(e==0&&(h==0&&i==[]))&&bK g else false):=rfl
theorem acI:OK zW.e:=by
 refine aO [oh.e,jc.e,mJ.e,l9.e] ⟨DY,jE,wW,zF,⟨⟩⟩ aeI λb d e f g i j a=>show zW.goal (O0 b d e f g i j a) ((b,d,e,f,g,i,j,()),a,())fromλN C=>?_
 dsimp only[zW]at C ⊢;have k:-9223372036854775808<=a/\a<=9223372036854775807:=N.2.1;show O0 b d e f g i j a λr=>r=(fH (b,d,e,f,g,i,j,()) a,());rw[SQ];have w:0<a->IntKind.i64.wrap (a-1)=a-1:=λh=>fU _ lu;refine af (λ_=>?_) λ_=>af (λ_=>af (λ_=>⟨trivial,?_⟩) λ_=>?_) λ_=>⟨λy=>y=((b==3||b==4,()),()),?_,?_⟩
 .first|(simp_all;done)|(simp_all;grind)
 .first|(simp_all;done)|(simp_all;grind)
 .first|(simp_all;done)|(simp_all;grind)
 .refine af (λ_=>⟨rfl,?_⟩) λ_=>⟨rfl,?_⟩<;>first|(simp_all;done)|(simp_all;grind)
 .rintro _ rfl;refine af (λ_=>?_) λ_=>af (λ_=>af (λ_=>af (λh=>⟨trivial,?_⟩) λ_=>?_) λ_=>?_) λ_=>⟨λy=>y=((b==6||b==7,()),()),?_,?_⟩
  .refine af (λ_=>⟨trivial,af (λ_=>⟨trivial,af (λ_=>af (λ_=>af (λ_=>?_) λ_=>?_) λ_=>?_) λ_=>?_⟩) λ_=>?_⟩) λ_=>?_
   all_goals first|(simp_all;done)|(simp_all;grind)
  .rw[w (fG h)]
   first|(simp_all;done)|(simp_all;grind)
  .first|(simp_all;done)|(simp_all;grind)
  .first|(simp_all;done)|(simp_all;grind)
  .refine af (λ_=>⟨rfl,?_⟩) λ_=>⟨rfl,?_⟩<;>first|(simp_all;done)|(simp_all;grind)
  .rintro _ rfl;refine af (λ_=>af (λ_=>af (λh=>⟨trivial,?_⟩) λ_=>?_) λ_=>?_) λ_=>?_
   .rw[w (fG h)];refine af (λ_=>⟨trivial,?_⟩) λ_=>?_<;>first|(simp_all;done)|(simp_all;grind)
   .first|(simp_all;done)|(simp_all;grind)
   .first|(simp_all;done)|(simp_all;grind)
   .refine af (λ_=>af (λ_=>af (λ_=>⟨trivial,?_⟩) λ_=>?_) λ_=>?_) λ_=>af (λ_=>af (λ_=>⟨trivial,?_⟩) λ_=>?_) λ_=>?_
    all_goals first|(simp_all;done)|(simp_all;grind)
theorem acJ:OK zV.e:=by
 refine aO [nZ.e,mG.e,l7.e,gX.e] ⟨DX,wV,zD,jd,⟨⟩⟩ aeJ λe b d f g i j a=>show zV.goal (O1 e b d f g i j a) ((e,b,d,f,g,i,j,()),a,())fromλN C=>?_
 dsimp only[zV]at C ⊢;have l:-9223372036854775808<=a/\a<=9223372036854775807:=N.2.1;show O1 e b d f g i j a λr=>r=(fH (e,b,d,f,g,i,j,()) a,());rw[SQ];have w:0<a->IntKind.i64.wrap (a-1)=a-1:=λh=>fU _ lu;refine⟨λy=>y=((decide (0<=b)&&decide (b<=a-1)&&decide (0<a),()),()),⟨trivial,?_⟩,?_⟩
 .by_cases h:0<a
  .dsimp only;rw[w h];refine af (λ_=>⟨rfl,?_⟩) λ_=>⟨rfl,?_⟩<;>first|(simp_all;done)|(simp_all;grind)
  .dsimp only;refine af (λ_=>⟨rfl,?_⟩) λ_=>⟨rfl,?_⟩<;>first|(simp_all;done)|(simp_all;grind)
 .rintro _ rfl;refine⟨λy=>y=(((decide (0<=b)&&decide (b<=a-1)&&decide (0<a))&&(decide (0<=d)&&decide (d<=a-1)),()),()),?_,?_⟩
  .refine af (λh=>⟨trivial,rfl,?_⟩) λh=>⟨rfl,?_⟩
   .have h:(decide (0<=b)&&decide (b<=a-1)&&decide (0<a))=true:=h;have O:0<a:=by simp at h;omega
    rw[w O,h,aIK]
   .have h:(decide (0<=b)&&decide (b<=a-1)&&decide (0<a))=false:=h;rw[h,aIO]
  .rintro _ rfl;dsimp only;generalize (decide (0<=b)&&decide (b<=a-1)&&decide (0<a))=k;generalize (decide (0<=d)&&decide (d<=a-1))=two
   repeat' first
    |exact trivial
    |refine af (λ_=>?_) λ_=>?_
    |refine And.intro trivial ?_
   all_goals first|(simp_all;done)|(simp_all;grind)
theorem Hr:OK tV.e:=by
 refine aO [] ⟨⟩ apa λa b=>show tV.goal (amM a b) (a,b,())fromλN C=>?_
 dsimp only[tV]at C ⊢;have Y:a.length<=maxLen:=N.1.1;rw[maxLen_eq]at Y;refine af (λh=>?_) λh=>?_
 .have h:(a.length:Int)≠b.length:=y7;exact congrArg (·,()) (aHD λe=>h am1).symm
 .have h:(a.length:Int)=b.length:=y7;exact afJ (K:=λr=>r=(decide (a=b),())) (λx y=>x.1 !=y.1) (λx y=>by simp[aJR]) _ a b _ Y lu (λe=>by rw[aHD e]) λe=>by rw[aHF e]
theorem ajM:OK Gt.e:=by
 refine aO [] ⟨⟩ H0 λa b d e f g i=>show Gt.goal (ajN a b d e f g i) ((a,b,d,e,f,g,i,()),())fromλN C=>?_
 dsimp only[Gt]at C ⊢;exact af (λh=>aqO) λh=>aqO
variable {d:List aG}
theorem PG(h:xU d)(H:n<d.length):(d.getD n ([],[],())).2.1.length<=1000:=h.2 _ (getD_mem H)
theorem aaT(a:Int)(x:aA):(Sp.refsOf a x:Int)=(if(x.1=6\/x.1=7\/x.1=5)/\x.2.1=a then 1 else 0)+(if(x.1=6\/x.1=7)/\x.2.2.1=a then 1 else 0):=by unfold Sp.refsOf kU;by_cases b:x.1=6<;>by_cases e:x.1=7<;>by_cases M:x.1=5<;>by_cases Q:x.2.1=a<;>by_cases W:x.2.2.1=a<;>simp[cond_eq_ite,b,e,M,Q,W]
theorem aBL(a:Int)(x:aA):Sp.refsOf a x<=2:=by have:=aaT a x;split at this<;>split at this<;>omega
def pO(q:List aA)(a:Int)(n:Nat):Nat:=((q.take n).map (Sp.refsOf a)).sum
theorem XJ(q:List aA)(a:Int)(H:n<q.length):pO q a (n+1)=pO q a n+Sp.refsOf a (Sp.nodeAt q n):=by unfold pO;rw[Sp.take_succ' q n (0,0,0,[],0,0,[],()) H];simp only[aIk,aJx,aHT,List.map_nil,aIu,List.sum_nil,aJn];rfl
theorem aeM(q:List aA)(a:Int):∀n,n<=q.length->pO q a n<=2*n
 |0,_=>by simp[pO]
 |n+1,h=>by rw[XJ q a lu];have:=aeM q a n lu;have:=aBL a (Sp.nodeAt q n);omega
theorem amN(q:List aA)(a:Int):pO q a q.length=iY q a:=by unfold pO iY;rw[aH4]
theorem Vw:OK uz.e:=by
 refine aO [] ⟨⟩ XK λq a=>show uz.goal (Vx q a) (q,a,())fromλN C=>?_
 dsimp only[uz]at C ⊢;have C:q.length<=2000000:=C;refine dI (λi(c:Int)=>((c,i,()),())) (λy=>y.1.2.1) (λ_ _=>rfl) q.length lu (λn c=>c=(pO q a n:Int)) rfl (λI P n c H o next=>?_) λI P c o=>?_
 .subst o;have X:=XJ q a H;have J:=aeM q a n lu;have W:=aaT a (Sp.nodeAt q n);dsimp only;rw[aHB];have e:q.getD n (0,0,0,[],0,0,[],())=Sp.nodeAt q n:=rfl;rw[e];have h:IntKind.i64.wrap ((pO q a n:Int)+1)=(pO q a n:Int)+1:=fU _ lu;have j:IntKind.i64.wrap ((pO q a n:Int)+1+1)=(pO q a n:Int)+1+1:=fU _ lu;refine bT lu ⟨⟨lu,lu⟩,af (λg=>⟨λy=>y=(((pO q a n:Int)+(if(Sp.nodeAt q n).2.1=a then 1 else 0),()),()),⟨⟨lu,lu⟩,af (λQ=>⟨rfl,?_⟩) λQ=>⟨rfl,?_⟩⟩,?_⟩) λg=>⟨⟨lu,lu⟩,λy=>y=(((pO q a n:Int)+(if((Sp.nodeAt q n).1=7\/(Sp.nodeAt q n).1=5)/\(Sp.nodeAt q n).2.1=a then 1 else 0),()),()),?_,?_⟩⟩
  .simp only[aHE]at Q;rw[h,if_pos Q]
  .simp only[aHt]at Q;rw[if_neg Q,aI9]
  .rintro _ rfl;simp only[aHE]at g;refine⟨⟨lu,lu⟩,af (λb=>⟨rfl,next _ ?_⟩) λb=>⟨rfl,next _ ?_⟩⟩
   all_goals
    dsimp only;simp only[aHE,aHt,ne_eq]at b;by_cases Q:(Sp.nodeAt q n).2.1=a<;>simp[g,Q,b]at W<;>simp only[Q,if_true,aJ4,aI9,h,j]<;>omega
  .simp only[aHt,ne_eq]at g;refine af (λf=>⟨⟨lu,lu⟩,af (λQ=>⟨rfl,?_⟩) λQ=>⟨rfl,?_⟩⟩) λf=>⟨⟨lu,lu⟩,af (λM=>⟨⟨lu,lu⟩,af (λQ=>⟨rfl,?_⟩) λQ=>⟨rfl,?_⟩⟩) λM=>⟨rfl,?_⟩⟩
   all_goals simp_all
  .rintro _ rfl;simp only[aHt,ne_eq]at g;refine af (λf=>⟨⟨lu,lu⟩,af (λb=>⟨rfl,next _ ?_⟩) λb=>⟨rfl,next _ ?_⟩⟩) λf=>⟨rfl,next _ ?_⟩
   .simp only[aHE]at f b;by_cases Q:(Sp.nodeAt q n).2.1=a<;>simp[g,f,Q,b]at W<;>simp only[f,Q,true_or,and_self,and_false,if_true,aJ4,aI9,h,j]<;>omega
   .simp only[aHE,aHt,ne_eq]at f b;by_cases Q:(Sp.nodeAt q n).2.1=a<;>simp[g,f,Q,b]at W<;>simp only[f,Q,true_or,and_self,and_false,if_true,aJ4,aI9,h,j]<;>omega
   .simp only[aHt,ne_eq]at f;dsimp only;by_cases M:(Sp.nodeAt q n).1=5<;>by_cases Q:(Sp.nodeAt q n).2.1=a<;>simp[g,f,M,Q]at W<;>simp[f,M,Q]<;>omega
 .dsimp only;refine bP lu ?_;rw[o,amN]
theorem Vy:OK uD.e:=by
 refine aO [] ⟨⟩ XL λq a=>show uD.goal (Vz q a) (q,a,())fromλN C=>?_
 dsimp only[uD]at C ⊢;have C:q.length<=2000000:=C;refine dI (λi(c:Int)=>((c,i,()),())) (λy=>y.1.2.1) (λ_ _=>rfl) q.length lu (λn c=>c=(pO q a n:Int)) rfl (λI P n c H o next=>?_) λI P c o=>?_
 .subst o;have X:=XJ q a H;have J:=aeM q a n lu;have W:=aaT a (Sp.nodeAt q n);dsimp only;rw[aHB];have e:q.getD n (0,0,0,[],0,0,[],())=Sp.nodeAt q n:=rfl;rw[e];have h:IntKind.i64.wrap ((pO q a n:Int)+1)=(pO q a n:Int)+1:=fU _ lu;have j:IntKind.i64.wrap ((pO q a n:Int)+1+1)=(pO q a n:Int)+1+1:=fU _ lu;refine bT lu ⟨⟨lu,lu⟩,af (λg=>⟨λy=>y=(((pO q a n:Int)+(if(Sp.nodeAt q n).2.1=a then 1 else 0),()),()),af (λQ=>⟨rfl,?_⟩) λQ=>⟨rfl,?_⟩,?_⟩) λg=>⟨λy=>y=(((pO q a n:Int)+(if((Sp.nodeAt q n).1=7\/(Sp.nodeAt q n).1=5)/\(Sp.nodeAt q n).2.1=a then 1 else 0),()),()),?_,?_⟩⟩
  .simp only[aHE]at Q;rw[h,if_pos Q]
  .simp only[aHt]at Q;rw[if_neg Q,aI9]
  .rintro _ rfl;simp only[aHE]at g;refine af (λb=>⟨rfl,next _ ?_⟩) λb=>⟨rfl,next _ ?_⟩
   all_goals
    dsimp only;simp only[aHE,aHt,ne_eq]at b;by_cases Q:(Sp.nodeAt q n).2.1=a<;>simp[g,Q,b]at W<;>simp only[Q,if_true,aJ4,aI9,h,j]<;>omega
  .simp only[aHt,ne_eq]at g;refine af (λQ=>af (λf=>⟨rfl,?_⟩) λf=>af (λM=>⟨rfl,?_⟩) λM=>⟨rfl,?_⟩) λQ=>⟨rfl,?_⟩
   all_goals simp_all
  .rintro _ rfl;simp only[aHt,ne_eq]at g;refine af (λb=>af (λf=>⟨rfl,next _ ?_⟩) λf=>⟨rfl,next _ ?_⟩) λb=>⟨rfl,next _ ?_⟩
   .simp only[aHE]at f b;by_cases Q:(Sp.nodeAt q n).2.1=a<;>simp[g,f,Q,b]at W<;>simp only[f,Q,true_or,and_self,and_false,if_true,aJ4,aI9,h,j]<;>omega
   .simp only[aHt,ne_eq]at f;dsimp only;by_cases M:(Sp.nodeAt q n).1=5<;>by_cases Q:(Sp.nodeAt q n).2.1=a<;>simp[g,f,M,Q]at W<;>simp[f,M,Q]<;>omega
   .simp only[aHt,ne_eq]at b;dsimp only;by_cases f:(Sp.nodeAt q n).1=7<;>by_cases M:(Sp.nodeAt q n).1=5<;>by_cases Q:(Sp.nodeAt q n).2.1=a<;>simp[g,f,M,Q,b]at W<;>simp[f,M,Q]<;>omega
 .dsimp only;refine bP lu ?_;rw[o,amN]
variable {q:List aA}
theorem amO(H:n<q.length)(h:mQ q n=false):ax q=false:=by unfold ax;rw[sJ H h];rfl
theorem xg:OK mM.e:=by
 refine aO [gX.e,uz.e,zV.e] ⟨jd,Vw,acJ,⟨⟩⟩ acM λq=>show mM.goal (aaU q) (q,())fromλN C=>?_
 dsimp only[mM]at C ⊢;have C:q.length<=2000000:=C;refine dY q.length lu (λn=>∀i,i<n->mQ q i=true) (λi D=>lu) (λI P n H o next=>?_) λI P o=>?_
 .dsimp only;have a:mQ q n=false->(false,())=(ax q,()):=λh=>by rw[amO H h]
  rw[nH (show 0<q.length from lu) lu];refine bT lu ⟨⟨lu,lu⟩,trivial,af (λO=>a ?_) λO=>af (λU=>⟨C,af (λj=>a ?_) λj=>⟨rfl,next (bV o ?_)⟩⟩) λU=>⟨rfl,next (bV o ?_)⟩⟩
  .have O:fH (Sp.nodeAt q n) n=false:=dD O;unfold mQ;rw[O];rfl
  .have O:fH (Sp.nodeAt q n) n=true:=bI O;have j:(iY q n:Int)≠1:=by simpa using j
   have U:(n:Int)<(q.length:Int)-1:=arU;unfold mQ;simp only[U,O];simp;omega
  .have O:fH (Sp.nodeAt q n) n=true:=bI O;have j:(iY q n:Int)=1:=by simpa using j
   have j:iY q n=1:=lu;unfold mQ;simp[O,j]
  .have O:fH (Sp.nodeAt q n) n=true:=bI O;have U:¬(n:Int)<(q.length:Int)-1:=asr;unfold mQ;simp[O,U]
 .dsimp only;refine bP lu ⟨trivial,congrArg (·,()) ?_⟩;unfold ax;rw[kG o];rfl
theorem rZ:OK jr.e:=by
 refine aO [jc.e,uD.e,zW.e] ⟨jE,Vy,acI,⟨⟩⟩ acN λq=>show jr.goal (aaV q) (q,())fromλN C=>?_
 dsimp only[jr]at C ⊢;have C:q.length<=2000000:=C;refine dY q.length lu (λn=>∀i,i<n->mQ q i=true) (λi D=>lu) (λI P n H o next=>?_) λI P o=>?_
 .dsimp only;have a:mQ q n=false->(false,())=(ax q,()):=λh=>by rw[amO H h]
  rw[nH (show 0<q.length from lu) lu];refine bT lu ⟨⟨lu,lu⟩,trivial,af (λO=>a ?_) λO=>af (λU=>⟨C,af (λj=>a ?_) λj=>⟨rfl,next (bV o ?_)⟩⟩) λU=>⟨rfl,next (bV o ?_)⟩⟩
  .have O:fH (Sp.nodeAt q n) n=false:=dD O;unfold mQ;rw[O];rfl
  .have O:fH (Sp.nodeAt q n) n=true:=bI O;have j:(iY q n:Int)≠1:=by simpa using j
   have U:(n:Int)<(q.length:Int)-1:=arU;unfold mQ;simp only[U,O];simp;omega
  .have O:fH (Sp.nodeAt q n) n=true:=bI O;have j:(iY q n:Int)=1:=by simpa using j
   have j:iY q n=1:=lu;unfold mQ;simp[O,j]
  .have O:fH (Sp.nodeAt q n) n=true:=bI O;have U:¬(n:Int)<(q.length:Int)-1:=asr;unfold mQ;simp[O,U]
 .dsimp only;refine bP lu ⟨trivial,congrArg (·,()) ?_⟩;unfold ax;rw[kG o];rfl
theorem aqm(H:n<d.length)(h:lC d n=false):gG d=false:=by unfold gG;rw[sJ H h];rfl
theorem ace:OK zX.e:=by
 refine aO [mM.e,nZ.e] ⟨xg,DX,⟨⟩⟩ aeN λd=>show zX.goal (acO d) (d,())fromλN C=>?_
 dsimp only[zX]at C ⊢;have C:gK d:=C;have Y:d.length<=2000000:=C.1;refine dY d.length lu (λn=>∀i,i<n->lC d i=true) (λi D=>lu) (λI P n H o next=>?_) λI P o=>?_
 .dsimp only;have a:lC d n=false->(false,())=(gG d,()):=λh=>by rw[aqm H h]
  have b:(dK d n).2.1.length<=2000000:=C.2 _ (avL H);refine bT lu ⟨⟨lu,lu⟩,trivial,af (λO=>a ?_) λO=>⟨⟨lu,lu⟩,b,af (λU=>a ?_) λU=>af (λj=>?_) λj=>⟨rfl,next (bV o ?_)⟩⟩⟩
  .have O:bK (dK d n).1=false:=dD O;unfold lC;rw[O];rfl
  .have U:ax (dK d n).2.1=false:=dD U;unfold lC;rw[U];simp
  .have O:bK (dK d n).1=true:=bI O;have U:ax (dK d n).2.1=true:=bI U;have j:0<n:=afh;rw[nH j lu];refine⟨⟨lu,lu⟩,⟨lu,lu⟩,af (λM=>a ?_) λM=>⟨rfl,next (bV o ?_)⟩⟩
   .have M:Op.bytesLess (dK d (n-1)).1 (dK d n).1=false:=dD M;unfold lC;rw[O,U,M,aHF j];rfl
   .have M:Op.bytesLess (dK d (n-1)).1 (dK d n).1=true:=bI M;unfold lC;rw[O,U,M,aHF j];rfl
  .have O:bK (dK d n).1=true:=bI O;have U:ax (dK d n).2.1=true:=bI U;have j:¬0<n:=ab3;unfold lC;rw[O,U,aHD j];rfl
 .dsimp only;refine bP lu (congrArg (·,()) ?_);unfold gG;rw[kG o];rfl
theorem acg:OK zY.e:=by
 refine aO [jr.e,oh.e] ⟨rZ,DY,⟨⟩⟩ aeO λd=>show zY.goal (acP d) (d,())fromλN C=>?_
 dsimp only[zY]at C ⊢;have C:gK d:=C;have Y:d.length<=2000000:=C.1;refine dY d.length lu (λn=>∀i,i<n->lC d i=true) (λi D=>lu) (λI P n H o next=>?_) λI P o=>?_
 .dsimp only;have a:lC d n=false->(false,())=(gG d,()):=λh=>by rw[aqm H h]
  have b:(dK d n).2.1.length<=2000000:=C.2 _ (avL H);refine bT lu ⟨⟨lu,lu⟩,trivial,af (λO=>a ?_) λO=>af (λj=>?_) λj=>⟨b,af (λU=>a ?_) λU=>⟨rfl,next (bV o ?_)⟩⟩⟩
  .have O:bK (dK d n).1=false:=dD O;unfold lC;rw[O];rfl
  .have O:bK (dK d n).1=true:=bI O;have j:0<n:=afh;rw[nH j lu];refine⟨⟨lu,lu⟩,af (λM=>a ?_) λM=>⟨b,af (λU=>a ?_) λU=>⟨rfl,next (bV o ?_)⟩⟩⟩
   .have M:Op.bytesLess (dK d (n-1)).1 (dK d n).1=false:=dD M;unfold lC;rw[M,aHF j];simp
   .have U:ax (dK d n).2.1=false:=dD U;unfold lC;rw[U];simp
   .have U:ax (dK d n).2.1=true:=bI U;have M:Op.bytesLess (dK d (n-1)).1 (dK d n).1=true:=bI M;unfold lC;rw[O,U,M,aHF j];rfl
  .have U:ax (dK d n).2.1=false:=dD U;unfold lC;rw[U];simp
  .have O:bK (dK d n).1=true:=bI O;have U:ax (dK d n).2.1=true:=bI U;have j:¬0<n:=ab3;unfold lC;rw[O,U,aHD j];rfl
 .dsimp only;refine bP lu (congrArg (·,()) ?_);unfold gG;rw[kG o];rfl
theorem aqn{S:Type}{B:((Int×Unit)×S->Prop)->((Int×Unit)×S->Nat)->(Int×Unit)×S->Prop}(len:Nat)(Y:len<=9223372036854775807)(J:Nat->S->Prop){s0:S}(h:J len s0)
 (a:∀I P(n:Nat)(s:S),n<len->J (n+1) s->(∀f,J n f->I ((IntKind.i64.wrap ((n:Int)-1),()),f)/\P ((IntKind.i64.wrap ((n:Int)-1),()),f)<P (((n:Int),()),s))->B I P (((n:Int),()),s))
 (b:∀I P s,J 0 s->B I P ((-1,()),s)):∃I,∃P,I ((IntKind.i64.wrap ((len:Int)-1),()),s0)/\∀y,I y->B I P y:=by
 have w:∀n:Nat,n<=len->IntKind.i64.wrap ((n:Int)-1)=(n:Int)-1:=λn H=>fU _ lu;refine⟨λy=>∃(n:Nat)(s:S),y=(((n:Int)-1,()),s)/\n<=len/\J n s,λy=>(y.1.1+1).toNat,⟨len,s0,by rw[w len (aHv _)],aHv _,h⟩,?_⟩;rintro _ ⟨n,s,rfl,H,o⟩;cases n with
 |zero=>exact b _ _ s o
 |succ n=>have e:((n+1:Nat):Int)-1=n:=lu;rw[e];refine a _ _ n s H o λf g=>?_;rw[w n lu];refine⟨⟨n,f,rfl,lu,g⟩,?_⟩;show((n:Int)-1+1).toNat<((n:Int)+1).toNat;omega
theorem getD_set_ne{α:Type}(l:List α)(i n:Nat)(x d:α)(h:i≠n):(l.set i x).getD n d=l.getD n d:=by rw[aHI,aHI,aI5 h]
theorem SS{x:aA}{a:Int}(h:fH x a=true)(O:x.1=5\/x.1=6\/x.1=7):0<=x.2.1/\x.2.1<a:=by obtain⟨k,t,b,e,f,g,i,_⟩:=x;rw[SQ]at h;rcases O with rfl|rfl|rfl<;>simp at h<;>exact⟨h.1.1.1.1,X3⟩
theorem SX{x:aA}{a:Int}(h:fH x a=true)(O:x.1=6\/x.1=7):0<=x.2.2.1/\x.2.2.1<a:=by obtain⟨k,t,b,e,f,g,i,_⟩:=x;rw[SQ]at h;rcases O with rfl|rfl<;>simp at h<;>exact⟨h.1.2.1,X3⟩
theorem amP(h:ax q=true)(H:n<q.length):fH (Sp.nodeAt q n) n=true:=by unfold ax at h;simp only[aHy]at h;have:=Qe.1 h.1 n H;unfold mQ at this;simp only[aHy]at this;exact this.1
theorem iH(h:ax q=true):1<=q.length/\q.length<=9:=by unfold ax at h;simp only[aHy,aHM]at h;omega
variable {out:List (Bool×Unit)}
theorem ahE(h:(Sp.nodeAt q n).1=5):lS q n out=out.set (Sp.nodeAt q n).2.1.toNat (true,()):=by unfold lS;simp[h]
theorem ahF(h:(Sp.nodeAt q n).1=6\/(Sp.nodeAt q n).1=7):lS q n out=(out.set (Sp.nodeAt q n).2.1.toNat ((out.getD n (false,())).1,())).set (Sp.nodeAt q n).2.2.1.toNat ((out.getD n (false,())).1,()):=by unfold lS kU;rcases h with h|h<;>simp[h]
theorem aeP(M:(Sp.nodeAt q n).1≠5)(a:(Sp.nodeAt q n).1≠6)(b:(Sp.nodeAt q n).1≠7):lS q n out=out:=by unfold lS kU;dsimp only;rw[aHt.2 M,aHt.2 a,aHt.2 b];rfl
theorem F8(q:List aA):∀(n:Nat)(out:List (Bool×Unit)),(jX q n out).length=out.length
 |0,out=>rfl
 |n+1,out=>by
  rw[jX,F8 q n];unfold lS;simp only[cond_eq_ite];split
  .simp
  .split<;>simp
theorem auU(h:ax q=true):(Sp.negated q).length=q.length:=by unfold Sp.negated;rw[h];show(jX q _ _).length=_;rw[F8];simp
theorem aaW:OK yF.e:=by
 refine aO [jr.e] ⟨rZ,⟨⟩⟩ acQ λq=>show yF.goal (aaX q) (q,())fromλN C=>?_
 dsimp only[yF]at C ⊢;have C:q.length<=1000:=C;refine⟨lu,af (λh=>?_) λh=>⟨⟨lu,lu,FT⟩,?_⟩⟩
 .have h:=dD h;unfold Sp.negated;rw[h];rfl
 have g:=bI h;have j:Sp.negated q=jX q q.length (List.replicate q.length (false,())):=by unfold Sp.negated;rw[g];rfl
 refine aqn q.length lu (λn(s:List (Bool×Unit)×Unit)=>s.1.length=q.length/\jX q n s.1=Sp.negated q) ⟨vk,j.symm⟩ (λI P n s H o next=>?_) λI P s o=>?_
 .obtain⟨out,⟨⟩⟩:=s;obtain⟨Q,o⟩:=o;have Q:out.length=q.length:=Q;have o:jX q n (lS q n out)=Sp.negated q:=o;have u:=amP g H;have e:q.getD n (0,0,0,[],0,0,[],())=Sp.nodeAt q n:=rfl;dsimp only;rw[aHB,e];simp only[aKd];refine bT lu ⟨⟨lu,lu⟩,lu,?_⟩;by_cases M:(Sp.nodeAt q n).1=5
  .have J:=SS u (.inl M);simp only[M,Int.reduceBEq,aKa,aJA];have fin:jX q n (out.set (Sp.nodeAt q n).2.1.toNat (true,()))=Sp.negated q:=by rw[← ahE M];exact o
   refine af (λ_=>⟨⟨lu,lu⟩,⟨lu,lu⟩,⟨lu,lu⟩,lu,trivial,next _ ⟨by simp[Q],fin⟩⟩) λ_=>⟨⟨lu,lu⟩,⟨lu,lu⟩,⟨lu,lu⟩,⟨lu,lu⟩,lu,trivial,next _ ⟨by simp[Q],fin⟩⟩
  by_cases a:(Sp.nodeAt q n).1=6\/(Sp.nodeAt q n).1=7
  .have J:=SS u (.inr a);have k:=SX u a;have fin:∀b,(out.getD n (false,())).1=b->jX q n ((out.set (Sp.nodeAt q n).2.1.toNat (b,())).set (Sp.nodeAt q n).2.2.1.toNat (b,()))=Sp.negated q:=λb J=>by rw[← J,← ahF a];exact o
   rcases a with f|f
   all_goals
    simp only[f,Int.reduceBEq,aKa,aJA];refine af (λL=>⟨⟨lu,lu⟩,⟨lu,lu⟩,⟨lu,lu⟩,⟨lu,lu⟩,lu,⟨lu,lu⟩,lu,trivial,next _ ⟨by simp[Q],fin true L⟩⟩) λL=>⟨⟨lu,lu⟩,⟨lu,lu⟩,⟨lu,lu⟩,⟨lu,lu⟩,⟨lu,lu⟩,lu,⟨lu,lu⟩,lu,trivial,next _ ⟨by simp[Q],fin false L⟩⟩
  .have f:(Sp.nodeAt q n).1≠6:=λh=>a (.inl h);have i:(Sp.nodeAt q n).1≠7:=λh=>a (.inr h);have fin:jX q n out=Sp.negated q:=by rw[aeP M f i]at o;exact o
   simp only[aHt.2 M,aHt.2 f,aHt.2 i,aJA];exact af (λ_=>⟨⟨lu,lu⟩,rfl,next _ ⟨Q,fin⟩⟩) λ_=>⟨⟨lu,lu⟩,⟨lu,lu⟩,rfl,next _ ⟨Q,fin⟩⟩
 .obtain⟨out,⟨⟩⟩:=s;obtain⟨Q,o⟩:=o;dsimp only;refine bP lu ?_;have o:out=Sp.negated q:=o;rw[o]
theorem aaY:OK yE.e:=by
 refine aO [mM.e] ⟨xg,⟨⟩⟩ acR λq=>show yE.goal (aaZ q) (q,())fromλN C=>?_
 dsimp only[yE]at C ⊢;have C:q.length<=1000:=C;refine⟨lu,af (λh=>?_) λh=>⟨⟨lu,lu,FT⟩,?_⟩⟩
 .have h:=dD h;unfold Sp.negated;rw[h];rfl
 have f:=bI h;have j:Sp.negated q=jX q q.length (List.replicate q.length (false,())):=by unfold Sp.negated;rw[f];rfl
 refine aqn q.length lu (λn(s:List (Bool×Unit)×Unit)=>s.1.length=q.length/\jX q n s.1=Sp.negated q) ⟨vk,j.symm⟩ (λI P n s H o next=>?_) λI P s o=>?_
 .obtain⟨out,⟨⟩⟩:=s;obtain⟨Q,o⟩:=o;have Q:out.length=q.length:=Q;have o:jX q n (lS q n out)=Sp.negated q:=o;have u:=amP f H;have e:q.getD n (0,0,0,[],0,0,[],())=Sp.nodeAt q n:=rfl;dsimp only;rw[aHB,e];simp only[aKd];refine bT lu ⟨⟨lu,lu⟩,?_⟩;by_cases M:(Sp.nodeAt q n).1=5
  .have hb:=SS u (.inl M);simp only[M,Int.reduceBEq,aKa,aJA];have fin:jX q n (out.set (Sp.nodeAt q n).2.1.toNat (true,()))=Sp.negated q:=by rw[← ahE M];exact o
   exact⟨⟨lu,lu⟩,lu,trivial,next _ ⟨by simp[Q],fin⟩⟩
  by_cases a:(Sp.nodeAt q n).1=6\/(Sp.nodeAt q n).1=7
  .have hb:=SS u (.inr a);have k:=SX u a;have g:(Sp.nodeAt q n).2.1.toNat≠n:=lu;have fin:jX q n ((out.set (Sp.nodeAt q n).2.1.toNat ((out.getD n (false,())).1,())).set (Sp.nodeAt q n).2.2.1.toNat ((out.getD n (false,())).1,()))=Sp.negated q:=by rw[← ahF a];exact o
   rcases a with b|b
   all_goals
    simp only[b,Int.reduceBEq,aKa,aJA,getD_set_ne _ _ _ _ _ g];exact⟨⟨lu,lu⟩,lu,⟨lu,lu⟩,lu,⟨lu,lu⟩,lu,⟨lu,lu⟩,lu,trivial,next _ ⟨by simp[Q],fin⟩⟩
  .have b:(Sp.nodeAt q n).1≠6:=λh=>a (.inl h);have i:(Sp.nodeAt q n).1≠7:=λh=>a (.inr h);have fin:jX q n out=Sp.negated q:=by rw[aeP M b i]at o;exact o
   simp only[aHt.2 M,aHt.2 b,aHt.2 i,aJA];exact⟨rfl,next _ ⟨Q,fin⟩⟩
 .obtain⟨out,⟨⟩⟩:=s;obtain⟨Q,o⟩:=o;dsimp only;refine bP lu ?_;have o:out=Sp.negated q:=o;rw[o]
def apl(q:List aA)(neg:Bool)(i:Nat):Option Sp.Bytes:=bif tK (Sp.nodeAt q i)&&((Sp.negated q).getD i (false,())).1==neg then some (Sp.nodeAt q i).2.2.2.1 else none
def IC(q:List aA)(neg:Bool)(n:Nat):List Sp.Bytes:=(List.range n).filterMap (apl q neg)
theorem A7(q:List aA)(neg:Bool):IC q neg (Sp.negated q).length=fA q neg:=rfl
variable {neg:Bool}
theorem am6(E:tK (Sp.nodeAt q n)=true)(O:((Sp.negated q).getD n (false,())).1=neg):IC q neg (n+1)=IC q neg n++[(Sp.nodeAt q n).2.2.2.1]:=by
 unfold IC;rw[aJO,List.filterMap_append];congr 1;show List.filterMap _ [n]=_;rw[List.filterMap_cons];have:apl q neg n=some (Sp.nodeAt q n).2.2.2.1:=by unfold apl;rw[E,O];simp
 rw[this];rfl
theorem WQ(h:¬(tK (Sp.nodeAt q n)=true/\((Sp.negated q).getD n (false,())).1=neg)):IC q neg (n+1)=IC q neg n:=by
 unfold IC;rw[aJO,List.filterMap_append];have:apl q neg n=none:=by
  unfold apl;have:(tK (Sp.nodeAt q n)&&((Sp.negated q).getD n (false,())).1==neg)=false:=by rw[aJG];intro a;rw[aHy,aHE]at a;exact h a
  rw[this];rfl
 rw[List.filterMap_cons,this];simp
theorem A8(q:List aA)(neg:Bool)(n:Nat):(IC q neg n).length<=n:=by have:=List.length_filterMap_le (apl q neg) (List.range n);rw[List.length_range]at this;exact this
theorem Ba(q:List aA):(Sp.negated q).length<=q.length:=by
 cases h:ax q with
 |true=>rw[auU h];exact aHv _
 |false=>unfold Sp.negated;rw[h];exact aHV _
theorem RP:OK xR.e:=by
 refine zn [(JX,.eff (X8 uQ) Gh),Gt.e,yF.e] ⟨⟨adN,ab4⟩,ajM,aaW,⟨⟩⟩ ajU (λ⟨q,neg,_⟩ C=>⟨((((fA q neg).map λs=>(s,()),()),())),⟨by show((fA q neg).map _).length<=1000;rw[aHL];have:=A8 q neg (Sp.negated q).length;have:=Ba q;have C:q.length<=1000:=C;rw[A7]at*;omega,λs=>by show(s,())∈(fA q neg).map _↔_;simp⟩⟩) λq neg=>show xR.goal (ag7 q neg) (q,neg,())fromλN C=>?_
 dsimp only[xR]at C ⊢;have C:q.length<=1000:=C;have a:=Ba q;refine⟨C,?_⟩;refine dI (λi(x:Sp.LS)=>(((),i,()),x,())) (λy=>y.1.2.1) (λ_ _=>rfl) (Sp.negated q).length lu (λn l=>l=(IC q neg n).map λs=>(s,())) rfl (λI P n l H o next=>?_) λI P l o=>?_
 .subst o;have Q:=A8 q neg n;dsimp only;refine bT lu ⟨⟨lu,lu⟩,⟨lu,lu⟩,trivial,af (λE=>af (λO=>⟨⟨lu,lu⟩,?_,rfl,next _ ?_⟩) λO=>⟨rfl,next _ ?_⟩) λE=>⟨rfl,next _ ?_⟩⟩
  .rw[dJ];simp only[aHx,aHG,aHL];omega
  .rw[am6 (show tK (Sp.nodeAt q n)=true from E) (aHE.1 O),aIk];rfl
  .rw[WQ λh=>by have O:=aHt.1 O;exact O h.2]
  .rw[WQ λh=>by have E:tK (Sp.nodeAt q n)=false:=E;rw[E]at h;cases h.1]
 .subst o;have Q:=A8 q neg (Sp.negated q).length;rw[A7]at Q ⊢;dsimp only;refine bP lu ⟨by rw[aHL];omega,?_⟩;rintro⟨⟨r,⟨⟩⟩,⟨⟩⟩ ⟨E,O⟩;have E:r.length<=((fA q neg).map λs=>(s,())).length:=E;rw[aHL]at E;refine⟨by show r.length<=1000;omega,λs=>?_⟩;have:=O (s,());show(s,())∈r↔_;rw[this];simp
theorem Z9:OK yG.e:=by
 refine zn [xR.e] ⟨RP,⟨⟩⟩ H0 (λ⟨q,_⟩ C=>⟨((((fA q false).map λs=>(s,()),()),())),⟨by show((fA q false).map _).length<=1000;rw[aHL];have:=A8 q false (Sp.negated q).length;have:=Ba q;have C:q.length<=1000:=C;rw[A7]at*;omega,λs=>by show(s,())∈(fA q false).map _↔_;simp⟩⟩) λq=>show yG.goal (aa7 q) (q,())fromλN C=>?_
 dsimp only[yG]at C ⊢;exact⟨C,λr W=>W⟩
theorem Z8:OK yH.e:=by
 refine zn [xR.e] ⟨RP,⟨⟩⟩ H0 (λ⟨q,_⟩ C=>⟨((((fA q true).map λs=>(s,()),()),())),⟨by show((fA q true).map _).length<=1000;rw[aHL];have:=A8 q true (Sp.negated q).length;have:=Ba q;have C:q.length<=1000:=C;rw[A7]at*;omega,λs=>by show(s,())∈(fA q true).map _↔_;simp⟩⟩) λq=>show yH.goal (aa8 q) (q,())fromλN C=>?_
 dsimp only[yH]at C ⊢;exact⟨C,λr W=>W⟩
variable {s:Sp.Bytes}
theorem avQ{l:Sp.LS}{m:Nat}(a:m<=l.length)(E:∀i,i<m->Op.bytesLess (l.getD i ([],())).1 s=true)(O:m<l.length->Op.bytesLess (l.getD m ([],())).1 s=false):
 LU l s=bif decide (m<l.length)&&(l.getD m ([],())).1==s then l else l.take m++[(s,())]++l.drop m:=by
 obtain⟨h,_⟩:=OB (d:=(([]:List UInt8),())) l m a (p:=λx=>Op.bytesLess x.1 s) E O;unfold LU;rw[h];have:(l.take m).length=m:=aeY;rw[this]
theorem UQ{l:Sp.LS}(x:Sp.Bytes×Unit):x∈LU l s↔x=(s,())\/x∈l:=by
 unfold LU;dsimp only;generalize (l.takeWhile λx=>Op.bytesLess x.1 s).length=n;cases h:decide (n<l.length)&&(l.getD n ([],())).1==s with
 |true=>
  rw[aHy,aHE]at h;refine⟨.inr,λhx=>?_⟩;rcases hx with rfl|hx
  .have:=getD_mem (d:=(([]:List UInt8),())) (fG h.1);rw[show l.getD n ([],())=(s,())from Prod.ext h.2 rfl]at this;exact this
  .exact hx
 |false=>
  show x∈l.take n++[(s,())]++l.drop n↔_;rw[aH3,aH3,aH9]
  conv=>rhs;rw[← aJo n l,aH3]
  constructor
  .rintro((h|h)|h)
   .exact .inr (.inl h)
   .exact .inl h
   .exact .inr (.inr h)
  .rintro(h|h|h)
   .exact .inl (.inr h)
   .exact .inl (.inl h)
   .exact .inr h
theorem az7(l:Sp.LS)(s:Sp.Bytes):(LU l s).length<=l.length+1:=by
 unfold LU;dsimp only;generalize (l.takeWhile λx=>Op.bytesLess x.1 s).length=n;cases decide (n<l.length)&&(l.getD n ([],())).1==s with
 |true=>exact Nat.le_succ _
 |false=>show(l.take n++[(s,())]++l.drop n).length<=_;simp;omega
theorem apm:OK KX.e:=by
 refine aO [] ⟨⟩ aro λl s=>show KX.goal (apn l s) (l,s,())fromλN C=>?_
 dsimp only[KX]at C ⊢;have C:l.length<=1000:=C;have fin:∀m:Nat,m<=l.length->LU l s=l.take m++[(s,())]++l.drop m->((0:Int)<=m/\(m:Int)<=l.length)/\0+(List.drop 0 (List.take m l)).length<=big/\(List.drop 0 (List.take m l)).length+[(s,())].length<=big/\((0:Int)<=m/\(m:Int)<=l.length)/\
  (List.drop 0 (List.take m l)++[(s,())]).length+(List.drop m (List.take l.length l)).length<=big/\(List.drop 0 (List.take m l)++[(s,())]++List.drop m (List.take l.length l),())=(LU l s,()):=by
  intro m a h;refine⟨⟨lu,lu⟩,?_,?_,⟨lu,lu⟩,?_,?_⟩
  .rw[dJ];simp only[aH7,aHP];omega
  .rw[dJ];simp only[aH7,aHP,aHx,aHG];omega
  .rw[dJ];simp only[aHu,aH7,aHP,aHx,aHG];omega
  .rw[h,aH4,List.drop_zero]
 refine dY l.length lu (λn=>∀i,i<n->Op.bytesLess (l.getD i ([],())).1 s=true) (λi D=>lu) (λI P n H o next=>?_) λI P o=>?_
 .dsimp only;refine bT lu ⟨⟨lu,lu⟩,af (λh=>⟨rfl,next (bV (f:=λi=>Op.bytesLess (l.getD i ([],())).1 s) o h)⟩) λh=>bT lu ⟨⟨lu,lu⟩,?_⟩⟩;have e:=avQ (aJz H) o λ_=>h;rw[aHF H,aIK]at e;refine af (λO=>?_) λO=>fin n (aJz H) ?_
  .rw[show((l.getD n ([],())).1==s)=true from O]at e;rw[e];rfl
  .rw[show((l.getD n ([],())).1==s)=false from O]at e;exact e
 .dsimp only;refine bP lu (bP lu (fin l.length (aHv _) ?_));have e:=avQ (aHv _) o λh=>lu;rw[aHD lu]at e;exact e
theorem ayM(x:aA):tK x=(decide (8<=x.1)&&decide (x.1<=9)):=by unfold tK;rw[aHX];simp;omega
theorem U0:OK zZ.e:=by
 refine zn [KX.e,gX.e,yE.e] ⟨apm,jd,aaY,⟨⟩⟩ am7 (λ⟨q,neg,_⟩ C=>⟨((((fA q neg).map λs=>(s,()),()),())),⟨by show((fA q neg).map _).length<=1000;rw[aHL];have:=A8 q neg (Sp.negated q).length;have:=Ba q;have C:q.length<=1000:=C;rw[A7]at*;omega,λs=>by show(s,())∈(fA q neg).map _↔_;simp⟩⟩) λq neg=>show zZ.goal (ajV q neg) (q,neg,())fromλN C=>?_
 dsimp only[zZ]at C ⊢;have C:q.length<=1000:=C;have b:=Ba q;refine⟨C,?_⟩;refine dI (λi(x:Sp.LS)=>((x,i,()),())) (λy=>y.1.2.1) (λ_ _=>rfl) (Sp.negated q).length lu (λn l=>l.length<=n/\∀s,(s,())∈l↔s∈IC q neg n) ⟨aHv _,λs=>by simp[IC]⟩ (λI P n l H o next=>?_) λI P l o=>?_
 .obtain⟨hl,o⟩:=o;dsimp only;have a:=ayM (Sp.nodeAt q n);refine bT lu ⟨⟨lu,lu⟩,trivial,af (λE=>⟨⟨lu,lu⟩,af (λO=>⟨⟨lu,lu⟩,lu,rfl,next _ ?_⟩) λO=>⟨rfl,next _ ⟨lu,?_⟩⟩⟩) λE=>⟨rfl,next _ ⟨lu,?_⟩⟩⟩
  .have E:(decide (8<=(Sp.nodeAt q n).1)&&decide ((Sp.nodeAt q n).1<=9))=true:=E;rw[am6 (a.trans E) (aHE.1 O)];refine⟨aHw (az7 _ _) lu,λs=>?_⟩;rw[UQ,aH3,aH9,o,Prod.mk.injEq];constructor
   .rintro(⟨h,_⟩|h)
    .exact .inr h
    .exact .inl h
   .rintro(h|h)
    .exact .inr h
    .exact .inl ⟨h,rfl⟩
  .rw[WQ λh=>by have O:=aHt.1 O;exact O h.2];exact o
  .rw[WQ λh=>by have E:(decide (8<=(Sp.nodeAt q n).1)&&decide ((Sp.nodeAt q n).1<=9))=false:=E;rw[a,E]at h;cases h.1];exact o
 .obtain⟨hl,o⟩:=o;rw[A7]at o;dsimp only;exact bP lu ⟨FT,by show l.length<=1000;omega,o⟩
theorem aa9:OK yI.e:=by
 refine zn [zZ.e] ⟨U0,⟨⟩⟩ H0 (λ⟨q,_⟩ C=>⟨((((fA q false).map λs=>(s,()),()),())),⟨by show((fA q false).map _).length<=1000;rw[aHL];have:=A8 q false (Sp.negated q).length;have:=Ba q;have C:q.length<=1000:=C;rw[A7]at*;omega,λs=>by show(s,())∈(fA q false).map _↔_;simp⟩⟩) λq=>show yI.goal (abb q) (q,())fromλN C=>?_
 dsimp only[yI]at C ⊢;exact⟨C,λr W=>W⟩
theorem abd:OK yJ.e:=by
 refine zn [zZ.e] ⟨U0,⟨⟩⟩ H0 (λ⟨q,_⟩ C=>⟨((((fA q true).map λs=>(s,()),()),())),⟨by show((fA q true).map _).length<=1000;rw[aHL];have:=A8 q true (Sp.negated q).length;have:=Ba q;have C:q.length<=1000:=C;rw[A7]at*;omega,λs=>by show(s,())∈(fA q true).map _↔_;simp⟩⟩) λq=>show yJ.goal (abe q) (q,())fromλN C=>?_
 dsimp only[yJ]at C ⊢;exact⟨C,λr W=>W⟩
theorem WR:OK CZ.e:=by
 refine aO [] ⟨⟩ H0 λk t p=>show CZ.goal (am8 k t p) ((k,t,()),(p,()),())fromλN C=>?_
 dsimp only[CZ]at C ⊢;exact rfl
theorem Us(H:n<d.length)(E:(dK d n).1=s)(O:∀i,i<n->(dK d i).1≠s):aP d s=n:=by
 rcases JE d s with⟨_,h⟩|⟨m,f,a,b,e⟩
 .exact(h _ (getD_mem (d:=(([]:List UInt8),([]:List aA),())) H) E).elim
 .have:m=n:=by
   rcases aJ2 m n with h|h|h
   .exact(O m h b).elim
   .exact h
   .exact(e n h E).elim
  rw[a,this]
theorem atL(O:∀i,i<d.length->(dK d i).1≠s):aP d s=-1:=by
 rcases JE d s with⟨h,_⟩|⟨m,a,_,b,_⟩
 .exact h
 .exact(O m a b).elim
theorem D6:OK jw.e:=by
 refine aO [CZ.e] ⟨WR,⟨⟩⟩ D9 λd s=>show jw.goal (D7 d s) (d,((s,()),()),())fromλN C=>?_
 dsimp only[jw]at C ⊢;have Y:d.length<=maxLen:=N.1.1;rw[maxLen_eq]at Y;refine dY d.length Y (λn=>∀i,i<n->(dK d i).1≠s) (λi D=>lu) (λI P n H o next=>?_) λI P o=>?_
 .dsimp only;refine bT lu ⟨⟨lu,lu⟩,trivial,af (λh=>?_) λh=>⟨rfl,next λi D=>?_⟩⟩
  .rw[Us H (aHE.1 h) o]
  .rcases aHU i n with h'|h'
   .exact o i h'
   .have:i=n:=lu;rw[this];exact aHt.1 h
 .dsimp only;refine bP lu ?_;rw[atL o]
theorem arp:OK Nh.e:=by
 refine aO [jw.e,CZ.e] ⟨D6,WR,⟨⟩⟩ H0 λd s=>show Nh.goal (arq d s) (d,s,())fromλN C=>?_
 dsimp only[Nh]at C ⊢;exact⟨trivial,rfl⟩
theorem ajW:OK Gu.e:=by
 refine aO [] ⟨⟩ am9 λd s=>show Gu.goal (ajX d s) (d,s,())fromλN C=>?_
 dsimp only[Gu]at C ⊢;have Y:d.length<=maxLen:=N.1.1;rw[maxLen_eq]at Y;refine dY d.length Y (λn=>∀i,i<n->(dK d i).1≠s) (λi D=>lu) (λI P n H o next=>?_) λI P o=>?_
 .dsimp only;refine bT lu ⟨⟨lu,lu⟩,af (λh=>?_) λh=>⟨rfl,next λi D=>?_⟩⟩
  .rw[Us H (aHE.1 h) o]
  .rcases aHU i n with h'|h'
   .exact o i h'
   .have:i=n:=lu;rw[this];exact aHt.1 h
 .dsimp only;refine bP lu ?_;rw[atL o]
theorem acf:OK Aa.e:=by
 refine aO [Nh.e] ⟨arp,⟨⟩⟩ ae4 λd g names f=>show Aa.goal (ac0 d g names f) (d,g,names,f,())fromλN C=>?_
 dsimp only[Aa]at C ⊢;obtain⟨E,O,U,j,M⟩:d.length<=g.length/\names.length<=1000/\0<=f/\f<=1/\∀x∈g,0<=x.1/\x.1<=1000000:=C;refine dI (λi(c:Int)=>((c,i,()),())) (λy=>y.1.2.1) (λ_ _=>rfl) names.length lu (λn c=>∀B,c<=B↔0<=B/\∀x∈names.take n,0<=aP d x.1->Sp.lv g (aP d x.1).toNat+f<=B) (λB=>vk) (λI P n c H o next=>?_) λI P c o=>?_
 .dsimp only;rw[aHB];have e:=Sp.take_succ' names n ([],()) H;refine bT lu ⟨⟨lu,lu⟩,trivial,af (λh=>?_) λh=>⟨rfl,next _ λB=>?_⟩⟩
  .have h:0<=aP d (names.getD n ([],())).1:=fG h;have r:=Qi h;have J:=M _ (aeA (l:=g) (i:=(aP d (names.getD n ([],())).1).toNat) lu);dsimp only at J;have t:IntKind.i64.wrap (Sp.lv g (aP d (names.getD n ([],())).1).toNat+f)=Sp.lv g (aP d (names.getD n ([],())).1).toNat+f:=fU _ lu;have T:(g.getD (aP d (names.getD n ([],())).1).toNat (0,())).1=Sp.lv g (aP d (names.getD n ([],())).1).toNat:=rfl;refine⟨⟨h,lu⟩,rfl,next _ λB=>?_⟩;rw[T,t,e];simp only[aH3,aH9];have:=o B;constructor
   .intro hB;have L:c<=B:=by split at hB<;>omega
    have K:Sp.lv g (aP d (names.getD n ([],())).1).toNat+f<=B:=by split at hB<;>omega
    obtain⟨a,b⟩:=this.1 L;refine⟨a,λx Z k=>?_⟩;rcases Z with Z|rfl
    .exact b x Z k
    .exact K
   .rintro⟨a,b⟩;have L:=this.2 ⟨a,λx Z=>b x (.inl Z)⟩;have K:=b _ (.inr rfl) h;split<;>omega
  .have h:¬0<=aP d (names.getD n ([],())).1:=fK h;rw[o B,e];simp only[aH3,aH9];constructor
   .rintro⟨a,b⟩;refine⟨a,λx Z k=>?_⟩;rcases Z with Z|rfl
    .exact b x Z k
    .exact(h k).elim
   .exactλ⟨a,b⟩=>⟨a,λx Z=>b x (.inl Z)⟩
 .dsimp only;refine bP lu (congrArg (·,()) ?_);rw[aH4]at o;have m:=λB=>(o B).trans (MQ (d:=d) (aB:=g) (more:=f) names B).symm;have a:=(m c).1 (aIe _);have b:=(m (Ac d g f names)).2 (aIe _);omega
theorem aqt{i:Nat}(D:i<d.length){r:Sp.LS}(W:jS r (fA (dK d i).2.1 neg)){p:Nat}(C:p<r.length)(S:0<=aP d (r.getD p ([],())).1):
 (i,(aP d (r.getD p ([],())).1).toNat,if neg then 1 else 0)∈eu d:=by
 have l:=getD_mem (d:=(([]:List UInt8),())) C;have:=(W.2 (r.getD p ([],())).1).1 l;cases neg with
 |false=>exact Ir.2 ⟨D,_,.inl ⟨rfl,this⟩,S,rfl⟩
 |true=>exact Ir.2 ⟨D,_,.inr ⟨rfl,this⟩,S,rfl⟩
theorem V8{i j m:Nat}{r:Sp.LS}(W:jS r (fA (dK d i).2.1 neg))(g:(i,j,m)∈eu d)(l:m=if neg then 1 else 0):
 ∃p,p<r.length/\0<=aP d (r.getD p ([],())).1/\j=(aP d (r.getD p ([],())).1).toNat:=by
 obtain⟨_,s,O,U,a⟩:=Ir.1 g;have X:s∈fA (dK d i).2.1 neg:=by
  cases neg with
  |false=>rcases O with⟨_,h⟩|⟨h,_⟩;exact h;simp at l;omega
  |true=>rcases O with⟨h,_⟩|⟨_,h⟩;simp at l;omega;exact h
 have l:=(W.2 s).2 X;obtain⟨p,C,e⟩:=aIf l;have T:r.getD p ([],())=(s,()):=by rw[aHI,aHK C,e];rfl
 exact⟨p,C,by rw[T];exact U,by rw[T];exact a⟩
theorem ayN:∀x,(vw.F x).1->∃t,(vw.F x).2 t:=by rintro⟨d,aB,_⟩ hp;obtain⟨_,_,U,j⟩:xU d/\d.length<=5/\aB.length=d.length/\∀x∈aB,0<=x.1/\x.1<=1000000:=hp;obtain⟨r,W⟩:=auZ d aB U λi D=>(j _ (aeA lu)).1;exact⟨((r,()),()),W⟩
theorem aiK:OK vw.e:=by
 refine zn [yJ.e,Gu.e,yI.e] ⟨abd,ajW,aa9,⟨⟩⟩ ana (ayN) λd k=>show vw.goal (ajY d k) (d,k,())fromλN C=>?_
 dsimp only[vw]at C ⊢;obtain⟨E,O,U,j⟩:xU d/\d.length<=5/\k.length=d.length/\∀x∈k,0<=x.1/\x.1<=1000000:=C;have S:∀i,i<d.length->0<=Sp.lv k i/\Sp.lv k i<=1000000:=λi D=>j _ (aeA lu);have hB:∀i,i<d.length->Sp.lv k i<=1000000:=λi D=>(S i D).2;refine⟨FT,?_⟩;refine dI (λi(x:List (Int×Unit))=>((i,()),x,())) (λy=>y.1.1) (λ_ _=>rfl) d.length lu (λi R=>O5 d k R (1000*i) λe=>e∈eu d/\e.1<i) ((O5.start U).weaken lu λe g=>by have:=g.2;omega) (λI P i R D o next=>?_) λI P R o=>?_
 .dsimp only;rw[aHB];refine bT lu ⟨⟨lu,lu⟩,PG E D,?_⟩;rintro⟨⟨r,⟨⟩⟩,⟨⟩⟩ W;have W:jS r (fA (dK d i).2.1 false):=W;have hrl:r.length<=1000:=W.1;refine dI (λi(x:List (Int×Unit))=>((i,()),x,())) (λy=>y.1.1) (λ_ _=>rfl) r.length lu (λp R=>O5 d k R (1000*i) λe=>e∈eu d/\(e.1<i\/(e.1=i/\e.2.2=0/\∃f,f<p/\e.2.1=(aP d (r.getD f ([],())).1).toNat/\0<=aP d (r.getD f ([],())).1))) (o.weaken (aIe _) λe g=>⟨g.1,by rcases g.2 with h|⟨_,_,_,h,_⟩;exact h;omega⟩) (λI1 X p R C o w=>?_) λI1 X R o=>?_
  .dsimp only;rw[aHB];have Q:=o.len;have z:∀e:Nat×Nat×Nat,(e∈eu d/\(e.1<i\/(e.1=i/\e.2.2=0/\∃f,f<p+1/\e.2.1=(aP d (r.getD f ([],())).1).toNat/\0<=aP d (r.getD f ([],())).1)))->
    (e∈eu d/\(e.1<i\/(e.1=i/\e.2.2=0/\∃f,f<p/\e.2.1=(aP d (r.getD f ([],())).1).toNat/\0<=aP d (r.getD f ([],())).1)))\/(e=(i,(aP d (r.getD p ([],())).1).toNat,0)/\0<=aP d (r.getD p ([],())).1):=by
    rintro⟨a,b,c⟩ ⟨g,h|⟨h,M,f,h6,t,h8⟩⟩
    .exact .inl ⟨g,.inl h⟩
    .by_cases hpp:f=p
     .subst hpp;have h:a=i:=h;have M:c=0:=M;have t:b=(aP d (r.getD f ([],())).1).toNat:=t;exact .inr ⟨by rw[h,M,t],h8⟩
     .exact .inl ⟨g,.inr ⟨h,M,f,lu,t,h8⟩⟩
   refine bT lu ⟨⟨lu,lu⟩,trivial,af (λh=>?_) λh=>⟨rfl,w _ (o.weaken (aIe _) λe g=>?_)⟩⟩
   .have h:0<=aP d (r.getD p ([],())).1:=fG h;have F:=Qi h;have g:=aqt D W C h;refine⟨⟨h,lu⟩,lu,⟨lu,lu⟩,lu,af (λL=>⟨⟨h,lu⟩,lu,⟨lu,lu⟩,lu,rfl,w _ ?_⟩) λL=>⟨rfl,w _ ?_⟩⟩
    .have L:Sp.lv R i<Sp.lv R (aP d (r.getD p ([],())).1).toNat:=fG L;have:=o.set g (by show _<_+((0:Nat):Int);omega);have e0:Sp.lv R (aP d (r.getD p ([],())).1).toNat+((if false=true then 1 else 0:Nat):Int)=Sp.lv R (aP d (r.getD p ([],())).1).toNat:=by show _+((0:Nat):Int)=_;omega
     rw[e0]at this;exact this.weaken (by show 1000*(i:Int)+((0:Nat):Int)<=_;omega) λe g=>(z e g).imp_right λh=>h.1
    .have L:¬Sp.lv R i<Sp.lv R (aP d (r.getD p ([],())).1).toNat:=fK L;have:=o.still g (by show _+((0:Nat):Int)<=_;omega);exact this.weaken (aIe _) λe g=>(z e g).imp_right λh=>h.1
   .have h:¬0<=aP d (r.getD p ([],())).1:=fK h;rcases z e g with m|m
    .exact m
    .exact(h m.2).elim
  .dsimp only;have B:O5 d k R (1000*i) λe=>e∈eu d/\(e.1<i\/(e.1=i/\e.2.2=0)):=o.weaken (aIe _) λe g=>⟨g.1,g.2.imp_right λh=>⟨h.1,h.2,by obtain⟨a,b,c⟩:=e;obtain⟨g,_⟩:=g;obtain⟨h,M⟩:=h;have h:a=i:=h;have M:c=0:=M;subst h M;obtain⟨p,H,J,K⟩:=V8 W g rfl;exact⟨p,H,K,J⟩⟩⟩;clear o;refine bP lu ⟨⟨lu,lu⟩,PG E D,?_⟩;rintro⟨⟨r2,⟨⟩⟩,⟨⟩⟩ l;have l:jS r2 (fA (dK d i).2.1 true):=l;have Z:r2.length<=1000:=l.1;refine dI (λi(x:List (Int×Unit))=>((i,()),x,())) (λy=>y.1.1) (λ_ _=>rfl) r2.length lu (λp R=>O5 d k R (1000*i+p) λe=>e∈eu d/\(e.1<i\/(e.1=i/\e.2.2=0)\/(e.1=i/\e.2.2=1/\∃f,f<p/\e.2.1=(aP d (r2.getD f ([],())).1).toNat/\0<=aP d (r2.getD f ([],())).1))) (B.weaken lu λe g=>⟨g.1,by rcases g.2 with h|h|⟨_,_,_,h,_⟩;exact .inl h;exact .inr h;omega⟩) (λI2 Y p R C o u=>?_) λI2 Y R o=>?_
   .dsimp only;rw[aHB];have Q:=o.len;have z:∀e:Nat×Nat×Nat,(e∈eu d/\(e.1<i\/(e.1=i/\e.2.2=0)\/(e.1=i/\e.2.2=1/\∃f,f<p+1/\e.2.1=(aP d (r2.getD f ([],())).1).toNat/\0<=aP d (r2.getD f ([],())).1)))->
     (e∈eu d/\(e.1<i\/(e.1=i/\e.2.2=0)\/(e.1=i/\e.2.2=1/\∃f,f<p/\e.2.1=(aP d (r2.getD f ([],())).1).toNat/\0<=aP d (r2.getD f ([],())).1)))\/(e=(i,(aP d (r2.getD p ([],())).1).toNat,1)/\0<=aP d (r2.getD p ([],())).1):=by
     rintro⟨a,b,c⟩ ⟨g,h|h|⟨h,M,f,h6,t,h8⟩⟩
     .exact .inl ⟨g,.inl h⟩
     .exact .inl ⟨g,.inr (.inl h)⟩
     .by_cases hpp:f=p
      .subst hpp;have h:a=i:=h;have M:c=1:=M;have t:b=(aP d (r2.getD f ([],())).1).toNat:=t;exact .inr ⟨by rw[h,M,t],h8⟩
      .exact .inl ⟨g,.inr (.inr ⟨h,M,f,lu,t,h8⟩)⟩
    refine bT lu ⟨⟨lu,lu⟩,trivial,af (λh=>?_) λh=>⟨rfl,u _ (o.weaken lu λe g=>?_)⟩⟩
    .have h:0<=aP d (r2.getD p ([],())).1:=fG h;have F:=Qi h;have g:=aqt D l C h;have hg:=o.grow 1000000 hB (aP d (r2.getD p ([],())).1).toNat lu;have hu:=o.up (aP d (r2.getD p ([],())).1).toNat lu;have hz:=(S (aP d (r2.getD p ([],())).1).toNat lu).1;have hw:IntKind.i64.wrap (Sp.lv R (aP d (r2.getD p ([],())).1).toNat+1)=Sp.lv R (aP d (r2.getD p ([],())).1).toNat+1:=fU _ lu;have T:(R.getD (aP d (r2.getD p ([],())).1).toNat (0,())).1=Sp.lv R (aP d (r2.getD p ([],())).1).toNat:=rfl;rw[T,hw];refine⟨⟨h,lu⟩,lu,⟨lu,lu⟩,lu,af (λL=>⟨⟨h,lu⟩,lu,⟨lu,lu⟩,lu,rfl,u _ ?_⟩) λL=>⟨rfl,u _ ?_⟩⟩
     .have L:Sp.lv R i<Sp.lv R (aP d (r2.getD p ([],())).1).toNat+1:=fG L;have:=o.set g (by show _<_+((1:Nat):Int);omega);exact this.weaken (by show 1000*(i:Int)+p+((1:Nat):Int)<=_;omega) λe g=>(z e g).imp_right λh=>h.1
     .have L:¬Sp.lv R i<Sp.lv R (aP d (r2.getD p ([],())).1).toNat+1:=fK L;have:=o.still g (by show _+((1:Nat):Int)<=_;omega);exact this.weaken lu λe g=>(z e g).imp_right λh=>h.1
    .have h:¬0<=aP d (r2.getD p ([],())).1:=fK h;rcases z e g with m|m
     .exact m
     .exact(h m.2).elim
   .dsimp only;refine bP lu ⟨rfl,next _ (o.weaken lu λe g=>⟨g.1,?_⟩)⟩;obtain⟨a,b,c⟩:=e;obtain⟨g,h⟩:=g;have h:a<i+1:=h;rcases aHU a i with m|m
    .exact .inl m
    .have:a=i:=lu;subst this;obtain⟨_,_,L⟩:=mO d _ g;have L:c<=1:=L;rcases aIM c with A|A
     .exact .inr (.inl ⟨rfl,A⟩)
     .have hc1:c=1:=lu;subst hc1;obtain⟨p,H,J,K⟩:=V8 l g rfl;exact .inr (.inr ⟨rfl,rfl,p,H,K,J⟩)
 .dsimp only;refine bP lu ?_;exact o.raised lu (λe g=>⟨g,(mO d e g).1⟩) λi D=>(S i D).1
end Go.Proofs.Tryz
