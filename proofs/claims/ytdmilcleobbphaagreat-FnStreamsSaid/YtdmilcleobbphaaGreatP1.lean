import Derived.Test.YtdmilcleobbphaaGreatV1
import Derived.Test.YtdmilcleobbphaaGreatSp
import Derived.Test.YtdmilcleobbphaaGreatV2
import Derived.Test.YtdmilcleobbphaaGreatFwC
import Derived.Test.YtdmilcleobbphaaGreatL1
namespace Go.Proofs.Tryz
open Go Go.Fw Go.IntWalk Sp
theorem aFP(x y:Int)(m:Nat)(k:m<9223372036854775807)(F:(BitVec.ofInt 64 y).toNat=m):0<=bitsOf .and .i64 x y/\bitsOf .and .i64 x y<=m:=by
 have h:(BitVec.ofInt 64 x&&&BitVec.ofInt 64 y).toNat<=m:=by
  grind [Nat.and_le_right]
 show 0<=IntKind.i64.wrap ((BitVec.ofInt 64 x&&&BitVec.ofInt 64 y).toNat:Int)/\IntKind.i64.wrap ((BitVec.ofInt 64 x&&&BitVec.ofInt 64 y).toNat:Int)<=m
 grind [eH]
theorem aFQ(x:Int):0<=bitsOf .and .i64 x 255/\bitsOf .and .i64 x 255<=255:=aFP x 255 255 fC jI
theorem Hf:OK wZ.e:=by
 refine qok [] ⟨⟩ axS (λ⟨_,⟨⟩⟩ _=>⟨([],0,0,()),rfl⟩) λa=>show wZ.goal (auD a) (a,())fromλB J=>?_
 dsimp only[wZ]at J ⊢;refine⟨λy=>∃n:Nat,y.1.2.1=n/\n<=a.length,λy=>((a.length:Int)-y.1.2.1).toNat,⟨0,rfl,fC⟩,?_⟩;rintro⟨⟨h,_,⟨⟩⟩,⟨⟩⟩ ⟨n,rfl,hn⟩;dsimp only;refine af (λN=>?_) λN=>?_
 .simp only[aQF]at N;cases decide ((n:Int)<4000)with
  |false=>exact rfl
  |true=>
   have e:IntKind.i64.wrap ((n:Int)+1)=((n+1:Nat):Int):=eH _ fC;refine⟨?_,?_,?_,?_⟩
   .omega
   .exact rfl
   .exact⟨n+1,e,fC⟩
   omega
 .exact rfl
theorem aqP:OK MV.e:=by
 refine eP [] ⟨⟩ H0 (λ_ _=>⟨(((0:Int),()),(([],0,0,()),())),⟨jI,jI,jI⟩⟩) λb i h=>show MV.goal (aqQ b i h) ((b,i,h,()),())fromλB J=>?_
 dsimp only[MV]at J ⊢;refine⟨jI,jI,af (λN=>?_) λN=>?_⟩<;>simp only[aQF,aQP]at N
 .have hl:b.length<=maxLen:=B.1.1.1;rw[maxLen_eq]at hl;refine⟨⟨J,N⟩,?_,aFQ _⟩
  grind [eH]
 simp_all [aFQ]
theorem tmod_lt{a n:Int}(r:0<=a)(H:0<n):0<=a.tmod n/\a.tmod n<n:=⟨Int.tmod_nonneg n r,Int.tmod_lt_of_pos a H⟩
theorem dX:OK dO.e:=by
 refine eP [MV.e] ⟨aqP,⟨⟩⟩ H0 (λ⟨_,n,⟨⟩⟩ _=>⟨(((0:Int),()),(([],0,0,()),())),⟨aQN _,aQN _,λh=>h,λ_=>rfl⟩⟩) λb i h n=>show dO.goal (aop b i h n) ((b,i,h,()),n,())fromλB J=>?_
 dsimp only[dO]at J ⊢;refine af (λN=>?_) λN=>?_<;>simp only[aQF,aQP]at N
 · grind
 .refine af (λd=>?_) λd=>?_
  .refine⟨J,?_⟩;rintro⟨⟨x,⟨⟩⟩,⟨b',i',h',⟨⟩⟩,⟨⟩⟩ ⟨h1,h2,h3⟩;dsimp only at h1 h2 h3 ⊢;have:=tmod_lt h2 (show 0<n from fC);omega
  .refine⟨J,?_⟩;rintro⟨⟨x1,⟨⟩⟩,⟨b1,i1,g1,⟨⟩⟩,⟨⟩⟩ ⟨h1,h2,h3⟩;refine⟨h1,?_⟩;rintro⟨⟨x2,⟨⟩⟩,⟨b2,i2,g2,⟨⟩⟩,⟨⟩⟩ ⟨k1,k2,k3⟩;refine⟨k1,?_⟩;rintro⟨⟨x3,⟨⟩⟩,⟨b3,i3,g3,⟨⟩⟩,⟨⟩⟩ ⟨l1,l2,l3⟩;refine⟨l1,?_⟩;rintro⟨⟨x4,⟨⟩⟩,⟨b4,i4,g4,⟨⟩⟩,⟨⟩⟩ ⟨m1,m2,m3⟩;dsimp only at*;rw[eH (x1*16777216) fC,eH (x2*65536) fC,eH (x3*256) fC,eH (x1*16777216+x2*65536) fC,eH (x1*16777216+x2*65536+x3*256) fC,eH (x1*16777216+x2*65536+x3*256+x4) fC];have:=tmod_lt (a:=x1*16777216+x2*65536+x3*256+x4) (n:=n) fC fC;omega
theorem qm:OK lC.e:=by
 refine eP [dO.e] ⟨dX,⟨⟩⟩ H0 (λ_ _=>⟨((false,()),(([],0,0,()),())),aQN _⟩) λb i h n=>show lC.goal (aqR b i h n) ((b,i,h,()),n,())fromλB J=>?_
 dsimp only[lC]at J ⊢;refine⟨J,?_⟩
 grind
theorem jR:OK jo.e:=by
 refine eP [dO.e] ⟨dX,⟨⟩⟩ H0 (λ⟨_,l,⟨⟩⟩⟨_,W⟩=>(match l,W with|x::_,_=>⟨((x.1,()),(([],0,0,()),())),⟨aQN _,aQr⟩⟩)) λb i h l=>show jo.goal (aqS b i h l) ((b,i,h,()),l,())fromλB J=>?_
 dsimp only[jo]at J ⊢;obtain⟨J,W⟩:=J;have a:0<l.length:=aRL.2 W;refine⟨J,?_⟩
 grind
theorem kF:OK jl.e:=by
 refine eP [dO.e] ⟨dX,⟨⟩⟩ H0 (λ⟨_,l,⟨⟩⟩⟨_,W⟩=>(match l,W with|x::_,_=>⟨((x.1,()),(([],0,0,()),())),⟨aQN _,aQr⟩⟩)) λb i h l=>show jl.goal (aiC b i h l) ((b,i,h,()),l,())fromλB J=>?_
 dsimp only[jl]at J ⊢;obtain⟨J,W⟩:=J;have a:0<l.length:=aRL.2 W;refine⟨J,?_⟩
 grind
theorem I5:OK zF.e:=by
 refine eP [] ⟨⟩ aqT (λ_ _=>⟨((Sp.usual,()),()),rfl⟩)<|show zF.goal (aoq) (())fromλB J=>?_
 exact rfl
theorem aaF:OK MW.e:=by
 refine eP [jo.e] ⟨jR,⟨⟩⟩ H0 (λ_ _=>⟨(([],()),(([],0,0,()),())),⟨jI,jI⟩⟩) λb i h=>show MW.goal (aqU b i h) ((b,i,h,()),())fromλB J=>?_
 refine⟨⟨J,ni⟩,?_⟩;rintro⟨⟨x,⟨⟩⟩,⟨b',i',h',⟨⟩⟩,⟨⟩⟩ ⟨h1,h2⟩;refine⟨h1,?_⟩;exact(show∀y∈_,List.length y.1<=1 from jI) _ h2
theorem aFR:Sp.usual.length=4:=rfl
theorem auE:OK Po.e:=by
 refine eP [jo.e,MW.e,dO.e,zF.e] ⟨jR,aaF,dX,I5,⟨⟩⟩ axT (λ_ _=>⟨(([],()),(([],0,0,()),())),⟨jI,jI⟩⟩) λb i h=>show Po.goal (auF b i h) ((b,i,h,()),())fromλB J=>?_
 dsimp only[Po]at J ⊢;have J:0<=i:=J;refine⟨trivial,?_⟩
 grind [aFR,bV]
theorem I7:OK zG.e:=by
 refine dW [] ⟨⟩ H0 λn=>show zG.goal (aor n) (n,())fromλB J=>?_
 exact rfl
theorem xY:OK qE.e:=by
 refine dW [] ⟨⟩ H0 λn=>show qE.goal (agN n) (n,())fromλB J=>?_
 exact rfl
theorem aos:OK KG.e:=by
 refine eP [qE.e,jo.e,zG.e,dO.e] ⟨xY,jR,I7,dX,⟨⟩⟩ H0 (λ_ _=>⟨((((0:Int),(0:Int),([]:List UInt8),()),()),(([],0,0,()),())),⟨jI,jI⟩⟩) λb i h=>show KG.goal (aot b i h) ((b,i,h,()),())fromλB J=>?_
 dsimp only[KG]at J ⊢;exact IZ
theorem acM:OK Jl.e:=by
 refine eP [jo.e,jl.e,dO.e,KG.e] ⟨jR,kF,dX,aos,⟨⟩⟩ H0 (λ_ _=>⟨((((0:Int),(0:Int),([]:List UInt8),()),()),(([],0,0,()),())),⟨jI,jI⟩⟩) λb i h=>show Jl.goal (auG b i h) ((b,i,h,()),())fromλB J=>?_
 dsimp only[Jl]at J ⊢;exact IZ
theorem gW:OK gI.e:=by
 refine dW [] ⟨⟩ H0 λx a b=>show gI.goal (axU x a b) (x,a,b,())fromλB J=>?_
 dsimp only[gI]at J ⊢;refine af (λh=>?_) λh=>?_
 · grind
 grind
theorem vG:OK oV.e:=by
 refine dW [] ⟨⟩ H0 λx a b=>show oV.goal (auH x a b) (x,a,b,())fromλB J=>?_
 dsimp only[oV]at J ⊢;refine af (λh=>?_) λh=>?_
 · grind
 grind
variable {n:Nat}
theorem XU{s:List UInt8}(a:n<s.length)(W:Sp.lower s=true):97<=(s.getD n 0).toNat/\(s.getD n 0).toNat<=122:=by
 have:=aQA.1 W _ (getD_mem (d:=0) a)
 grind
theorem aaG:OK Gl.e:=by
 refine dW [gI.e] ⟨gW,⟨⟩⟩ auI λs a=>show Gl.goal (aqV s a) (s,a,())fromλB J=>?_
 dsimp only[Gl]at J ⊢;have L:s.length<=maxLen:=B.1;rw[maxLen_eq]at L;refine⟨λy=>∃n:Nat,y.1.1=n/\n<=s.length/\Sp.lower (s.take n)=true,λy=>((s.length:Int)-y.1.1).toNat,⟨0,rfl,fC,rfl⟩,?_⟩;rintro⟨⟨_,⟨⟩⟩,⟨⟩⟩ ⟨n,rfl,hn,hJ⟩;dsimp only;refine af (λh=>?_) λh=>?_<;>simp only[aQF,aQP]at h
 .rw[eH _ fC,aQs];refine⟨⟨fC,fC⟩,af (λO=>?_) λO=>⟨⟨fC,fC⟩,af (λK=>?_) λK=>?_⟩⟩<;>simp only[aQF,aQP]at*
  · grind [XU]
  · grind [XU]
  .refine⟨rfl,⟨n+1,ni,fC,?_⟩,jv⟩
   grind [Sp.take_succ',Sp.lower]
 grind
theorem Hg:OK vU.e:=by
 refine dW [Gl.e] ⟨aaG,⟨⟩⟩ H0 λs=>show vU.goal (acN s) (s,())fromλB J=>?_
 exact⟨trivial,rfl⟩
theorem BA:OK pV.e:=by
 refine dW [vU.e,gI.e] ⟨Hg,gW,⟨⟩⟩ H0 λk n s=>show pV.goal (aeC k n s) ((k,n,s,()),())fromλB J=>?_
 dsimp only[pV]at J ⊢;refine af (λh=>?_) λh=>af (λO=>⟨trivial,af (λK=>?_) λK=>?_⟩) λO=>af (λK=>⟨trivial,af (λx=>?_) λx=>?_⟩) λK=>?_
 · grind [gy]
 · grind [gy]
 · grind [gy]
 · grind [gy]
 · grind [gy]
 grind [gy]
theorem D7:OK sU.e:=by
 refine dW [Gl.e] ⟨aaG,⟨⟩⟩ H0 λs=>show sU.goal (ZU s) (s,())fromλB J=>?_
 exact⟨trivial,rfl⟩
theorem alv:OK Ic.e:=by
 refine dW [] ⟨⟩ aou λs t=>show Ic.goal (alx s t) (s,t,())fromλB J=>?_
 dsimp only[Ic]at J ⊢;have L:s.length<=maxLen:=B.1.1;refine iW s.length L (λn=>∀i,i<n->(s.getD i ([],0,())).1≠t) (λi D=>fC) (λI P n H E next=>?_) λI P E=>?_
 · grind [aaH]
 grind [abA]
theorem QW:OK vV.e:=by
 refine dW [gI.e,sU.e] ⟨gW,D7,⟨⟩⟩ aeD λs=>show vV.goal (acO s) (s,())fromλB J=>?_
 dsimp only[vV]at J ⊢;have L:s.length<=maxLen:=B.1.1;rw[maxLen_eq]at L;refine iW s.length L (λn=>∀i,i<n->nK s i=true) (λi D=>fC) (λI P n H E next=>?_) λI P E=>?_
 .dsimp only;have a:nK s n=false->(false,())=(fJ s,()):=λh=>by rw[am5 H h]
  refine dH fC ⟨⟨fC,fC⟩,trivial,af (λO=>a ?_) λO=>⟨⟨fC,fC⟩,trivial,af (λK=>a ?_) λK=>af (λx=>?_) λx=>⟨rfl,next (fH E ?_)⟩⟩⟩
  · grind [Sp.fieldAt,nK]
  .have O:iw (Sp.fieldAt s n).1=true:=dN O;have K:(decide (1<=(Sp.fieldAt s n).2.1)&&decide ((Sp.fieldAt s n).2.1<=2))=false:=kJ K
   grind [nK]
  .have O:iw (Sp.fieldAt s n).1=true:=dN O;have K:(decide (1<=(Sp.fieldAt s n).2.1)&&decide ((Sp.fieldAt s n).2.1<=2))=true:=dN K;have x:0<n:=jv;rw[rE x fC]
   grind [Sp.fieldAt,nK]
  .have O:iw (Sp.fieldAt s n).1=true:=dN O
   grind [Sp.fieldAt,nK]
 grind [fJ,kV]
theorem acP:OK Bc.e:=by
 refine dW [Ic.e,pV.e] ⟨alv,BA,⟨⟩⟩ H0 λa s k n w=>show Bc.goal (acQ a s k n w) (a,s,(k,n,w,()),())fromλB J=>?_
 dsimp only[Bc]at J ⊢;refine⟨trivial,af (λh=>af (λO=>⟨trivial,?_⟩) λO=>?_) λh=>?_⟩
 · grind [mO]
 · grind [mO]
 grind [mO]
theorem Ky:OK uM.e:=by
 refine dW [gI.e,vV.e,Bc.e] ⟨gW,QW,acP,⟨⟩⟩ aiD λb d e g j a=>show uM.goal (agO b d e g j a) (b,(d,e,g,j,a,()),())fromλB J=>?_
 dsimp only[uM]at J ⊢;have L:a.length<=maxLen:=B.2.1.2.2.2.2.1.1;rw[maxLen_eq]at L;refine iW a.length L (λn=>∀i,i<n->oJ b a i=true) (λi D=>fC) (λI P n H E next=>?_) λI P E=>?_
 .dsimp only;have k:oJ b a n=false->(false,())=(fD b (d,e,g,j,a,()),()):=λh=>by rw[awR (f:=(d,e,g,j,a,())) H h]
  refine dH fC ⟨⟨fC,fC⟩,⟨fC,fC⟩,trivial,af (λO=>k ?_) λO=>af (λx=>?_) λx=>⟨rfl,next (fH E ?_)⟩⟩
  · grind [iJ,oJ]
  .have O:mO b (iJ a n).1 (iJ a n).2.1 (iJ a n).2.2.1 (iJ a n).2.2.2.1=true:=dN O;have x:0<n:=jv;rw[rE x fC]
   grind [iJ,oJ]
  grind [iJ,oJ]
 grind [jh,kV,fD]
theorem oK:OK kQ.e:=by
 refine dW [gI.e,vV.e,uM.e] ⟨gW,QW,Ky,⟨⟩⟩ agP λd a b=>show kQ.goal (aeE d a b) ((d,a,b,()),())fromλB J=>?_
 dsimp only[kQ]at J ⊢;have L:a.length<=maxLen:=B.1.2.1.1;rw[maxLen_eq]at L;refine iW a.length L (λn=>∀i,i<n->oL (d,a,b,()) i=true) (λi D=>fC) (λI P n H E next=>?_) λI P E=>?_
 .dsimp only;have f:oL (d,a,b,()) n=false->(false,())=(aJ (d,a,b,()),()):=λh=>by rw[aqW (s:=(d,a,b,())) H h]
  refine dH fC ⟨⟨fC,fC⟩,trivial,af (λO=>f ?_) λO=>⟨⟨fC,fC⟩,af (λK=>f ?_) λK=>af (λx=>?_) λx=>⟨rfl,next (fH E ?_)⟩⟩⟩
  .have O:fD d (Sp.fileAt a n)=false:=kJ O;show(fD d (Sp.fileAt a n)&&_&&_)=false;rw[O];rfl
  .have O:fD d (Sp.fileAt a n)=true:=dN O;have K:¬(Sp.fileAt a n).1<b:=y8;show(fD d (Sp.fileAt a n)&&decide ((Sp.fileAt a n).1<b)&&_)=false
   grind
  .have O:fD d (Sp.fileAt a n)=true:=dN O;have K:(Sp.fileAt a n).1<b:=y8;have x:0<n:=jv;rw[rE x fC];refine⟨⟨fC,fC⟩,⟨fC,fC⟩,af (λe=>f ?_) λe=>⟨rfl,next (fH E ?_)⟩⟩
   .have e:¬(Sp.fileAt a (n-1)).1<(Sp.fileAt a n).1:=y8;show(fD d (Sp.fileAt a n)&&decide ((Sp.fileAt a n).1<b)&&!(decide (0<n)&&!decide ((Sp.fileAt a (n-1)).1<(Sp.fileAt a n).1)))=false
    grind
   .have e:(Sp.fileAt a (n-1)).1<(Sp.fileAt a n).1:=y8;show(fD d (Sp.fileAt a n)&&decide ((Sp.fileAt a n).1<b)&&!(decide (0<n)&&!decide ((Sp.fileAt a (n-1)).1<(Sp.fileAt a n).1)))=true
    grind
  .have O:fD d (Sp.fileAt a n)=true:=dN O;have K:(Sp.fileAt a n).1<b:=y8;have x:¬0<n:=jv;show(fD d (Sp.fileAt a n)&&decide ((Sp.fileAt a n).1<b)&&!(decide (0<n)&&!decide ((Sp.fileAt a (n-1)).1<(Sp.fileAt a n).1)))=true
   grind
 .dsimp only;have r:jG a.length (oL (d,a,b,()))=true:=kV E;refine gU fC ⟨trivial,af (λC=>af (λO=>⟨trivial,?_⟩) λO=>?_) λC=>?_⟩
  .refine congrArg (·,()) ?_;show _=(jG a.length (oL (d,a,b,()))&&fJ d&&decide ((a.length:Int)<=12)&&(decide (1<=b)&&decide (b<=61)))
   grind
  .refine congrArg (·,()) ?_;show _=(jG a.length (oL (d,a,b,()))&&fJ d&&decide ((a.length:Int)<=12)&&(decide (1<=b)&&decide (b<=61)))
   grind
  .refine congrArg (·,()) ?_;show _=(jG a.length (oL (d,a,b,()))&&fJ d&&decide ((a.length:Int)<=12)&&(decide (1<=b)&&decide (b<=61)))
   grind
theorem Af:OK uN.e:=by
 refine dW [] ⟨⟩ auJ λb d e f a=>show uN.goal (aqX b d e f a) ((b,d,e,f,a,()),())fromλB J=>?_
 have J:a.length<=1000:=J;exact⟨o6,rfl⟩
theorem JB:OK qf.e:=by
 refine dW [] ⟨⟩ XV λl=>show qf.goal (Xc l) (l,())fromλB J=>?_
 dsimp only[qf]at J ⊢;intro g a
 grind [bV]
theorem XW:OK vY.e:=by
 refine dW [] ⟨⟩ Y4 λl=>show vY.goal (XY l) (l,())fromλB J=>?_
 dsimp only[vY]at J ⊢;intro g a
 grind [bV]
theorem Y5:OK KH.e:=by
 refine dW [vY.e] ⟨XW,⟨⟩⟩ aqY λa b d e f=>show KH.goal (aov a b d e f) ((a,b,d,e,f,()),())fromλB J=>?_
 exact⟨J,rfl⟩
theorem UW:OK Jm.e:=by
 refine dW [oV.e] ⟨vG,⟨⟩⟩ H0 λn=>show Jm.goal (auK n) (n,())fromλB J=>?_
 exact⟨trivial,rfl⟩
theorem I8:OK vX.e:=by
 refine dW [] ⟨⟩ aqZ λa h b id=>show vX.goal (aow a h b id) ((a,h,b,()),id,())fromλB J=>?_
 dsimp only[vX]at J ⊢;have L:h.length<=maxLen:=B.1.2.1.1;refine iW h.length L (λn=>∀i,i<n->(Sp.fileAt h i).1≠id) (λi D=>fC) (λI P n H E next=>?_) λI P E=>?_
 · grind [Sp.fileAt,Sp.UX,Nat.lt_or_ge]
 grind [aeF]
theorem aMV{s:List aG}{u:Int}(H:n<s.length):auL (s.take (n+1)) u=auL (s.take n) u++(if(Sp.fileAt s n).2.1=u then[((Sp.fileAt s n).1,())]else[]):=by
 grind [auL,Sp.take_succ',Sp.fileAt]
theorem Vw{s:List aG}(p:aG->Bool)(H:n<s.length):(s.take (n+1)).filter p=(s.take n).filter p++(if p (Sp.fileAt s n)=true then[Sp.fileAt s n]else[]):=by
 grind [Sp.take_succ',Sp.fileAt]
theorem aq0(s:List aG)(p:aG->Bool)(n:Nat):((s.take n).filter p).length<=n:=by
 grind
def ny(fs:List aG)(n:Nat):List aG:=(fs.take n).map (Sp.unlink fs)++fs.drop n
theorem Y6(fs:List aG)(H:n<=fs.length):(ny fs n).length=fs.length:=by
 grind [ny]
theorem azO(fs:List aG)(n:Nat):(ny fs n).map (·.1)=fs.map (·.1):=by
 unfold ny;have:((·.1) ∘ Sp.unlink fs:aG->Int)=(·.1):=rfl
 simp_all
theorem abB(fs:List aG)(H:n<fs.length):(ny fs n).getD n (0,0,false,0,[],())=Sp.fileAt fs n:=by
 grind [ny,Sp.fileAt]
theorem axV(fs:List aG)(H:n<fs.length):ny fs (n+1)=(ny fs n).set n (Sp.unlink fs (Sp.fileAt fs n)):=by unfold ny;rw[drop_cons fs n (0,0,false,0,[],()) H,Sp.take_succ' fs n (0,0,false,0,[],()) H,aRq,List.set_append_right _ _ ql,aQG,aRe,Nat.min_eq_left fC,Nat.sub_self,List.set_cons_zero,aQL];rfl
theorem set_self{fs:List aG}(H:n<fs.length):fs.set n (fs.getD n (0,0,false,0,[],()))=fs:=by
 simp_all
theorem agw(fs:List aG)(H:n<fs.length):
 (Sp.place (ny fs n) (Sp.fileAt fs n).2.2.2.1<0->ny fs (n+1)=(ny fs n).set n ((Sp.fileAt fs n).1,(Sp.fileAt fs n).2.1,(Sp.fileAt fs n).2.2.1,0,(Sp.fileAt fs n).2.2.2.2.1,()))/\
 (¬Sp.place (ny fs n) (Sp.fileAt fs n).2.2.2.1<0->ny fs (n+1)=ny fs n):=by
 grind [aFS,azO,axV,Sp.unlink,abB,set_self,Y6]
theorem aiE(fs:List aG):ny fs fs.length=fs.map (Sp.unlink fs):=by
 grind [ny]
theorem I9{s:List aW}(p:aW->Bool)(H:n<s.length):(s.take (n+1)).filter p=(s.take n).filter p++(if p (iJ s n)=true then[iJ s n]else[]):=by
 grind [Sp.take_succ',iJ]
theorem aaI(s:List aW)(p:aW->Bool)(n:Nat):((s.take n).filter p).length<=n:=by
 grind
theorem aiF(a:List aW)(name:Sp.Bytes)(n:Int)(s:Sp.Bytes):ku a name 0 n s=a.filter (nC name):=rfl
variable {name s:Sp.Bytes}{k:Int}
theorem aq1{a:List aW}{n:Int}(j:k≠0){l:List aW}(W:l=a.filter (nC name)){m:Nat}(b:m<=l.length)
 (C:∀i,i<m->lT name (iJ l i)=true) (O:m<l.length->lT name (iJ l m)=false):
 List.drop 0 (List.take m l)++[(name,k,n,s,())]++List.drop m (List.take l.length l)=ku a name k n s:=by
 obtain⟨w,e⟩:=L8 (d:=(([]:List UInt8),(0:Int),(0:Int),([]:List UInt8),())) l m b C O
 grind [ku,Yq]
theorem aaJ:OK Gm.e:=by
 refine eP [] ⟨⟩ auM (λ⟨(i,o,s,l,a,_),name,(k,n,w,_),_⟩ _=>⟨(((i,o,s,l,ku a name k n w,()),()),()),⟨rfl,rfl,rfl,rfl,rfl⟩⟩) λe g j q d name k n s=>show Gm.goal (aq2 e g j q d name k n s) ((e,g,j,q,d,()),name,(k,n,s,()),())fromλB J=>?_
 dsimp only[Gm]at J ⊢;have J:d.length<=1000:=J;refine bQ (λi(x:List aW)=>(((),i,()),x,())) (λy=>y.1.2.1) (λ_ _=>rfl) d.length fC (λm l=>l=(d.take m).filter (nC name)) ni (λI P m l r E next=>?_) λI P l E=>?_
 .subst E;have W:=aaI d (nC name) m;dsimp only;refine dH fC ⟨⟨fC,fC⟩,af (λh=>⟨⟨fC,fC⟩,yJ,rfl,next _ ?_⟩) λh=>⟨rfl,next _ ?_⟩⟩
  .rw[I9 _ r,if_pos (show nC name (iJ d m)=true from h)];rfl
  grind [I9,nC,iJ]
 .rw[aQK]at E;have W:l.length<=1000:=jv;dsimp only;refine gU fC (af (λh=>?_) λh=>?_)
  .have hk:k≠0:=oQ;have fin:∀m:Nat,m<=l.length->(∀i,i<m->lT name (iJ l i)=true)->(m<l.length->lT name (iJ l m)=false)->
    ((0:Int)<=m/\(m:Int)<=l.length)/\0+(List.drop 0 (List.take m l)).length<=big/\(List.drop 0 (List.take m l)).length+[(name,k,n,s,())].length<=big/\((0:Int)<=m/\(m:Int)<=l.length)/\
    (List.drop 0 (List.take m l)++[(name,k,n,s,())]).length+(List.drop m (List.take l.length l)).length<=big/\
    (e=e/\g=g/\j=j/\q=q/\List.drop 0 (List.take m l)++[(name,k,n,s,())]++List.drop m (List.take l.length l)=ku d name k n s):=by
    grind [aq1,bV]
   refine iW l.length fC (λm=>∀i,i<m->lT name (iJ l i)=true) (λi D=>fC) (λI P m r b next=>?_) λI P b=>?_
   .dsimp only;refine dH fC ⟨⟨fC,fC⟩,r,af (λO=>⟨rfl,next (fH (f:=λi=>lT name (iJ l i)) b O)⟩) λO=>?_⟩;exact fin m fC b λ_=>O
   .dsimp only;exact gU fC (fin l.length (aQp _) b λt=>fC)
  grind [aiF]
theorem Qk:OK zH.e:=by
 refine eP [] ⟨⟩ aq3 (λ⟨s,_⟩ _=>⟨(((s,[],1,()),()),()),⟨rfl,rfl,rfl⟩⟩) λs=>show zH.goal (aox s) (s,())fromλB J=>?_
 dsimp only[zH]at J ⊢;exact⟨o6,rfl,rfl,rfl⟩
theorem Ag:OK qW.e:=by
 refine eP [uN.e] ⟨Af,⟨⟩⟩ auN (λ⟨(a,l,g,_),_⟩ _=>⟨(((a,l,g,()),()),()),rfl⟩) λb h e=>show qW.goal (aq4 b h e) ((b,h,e,()),())fromλB J=>?_
 dsimp only[qW]at J ⊢;obtain⟨j,C,O⟩:b.length<=1000/\h.length<=1000/\∀f∈h,fZ f:=J;refine⟨o6,?_⟩;refine bQ (λi(x:List aG)=>((i,()),((),(),e,()),x,())) (λy=>y.1.1) (λ_ _=>rfl) h.length fC (λn l=>l=h.take n) ni (λI P n l H E next=>?_) λI P l E=>?_
 .subst E;dsimp only;refine dH fC ⟨⟨fC,fC⟩,O _ (getD_mem (d:=((0:Int),(0:Int),false,(0:Int),[],())) H),yJ,rfl,next _ ?_⟩;exact(Sp.take_succ' h n (0,0,false,0,[],()) H).symm
 grind
theorem EM:OK rO.e:=by
 refine eP [uM.e,kQ.e,uN.e,qW.e] ⟨Ky,oK,Af,Ag,⟨⟩⟩ aly (λ⟨s,f,_⟩ _=>⟨((((bH s f).1.1,(bH s f).1.2.1,(bH s f).1.2.2.1,()),(bH s f).2.1,(bH s f).2.2,()),()),⟨rfl,rfl,rfl,rfl,rfl⟩⟩) λm o q j b d g i=>show rO.goal (aiG m o q j b d g i) ((m,o,q,()),(j,b,d,g,i,()),())fromλB J=>?_
 dsimp only[rO]at J ⊢;refine⟨J.1,?_⟩;rintro⟨⟨⟨a,l,nx,⟨⟩⟩,⟨⟩⟩,⟨⟩⟩ e;have r:¬(aJ (a,l,nx,())=true/\l.length<12/\fD a (nx,b,d,g,i,())=true)->bH (a,l,nx,()) (j,b,d,g,i,())=((a,l,nx,()),0,false):=λh=>by
  grind [uI]
 refine⟨J.2,trivial,af (λC=>?_) λC=>af (λO=>?_) λO=>⟨trivial,af (λK=>?_) λK=>?_⟩⟩
 · grind
 · grind
 · grind
 grind [uI,nV,eH,bV]
theorem L9:OK wS.e:=by
 refine eP [kQ.e,vX.e,qW.e] ⟨oK,I8,Ag,⟨⟩⟩ alz (λ⟨s,id,_⟩ _=>⟨((((dM s id).1.1,(dM s id).1.2.1,(dM s id).1.2.2.1,()),(dM s id).2,()),()),⟨rfl,rfl,rfl,rfl⟩⟩) λb d f id=>show wS.goal (aiH b d f id) ((b,d,f,()),id,())fromλB J=>?_
 dsimp only[wS]at J ⊢;refine⟨J,?_⟩;rintro⟨⟨⟨a,l,nx,⟨⟩⟩,⟨⟩⟩,⟨⟩⟩ e;obtain⟨rfl,rfl,rfl⟩:a=b/\l=d/\nx=f:=WR;have Y:l.length<=1000:=J.2.1;have g:¬(aJ (a,l,nx,())=true/\0<=Sp.place l id)->dM (a,l,nx,()) id=((a,l,nx,()),false):=λh=>by
  grind [Df]
 refine⟨trivial,trivial,af (λC=>?_) λC=>af (λO=>?_) λO=>?_⟩
 · grind
 · grind
 grind [Df,eH,bV]
def ak0(L:List (List aW))(name:Sp.Bytes)(b:List (Int×Int×Sp.Bytes)):List (List aW):=L++L.flatMap λa=>b.map λv=>ku a name v.1 v.2.1 v.2.2
variable {a:List aW}
theorem BN{L:List (List aW)}{b:List (Int×Int×Sp.Bytes)}(h:a∈L):a∈ak0 L name b:=aQ0 _ h
theorem aaK{L:List (List aW)}{b:List (Int×Int×Sp.Bytes)}(h:a∈L){n:Int}(R:(k,n,s)∈b):ku a name k n s∈ak0 L name b:=
 aRm _ (aSH.2 ⟨a,h,aQW.2 ⟨(k,n,s),R,rfl⟩⟩)
def ints:List (Int×Int×Sp.Bytes):=[(1,0,[]),(1,1,[]),(1,2,[]),(1,3,[])]
def names:List (Int×Int×Sp.Bytes):=[(2,0,[105,110,107]),(2,0,[115,101,97])]
def tags:List (Int×Int×Sp.Bytes):=[(2,0,[114,101,100]),(2,0,[98,108,117,101])]
def aq5:List (List aW):=ak0 [[]] [97] ints
def aq6:List (List aW):=ak0 aq5 [98] ints
def aq7:List (List aW):=ak0 aq6 [110] names
def aq8:List (List aW):=ak0 aq7 [116] tags
theorem aHM:(aq8.all λa=>jh Sp.usual a&&decide (a.length<=4))=true:=lu
theorem aaL(h:a∈aq8):jh Sp.usual a=true/\a.length<=4:=by
 grind [aHM]
theorem aKf(h:a∈aq5):a.length<=4:=(aaL (BN (BN (BN h)))).2
theorem aKg(h:a∈aq6):a.length<=4:=(aaL (BN (BN h))).2
theorem aKh(h:a∈aq7):a.length<=4:=(aaL (BN h)).2
theorem azP{x:Int}(l:0<=x)(C:x<4):((1:Int),x,([]:Sp.Bytes))∈ints:=by rcases(show x=0\/x=1\/x=2\/x=3 from fC)with h|h|h|h<;>subst h<;>simp[ints]
theorem aFT{w:Sp.Bytes}(h:(w,())∈[(([105,110,107]:Sp.Bytes),()),([115,101,97],())]):((2:Int),(0:Int),w)∈names:=by
 grind [names]
theorem aHN{w:Sp.Bytes}(h:(w,())∈[(([114,101,100]:Sp.Bytes),()),([98,108,117,101],())]):((2:Int),(0:Int),w)∈tags:=by
 grind [tags]
def Head(id:Int)(f:Int×Int×Bool×Int×Unit×Unit):Prop:=f.1=id/\0<=f.2.1/\f.2.1<=2/\0<=f.2.2.2.1/\f.2.2.2.1<=6
theorem Ah:OK qV.e:=by
 refine eP [qE.e,jo.e,Gm.e,zG.e,lC.e,dO.e] ⟨xY,jR,aaJ,I7,qm,dX,⟨⟩⟩ auO (λ⟨_,id,_⟩ _=>⟨(((id,0,false,0,[],()),()),(([],0,0,()),())),⟨jv,rfl,jv,jv,jv,jv,rfl,jv⟩⟩) λb i h id=>show qV.goal (aq9 b i h id) ((b,i,h,()),id,())fromλB J=>?_
 dsimp only[qV]at J ⊢;have J:0<=i:=J;refine⟨J,?_⟩;rintro⟨⟨x0,⟨⟩⟩,⟨b0,i0,g0,⟨⟩⟩,⟨⟩⟩ ⟨p0,d,f,_⟩;refine⟨p0,?_⟩;rintro⟨⟨x1,⟨⟩⟩,⟨b1,i1,g1,⟨⟩⟩,⟨⟩⟩ p1;have f:x0<3:=f jI;have d:0<=x0:=d;refine⟨λy=>0<=y.2.1.2.1/\Head id y.2.2.1,⟨p1,?_⟩,?_⟩
 .rintro⟨⟨x3,⟨⟩⟩,⟨b3,i3,g3,⟨⟩⟩,⟨⟩⟩ p3;refine af (λ_=>⟨p3,?_⟩) λ_=>⟨rfl,p3,rfl,d,(show x0<=2 from fC),aQN _,(show(0:Int)<=6 from jI)⟩;rintro⟨⟨x4,⟨⟩⟩,⟨b4,i4,g4,⟨⟩⟩,⟨⟩⟩ ⟨p4,q4,g,_⟩;have g:x4<7:=g jI;exact⟨rfl,p4,rfl,d,(show x0<=2 from fC),q4,(show x4<=6 from fC)⟩
 rintro⟨⟨⟩,⟨b5,i5,g5,⟨⟩⟩,f5,⟨⟩⟩ ⟨p5,H5⟩;refine⟨λy=>0<=y.2.1.2.1/\Head id y.2.2.1/\y.2.2.2.1∈aq5,⟨p5,?_⟩,?_⟩
 .rintro⟨⟨x7,⟨⟩⟩,⟨b7,i7,g7,⟨⟩⟩,⟨⟩⟩ p7;refine af (λ_=>⟨p7,?_⟩) λ_=>⟨rfl,p7,H5,BN aQr⟩
  grind [aq5,aaK,azP]
 rintro⟨⟨⟩,⟨b11,i11,g11,⟨⟩⟩,f11,a11,⟨⟩⟩ ⟨p11,H11,m11⟩;refine⟨λy=>0<=y.2.1.2.1/\Head id y.2.2.1/\y.2.2.2.1∈aq6,⟨p11,?_⟩,?_⟩
 .rintro⟨⟨x7,⟨⟩⟩,⟨b7,i7,g7,⟨⟩⟩,⟨⟩⟩ p7;refine af (λ_=>⟨p7,?_⟩) λ_=>⟨rfl,p7,H11,BN m11⟩
  grind [aKf,aq6,aaK,azP]
 rintro⟨⟨⟩,⟨b17,i17,g17,⟨⟩⟩,f17,a17,⟨⟩⟩ ⟨p17,H17,m17⟩;refine⟨λy=>0<=y.2.1.2.1/\Head id y.2.2.1/\y.2.2.2.1∈aq7,⟨p17,?_⟩,?_⟩
 .rintro⟨⟨x7,⟨⟩⟩,⟨b7,i7,g7,⟨⟩⟩,⟨⟩⟩ p7;refine af (λ_=>⟨⟨p7,ni⟩,?_⟩) λ_=>⟨rfl,p7,H17,BN m17⟩
  grind [aKg,aq7,aaK,aFT]
 rintro⟨⟨⟩,⟨b23,i23,g23,⟨⟩⟩,f23,a23,⟨⟩⟩ ⟨p23,H23,m23⟩;refine⟨λy=>0<=y.2.1.2.1/\Head id y.2.2.1/\y.2.2.2.1∈aq8,⟨p23,?_⟩,?_⟩
 .rintro⟨⟨x7,⟨⟩⟩,⟨b7,i7,g7,⟨⟩⟩,⟨⟩⟩ p7;refine af (λ_=>⟨⟨p7,ni⟩,?_⟩) λ_=>⟨rfl,p7,H23,BN m23⟩
  grind [aKh,aq8,aaK,aHN]
 rintro⟨⟨⟩,⟨b29,i29,g29,⟨⟩⟩,f29,a29,⟨⟩⟩ ⟨p29,H29,m29⟩;have e:=aaL m29;exact⟨p29,H29.1,H29.2.1,H29.2.2.1,H29.2.2.2.1,H29.2.2.2.2,e.1,e.2⟩
theorem am6(b:List aW)(name:Sp.Bytes)(k n:Int)(s:Sp.Bytes):(ku b name k n s).length<=b.length+1:=by
 grind [ku,Yq,List.takeWhile_append_dropWhile,List.length_append]
theorem auP:OK Pq.e:=by
 refine eP [Gm.e,qE.e,Jl.e,MW.e,jl.e,qV.e,dO.e] ⟨aaJ,xY,acM,aaF,kF,Ah,dX,⟨⟩⟩ axW (λ_ _=>⟨(((0,0,false,0,[],()),()),(([],0,0,()),())),⟨jI,jI⟩⟩) λb i h=>show Pq.goal (auQ b i h) ((b,i,h,()),())fromλB J=>?_
 dsimp only[Pq]at J ⊢;have J:0<=i:=J;refine⟨J,?_⟩;rintro⟨⟨x0,⟨⟩⟩,⟨b0,i0,g0,⟨⟩⟩,⟨⟩⟩ ⟨p0,_⟩;refine⟨p0,?_⟩;rintro⟨⟨⟨d,o,s,l,a,⟨⟩⟩,⟨⟩⟩,⟨b1,i1,g1,⟨⟩⟩,⟨⟩⟩ ⟨p1,_,_,_,_,_,_,r⟩;have r:a.length<=4:=r;refine⟨p1,?_⟩;rintro⟨⟨x2,⟨⟩⟩,⟨b2,i2,g2,⟨⟩⟩,⟨⟩⟩ ⟨p2,_⟩;refine af (λ_=>⟨⟨p2,ni⟩,?_⟩) λ_=>af (λ_=>⟨⟨p2,ni⟩,?_⟩) λ_=>af (λ_=>⟨⟨p2,ni⟩,?_⟩) λ_=>af (λ_=>⟨p2,?_⟩) λ_=>af (λ_=>⟨trivial,(show a.length<=1000 from fC),?_⟩) λ_=>⟨p2,(show a.length<=10 from fC)⟩
 · grind
 · grind
 · grind
 · grind [bV]
 grind [am6]
theorem aHO:fJ Sp.usual=true:=lu
theorem azQ:aJ (Sp.usual,[],1,())=true:=lu
theorem am7:aV (Sp.usual,[],1,()):=⟨jI,jI,λf X=>ahT⟩
theorem Mc{a:List dm}{l:List aG}{nx:Int}{X:bT}(C:a=X.1)(O:l=X.2.1)(K:nx=X.2.2.1):((a,l,nx,()):bT)=X:=jv
theorem azR(s:bT)(f:aG):(bH s f).1.1=s.1/\((bH s f).1.2.1.length:Int)-(bH s f).1.2.2.1=s.2.1.length-s.2.2.1:=by
 grind [uI]
theorem azS(s:bT)(id:Int):(dM s id).1.1=s.1/\(dM s id).1.2.2.1=s.2.2.1/\s.2.1.length<=(dM s id).1.2.1.length+1:=by
 grind [Df]
structure tZ(k:Int)(s:bT):Prop where
 sch:s.1=Sp.usual
 ok:aJ s=true
 nx:s.2.2.1<=s.2.1.length+k
 small:aV s
theorem tZ.create{s:bT}(h:tZ k s){f:aG}(X:fZ f):tZ k (bH s f).1:=by obtain⟨C,O⟩:=azR s f;exact⟨C.trans h.sch,NC f h.ok,by have:=h.nx;omega,agx h.small X⟩
theorem tZ.delete{s:bT}(h:tZ k s)(id:Int):tZ (k+1) (dM s id).1:=by obtain⟨C,O,K⟩:=azS s id;exact⟨C.trans h.sch,ND id h.ok,by have:=h.nx;omega,agy id h.small⟩
theorem tZ.more{b:Int}{s:bT}(h:tZ k s)(j:k<=b):tZ b s:=⟨h.sch,h.ok,by have:=h.nx;omega,h.small⟩
theorem tZ.grows{s:bT}(h:tZ 2 s)(W:s.2.1.length<12){f:aG}(z:0<=f.2.1/\f.2.1<=2)(j:0<=f.2.2.2.1/\f.2.2.2.1<=6)(r:jh Sp.usual f.2.2.2.2.1=true):(bH s f).1.2.1.length=s.2.1.length+1:=by
 have b:=(nV.1 h.ok).2.2.2;have O:=h.nx;have X:fD s.1 (s.2.2.1,f.2)=true:=by
  rw[h.sch];show(jh Sp.usual f.2.2.2.2.1&&fJ Sp.usual&&(decide (1<=s.2.2.1)&&decide (s.2.2.1<=60))&&(decide (0<=f.2.1)&&decide (f.2.1<=2))&&(decide (0<=f.2.2.2.1)&&decide (f.2.2.2.1<=60)))=true
  grind [aHO]
 rcases uI s f with⟨_,e⟩|⟨_,_,_,e⟩
 .exact(e ⟨h.ok,W,X⟩).elim
 grind
theorem Ql:aJ (Sp.usual,[(1,0,false,0,[],())],2,())=true/\aV (Sp.usual,[(1,0,false,0,[],())],2,()):=⟨lu,jI,jI,λf X=>by rw[aQR.1 X];exact aQx _⟩
theorem tZ.one{s:bT}(h:tZ 1 s){f:aG}(z:0<=f.2.1/\f.2.1<=2)(j:0<=f.2.2.2.1/\f.2.2.2.1<=6)(r:jh Sp.usual f.2.2.2.2.1=true):0<(bH s f).1.2.1.length:=by
 by_cases W:s.2.1.length<12
 .rw[(h.more (show(1:Int)<=2 from jI)).grows W z j r];omega
 grind [uI]
theorem Qm:OK zI.e:=by
 refine eP [wS.e,lC.e,rO.e,qV.e,dO.e,zH.e,zF.e] ⟨L9,qm,EM,Ah,dX,Qk,I5,⟨⟩⟩ ara (λ_ _=>⟨(((Sp.usual,[(1,0,false,0,[],())],2,()),()),(([],0,0,()),())),⟨jI,rfl,Ql.1,jI,Ql.2,jI⟩⟩) λb i h=>show zI.goal (aoy b i h) ((b,i,h,()),())fromλB J=>?_
 dsimp only[zI]at J ⊢;have J:0<=i:=J;refine⟨trivial,?_⟩;rintro⟨⟨u,⟨⟩⟩,⟨⟩⟩ t;have t:u=Sp.usual:=t;subst t;refine⟨(show Sp.usual.length<=1000 from jI),?_⟩;rintro⟨⟨⟨a,l,nx,⟨⟩⟩,⟨⟩⟩,⟨⟩⟩ ⟨m,q,r⟩;have m:a=Sp.usual:=m;have q:l=[]:=q;have r:nx=1:=r;subst m q r;refine⟨λy=>0<=y.2.1.2.1/\(0<=y.1.1/\y.1.1<=7)/\tZ 1 (y.2.2.2.1,y.2.2.2.2.1,y.2.2.1.2.2.1,())/\(0<y.1.1->0<y.2.2.2.2.1.length),λy=>(8-y.1.1).toNat,⟨J,⟨(show(0:Int)<=0 from jI),(show(0:Int)<=7 from jI)⟩,⟨rfl,azQ,(show(1:Int)<=((0:Nat):Int)+1 from jI),am7⟩,λh=>absurd h (Int.lt_irrefl 0)⟩,?_⟩;rintro⟨⟨n,⟨⟩⟩,⟨b0,i0,g0,⟨⟩⟩,⟨⟨⟩,⟨⟩,nx,⟨⟩⟩,a,l,⟨⟩⟩ ⟨x,⟨z,A⟩,D,j⟩;have x:0<=i0:=x;have z:0<=n:=z;have A:n<=7:=A;have D:tZ 1 (a,l,nx,()):=D;have j:0<n->0<l.length:=j;refine⟨x,?_⟩;rintro⟨⟨x1,⟨⟩⟩,⟨b1,i1,g1,⟨⟩⟩,⟨⟩⟩ ⟨p1,C,E,_⟩;have E:x1<7:=E jI;have C:0<=x1:=C;have w:IntKind.i64.wrap (1+x1)=1+x1:=eH _ fC;dsimp only;rw[w];refine af (λN=>⟨p1,?_⟩) λN=>af (λO=>⟨p1,?_⟩) λO=>?_
 .have N:=rU N;have F:IntKind.i64.wrap (n+1)=n+1:=eH _ fC;rw[F];rintro⟨⟨⟨d,o,s,lk,al,⟨⟩⟩,⟨⟩⟩,⟨b2,i2,g2,⟨⟩⟩,⟨⟩⟩ ⟨p2,_,o1,o2,k3,k4,hat,ha⟩;have X:fZ (d,o,s,lk,al,()):=(show al.length<=1000 from aQn ha jI);refine⟨⟨D.small,X⟩,?_⟩;rintro⟨⟨⟨a3,l3,nx3,⟨⟩⟩,id3,ok3,⟨⟩⟩,⟨⟩⟩ ⟨m,q,r,_⟩;have e:((a3,l3,nx3,()):bT)=(bH (a,l,nx,()) (d,o,s,lk,al,())).1:=Mc m q r;refine⟨rfl,⟨p2,⟨(show 0<=n+1 from fC),(show n+1<=7 from fC)⟩,?_,λ_=>?_⟩,?_⟩
  .show tZ 1 (a3,l3,nx3,());rw[e];exact D.create X
  .have:=D.one (f:=(d,o,s,lk,al,())) ⟨o1,o2⟩ ⟨k3,k4⟩ hat
   grind
  omega
 .rintro⟨⟨x3,⟨⟩⟩,⟨b3,i3,g3,⟨⟩⟩,⟨⟩⟩ p3;have O:(l.length:Int)>2:=rU O;refine af (λ_=>⟨⟨jI,(show(1:Int)<l.length from fC)⟩,(show 1<l.length from fC),D.small,?_⟩) λ_=>?_
  .rintro⟨⟨⟨a3,l3,nx3,⟨⟩⟩,ok3,⟨⟩⟩,⟨⟩⟩ ⟨m,q,r,_⟩;have e:=Mc m q r;have g:=D.delete (List.getD l (Int.toNat 1) (0,0,false,0,[],())).1;have g:tZ 2 (a3,l3,nx3,()):=by
    grind
   refine⟨p3,g.sch,g.ok,g.nx,g.small,?_⟩
   grind [dM]
  .have g:=D.more (show(1:Int)<=2 from jI);exact⟨p3,g.sch,g.ok,g.nx,g.small,j jv⟩
 .have g:=D.more (show(1:Int)<=2 from jI);exact⟨p1,g.sch,g.ok,g.nx,g.small,j jv⟩
theorem aBV:OK aeb.e:=by
 refine dW [] ⟨⟩ H0 λb=>show aeb.goal (aBW b) (b,())fromλB J=>?_
 exact rfl
theorem Hl:OK qU.e:=by
 refine dW [oV.e] ⟨vG,⟨⟩⟩ aeG λs=>show qU.goal (acR s) (s,())fromλB J=>?_
 dsimp only[qU]at J ⊢;have L:s.length<=maxLen:=B.1;rw[maxLen_eq]at L;refine⟨λy=>∃n:Nat,y.1.1=n/\n<=s.length/\Sp.lower (s.take n)=true,λy=>((s.length:Int)-y.1.1).toNat,⟨0,rfl,fC,rfl⟩,?_⟩;rintro⟨⟨_,⟨⟩⟩,⟨⟩⟩ ⟨n,rfl,hn,hJ⟩;dsimp only;refine af (λh=>?_) λh=>?_<;>simp only[aQF,aQP]at h
 .rw[eH _ fC,aQs];refine⟨⟨fC,fC⟩,af (λO=>?_) λO=>⟨⟨fC,fC⟩,af (λK=>?_) λK=>?_⟩⟩<;>simp only[aQF,aQP]at*
  · grind [dU,XU]
  · grind [dU,XU]
  .refine⟨rfl,⟨n+1,ni,fC,?_⟩,jv⟩
   grind [Sp.take_succ',Sp.lower]
 grind [dU]
theorem S9:OK xM.e:=by
 refine dW [qU.e,oV.e] ⟨Hl,vG,⟨⟩⟩ H0 λk n s=>show xM.goal (aeH k n s) ((k,n,s,()),())fromλB J=>?_
 dsimp only[xM]at J ⊢;refine af (λh=>?_) λh=>af (λO=>⟨trivial,af (λK=>?_) λK=>?_⟩) λO=>af (λK=>⟨trivial,af (λx=>?_) λx=>?_⟩) λK=>?_
 · grind [gy]
 · grind [gy]
 · grind [gy]
 · grind [gy]
 · grind [gy]
 grind [gy]
theorem NZ:OK sV.e:=by
 refine dW [] ⟨⟩ H0 λs=>show sV.goal (ZV s) (s,())fromλB J=>?_
 dsimp only[sV]at J ⊢;refine af (λh=>?_) λh=>?_
 · match s,h with
   |[c],_=>
    grind [iw,Sp.lower]
 grind [iw]
theorem alA:OK Ie.e:=by
 refine dW [] ⟨⟩ aoz λs name=>show Ie.goal (alB s name) (s,name,())fromλB J=>?_
 dsimp only[Ie]at J ⊢;have L:s.length<=maxLen:=B.1.1;refine iW s.length L (λn=>∀i,i<n->(s.getD i ([],0,())).1≠name) (λi D=>fC) (λI P n H E next=>?_) λI P E=>?_
 · grind [aaH]
 grind [abA]
theorem aFV(h:(k !=1)=false\/(k !=2)=false):(decide (1<=k)&&decide (k<=2))=true:=by
 grind
theorem aKi(C:(k !=1)=true)(O:(k !=2)=true):(decide (1<=k)&&decide (k<=2))=false:=by
 grind
theorem QX:OK vW.e:=by
 refine dW [sV.e] ⟨NZ,⟨⟩⟩ aeI λs=>show vW.goal (acS s) (s,())fromλB J=>?_
 dsimp only[vW]at J ⊢;have L:s.length<=maxLen:=B.1.1;rw[maxLen_eq]at L;refine iW s.length L (λn=>∀i,i<n->nK s i=true) (λi D=>fC) (λI P n H E next=>?_) λI P E=>?_
 .dsimp only;have b:nK s n=false->(false,())=(fJ s,()):=λh=>by rw[am5 H h]
  have d:iw (Sp.fieldAt s n).1=true->(decide (1<=(Sp.fieldAt s n).2.1)&&decide ((Sp.fieldAt s n).2.1<=2))=true->
   bif decide ((n:Int)>0)then
    ((0:Int)<=IntKind.i64.wrap ((n:Int)-1)/\IntKind.i64.wrap ((n:Int)-1)<(s.length:Int))/\
      bif !Op.bytesLess (s.getD (IntKind.i64.wrap ((n:Int)-1)).toNat ([],0,())).fst (s.getD (Int.toNat (n:Int)) ([],0,())).fst then(false,())=(fJ s,())
      else NX ((s,s,(s.length:Int),()),()) I P ((IntKind.i64.wrap ((n:Int)+1),()),()) (((n:Int),()),())
   else NX ((s,s,(s.length:Int),()),()) I P ((IntKind.i64.wrap ((n:Int)+1),()),()) (((n:Int),()),()):=by
   intro O K;refine af (λx=>?_) λx=>⟨rfl,next (fH E ?_)⟩
   .have x:0<n:=jv;rw[rE x fC]
    grind [Sp.fieldAt,nK]
   grind [nK]
  refine dH fC ⟨⟨fC,fC⟩,trivial,af (λO=>b ?_) λO=>af (λK=>af (λx=>b ?_) λx=>?_) λK=>?_⟩
  .have O:iw (Sp.fieldAt s n).1=false:=kJ O
   grind [nK]
  .have O:iw (Sp.fieldAt s n).1=true:=dN O;have K:(decide (1<=(Sp.fieldAt s n).2.1)&&decide ((Sp.fieldAt s n).2.1<=2))=false:=aKi K x
   grind [nK]
  .have O:iw (Sp.fieldAt s n).1=true:=dN O;have K:(decide (1<=(Sp.fieldAt s n).2.1)&&decide ((Sp.fieldAt s n).2.1<=2))=true:=aFV (.inr x)
   simp_all
  .have O:iw (Sp.fieldAt s n).1=true:=dN O;have K:(decide (1<=(Sp.fieldAt s n).2.1)&&decide ((Sp.fieldAt s n).2.1<=2))=true:=aFV (.inl K)
   simp_all
 grind [fJ,kV]
theorem acT:OK Bd.e:=by
 refine dW [Ie.e,xM.e] ⟨alA,S9,⟨⟩⟩ H0 λb s k n w=>show Bd.goal (acU b s k n w) (b,s,(k,n,w,()),())fromλB J=>?_
 dsimp only[Bd]at J ⊢;refine⟨trivial,af (λh=>af (λO=>⟨trivial,?_⟩) λO=>?_) λh=>?_⟩
 · grind [mO]
 · grind [mO]
 grind [mO]
theorem agQ:OK Ed.e:=by
 refine dW [vW.e,Jm.e,oV.e,Bd.e] ⟨QX,UW,vG,acT,⟨⟩⟩ aiI λb e g l j d=>show Ed.goal (agR b e g l j d) (b,(e,g,l,j,d,()),())fromλB J=>?_
 dsimp only[Ed]at J ⊢;have L:d.length<=maxLen:=B.2.1.2.2.2.2.1.1;rw[maxLen_eq]at L;refine iW d.length L (λn=>∀i,i<n->oJ b d i=true) (λi D=>fC) (λI P n H E next=>?_) λI P E=>?_
 .dsimp only;have m:oJ b d n=false->(false,())=(fD b (e,g,l,j,d,()),()):=λh=>by rw[awR (f:=(e,g,l,j,d,())) H h]
  refine dH fC ⟨⟨fC,fC⟩,af (λx=>?_) λx=>⟨trivial,af (λO=>m ?_) λO=>⟨rfl,next (fH E ?_)⟩⟩⟩
  .have x:0<n:=jv;rw[rE x fC];refine⟨⟨fC,fC⟩,af (λo=>m ?_) λo=>⟨trivial,af (λO=>m ?_) λO=>⟨rfl,next (fH E ?_)⟩⟩⟩
   · grind [iJ,oJ]
   · grind [iJ,oJ]
   grind [iJ,oJ]
  · grind [iJ,oJ]
  grind [iJ,oJ]
 .dsimp only;have r:jh b d=true:=kV E;refine gU fC ⟨trivial,af (λC=>⟨trivial,af (λO=>⟨trivial,af (λK=>⟨trivial,?_⟩) λK=>?_⟩) λO=>?_⟩) λC=>?_⟩
  all_goals refine congrArg (·,()) ?_
  .show fJ b=(jh b d&&fJ b&&(decide (1<=e)&&decide (e<=60))&&(decide (0<=g)&&decide (g<=2))&&(decide (0<=j)&&decide (j<=60)))
   grind
  .show false=(jh b d&&fJ b&&(decide (1<=e)&&decide (e<=60))&&(decide (0<=g)&&decide (g<=2))&&(decide (0<=j)&&decide (j<=60)))
   grind
  .show false=(jh b d&&fJ b&&(decide (1<=e)&&decide (e<=60))&&(decide (0<=g)&&decide (g<=2))&&(decide (0<=j)&&decide (j<=60)))
   grind
  .show false=(jh b d&&fJ b&&(decide (1<=e)&&decide (e<=60))&&(decide (0<=g)&&decide (g<=2))&&(decide (0<=j)&&decide (j<=60)))
   grind
theorem Tc:OK xO.e:=by
 refine dW [oV.e,vW.e,Ed.e] ⟨vG,QX,agQ,⟨⟩⟩ agS λe b d=>show xO.goal (aeJ e b d) ((e,b,d,()),())fromλB J=>?_
 dsimp only[xO]at J ⊢;have L:b.length<=maxLen:=B.1.2.1.1;rw[maxLen_eq]at L;refine iW b.length L (λn=>∀i,i<n->oL (e,b,d,()) i=true) (λi D=>fC) (λI P n H E next=>?_) λI P E=>?_
 .dsimp only;have g:oL (e,b,d,()) n=false->(false,())=(aJ (e,b,d,()),()):=λh=>by rw[aqW (s:=(e,b,d,())) H h]
  refine dH fC ⟨⟨fC,fC⟩,trivial,af (λO=>g ?_) λO=>af (λK=>g ?_) λK=>af (λx=>?_) λx=>⟨rfl,next (fH E ?_)⟩⟩
  .have O:fD e (Sp.fileAt b n)=false:=kJ O;show(fD e (Sp.fileAt b n)&&_&&_)=false;rw[O];rfl
  .have O:fD e (Sp.fileAt b n)=true:=dN O;have K:¬(Sp.fileAt b n).1<d:=y8;show(fD e (Sp.fileAt b n)&&decide ((Sp.fileAt b n).1<d)&&_)=false
   grind
  .have O:fD e (Sp.fileAt b n)=true:=dN O;have K:(Sp.fileAt b n).1<d:=y8;have x:0<n:=jv;rw[rE x fC];refine⟨⟨fC,fC⟩,af (λf=>g ?_) λf=>⟨rfl,next (fH E ?_)⟩⟩
   .have f:¬(Sp.fileAt b (n-1)).1<(Sp.fileAt b n).1:=y8;show(fD e (Sp.fileAt b n)&&decide ((Sp.fileAt b n).1<d)&&!(decide (0<n)&&!decide ((Sp.fileAt b (n-1)).1<(Sp.fileAt b n).1)))=false
    grind
   .have f:(Sp.fileAt b (n-1)).1<(Sp.fileAt b n).1:=y8;show(fD e (Sp.fileAt b n)&&decide ((Sp.fileAt b n).1<d)&&!(decide (0<n)&&!decide ((Sp.fileAt b (n-1)).1<(Sp.fileAt b n).1)))=true
    grind
  .have O:fD e (Sp.fileAt b n)=true:=dN O;have K:(Sp.fileAt b n).1<d:=y8;have x:¬0<n:=jv;show(fD e (Sp.fileAt b n)&&decide ((Sp.fileAt b n).1<d)&&!(decide (0<n)&&!decide ((Sp.fileAt b (n-1)).1<(Sp.fileAt b n).1)))=true
   grind
 .dsimp only;have r:jG b.length (oL (e,b,d,()))=true:=kV E;refine gU fC ⟨trivial,af (λC=>af (λO=>⟨trivial,?_⟩) λO=>?_) λC=>?_⟩
  .refine congrArg (·,()) ?_;show _=(jG b.length (oL (e,b,d,()))&&fJ e&&decide ((b.length:Int)<=12)&&(decide (1<=d)&&decide (d<=61)))
   grind
  .refine congrArg (·,()) ?_;show _=(jG b.length (oL (e,b,d,()))&&fJ e&&decide ((b.length:Int)<=12)&&(decide (1<=d)&&decide (d<=61)))
   grind
  .refine congrArg (·,()) ?_;show _=(jG b.length (oL (e,b,d,()))&&fJ e&&decide ((b.length:Int)<=12)&&(decide (1<=d)&&decide (d<=61)))
   grind
theorem azT{α:Type}{l:List α}{d:Nat}{b:List α}(h:d+b.length<=l.length):(kE l d b).length=l.length:=by
 grind [kE]
theorem awS{α:Type}{l:List α}{d k:Nat}{b:List α}(j:k<=d)(h:d<=l.length):(kE l d b).take k=l.take k:=by
 grind [kE]
theorem alC:OK Ig.e:=by
 refine eP [KH.e] ⟨Y5,⟨⟩⟩ aoA (λ⟨l,_⟩ _=>⟨((l,()),()),rfl⟩) λl=>show Ig.goal (alD l) (l,())fromλB J=>?_
 dsimp only[Ig]at J ⊢;obtain⟨C,O⟩:l.length<=1000/\∀f∈l,fZ f:=J;refine bQ (λi(x:List aG)=>(((),i,()),x,())) (λy=>y.1.2.1) (λ_ _=>rfl) l.length fC (λn x=>x=l.take n) ni (λI P n x H E next=>?_) λI P x E=>?_
 .subst E;dsimp only;refine dH fC ⟨⟨fC,fC⟩,O _ (getD_mem (d:=((0:Int),(0:Int),false,(0:Int),[],())) H),yJ,rfl,next _ ?_⟩;exact(Sp.take_succ' l n (0,0,false,0,[],()) H).symm
 grind
theorem alE:OK Ih.e:=by
 refine eP [Ig.e,qf.e] ⟨alC,JB,⟨⟩⟩ aoB (λ⟨(a,l,g,_),_⟩ _=>⟨(((a,l,g,()),()),()),rfl⟩) λb h d=>show Ih.goal (alF b h d) ((b,h,d,()),())fromλB J=>?_
 dsimp only[Ih]at J ⊢;obtain⟨e,C,O⟩:b.length<=1000/\h.length<=1000/\∀f∈h,fZ f:=J;refine⟨e,⟨C,O⟩,?_⟩
 grind
theorem ajP:OK FP.e:=by
 refine eP [jo.e] ⟨jR,⟨⟩⟩ H0 (λ_ _=>⟨((([]:List UInt8),()),(([],0,0,()),())),⟨jI,jI⟩⟩) λb i h=>show FP.goal (ajQ b i h) ((b,i,h,()),())fromλB J=>?_
 dsimp only[FP]at J ⊢;exact IZ
theorem aa5:OK BR.e:=by
 refine eP [FP.e,qE.e,zG.e,jo.e,dO.e] ⟨ajP,xY,I7,jR,dX,⟨⟩⟩ H0 (λ_ _=>⟨((((0:Int),(0:Int),(0:Int),([]:List UInt8),(0:Int),(0:Int),([]:List UInt8),()),()),(([],0,0,()),())),⟨jI,trivial⟩⟩) λb i h=>show BR.goal (asg b i h) ((b,i,h,()),())fromλB J=>?_
 dsimp only[BR]at J ⊢;have J:0<=i:=J;exact IZ
theorem adt[kU](d:kM prog G DI Gn):kM prog G SL Oz:=by refine adu (XT [(DI,.eff (EH vZ) Gn),dO.e,BR.e,lC.e] ⟨⟨d,acH⟩,dX,aa5,qm,trivial⟩) (λ⟨_,q,f,_,_⟩ _=>⟨((q++[(0,0,0,[],0,0,[],())],()),(([],0,0,()),())),⟨jI,ni,ni⟩⟩) ?_;intro b i h q f not B J;obtain⟨⟨e,g,j,l⟩,m⟩:=J;have o:IntKind.i64.wrap (f-1)=f-1:=eH _ fC;refine⟨λy=>0<=y.2.1.2.1/\0<f,?_⟩;dsimp only;rw[o];exact IZ
theorem ash:kM prog G auC anZ:=
 aut (λn=>@Ub ⟨n⟩) (λn=>@Bf ⟨n⟩) (by rintro⟨⟨b,i,h,⟨⟩⟩,q,f,not,⟨⟩⟩ h;exact aRd _ h.2) (by rintro _ ⟨⟨b,i,h,⟨⟩⟩,q,f,not,⟨⟩⟩;rfl) (by rintro⟨⟨b,i,h,⟨⟩⟩,q,f,not,⟨⟩⟩ h;exact⟨_,h,aRZ _⟩) (by rintro _ ⟨⟨b,i,h,⟨⟩⟩,q,f,not,⟨⟩⟩;rfl) λn h=>@adt ⟨n⟩ h
theorem TN:kM prog G DR Gp:=
 aFF (F:=ach) (F':=Uc) jI ash (λa x h=>⟨h.1,h.2.1,h.2.2,(show∀z:Int,0<=z->z<=4->0+2*z.toNat<=900 fromλz _ _=>fC) _ h.2.1 h.2.2⟩) λa x h=>rfl
theorem Ur:OK yY.e:=by
 refine eP [(DR,.eff (EH wo) Gp),dO.e] ⟨⟨TN,QV⟩,dX,⟨⟩⟩ ajR (λ_ _=>⟨(([(0,0,0,[],0,0,[],())],()),(([],0,0,()),())),⟨jI,jI,jI⟩⟩) λb i h=>show yY.goal (aht b i h) ((b,i,h,()),())fromλB J=>?_
 dsimp only[yY]at J ⊢;exact IZ
theorem JH:OK qh.e:=by
 refine eP [(DR,.eff (EH wo) Gp),dO.e] ⟨⟨TN,QV⟩,dX,⟨⟩⟩ X9 (λ_ _=>⟨(([(0,0,0,[],0,0,[],())],()),(([],0,0,()),())),⟨jI,jI,jI⟩⟩) λb i h=>show qh.goal (Xi b i h) ((b,i,h,()),())fromλB J=>?_
 dsimp only[qh]at J ⊢;exact IZ
theorem avy:OK Px.e:=by
 refine eP [Jl.e,BR.e,jo.e,jl.e,dO.e,yY.e] ⟨acM,aa5,jR,kF,dX,Ur,⟨⟩⟩ aya (λ_ _=>⟨(([],()),(([],0,0,()),())),⟨jI,jI⟩⟩) λb i h=>show Px.goal (avz b i h) ((b,i,h,()),())fromλB J=>?_
 dsimp only[Px]at J ⊢;have J:0<=i:=J;exact IZ
theorem ES:aK []:=⟨ni,λx Z=>vk⟩
variable {d:List aH}
theorem Tv{x:aH}(h:aK d)(W:d.length<1000)(Z:x.2.1.length<=1000):aK (d++[x]):=
 ⟨ql,λy F=>by rcases aQM.1 F with F|F;exact h.2 y F;grind⟩
theorem asi{x:aH}(n:Nat)(h:aK d)(Z:x.2.1.length<=1000):aK (d.set n x):=
 ⟨by simp;exact h.1,λy F=>by rcases aRD F with F|F;exact h.2 y F;grind⟩
theorem aBY(n:Nat)(h:aK d):aK (d.take n):=
 ⟨by rw[aRe];have:=h.1;omega,λy F=>h.2 y (aRa F)⟩
theorem aGC(h:aK d)(H:n<d.length):(d.getD n ([],[],())).2.1.length<=1000:=h.2 _ (getD_mem H)
theorem aaQ:OK Gq.e:=by
 refine eP [qh.e,dO.e] ⟨JH,dX,⟨⟩⟩ avA (λ_ _=>⟨(([([],[],())],()),(([],0,0,()),())),⟨jI,jI,jI,jI,jI⟩⟩) λb i h=>show Gq.goal (asj b i h) ((b,i,h,()),())fromλB J=>?_
 dsimp only[Gq]at J ⊢;refine⟨λy=>0<=y.2.1.2.1/\y.1.2.1=y.2.2.1.length/\y.2.2.1.length<=4/\aK y.2.2.1,λy=>(4-y.1.2.1).toNat,⟨J,rfl,ni,ES⟩,?_⟩
 grind [eH,bV,Tv]
theorem avC:OK Py.e:=by
 refine eP [qh.e,Px.e,jo.e,dO.e,Gq.e] ⟨JH,avy,jR,dX,aaQ,⟨⟩⟩ ayb (λ_ _=>⟨(([],()),(([],0,0,()),())),⟨jI,jI,ES⟩⟩) λb i h=>show Py.goal (avD b i h) ((b,i,h,()),())fromλB J=>?_
 dsimp only[Py]at J ⊢;have J:0<=i:=J;refine⟨J,?_⟩;rintro⟨⟨d,_⟩,⟨b1,i1,h1,_⟩,_⟩ ⟨q1,q2,q3,q4⟩;dsimp only at q1 q2 q3 q4 ⊢;refine⟨q1,?_⟩;rintro⟨⟨r,_⟩,⟨b2,i2,h2,_⟩,_⟩ ⟨e1,e2,e,_⟩;dsimp only at e1 e2 e ⊢;have e:=e fC;refine⟨e1,?_⟩;rintro⟨⟨s,_⟩,⟨b3,i3,h3,_⟩,_⟩ ⟨f1,f2,f3,_⟩;dsimp only at f1 f2 f3 ⊢;have H:r.toNat<d.length:=fC;refine af (λ_=>⟨⟨f1,ni⟩,?_⟩) λ_=>af (λ_=>⟨f1,?_⟩) λ_=>af (λ_=>?_) λ_=>af (λ_=>?_) λ_=>?_
 · grind [asi,aGC]
 · grind [asi]
 .refine⟨λy=>0<=y.2.1.2.1/\y.2.2.1.length<=6/\aK y.2.2.1,λy=>6-y.2.2.1.length,⟨f1,jv,q4⟩,?_⟩
  grind [eH,bV,Tv]
 · grind [ES]
 grind
theorem Yb(b e g:Int)(h:Sp.Bytes)(f i:Int)(j:Sp.Bytes)(a:Int):iM (b,e,g,h,f,i,j,()) a=
 (bif b==1 then(e==0&&g==0)&&(h==[]&&(f==0&&(i==0&&j==[])))else bif b==2 then(e==0&&g==0)&&(f==0&&(i==0&&j==[]))&&iw h else
 bif b==3 then(e==0&&g==0)&&iw h&&gy f i j&&!(f==0)else bif b==4 then(e==0&&g==0)&&iw h&&gy f i j&&f==1 else
 bif b==5 then(decide (0<=e)&&decide (e<=a-1)&&decide (0<a))&&g==0&&(h==[]&&(f==0&&(i==0&&j==[])))else
 bif b==6||b==7 then(decide (0<=e)&&decide (e<=a-1)&&decide (0<a))&&(decide (0<=g)&&decide (g<=a-1))&&(h==[]&&(f==0&&(i==0&&j==[])))else
 bif b==8||b==9 then(e==0&&g==0)&&(f==0&&(i==0&&j==[]))&&dU h else false):=rfl
theorem ahv:OK Ef.e:=by
 refine dW [qU.e,oV.e,xM.e,sV.e] ⟨Hl,vG,S9,NZ,⟨⟩⟩ ajX λb e f g i j l a=>show Ef.goal (Ut b e f g i j l a) ((b,e,f,g,i,j,l,()),a,())fromλB J=>?_
 dsimp only[Ef]at J ⊢;have m:-9223372036854775808<=a/\a<=9223372036854775807:=B.2.1;show Ut b e f g i j l a λr=>r=(iM (b,e,f,g,i,j,l,()) a,());rw[Yb];have w:0<a->IntKind.i64.wrap (a-1)=a-1:=λh=>eH _ fC;refine af (λ_=>?_) λ_=>af (λ_=>af (λ_=>⟨trivial,?_⟩) λ_=>?_) λ_=>⟨λy=>y=((b==3||b==4,()),()),?_,?_⟩
 · grind
 · grind
 · simp_all
 .refine af (λ_=>⟨rfl,?_⟩) λ_=>⟨rfl,?_⟩<;>first|grind|(simp_all;grind)
 .rintro _ rfl;refine af (λ_=>?_) λ_=>af (λ_=>af (λ_=>af (λh=>⟨trivial,?_⟩) λ_=>?_) λ_=>?_) λ_=>⟨λy=>y=((b==6||b==7,()),()),?_,?_⟩
  .refine af (λ_=>⟨trivial,af (λ_=>⟨trivial,af (λ_=>af (λ_=>af (λ_=>?_) λ_=>?_) λ_=>?_) λ_=>?_⟩) λ_=>?_⟩) λ_=>?_
   all_goals first|(simp_all;done)|(simp_all;grind)
  · simp_all
  · grind
  · simp_all
  .refine af (λ_=>⟨rfl,?_⟩) λ_=>⟨rfl,?_⟩<;>first|grind|(simp_all;grind)
  .rintro _ rfl;refine af (λ_=>af (λ_=>af (λh=>⟨trivial,?_⟩) λ_=>?_) λ_=>?_) λ_=>?_
   .rw[w (rU h)];refine af (λ_=>⟨trivial,?_⟩) λ_=>?_<;>first|grind|grind
   · grind
   · grind
   grind
theorem ahw:OK Ee.e:=by
 refine dW [vU.e,pV.e,sU.e,gI.e] ⟨Hg,BA,D7,gW,⟨⟩⟩ ajY λf b e g i j l a=>show Ee.goal (Uu f b e g i j l a) ((f,b,e,g,i,j,l,()),a,())fromλB J=>?_
 dsimp only[Ee]at J ⊢;have m:-9223372036854775808<=a/\a<=9223372036854775807:=B.2.1;show Uu f b e g i j l a λr=>r=(iM (f,b,e,g,i,j,l,()) a,());rw[Yb];have w:0<a->IntKind.i64.wrap (a-1)=a-1:=λh=>eH _ fC;refine⟨λy=>y=((decide (0<=b)&&decide (b<=a-1)&&decide (0<a),()),()),⟨trivial,?_⟩,?_⟩
 · grind
 .rintro _ rfl;refine⟨λy=>y=(((decide (0<=b)&&decide (b<=a-1)&&decide (0<a))&&(decide (0<=e)&&decide (e<=a-1)),()),()),?_,?_⟩
  · grind [decide]
  grind
theorem Ai:OK uP.e:=by
 refine dW [] ⟨⟩ avR λa b=>show uP.goal (asU a b) (a,b,())fromλB J=>?_
 have L:a.length<=maxLen:=B.1.1;refine af (λh=>?_) λh=>?_
 .have h:(a.length:Int)≠b.length:=oQ;exact congrArg (·,()) (aQH λe=>h (by rw[e])).symm
 .have h:(a.length:Int)=b.length:=oQ;exact avS (K:=λr=>r=(decide (a=b),())) (λx y=>x.1 !=y.1) (λx y=>jv) _ a b _ L fC (λe=>jv) λe=>jv
theorem apL:OK KJ.e:=by
 refine dW [] ⟨⟩ H0 λb e f g i j l=>show KJ.goal (apM b e f g i j l) ((b,e,f,g,i,j,l,()),())fromλB J=>?_
 dsimp only[KJ]at J ⊢;exact af (λh=>afy) λh=>afy
theorem Yd:OK wu.e:=by
 refine dW [] ⟨⟩ ZB λs=>show wu.goal (Ye s) (s,())fromλB J=>?_
 dsimp only[wu]at J ⊢;refineλg b=>af (λh=>?_) λh=>⟨o6,rfl⟩
 grind
theorem asV:OK UD.e:=by
 refine dW [wu.e] ⟨Yd,⟨⟩⟩ avT λS T=>show UD.goal (asW S T) ((S,T,()),())fromλB J=>?_
 exact⟨J,rfl⟩
theorem yC(h:aK d)(H:n<d.length):(d.getD n ([],[],())).2.1.length<=1000:=h.2 _ (getD_mem H)
theorem aoG:OK KL.e:=by
 refine dW [UD.e] ⟨asV,⟨⟩⟩ asX λd=>show KL.goal (apN d) (d,())fromλB J=>?_
 dsimp only[KL]at J ⊢;have L:d.length<=1000:=J.1;refine bQ (λi(x:List aH)=>(((),i,()),x,())) (λy=>y.1.2.1) (λ_ _=>rfl) d.length fC (λn l=>l=d.take n) ni (λI P n l H E next=>?_) λI P l E=>?_
 .subst E;dsimp only;refine dH fC ⟨⟨fC,fC⟩,yC J H,yJ,rfl,next _ ?_⟩;exact(Sp.take_succ' d n ([],[],()) H).symm
 grind
theorem EN:OK uQ.e:=by
 refine dW [] ⟨⟩ avU λd=>show uQ.goal (asY d) (d,())fromλB J=>?_
 dsimp only[uQ]at J ⊢;have L:d.length<=1000:=J.1;refine bQ (λi(x:List aH)=>(((),i,()),x,())) (λy=>y.1.2.1) (λ_ _=>rfl) d.length fC (λn l=>l=d.take n) ni (λI P n l H E next=>?_) λI P l E=>?_
 .dsimp only;refine dH fC ⟨⟨fC,fC⟩,⟨fC,fC⟩,by grind [bV,yC],yJ,rfl,next _ ?_⟩
  simp_all
 grind
theorem afz(a:Int)(x:aO):(Sp.refsOf a x:Int)=(if(x.1=6\/x.1=7\/x.1=5)/\x.2.1=a then 1 else 0)+(if(x.1=6\/x.1=7)/\x.2.2.1=a then 1 else 0):=by
 grind [Sp.refsOf,jS]
theorem aKK(a:Int)(x:aO):Sp.refsOf a x<=2:=by
 grind [afz]
def tX(q:List aO)(a:Int)(n:Nat):Nat:=((q.take n).map (Sp.refsOf a)).sum
theorem ab2(q:List aO)(a:Int)(H:n<q.length):tX q a (n+1)=tX q a n+Sp.refsOf a (Sp.nodeAt q n):=by unfold tX;rw[Sp.take_succ' q n (0,0,0,[],0,0,[],()) H];simp only[aRq,aSN,aQB,List.map_nil,aRh,List.sum_nil,aSv];rfl
theorem aj8(q:List aO)(a:Int):∀n,n<=q.length->tX q a n<=2*n
 |0,_=>by simp[tX]
 |n+1,h=>by rw[ab2 q a fC];have:=aj8 q a n fC;have:=aKK a (Sp.nodeAt q n);omega
theorem asZ(q:List aO)(a:Int):tX q a q.length=nJ q a:=by grind [tX,nJ]
theorem aal:OK yK.e:=by
 refine dW [] ⟨⟩ ab3 λq a=>show yK.goal (aam q a) (q,a,())fromλB J=>?_
 dsimp only[yK]at J ⊢;delta aam VP aY aj bJ;have J:q.length<=2000000:=J;refine bQ (λi(c:Int)=>((c,i,()),())) (λy=>y.1.2.1) (λ_ _=>rfl) q.length fC (λn c=>c=(tX q a n:Int)) rfl (λI P n c H E next=>?_) λI P c E=>?_
 .subst E;have Y:=ab2 q a H;have U:=aj8 q a n fC;have hr:=afz a (Sp.nodeAt q n);dsimp only;rw[aQs];have e:q.getD n (0,0,0,[],0,0,[],())=Sp.nodeAt q n:=rfl;rw[e];have f:IntKind.i64.wrap ((tX q a n:Int)+1)=(tX q a n:Int)+1:=eH _ fC;have g:IntKind.i64.wrap ((tX q a n:Int)+1+1)=(tX q a n:Int)+1+1:=eH _ fC;refine dH fC ⟨⟨fC,fC⟩,af (λb=>⟨λy=>y=(((tX q a n:Int)+(if(Sp.nodeAt q n).2.1=a then 1 else 0),()),()),⟨⟨fC,fC⟩,af (λW=>⟨rfl,?_⟩) λW=>⟨rfl,?_⟩⟩,?_⟩) λb=>⟨⟨fC,fC⟩,λy=>y=(((tX q a n:Int)+(if((Sp.nodeAt q n).1=7\/(Sp.nodeAt q n).1=5)/\(Sp.nodeAt q n).2.1=a then 1 else 0),()),()),?_,?_⟩⟩
  · grind
  · grind
  · grind
  · grind
  grind
 grind [asZ]
theorem aan:OK yL.e:=by
 refine dW [] ⟨⟩ ab4 λq a=>show yL.goal (aao q a) (q,a,())fromλB J=>?_
 dsimp only[yL]at J ⊢;refine bQ (λi(c:Int)=>((c,i,()),())) (λy=>y.1.2.1) (λ_ _=>rfl) q.length fC (λn c=>c=(tX q a n:Int)) rfl (λI P n c H E next=>?_) λI P c E=>?_
 .have hs:=ab2 q a H;have U:=aj8 q a n fC;have hr:=afz a (Sp.nodeAt q n);dsimp only;have e:q.getD n (0,0,0,[],0,0,[],())=Sp.nodeAt q n:=rfl;have f:IntKind.i64.wrap ((tX q a n:Int)+1)=(tX q a n:Int)+1:=eH _ fC;have g:IntKind.i64.wrap ((tX q a n:Int)+1+1)=(tX q a n:Int)+1+1:=eH _ fC;refine dH fC ⟨⟨fC,fC⟩,af (λb=>⟨λy=>y=(((tX q a n:Int)+(if(Sp.nodeAt q n).2.1=a then 1 else 0),()),()),af (λW=>⟨rfl,?_⟩) λW=>⟨rfl,?_⟩,?_⟩) λb=>⟨λy=>y=(((tX q a n:Int)+(if((Sp.nodeAt q n).1=7\/(Sp.nodeAt q n).1=5)/\(Sp.nodeAt q n).2.1=a then 1 else 0),()),()),?_,?_⟩⟩
  · grind
  · grind
  · grind
  · grind
  grind
 grind [asZ]
variable {q:List aO}
theorem as1(H:n<q.length)(h:pY q n=false):aN q=false:=by
 grind [aN,uf]
theorem rG:OK lW.e:=by
 refine dW [gI.e,yK.e,Ee.e] ⟨gW,aal,ahw,⟨⟩⟩ ahD λq=>show lW.goal (afA q) (q,())fromλB J=>?_
 dsimp only[lW]at J ⊢;refine iW q.length fC (λn=>∀i,i<n->pY q i=true) (λi D=>fC) (λI P n H E next=>?_) λI P E=>?_
 .dsimp only;have b:pY q n=false->(false,())=(aN q,()):=λh=>by rw[as1 H h]
  rw[rE (show 0<q.length from fC) fC];refine dH fC ⟨⟨fC,fC⟩,trivial,af (λO=>b ?_) λO=>af (λK=>⟨J,af (λx=>b ?_) λx=>⟨rfl,next (fH E ?_)⟩⟩) λK=>⟨rfl,next (fH E ?_)⟩⟩
  .have O:iM (Sp.nodeAt q n) n=false:=kJ O
   grind [pY]
  · grind [pY]
  .have O:iM (Sp.nodeAt q n) n=true:=dN O
   grind [pY]
  .have O:iM (Sp.nodeAt q n) n=true:=dN O
   grind [pY]
 grind [aN,kV]
theorem Jf:OK sF.e:=by
 refine dW [oV.e,yL.e,Ef.e] ⟨vG,aan,ahv,⟨⟩⟩ ahE λq=>show sF.goal (afB q) (q,())fromλB J=>?_
 dsimp only[sF]at J ⊢;refine iW q.length fC (λn=>∀i,i<n->pY q i=true) (λi D=>fC) (λI P n H E next=>?_) λI P E=>?_
 .dsimp only;have b:pY q n=false->(false,())=(aN q,()):=λh=>by rw[as1 H h]
  rw[rE (show 0<q.length from fC) fC];refine dH fC ⟨⟨fC,fC⟩,trivial,af (λO=>b ?_) λO=>af (λK=>⟨J,af (λx=>b ?_) λx=>⟨rfl,next (fH E ?_)⟩⟩) λK=>⟨rfl,next (fH E ?_)⟩⟩
  .have O:iM (Sp.nodeAt q n) n=false:=kJ O
   grind [pY]
  · grind [pY]
  .have O:iM (Sp.nodeAt q n) n=true:=dN O
   grind [pY]
  .have O:iM (Sp.nodeAt q n) n=true:=dN O
   grind [pY]
 grind [aN,kV]
theorem axi(H:n<d.length)(h:oz d n=false):dK d=false:=by
 grind [dK,uf]
theorem Kz:OK uO.e:=by
 refine dW [lW.e,vU.e] ⟨rG,Hg,⟨⟩⟩ aj9 λd=>show uO.goal (ahF d) (d,())fromλB J=>?_
 dsimp only[uO]at J ⊢;have J:aK d:=J;have L:d.length<=1000:=J.1;refine iW d.length fC (λn=>∀i,i<n->oz d i=true) (λi D=>fC) (λI P n H E next=>?_) λI P E=>?_
 .dsimp only;have b:oz d n=false->(false,())=(dK d,()):=λh=>by rw[axi H h]
  have u:(dh d n).2.1.length<=2000000:=aQn (yC J H) fC;refine dH fC ⟨⟨fC,fC⟩,trivial,af (λO=>b ?_) λO=>⟨⟨fC,fC⟩,u,af (λK=>b ?_) λK=>af (λx=>?_) λx=>⟨rfl,next (fH E ?_)⟩⟩⟩
  · grind [dh,oz]
  · grind [dh,oz]
  .have O:dU (dh d n).1=true:=dN O;have K:aN (dh d n).2.1=true:=dN K;have x:0<n:=jv;rw[rE x fC]
   grind [dh,oz]
  .have O:dU (dh d n).1=true:=dN O
   grind [dh,oz]
 grind [dK,kV]
theorem agU:OK Eg.e:=by
 refine dW [sF.e,qU.e] ⟨Jf,Hl,⟨⟩⟩ akb λd=>show Eg.goal (ahG d) (d,())fromλB J=>?_
 dsimp only[Eg]at J ⊢;have J:aK d:=J;have L:d.length<=1000:=J.1;refine iW d.length fC (λn=>∀i,i<n->oz d i=true) (λi D=>fC) (λI P n H E next=>?_) λI P E=>?_
 .dsimp only;have b:oz d n=false->(false,())=(dK d,()):=λh=>by rw[axi H h]
  have u:(dh d n).2.1.length<=2000000:=aQn (yC J H) fC;refine dH fC ⟨⟨fC,fC⟩,trivial,af (λO=>b ?_) λO=>af (λx=>?_) λx=>⟨u,af (λK=>b ?_) λK=>⟨rfl,next (fH E ?_)⟩⟩⟩
  · grind [dh,oz]
  .have O:dU (dh d n).1=true:=dN O;have x:0<n:=jv;rw[rE x fC];refine⟨⟨fC,fC⟩,af (λe=>b ?_) λe=>⟨u,af (λK=>b ?_) λK=>⟨rfl,next (fH E ?_)⟩⟩⟩
   · grind [dh,oz]
   · grind [dh,oz]
   grind [dh,oz]
  · grind [dh,oz]
  .have O:dU (dh d n).1=true:=dN O
   grind [dh,oz]
 grind [dK,kV]
theorem axj{S:Type}{B:((Int×Unit)×S->Prop)->((Int×Unit)×S->Nat)->(Int×Unit)×S->Prop}(len:Nat)(L:len<=9223372036854775807)(J:Nat->S->Prop){s0:S}(l:J len s0)
 (b:∀I P(n:Nat)(s:S),n<len->J (n+1) s->(∀e,J n e->I ((IntKind.i64.wrap ((n:Int)-1),()),e)/\P ((IntKind.i64.wrap ((n:Int)-1),()),e)<P (((n:Int),()),s))->B I P (((n:Int),()),s))
 (f:∀I P s,J 0 s->B I P ((-1,()),s)):∃I,∃P,I ((IntKind.i64.wrap ((len:Int)-1),()),s0)/\∀y,I y->B I P y:=by
 have w:∀n:Nat,n<=len->IntKind.i64.wrap ((n:Int)-1)=(n:Int)-1:=λn H=>eH _ fC;refine⟨λy=>∃(n:Nat)(s:S),y=(((n:Int)-1,()),s)/\n<=len/\J n s,λy=>(y.1.1+1).toNat,⟨len,s0,jv,aQp _,l⟩,?_⟩;rintro _ ⟨n,s,rfl,H,E⟩;cases n with
 |zero=>grind
 |succ n=>
  grind
theorem getD_set_ne{α:Type}(l:List α)(i n:Nat)(x d:α)(h:i≠n):(l.set i x).getD n d=l.getD n d:=by
 grind
theorem Yf{x:aO}{a:Int}(h:iM x a=true)(O:x.1=5\/x.1=6\/x.1=7):0<=x.2.1/\x.2.1<a:=by
 grind [Yb]
theorem Yg{x:aO}{a:Int}(h:iM x a=true)(O:x.1=6\/x.1=7):0<=x.2.2.1/\x.2.2.1<a:=by
 grind [Yb]
theorem as2(h:aN q=true)(H:n<q.length):iM (Sp.nodeAt q n) n=true:=by
 grind [aN,Vy,pY]
theorem jF(h:aN q=true):1<=q.length/\q.length<=9:=by
 grind [aN]
variable {out:List (Bool×Unit)}
theorem anw(h:(Sp.nodeAt q n).1=5):oC q n out=out.set (Sp.nodeAt q n).2.1.toNat (true,()):=by
 grind [oC]
theorem anx(h:(Sp.nodeAt q n).1=6\/(Sp.nodeAt q n).1=7):oC q n out=(out.set (Sp.nodeAt q n).2.1.toNat ((out.getD n (false,())).1,())).set (Sp.nodeAt q n).2.2.1.toNat ((out.getD n (false,())).1,()):=by
 grind [oC,jS]
theorem akc(b:(Sp.nodeAt q n).1≠5)(e:(Sp.nodeAt q n).1≠6)(f:(Sp.nodeAt q n).1≠7):oC q n out=out:=by
 grind [oC,jS]
theorem JY(q:List aO):∀(n:Nat)(out:List (Bool×Unit)),(rH q n out).length=out.length
 |0,out=>rfl
 |n+1,out=>by
  rw[rH,JY q n];unfold oC;simp only[cond_eq_ite];split
  .simp
  .split<;>simp
theorem aCd(h:aN q=true):(Sp.negated q).length=q.length:=by
 grind [Sp.negated,JY]
theorem afD:OK Dw.e:=by
 refine dW [sF.e] ⟨Jf,⟨⟩⟩ ahH λq=>show Dw.goal (afE q) (q,())fromλB J=>?_
 dsimp only[Dw]at J ⊢;delta afE XB aY aj alh ali lI;have J:q.length<=1000:=J;refine⟨fC,af (λh=>?_) λh=>⟨⟨fC,fC,o6⟩,?_⟩⟩
 · grind [Sp.negated]
 have f:=dN h;have i:Sp.negated q=rH q q.length (List.replicate q.length (false,())):=by grind [Sp.negated]
 refine axj q.length fC (λn(s:List (Bool×Unit)×Unit)=>s.1.length=q.length/\rH q n s.1=Sp.negated q) ⟨ni,i.symm⟩ (λI P n s H E next=>?_) λI P s E=>?_
 .obtain⟨out,⟨⟩⟩:=s;obtain⟨W,E⟩:=E;have W:out.length=q.length:=W;have E:rH q n (oC q n out)=Sp.negated q:=E;have j:=as2 f H;have e:q.getD n (0,0,0,[],0,0,[],())=Sp.nodeAt q n:=rfl;dsimp only;rw[aQs,e];simp only[aRp];refine dH fC ⟨⟨fC,fC⟩,fC,?_⟩;by_cases g:(Sp.nodeAt q n).1=5
  .have hb:=Yf j (.inl g)
   grind [anw]
  by_cases b:(Sp.nodeAt q n).1=6\/(Sp.nodeAt q n).1=7
  .have hb:=Yf j (.inr b);have l:=Yg j b
   grind [anx]
  grind [akc]
 .obtain⟨out,⟨⟩⟩:=s;obtain⟨W,E⟩:=E;dsimp only;refine gU fC ?_;have E:out=Sp.negated q:=E;rw[E]
theorem afF:OK Dv.e:=by
 refine dW [lW.e] ⟨rG,⟨⟩⟩ ahI λq=>show Dv.goal (afG q) (q,())fromλB J=>?_
 dsimp only[Dv]at J ⊢;delta afG PV PW XB aY abm aj pF;have J:q.length<=1000:=J;refine⟨fC,af (λh=>?_) λh=>⟨⟨fC,fC,o6⟩,?_⟩⟩
 · grind [Sp.negated]
 have f:=dN h;have i:Sp.negated q=rH q q.length (List.replicate q.length (false,())):=by grind [Sp.negated]
 refine axj q.length fC (λn(s:List (Bool×Unit)×Unit)=>s.1.length=q.length/\rH q n s.1=Sp.negated q) ⟨ni,i.symm⟩ (λI P n s H E next=>?_) λI P s E=>?_
 .obtain⟨out,⟨⟩⟩:=s;obtain⟨W,E⟩:=E;have W:out.length=q.length:=W;have E:rH q n (oC q n out)=Sp.negated q:=E;have j:=as2 f H;have e:q.getD n (0,0,0,[],0,0,[],())=Sp.nodeAt q n:=rfl;dsimp only;rw[aQs,e];simp only[aRp];refine dH fC ⟨⟨fC,fC⟩,?_⟩;by_cases g:(Sp.nodeAt q n).1=5
  .have hb:=Yf j (.inl g)
   grind [anw]
  by_cases b:(Sp.nodeAt q n).1=6\/(Sp.nodeAt q n).1=7
  .have hb:=Yf j (.inr b);have l:=Yg j b
   grind [anx]
  grind [akc]
 .obtain⟨out,⟨⟩⟩:=s;obtain⟨W,E⟩:=E;dsimp only;refine gU fC ?_;have E:out=Sp.negated q:=E;rw[E]
def aEP(q:List aO)(neg:Bool)(i:Nat):Option Sp.Bytes:=bif tN (Sp.nodeAt q i)&&((Sp.negated q).getD i (false,())).1==neg then some (Sp.nodeAt q i).2.2.2.1 else none
def ML(q:List aO)(neg:Bool)(n:Nat):List Sp.Bytes:=(List.range n).filterMap (aEP q neg)
theorem Jj(q:List aO)(neg:Bool):ML q neg (Sp.negated q).length=iZ q neg:=rfl
variable {neg:Bool}
theorem atc(C:tN (Sp.nodeAt q n)=true)(O:((Sp.negated q).getD n (false,())).1=neg):ML q neg (n+1)=ML q neg n++[(Sp.nodeAt q n).2.2.2.1]:=by
 grind [ML,List.range_succ,aEP]
theorem abd(h:¬(tN (Sp.nodeAt q n)=true/\((Sp.negated q).getD n (false,())).1=neg)):ML q neg (n+1)=ML q neg n:=by
 grind [ML,List.range_succ,aEP]
theorem EX(q:List aO)(neg:Bool)(n:Nat):(ML q neg n).length<=n:=by have:=List.length_filterMap_le (aEP q neg) (List.range n);rw[aSE]at this;exact this
theorem EY(q:List aO):(Sp.negated q).length<=q.length:=by
 grind [aCd,Sp.negated]
theorem Xy:OK CJ.e:=by
 refine eP [(Ol,.eff (EH yZ) J8),KJ.e,Dw.e] ⟨⟨aiA,agM⟩,apL,afD,⟨⟩⟩ apQ (λ⟨q,neg,_⟩ J=>⟨((((iZ q neg).map λs=>(s,()),()),())),⟨by have:=EX q neg (Sp.negated q).length;have:=EY q;have J:q.length<=1000:=J;grind [Jj],λs=>jv⟩⟩) λq neg=>show CJ.goal (amF q neg) (q,neg,())fromλB J=>?_
 dsimp only[CJ]at J ⊢;have b:=EY q;refine⟨J,?_⟩;refine bQ (λi(x:Sp.LS)=>(((),i,()),x,())) (λy=>y.1.2.1) (λ_ _=>rfl) (Sp.negated q).length fC (λn l=>l=(ML q neg n).map λs=>(s,())) rfl (λI P n l H E next=>?_) λI P l E=>?_
 .have W:=EX q neg n;dsimp only;refine dH fC ⟨⟨fC,fC⟩,⟨fC,fC⟩,trivial,af (λC=>af (λO=>⟨⟨fC,fC⟩,?_,rfl,next _ ?_⟩) λO=>⟨rfl,next _ ?_⟩) λC=>⟨rfl,next _ ?_⟩⟩
  · grind [bV]
  · grind [atc,tN,Sp.nodeAt]
  · grind [abd]
  grind [abd,tN,Sp.nodeAt]
 .subst E;have W:=EX q neg (Sp.negated q).length;rw[Jj]at W ⊢;dsimp only;refine gU fC ⟨jv,?_⟩;rintro⟨⟨r,⟨⟩⟩,⟨⟩⟩ ⟨C,O⟩;refine⟨jv,λs=>?_⟩
  grind
theorem aeM:OK J9.e:=by
 refine eP [CJ.e] ⟨Xy,⟨⟩⟩ H0 (λ⟨q,_⟩ J=>⟨((((iZ q false).map λs=>(s,()),()),())),⟨by have:=EX q false (Sp.negated q).length;have:=EY q;have J:q.length<=1000:=J;grind [Jj],λs=>jv⟩⟩) λq=>show J9.goal (afN q) (q,())fromλB J=>?_
 exact⟨J,λr hr=>hr⟩
theorem aeL:OK Ko.e:=by
 refine eP [CJ.e] ⟨Xy,⟨⟩⟩ H0 (λ⟨q,_⟩ J=>⟨((((iZ q true).map λs=>(s,()),()),())),⟨by have:=EX q true (Sp.negated q).length;have:=EY q;have J:q.length<=1000:=J;grind [Jj],λs=>jv⟩⟩) λq=>show Ko.goal (afO q) (q,())fromλB J=>?_
 exact⟨J,λr hr=>hr⟩
theorem aC7{l:Sp.LS}{m:Nat}(b:m<=l.length)(C:∀i,i<m->Op.bytesLess (l.getD i ([],())).1 s=true)(O:m<l.length->Op.bytesLess (l.getD m ([],())).1 s=false):
 Gs l s=bif decide (m<l.length)&&(l.getD m ([],())).1==s then l else l.take m++[(s,())]++l.drop m:=by
 obtain⟨w,_⟩:=L8 (d:=(([]:List UInt8),())) l m b (p:=λx=>Op.bytesLess x.1 s) C O
 grind [Gs]
theorem AP{l:Sp.LS}(x:Sp.Bytes×Unit):x∈Gs l s↔x=(s,())\/x∈l:=by
 grind [Gs,List.take_append_drop]
theorem afk(l:Sp.LS)(s:Sp.Bytes):(Gs l s).length<=l.length+1:=by
 grind [Gs]
theorem Hu:OK xg.e:=by
 refine dW [] ⟨⟩ ayn λl s=>show xg.goal (av3 l s) (l,s,())fromλB J=>?_
 dsimp only[xg]at J ⊢;have J:l.length<=1000:=J;have fin:∀m:Nat,m<=l.length->Gs l s=l.take m++[(s,())]++l.drop m->((0:Int)<=m/\(m:Int)<=l.length)/\0+(List.drop 0 (List.take m l)).length<=big/\(List.drop 0 (List.take m l)).length+[(s,())].length<=big/\((0:Int)<=m/\(m:Int)<=l.length)/\
  (List.drop 0 (List.take m l)++[(s,())]).length+(List.drop m (List.take l.length l)).length<=big/\(List.drop 0 (List.take m l)++[(s,())]++List.drop m (List.take l.length l),())=(Gs l s,()):=by
  intro m b h;refine⟨⟨fC,fC⟩,?_,?_,⟨fC,fC⟩,?_,?_⟩
  · grind [bV]
  · grind [bV]
  · grind [bV]
  grind
 refine iW l.length fC (λn=>∀i,i<n->Op.bytesLess (l.getD i ([],())).1 s=true) (λi D=>fC) (λI P n H E next=>?_) λI P E=>?_
 .dsimp only;refine dH fC ⟨⟨fC,fC⟩,af (λh=>⟨rfl,next (fH (f:=λi=>Op.bytesLess (l.getD i ([],())).1 s) E h)⟩) λh=>dH fC ⟨⟨fC,fC⟩,?_⟩⟩;have e:=aC7 (aSl H) E λ_=>h;rw[aQT H,aRz]at e;refine af (λO=>?_) λO=>fin n (aSl H) ?_
  .rw[show((l.getD n ([],())).1==s)=true from O]at e;rw[e];rfl
  .rw[show((l.getD n ([],())).1==s)=false from O]at e;exact e
 .dsimp only;refine gU fC (gU fC (fin l.length (aQp _) ?_));have e:=aC7 (aQp _) E λh=>fC
  grind
theorem aGS(x:aO):tN x=(decide (8<=x.1)&&decide (x.1<=9)):=by
 grind [tN]
theorem ZF:OK Eh.e:=by
 refine eP [xg.e,gI.e,Dv.e] ⟨Hu,gW,afF,⟨⟩⟩ atd (λ⟨q,neg,_⟩ J=>⟨((((iZ q neg).map λs=>(s,()),()),())),⟨by have:=EX q neg (Sp.negated q).length;have:=EY q;have J:q.length<=1000:=J;grind [Jj],λs=>jv⟩⟩) λq neg=>show Eh.goal (apR q neg) (q,neg,())fromλB J=>?_
 dsimp only[Eh]at J ⊢;delta apR XB aY aj bJ;have e:=EY q;refine⟨J,?_⟩;refine bQ (λi(x:Sp.LS)=>((x,i,()),())) (λy=>y.1.2.1) (λ_ _=>rfl) (Sp.negated q).length fC (λn l=>l.length<=n/\∀s,(s,())∈l↔s∈ML q neg n) ⟨aQp _,λs=>by simp[ML]⟩ (λI P n l H E next=>?_) λI P l E=>?_
 .obtain⟨hl,E⟩:=E;dsimp only;have b:=aGS (Sp.nodeAt q n);refine dH fC ⟨⟨fC,fC⟩,trivial,af (λC=>⟨⟨fC,fC⟩,af (λO=>⟨⟨fC,fC⟩,fC,rfl,next _ ?_⟩) λO=>⟨rfl,next _ ⟨fC,?_⟩⟩⟩) λC=>⟨rfl,next _ ⟨fC,?_⟩⟩⟩
  .rw[atc (b.trans C) (aQv.1 O)];refine⟨aQn (afk _ _) fC,λs=>?_⟩;rw[AP,aQM,aQR,E,Prod.mk.injEq];constructor
   .rintro(⟨h,_⟩|h)
    .exact .inr h
    .exact .inl h
   .rintro(h|h)
    .exact .inr h
    .exact .inl ⟨h,rfl⟩
  · grind [abd]
  simp_all [abd,decide,Sp.nodeAt]
 .obtain⟨hl,E⟩:=E;dsimp only;exact gU fC ⟨o6,fC,E⟩
theorem afP:OK Kq.e:=by
 refine eP [Eh.e] ⟨ZF,⟨⟩⟩ H0 (λ⟨q,_⟩ J=>⟨((((iZ q false).map λs=>(s,()),()),())),⟨by have:=EX q false (Sp.negated q).length;have:=EY q;have J:q.length<=1000:=J;grind [Jj],λs=>jv⟩⟩) λq=>show Kq.goal (afQ q) (q,())fromλB J=>?_
 exact⟨J,λr hr=>hr⟩
theorem afR:OK Kr.e:=by
 refine eP [Eh.e] ⟨ZF,⟨⟩⟩ H0 (λ⟨q,_⟩ J=>⟨((((iZ q true).map λs=>(s,()),()),())),⟨by have:=EX q true (Sp.negated q).length;have:=EY q;have J:q.length<=1000:=J;grind [Jj],λs=>jv⟩⟩) λq=>show Kr.goal (afS q) (q,())fromλB J=>?_
 exact⟨J,λr hr=>hr⟩
theorem abe:OK MZ.e:=by
 refine dW [] ⟨⟩ H0 λS T p=>show MZ.goal (ate S T p) ((S,T,()),(p,()),())fromλB J=>?_
 exact rfl
theorem UX(H:n<d.length)(C:(dh d n).1=s)(O:∀i,i<n->(dh d i).1≠s):bn d s=n:=by
 rcases yG d s with⟨_,h⟩|⟨m,b,e,f,g⟩
 .exact(h _ (getD_mem (d:=(([]:List UInt8),([]:List aO),())) H) C).elim
 grind
theorem aAU(O:∀i,i<d.length->(dh d i).1≠s):bn d s=-1:=by
 grind [yG]
theorem Hy:OK kT.e:=by
 refine dW [MZ.e] ⟨abe,⟨⟩⟩ H7 λd s=>show kT.goal (Hz d s) (d,((s,()),()),())fromλB J=>?_
 dsimp only[kT]at J ⊢;have L:d.length<=maxLen:=B.1.1;refine iW d.length L (λn=>∀i,i<n->(dh d i).1≠s) (λi D=>fC) (λI P n H E next=>?_) λI P E=>?_
 .dsimp only;refine dH fC ⟨⟨fC,fC⟩,trivial,af (λh=>?_) λh=>⟨rfl,next λi D=>?_⟩⟩
  .rw[UX H (aQv.1 h) E]
  .rcases aQE i n with h'|h'
   .exact E i h'
   .have:i=n:=fC;rw[this];exact aQl.1 h
 grind [aAU]
theorem ayo:OK Yx.e:=by
 refine dW [kT.e,MZ.e] ⟨Hy,abe,⟨⟩⟩ H0 λd s=>show Yx.goal (ayp d s) (d,s,())fromλB J=>?_
 exact⟨trivial,rfl⟩
theorem Qy:OK zK.e:=by
 refine dW [] ⟨⟩ atf λd s=>show zK.goal (apS d s) (d,s,())fromλB J=>?_
 dsimp only[zK]at J ⊢;have L:d.length<=maxLen:=B.1.1;refine iW d.length L (λn=>∀i,i<n->(dh d i).1≠s) (λi D=>fC) (λI P n H E next=>?_) λI P E=>?_
 .dsimp only;refine dH fC ⟨⟨fC,fC⟩,af (λh=>?_) λh=>⟨rfl,next λi D=>?_⟩⟩
  .rw[UX H (aQv.1 h) E]
  .rcases aQE i n with h'|h'
   .exact E i h'
   .have:i=n:=fC;rw[this];exact aQl.1 h
 grind [aAU]
theorem agT:OK Lu.e:=by
 refine dW [Yx.e] ⟨ayo,⟨⟩⟩ aki λd g names f=>show Lu.goal (ahM d g names f) (d,g,names,f,())fromλt J=>?_
 obtain⟨C,O,K,w,r⟩:d.length<=g.length/\names.length<=1000/\0<=f/\f<=1/\∀x∈g,0<=x.1/\x.1<=1000000:=J;refine bQ (λi(c:Int)=>((c,i,()),())) (λy=>y.1.2.1) (λ_ _=>rfl) names.length fC (λn c=>∀B,c<=B↔0<=B/\∀x∈names.take n,0<=bn d x.1->Sp.lv g (bn d x.1).toNat+f<=B) (λB=>ni) (λI P n c H E next=>?_) λI P c E=>?_
 .dsimp only;rw[aQs];have e:=Sp.take_succ' names n ([],()) H;refine dH fC ⟨⟨fC,fC⟩,trivial,af (λh=>?_) λh=>⟨rfl,next _ λB=>?_⟩⟩
  .have h:0<=bn d (names.getD n ([],())).1:=rU h;have u:=Pe h;have U:=r _ (ajx (l:=g) (i:=(bn d (names.getD n ([],())).1).toNat) fC);have o:IntKind.i64.wrap (Sp.lv g (bn d (names.getD n ([],())).1).toNat+f)=Sp.lv g (bn d (names.getD n ([],())).1).toNat+f:=eH _ fC;have m:(g.getD (bn d (names.getD n ([],())).1).toNat (0,())).1=Sp.lv g (bn d (names.getD n ([],())).1).toNat:=rfl;refine⟨⟨h,fC⟩,rfl,next _ λB=>?_⟩;rw[m,o,e];simp only[aQM,aQR];have:=E B
   grind
  .rw[E B,e];simp only[aQM,aQR]
   grind
 .dsimp only;refine gU fC (congrArg (·,()) ?_);rw[aQK]at E;have j:=λB=>(E B).trans (QY (d:=d) (aS:=g) (more:=f) names B).symm;have a:=(j c).1 (aQN _);have b:=(j (Ei d g f names)).2 (aQN _);omega
theorem axm{i:Nat}(D:i<d.length){r:Sp.LS}(hr:iE r (iZ (dh d i).2.1 neg)){p:Nat}(J:p<r.length)(l:0<=bn d (r.getD p ([],())).1):
 (i,(bn d (r.getD p ([],())).1).toNat,if neg then 1 else 0)∈fO d:=by
 have b:=getD_mem (d:=(([]:List UInt8),())) J;have:=(hr.2 (r.getD p ([],())).1).1 b
 grind [H9]
theorem aaM{i j m:Nat}{r:Sp.LS}(hr:iE r (iZ (dh d i).2.1 neg))(g:(i,j,m)∈fO d)(b:m=if neg then 1 else 0):
 ∃p,p<r.length/\0<=bn d (r.getD p ([],())).1/\j=(bn d (r.getD p ([],())).1).toNat:=by
 obtain⟨_,s,O,K,x⟩:=H9.1 g;have Y:s∈iZ (dh d i).2.1 neg:=by
  grind
 have b:=(hr.2 s).2 Y;obtain⟨p,J,e⟩:=aQQ b;have f:r.getD p ([],())=(s,()):=jv
 grind
theorem aGT:∀x,(zL.F x).1->∃t,(zL.F x).2 t:=by rintro⟨d,aS,_⟩ hp;obtain⟨_,_,K,b⟩:aK d/\d.length<=5/\aS.length=d.length/\∀x∈aS,0<=x.1/\x.1<=1000000:=hp;obtain⟨r,hr⟩:=aCj d aS K λi D=>(b _ (ajx fC)).1;exact⟨((r,()),()),hr⟩
theorem aoC:OK zL.e:=by
 refine eP [Kr.e,zK.e,Kq.e] ⟨afR,Qy,afP,⟨⟩⟩ atg (aGT) λd j=>show zL.goal (apT d j) (d,j,())fromλB J=>?_
 dsimp only[zL]at J ⊢;delta apT Aw aj bJ fV mX;obtain⟨C,O,K,X⟩:aK d/\d.length<=5/\j.length=d.length/\∀x∈j,0<=x.1/\x.1<=1000000:=J;have l:∀i,i<d.length->0<=Sp.lv j i/\Sp.lv j i<=1000000:=λi D=>X _ (ajx fC);have Y:∀i,i<d.length->Sp.lv j i<=1000000:=λi D=>(l i D).2;refine⟨o6,?_⟩;refine bQ (λi(x:List (Int×Unit))=>((i,()),x,())) (λy=>y.1.1) (λ_ _=>rfl) d.length fC (λi Q=>Uw d j Q (1000*i) λe=>e∈fO d/\e.1<i) ((Uw.start K).weaken fC λe g=>fC) (λI P i Q D E next=>?_) λI P Q E=>?_
 .dsimp only;rw[aQs];refine dH fC ⟨⟨fC,fC⟩,yC C D,?_⟩;rintro⟨⟨r,⟨⟩⟩,⟨⟩⟩ hr;have hr:iE r (iZ (dh d i).2.1 false):=hr;have Z:r.length<=1000:=hr.1;refine bQ (λi(x:List (Int×Unit))=>((i,()),x,())) (λy=>y.1.1) (λ_ _=>rfl) r.length fC (λp Q=>Uw d j Q (1000*i) λe=>e∈fO d/\(e.1<i\/(e.1=i/\e.2.2=0/\∃f,f<p/\e.2.1=(bn d (r.getD f ([],())).1).toNat/\0<=bn d (r.getD f ([],())).1))) (E.weaken (aQN _) λe g=>⟨g.1,fC⟩) (λR F p Q J E t=>?_) λR F Q E=>?_
  .dsimp only;rw[aQs];have W:=E.len;have u:∀e:Nat×Nat×Nat,(e∈fO d/\(e.1<i\/(e.1=i/\e.2.2=0/\∃f,f<p+1/\e.2.1=(bn d (r.getD f ([],())).1).toNat/\0<=bn d (r.getD f ([],())).1)))->
    (e∈fO d/\(e.1<i\/(e.1=i/\e.2.2=0/\∃f,f<p/\e.2.1=(bn d (r.getD f ([],())).1).toNat/\0<=bn d (r.getD f ([],())).1)))\/(e=(i,(bn d (r.getD p ([],())).1).toNat,0)/\0<=bn d (r.getD p ([],())).1):=by
    grind
   refine dH fC ⟨⟨fC,fC⟩,trivial,af (λh=>?_) λh=>⟨rfl,t _ (E.weaken (aQN _) λe g=>?_)⟩⟩
   .have h:0<=bn d (r.getD p ([],())).1:=rU h;have A:=Pe h;have g:=axm D hr J h;refine⟨⟨h,fC⟩,fC,⟨fC,fC⟩,fC,af (λN=>⟨⟨h,fC⟩,fC,⟨fC,fC⟩,fC,rfl,t _ ?_⟩) λN=>⟨rfl,t _ ?_⟩⟩
    .have N:Sp.lv Q i<Sp.lv Q (bn d (r.getD p ([],())).1).toNat:=rU N;have:=E.set g fC;have T:Sp.lv Q (bn d (r.getD p ([],())).1).toNat+((if false=true then 1 else 0:Nat):Int)=Sp.lv Q (bn d (r.getD p ([],())).1).toNat:=jv;rw[T]at this;exact this.weaken fC λe g=>(u e g).imp_right λh=>h.1
    .have N:¬Sp.lv Q i<Sp.lv Q (bn d (r.getD p ([],())).1).toNat:=Tf N;have:=E.still g jv;exact this.weaken (aQN _) λe g=>(u e g).imp_right λh=>h.1
   grind
  .dsimp only;have z:Uw d j Q (1000*i) λe=>e∈fO d/\(e.1<i\/(e.1=i/\e.2.2=0)):=E.weaken (aQN _) λe g=>⟨g.1,g.2.imp_right λh=>⟨h.1,h.2,by
    grind [aaM]⟩⟩
   clear E;refine gU fC ⟨⟨fC,fC⟩,yC C D,?_⟩;rintro⟨⟨r2,⟨⟩⟩,⟨⟩⟩ m;have m:iE r2 (iZ (dh d i).2.1 true):=m;have M:r2.length<=1000:=m.1;refine bQ (λi(x:List (Int×Unit))=>((i,()),x,())) (λy=>y.1.1) (λ_ _=>rfl) r2.length fC (λp Q=>Uw d j Q (1000*i+p) λe=>e∈fO d/\(e.1<i\/(e.1=i/\e.2.2=0)\/(e.1=i/\e.2.2=1/\∃f,f<p/\e.2.1=(bn d (r2.getD f ([],())).1).toNat/\0<=bn d (r2.getD f ([],())).1))) (z.weaken fC λe g=>⟨g.1,by rcases g.2 with h|h|⟨_,_,_,h,_⟩;exact .inl h;exact .inr h;omega⟩) (λS H p Q J E w=>?_) λS H Q E=>?_
   .dsimp only;rw[aQs];have W:=E.len;have u:∀e:Nat×Nat×Nat,(e∈fO d/\(e.1<i\/(e.1=i/\e.2.2=0)\/(e.1=i/\e.2.2=1/\∃f,f<p+1/\e.2.1=(bn d (r2.getD f ([],())).1).toNat/\0<=bn d (r2.getD f ([],())).1)))->
     (e∈fO d/\(e.1<i\/(e.1=i/\e.2.2=0)\/(e.1=i/\e.2.2=1/\∃f,f<p/\e.2.1=(bn d (r2.getD f ([],())).1).toNat/\0<=bn d (r2.getD f ([],())).1)))\/(e=(i,(bn d (r2.getD p ([],())).1).toNat,1)/\0<=bn d (r2.getD p ([],())).1):=by
     rintro⟨a,b,c⟩ ⟨g,h|h|⟨h,h5,f,h6,h7,h8⟩⟩
     · grind
     · grind
     grind
    refine dH fC ⟨⟨fC,fC⟩,trivial,af (λh=>?_) λh=>⟨rfl,w _ (E.weaken fC λe g=>?_)⟩⟩
    .have h:0<=bn d (r2.getD p ([],())).1:=rU h;have A:=Pe h;have g:=axm D m J h;have hg:=E.grow 1000000 Y (bn d (r2.getD p ([],())).1).toNat fC;have hu:=E.up (bn d (r2.getD p ([],())).1).toNat fC;have hz:=(l (bn d (r2.getD p ([],())).1).toNat fC).1;have o:IntKind.i64.wrap (Sp.lv Q (bn d (r2.getD p ([],())).1).toNat+1)=Sp.lv Q (bn d (r2.getD p ([],())).1).toNat+1:=eH _ fC;have U:(Q.getD (bn d (r2.getD p ([],())).1).toNat (0,())).1=Sp.lv Q (bn d (r2.getD p ([],())).1).toNat:=rfl;rw[U,o];refine⟨⟨h,fC⟩,fC,⟨fC,fC⟩,fC,af (λN=>⟨⟨h,fC⟩,fC,⟨fC,fC⟩,fC,rfl,w _ ?_⟩) λN=>⟨rfl,w _ ?_⟩⟩
     .have N:Sp.lv Q i<Sp.lv Q (bn d (r2.getD p ([],())).1).toNat+1:=rU N;have:=E.set g jv;exact this.weaken jv λe g=>(u e g).imp_right λh=>h.1
     .have N:¬Sp.lv Q i<Sp.lv Q (bn d (r2.getD p ([],())).1).toNat+1:=Tf N;have:=E.still g jv;exact this.weaken fC λe g=>(u e g).imp_right λh=>h.1
    grind
   .dsimp only;refine gU fC ⟨rfl,next _ (E.weaken fC λe g=>⟨g.1,?_⟩)⟩;obtain⟨a,b,c⟩:=e;obtain⟨g,h⟩:=g;have h:a<i+1:=h;rcases aQE a i with L|L
    .exact .inl L
    .have:a=i:=fC;subst this;obtain⟨_,_,N⟩:=rV d _ g
     grind [aaM]
 .dsimp only;refine gU fC ?_;exact E.raised fC (λe g=>⟨g,(rV d e g).1⟩) λi D=>(l i D).1
end Go.Proofs.Tryz
