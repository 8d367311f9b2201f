import Derived.Test.YthkihdfanbmegaaGreatDoorP1
import Derived.Test.YthkihdfanbmegaaGreatDoorV3
import Derived.Test.YthkihdfanbmegaaGreatDoorSp
import Derived.Test.YthkihdfanbmegaaGreatDoorV4
import Derived.Test.YthkihdfanbmegaaGreatDoorV6
import Derived.Test.YthkihdfanbmegaaGreatDoorV7
import Derived.Test.YthkihdfanbmegaaGreatDoorV5
import Derived.Test.YthkihdfanbmegaaGreatDoorV8
import Derived.Test.YthkihdfanbmegaaGreatDoorV9
namespace Go.Proofs.Tryz
open Go Go.Fw Go.IntWalk Sp
theorem Oc:OK yD.e:=by refine PA.ok mixed (aA [] trivial) H0 (by kernel_rfl) (show∀x0 x1 p10,yD.goal (adb x0 x1 p10) ((x0,x1,()),(p10,()),())from ?_);intro x0 x1 p hin hp;dsimp only[yD]at hp ⊢;exact rfl
theorem L6{d:List aN}{s:Sp.Bytes}{n:Nat}(hn:n<d.length)(h1:(dM d n).1=s)(h2:∀i,i<n->(dM d i).1≠s):aJ d s=n:=by
 rcases Dy d s with⟨_,h⟩|⟨m,g1,g2,g3,g4⟩
 .exact(h _ (getD_mem (d:=(([]:List UInt8),([]:List bM),())) hn) h1).elim
 .have:m=n:=by
   rcases atE m n with h|h|h
   .exact(h2 m h g3).elim
   .exact h
   .exact(g4 n h h1).elim
  rw[g2,this]
theorem ahQ{d:List aN}{s:Sp.Bytes}(h2:∀i,i<d.length->(dM d i).1≠s):aJ d s=-1:=by
 rcases Dy d s with⟨h,_⟩|⟨m,g1,_,g3,_⟩
 .exact h
 .exact(h2 m g1 g3).elim
theorem zf:OK ig.e:=by
 refine PA.ok mixed (aA [yD.e] ⟨Oc,trivial⟩) zi (by kernel_rfl) (show∀s lF,ig.goal (zh s lF) (s,((lF,()),()),())from ?_);intro d s hin hp;dsimp only[ig]at hp ⊢;have hlen:d.length<=maxLen:=hin.1.1;rw[maxLen_eq]at hlen;refine iJ d.length hlen (λn=>∀i,i<n->(dM d i).1≠s) (λi hi=>by omega) (λI μ n hn hJ next=>?_) λI μ hJ=>?_
 .dsimp only;refine dG (by omega) ⟨⟨by omega,by omega⟩,trivial,af (λh=>?_) λh=>⟨rfl,next λi hi=>?_⟩⟩
  .rw[L6 hn (arA.1 h) hJ]
  .rcases arH i n with h'|h'
   .exact hJ i h'
   .have:i=n:=by omega
    rw[this];exact arn.1 h
 .dsimp only;refine dH (by omega) ?_;rw[ahQ hJ]
theorem agc:OK FU.e:=by refine PA.ok mixed (aA [ig.e,yD.e] ⟨zf,Oc,trivial⟩) H0 (by kernel_rfl) (show∀d name,FU.goal (agd d name) (d,name,())from ?_);intro d s hin hp;dsimp only[FU]at hp ⊢;exact⟨trivial,rfl⟩
theorem aaN:OK Bz.e:=by
 refine PA.ok mixed (aA [] trivial) ade (by kernel_rfl) (show∀d name,Bz.goal (aaO d name) (d,name,())from ?_);intro d s hin hp;dsimp only[Bz]at hp ⊢;have hlen:d.length<=maxLen:=hin.1.1;rw[maxLen_eq]at hlen;refine iJ d.length hlen (λn=>∀i,i<n->(dM d i).1≠s) (λi hi=>by omega) (λI μ n hn hJ next=>?_) λI μ hJ=>?_
 .dsimp only;refine dG (by omega) ⟨⟨by omega,by omega⟩,af (λh=>?_) λh=>⟨rfl,next λi hi=>?_⟩⟩
  .rw[L6 hn (arA.1 h) hJ]
  .rcases arH i n with h'|h'
   .exact hJ i h'
   .have:i=n:=by omega
    rw[this];exact arn.1 h
 .dsimp only;refine dH (by omega) ?_;rw[ahQ hJ]
theorem Ua:OK wC.e:=by
 refine PA.ok mixed (aA [FU.e] ⟨agc,trivial⟩) Xf (by kernel_rfl) (show∀d G6 names more,wC.goal (UO d G6 names more) (d,G6,names,more,())from ?_);intro d ay names more hin hp;dsimp only[wC]at hp ⊢;obtain⟨h1,h2,h3,h4,h5⟩:d.length<=ay.length/\names.length<=1000/\0<=more/\more<=1/\∀x∈ay,0<=x.1/\x.1<=1000000:=hp;refine eP (λi(c:Int)=>((c,i,()),())) (λy=>y.1.2.1) (λ_ _=>rfl) names.length (by omega) (λn c=>∀B,c<=B↔0<=B/\∀x∈names.take n,0<=aJ d x.1->Sp.lv ay (aJ d x.1).toNat+more<=B) (λB=>by simp) (λI μ n c hn hJ next=>?_) λI μ c hJ=>?_
 .dsimp only;rw[arI];have e:=Sp.take_succ' names n ([],()) hn;refine dG (by omega) ⟨⟨by omega,by omega⟩,trivial,af (λh=>?_) λh=>⟨rfl,next _ λB=>?_⟩⟩
  .have h:0<=aJ d (names.getD n ([],())).1:=fP h;have hlt:=IQ h;have hb:=h5 _ (Wi (l:=ay) (i:=(aJ d (names.getD n ([],())).1).toNat) (by omega));dsimp only at hb;have hw:IntKind.i64.wrap (Sp.lv ay (aJ d (names.getD n ([],())).1).toNat+more)=Sp.lv ay (aJ d (names.getD n ([],())).1).toNat+more:=fD _ (by omega);have e2:(ay.getD (aJ d (names.getD n ([],())).1).toNat (0,())).1=Sp.lv ay (aJ d (names.getD n ([],())).1).toNat:=rfl;refine⟨⟨h,by omega⟩,rfl,next _ λB=>?_⟩;rw[e2,hw,e];simp only[arW,asq];have:=hJ B;constructor
   .intro hB;have hc:c<=B:=by split at hB<;>omega
    have hv:Sp.lv ay (aJ d (names.getD n ([],())).1).toNat+more<=B:=by split at hB<;>omega
    obtain⟨a,b⟩:=this.1 hc;refine⟨a,λx hx hx0=>?_⟩;rcases hx with hx|rfl
    .exact b x hx hx0
    .exact hv
   .rintro⟨a,b⟩;have hc:=this.2 ⟨a,λx hx=>b x (.inl hx)⟩;have hv:=b _ (.inr rfl) h;split<;>omega
  .have h:¬0<=aJ d (names.getD n ([],())).1:=gV h;rw[hJ B,e];simp only[arW,asq];constructor
   .rintro⟨a,b⟩;refine⟨a,λx hx hx0=>?_⟩;rcases hx with hx|rfl
    .exact b x hx hx0
    .exact(h hx0).elim
   .exactλ⟨a,b⟩=>⟨a,λx hx=>b x (.inl hx)⟩
 .dsimp only;refine dH (by omega) (congrArg (·,()) ?_);rw[arZ]at hJ;have h6:=λB=>(hJ B).trans (FC (d:=d) (ay:=ay) (more:=more) names B).symm;have a:=(h6 c).1 (ar4 _);have b:=(h6 (wE d ay more names)).2 (ar4 _);omega
end Go.Proofs.Tryz
namespace Go.Proofs.Tryz
open Go Go.Fw Go.IntWalk Sp
theorem afA{d:List aN}{i:Nat}(hi:i<d.length){neg:Bool}{r:Sp.LS}(hr:iV r (eU (dM d i).2.1 neg)){p:Nat}(hp:p<r.length)(h0:0<=aJ d (r.getD p ([],())).1):
 (i,(aJ d (r.getD p ([],())).1).toNat,if neg then 1 else 0)∈dK d:=by
 have hm:=getD_mem (d:=(([]:List UInt8),())) hp;have:=(hr.2 (r.getD p ([],())).1).1 hm;cases neg with
 |false=>exact CB.2 ⟨hi,_,.inl ⟨rfl,this⟩,h0,rfl⟩
 |true=>exact CB.2 ⟨hi,_,.inr ⟨rfl,this⟩,h0,rfl⟩
theorem NY{d:List aN}{i j m:Nat}{neg:Bool}{r:Sp.LS}(hr:iV r (eU (dM d i).2.1 neg))(he:(i,j,m)∈dK d)(hm:m=if neg then 1 else 0):
 ∃p,p<r.length/\0<=aJ d (r.getD p ([],())).1/\j=(aJ d (r.getD p ([],())).1).toNat:=by
 obtain⟨_,s,h2,h3,h4⟩:=CB.1 he;have hs:s∈eU (dM d i).2.1 neg:=by
  cases neg with
  |false=>rcases h2 with⟨_,h⟩|⟨h,_⟩;exact h;simp at hm;omega
  |true=>rcases h2 with⟨h,_⟩|⟨_,h⟩;simp at hm;omega;exact h
 have hm:=(hr.2 s).2 hs;obtain⟨p,hp,e⟩:=asb hm;have e2:r.getD p ([],())=(s,()):=by rw[arp,ars hp,e];rfl
 exact⟨p,hp,by rw[e2];exact h3,by rw[e2];exact h4⟩
theorem alR:∀x,(qY.F x).1->∃t,(qY.F x).2 t:=by rintro⟨d,ay,_⟩ hp;obtain⟨_,_,h3,h4⟩:aX d/\d.length<=5/\ay.length=d.length/\∀x∈ay,0<=x.1/\x.1<=1000000:=hp;obtain⟨r,hr⟩:=aiF d ay h3 λi hi=>(h4 _ (Wi (by omega))).1;exact⟨((r,()),()),hr⟩
theorem Z4:OK qY.e:=by
 refine XA.ok mixed (aA [uX.e,Bz.e,uV.e] ⟨SX,aaN,SQ,trivial⟩) adf (alR) (by kernel_rfl) (show∀d ay,qY.goal (aaP d ay) (d,ay,())from ?_);intro d ay hin hp;dsimp only[qY]at hp ⊢;obtain⟨h1,h2,h3,h4⟩:aX d/\d.length<=5/\ay.length=d.length/\∀x∈ay,0<=x.1/\x.1<=1000000:=hp;have h0:∀i,i<d.length->0<=Sp.lv ay i/\Sp.lv ay i<=1000000:=λi hi=>h4 _ (Wi (by omega));have hB:∀i,i<d.length->Sp.lv ay i<=1000000:=λi hi=>(h0 i hi).2;refine⟨by rw[bW];omega,?_⟩;refine eP (λi(x:List (Int×Unit))=>((i,()),x,())) (λy=>y.1.1) (λ_ _=>rfl) d.length (by omega) (λi cur=>H7 d ay cur (1000*i) λe=>e∈dK d/\e.1<i) ((H7.start h3).weaken (by omega) λe he=>by have:=he.2;omega) (λI μ i cur hi hJ next=>?_) λI μ cur hJ=>?_
 .dsimp only;rw[arI];refine dG (by omega) ⟨⟨by omega,by omega⟩,uP h1 hi,?_⟩;rintro⟨⟨r,⟨⟩⟩,⟨⟩⟩ hr;have hr:iV r (eU (dM d i).2.1 false):=hr;have hrl:r.length<=1000:=hr.1;refine eP (λi(x:List (Int×Unit))=>((i,()),x,())) (λy=>y.1.1) (λ_ _=>rfl) r.length (by omega) (λp cur=>H7 d ay cur (1000*i) λe=>e∈dK d/\(e.1<i\/(e.1=i/\e.2.2=0/\∃p',p'<p/\e.2.1=(aJ d (r.getD p' ([],())).1).toNat/\0<=aJ d (r.getD p' ([],())).1))) (hJ.weaken (ar4 _) λe he=>⟨he.1,by rcases he.2 with h|⟨_,_,_,h,_⟩;exact h;omega⟩) (λI1 μ1 p cur hp hJ akx=>?_) λI1 μ1 cur hJ=>?_
  .dsimp only;rw[arI];have hl:=hJ.len;have hP:∀e:Nat×Nat×Nat,(e∈dK d/\(e.1<i\/(e.1=i/\e.2.2=0/\∃p',p'<p+1/\e.2.1=(aJ d (r.getD p' ([],())).1).toNat/\0<=aJ d (r.getD p' ([],())).1)))->
    (e∈dK d/\(e.1<i\/(e.1=i/\e.2.2=0/\∃p',p'<p/\e.2.1=(aJ d (r.getD p' ([],())).1).toNat/\0<=aJ d (r.getD p' ([],())).1)))\/(e=(i,(aJ d (r.getD p ([],())).1).toNat,0)/\0<=aJ d (r.getD p ([],())).1):=by
    rintro⟨a,b,c⟩ ⟨he,h|⟨h,h5,p',h6,h7,h8⟩⟩
    .exact .inl ⟨he,.inl h⟩
    .by_cases hpp:p'=p
     .subst hpp;have h:a=i:=h;have h5:c=0:=h5;have h7:b=(aJ d (r.getD p' ([],())).1).toNat:=h7;exact .inr ⟨by rw[h,h5,h7],h8⟩
     .exact .inl ⟨he,.inr ⟨h,h5,p',by omega,h7,h8⟩⟩
   refine dG (by omega) ⟨⟨by omega,by omega⟩,trivial,af (λh=>?_) λh=>⟨rfl,akx _ (hJ.weaken (ar4 _) λe he=>?_)⟩⟩
   .have h:0<=aJ d (r.getD p ([],())).1:=fP h;have hlt:=IQ h;have he:=afA hi hr hp h;refine⟨⟨h,by omega⟩,by omega,⟨by omega,by omega⟩,by omega,af (λhc=>⟨⟨h,by omega⟩,by omega,⟨by omega,by omega⟩,by omega,rfl,akx _ ?_⟩) λhc=>⟨rfl,akx _ ?_⟩⟩
    .have hc:Sp.lv cur i<Sp.lv cur (aJ d (r.getD p ([],())).1).toNat:=fP hc;have:=hJ.set he (by show _<_+((0:Nat):Int);omega);have e0:Sp.lv cur (aJ d (r.getD p ([],())).1).toNat+((if false=true then 1 else 0:Nat):Int)=Sp.lv cur (aJ d (r.getD p ([],())).1).toNat:=by show _+((0:Nat):Int)=_;omega
     rw[e0]at this;exact this.weaken (by show 1000*(i:Int)+((0:Nat):Int)<=_;omega) λe he=>(hP e he).imp_right λh=>h.1
    .have hc:¬Sp.lv cur i<Sp.lv cur (aJ d (r.getD p ([],())).1).toNat:=gV hc;have:=hJ.still he (by show _+((0:Nat):Int)<=_;omega);exact this.weaken (ar4 _) λe he=>(hP e he).imp_right λh=>h.1
   .have h:¬0<=aJ d (r.getD p ([],())).1:=gV h;rcases hP e he with h'|h'
    .exact h'
    .exact(h h'.2).elim
  .dsimp only;have hJ2:H7 d ay cur (1000*i) λe=>e∈dK d/\(e.1<i\/(e.1=i/\e.2.2=0)):=hJ.weaken (ar4 _) λe he=>⟨he.1,he.2.imp_right λh=>⟨h.1,h.2,by obtain⟨a,b,c⟩:=e;obtain⟨he,_⟩:=he;obtain⟨h,h5⟩:=h;have h:a=i:=h;have h5:c=0:=h5;subst h h5;obtain⟨p,q1,q2,q3⟩:=NY hr he rfl;exact⟨p,q1,q3,q2⟩⟩⟩;clear hJ;refine dH (by omega) ⟨⟨by omega,by omega⟩,uP h1 hi,?_⟩;rintro⟨⟨r2,⟨⟩⟩,⟨⟩⟩ hr2;have hr2:iV r2 (eU (dM d i).2.1 true):=hr2;have hrl2:r2.length<=1000:=hr2.1;refine eP (λi(x:List (Int×Unit))=>((i,()),x,())) (λy=>y.1.1) (λ_ _=>rfl) r2.length (by omega) (λp cur=>H7 d ay cur (1000*i+p) λe=>e∈dK d/\(e.1<i\/(e.1=i/\e.2.2=0)\/(e.1=i/\e.2.2=1/\∃p',p'<p/\e.2.1=(aJ d (r2.getD p' ([],())).1).toNat/\0<=aJ d (r2.getD p' ([],())).1))) (hJ2.weaken (by omega) λe he=>⟨he.1,by rcases he.2 with h|h|⟨_,_,_,h,_⟩;exact .inl h;exact .inr h;omega⟩) (λI2 μ2 p cur hp hJ aky=>?_) λI2 μ2 cur hJ=>?_
   .dsimp only;rw[arI];have hl:=hJ.len;have hP:∀e:Nat×Nat×Nat,(e∈dK d/\(e.1<i\/(e.1=i/\e.2.2=0)\/(e.1=i/\e.2.2=1/\∃p',p'<p+1/\e.2.1=(aJ d (r2.getD p' ([],())).1).toNat/\0<=aJ d (r2.getD p' ([],())).1)))->
     (e∈dK d/\(e.1<i\/(e.1=i/\e.2.2=0)\/(e.1=i/\e.2.2=1/\∃p',p'<p/\e.2.1=(aJ d (r2.getD p' ([],())).1).toNat/\0<=aJ d (r2.getD p' ([],())).1)))\/(e=(i,(aJ d (r2.getD p ([],())).1).toNat,1)/\0<=aJ d (r2.getD p ([],())).1):=by
     rintro⟨a,b,c⟩ ⟨he,h|h|⟨h,h5,p',h6,h7,h8⟩⟩
     .exact .inl ⟨he,.inl h⟩
     .exact .inl ⟨he,.inr (.inl h)⟩
     .by_cases hpp:p'=p
      .subst hpp;have h:a=i:=h;have h5:c=1:=h5;have h7:b=(aJ d (r2.getD p' ([],())).1).toNat:=h7;exact .inr ⟨by rw[h,h5,h7],h8⟩
      .exact .inl ⟨he,.inr (.inr ⟨h,h5,p',by omega,h7,h8⟩)⟩
    refine dG (by omega) ⟨⟨by omega,by omega⟩,trivial,af (λh=>?_) λh=>⟨rfl,aky _ (hJ.weaken (by omega) λe he=>?_)⟩⟩
    .have h:0<=aJ d (r2.getD p ([],())).1:=fP h;have hlt:=IQ h;have he:=afA hi hr2 hp h;have hg:=hJ.grow 1000000 hB (aJ d (r2.getD p ([],())).1).toNat (by omega);have hu:=hJ.up (aJ d (r2.getD p ([],())).1).toNat (by omega);have hz:=(h0 (aJ d (r2.getD p ([],())).1).toNat (by omega)).1;have hw:IntKind.i64.wrap (Sp.lv cur (aJ d (r2.getD p ([],())).1).toNat+1)=Sp.lv cur (aJ d (r2.getD p ([],())).1).toNat+1:=fD _ (by omega);have e2:(cur.getD (aJ d (r2.getD p ([],())).1).toNat (0,())).1=Sp.lv cur (aJ d (r2.getD p ([],())).1).toNat:=rfl;rw[e2,hw];refine⟨⟨h,by omega⟩,by omega,⟨by omega,by omega⟩,by omega,af (λhc=>⟨⟨h,by omega⟩,by omega,⟨by omega,by omega⟩,by omega,rfl,aky _ ?_⟩) λhc=>⟨rfl,aky _ ?_⟩⟩
     .have hc:Sp.lv cur i<Sp.lv cur (aJ d (r2.getD p ([],())).1).toNat+1:=fP hc;have:=hJ.set he (by show _<_+((1:Nat):Int);omega);exact this.weaken (by show 1000*(i:Int)+p+((1:Nat):Int)<=_;omega) λe he=>(hP e he).imp_right λh=>h.1
     .have hc:¬Sp.lv cur i<Sp.lv cur (aJ d (r2.getD p ([],())).1).toNat+1:=gV hc;have:=hJ.still he (by show _+((1:Nat):Int)<=_;omega);exact this.weaken (by omega) λe he=>(hP e he).imp_right λh=>h.1
    .have h:¬0<=aJ d (r2.getD p ([],())).1:=gV h;rcases hP e he with h'|h'
     .exact h'
     .exact(h h'.2).elim
   .dsimp only;refine dH (by omega) ⟨rfl,next _ (hJ.weaken (by omega) λe he=>⟨he.1,?_⟩)⟩;obtain⟨a,b,c⟩:=e;obtain⟨he,h⟩:=he;have h:a<i+1:=h;rcases arH a i with h'|h'
    .exact .inl h'
    .have:a=i:=by omega
     subst this;obtain⟨_,_,hc⟩:=jX d _ he;have hc:c<=1:=hc;rcases ati c with hc0|hc0
     .exact .inr (.inl ⟨rfl,hc0⟩)
     .have hc1:c=1:=by omega
      subst hc1;obtain⟨p,q1,q2,q3⟩:=NY hr2 he rfl;exact .inr (.inr ⟨rfl,rfl,p,q1,q3,q2⟩)
 .dsimp only;refine dH (by omega) ?_;exact hJ.raised (by omega) (λe he=>⟨he,(jX d e he).1⟩) λi hi=>(h0 i hi).1
end Go.Proofs.Tryz
namespace Go.Proofs.Tryz
open Go Go.Fw Go.IntWalk Sp
theorem VX{d:List aN}{ay r:List (Int×Unit)}(h:Sp.raised d ay r)(h0:∀i,i<d.length->0<=Sp.lv ay i)(hp:iH (dK d) λi=>(Sp.lv ay i).toNat):∀i,i<d.length->Sp.lv r i=Sp.lv ay i:=by obtain⟨_,h2,_,_,h5⟩:=h;intro i hi;have a:Sp.lv ay i<=Sp.lv r i:=h2 i hi;have b:Sp.lv r i<=((Sp.lv ay i).toNat:Int):=h5 _ hp (λj hj=>by have:=h0 j hj;show Sp.lv ay j<=((Sp.lv ay j).toNat:Int);omega) i hi;have:=h0 i hi;omega
theorem ahB{d:List aN}{ay r:List (Int×Unit)}(h:Sp.raised d ay r)(hp:¬iH (dK d) λi=>(Sp.lv ay i).toNat):∃i,i<d.length/\Sp.lv ay i<Sp.lv r i:=by obtain⟨_,h2,_,h4,_⟩:=h;refine ar7 λhno=>hp (h4 λi hi=>?_);have a:Sp.lv ay i<=Sp.lv r i:=h2 i hi;have b:¬Sp.lv ay i<Sp.lv r i:=λh=>hno ⟨i,hi,h⟩;show Sp.lv r i=Sp.lv ay i;omega
theorem afs{d:List aN}(h1:gy d=true){L:Nat->Nat}(h2:iH (dK d) L):au d=true:=lD.2 ⟨h1,L,h2⟩
theorem ahC{d:List aN}(h:∀M,iH (dK d) M->(∀i,i<d.length->M i<d.length)->False):au d=false:=by rw[atn];intro h1;obtain⟨_,h2⟩:=lD.1 h1;obtain⟨M,h3,h4⟩:=Mc (jX d) h2;exact h M h3 h4
theorem aft{d:List aN}(h:gy d=false):au d=false:=by rw[atn];intro h1;rw[(lD.1 h1).1]at h;cases h
theorem Qi(n i:Nat):Sp.lv (List.replicate n (0,())) i=0:=by
 unfold Sp.lv;rw[arp];by_cases h:i<n
 .rw[att,if_pos h];rfl
 .rw[asi (by simp;omega)];rfl
theorem Rz{d:List aN}(h:au d=true):∃s,jL d s:=by obtain⟨hok,h2⟩:=lD.1 h;exact akl (Mc (jX d) h2)
theorem ab2{d:List aN}:∃s:List (Int×Unit),(au d=true->jL d s)/\(au d=false->s=[]):=by
 cases h:au d with
 |true=>obtain⟨s,hs⟩:=Rz h;exact⟨s,λ_=>hs,λh=>by cases h⟩
 |false=>exact⟨[],λh=>(by cases h),λ_=>rfl⟩
theorem Dv:OK rO.e:=by
 refine XA.ok mixed (aA [qi.e,qY.e,wu.e] ⟨BM,Z4,TY,trivial⟩) afZ (λ⟨d,_⟩ hp=>by obtain⟨s,h1,h2⟩:=ab2 (d:=d);exact⟨(((s,au d,()),())),⟨rfl,h1,h2⟩⟩) (by kernel_rfl) (show∀d,rO.goal (aeb d) (d,())from ?_);intro d hin hp;dsimp only[rO]at hp ⊢;have hp:aX d:=hp;refine⟨hp,af (λh=>⟨(aft (fK h)).symm,λh=>(by cases h),λ_=>rfl⟩) λh=>?_⟩;have hok:=cZ h;have hlen:=RD hok;refine⟨⟨by omega,by omega,by rw[bW];omega⟩,?_⟩;have hnn:d.length*d.length<=25:=au2 hlen hlen;have e1:(d.length:Int)*(d.length:Int)=((d.length*d.length:Nat):Int):=by simp
 have w:IntKind.i64.wrap (IntKind.i64.wrap ((d.length:Int)*(d.length:Int))+1)=((d.length*d.length:Nat):Int)+1:=by rw[e1,fD ((d.length*d.length:Nat):Int) (by omega)];exact fD _ (by omega)
 rw[w];have hmem:∀ay:List (Int×Unit),ay.length=d.length->∀k:Nat,k<=27->(∀i,i<d.length->0<=Sp.lv ay i/\Sp.lv ay i<=5000*k)->∀x∈ay,0<=x.1/\x.1<=1000000:=λay hl k hk h=>
  ahD (p:=λz=>0<=z/\z<=1000000) λi hi=>by have:=h i (by omega);omega
 refine eP (λi(x:List (Int×Unit))=>((x,i,()),())) (λy=>y.1.2.1) (λ_ _=>rfl) (d.length*d.length+2) (by omega)
  (λk ay=>ay.length=d.length/\(∀i,i<d.length->0<=Sp.lv ay i/\Sp.lv ay i<=5000*k)/\(∀M,iH (dK d) M->∀i,i<d.length->Sp.lv ay i<=M i)/\((iH (dK d) λi=>(Sp.lv ay i).toNat)\/(k:Int)<=wZ ay d.length))
  ⟨by simp,λi hi=>by rw[arI,Qi];omega,λM hM i hi=>by rw[arI,Qi];omega,.inr (VY _ λi hi=>by rw[arI,Qi];omega)⟩ (λI μ k ay hk hJ next=>?_) λI μ ay hJ=>?_
 .obtain⟨g1,g2,g3,g4⟩:=hJ;dsimp only;refine dG (by omega) ⟨⟨hp,hlen,g1,hmem ay g1 k (by omega) g2⟩,?_⟩;rintro⟨⟨r,⟨⟩⟩,⟨⟩⟩ hr;have hr:Sp.raised d ay r:=hr;have hr':=hr;obtain⟨q1,q2,q3,q4,q5⟩:=hr';have hup:∀i,i<d.length->Sp.lv ay i<=Sp.lv r i:=q2;refine⟨rfl,next r ⟨q1,λi hi=>?_,λM hM i hi=>q5 M hM (g3 M hM) i hi,?_⟩⟩
  .have a:=hup i hi;have b:=q3 (5000*k) (λj hj=>(g2 j hj).2) i hi;have b:Sp.lv r i<=5000*k+5000:=b;have c:=g2 i hi;omega
  .by_cases hpf:iH (dK d) λi=>(Sp.lv ay i).toNat
   .left;have hs:=VX hr (λi hi=>(g2 i hi).1) hpf;intro e he;have:=hpf e he;obtain⟨a,b,_⟩:=jX d e he;dsimp only at this ⊢;rw[hs _ a,hs _ b];exact this
   .right;have hm:=Z5 d.length hup (ahB hr hpf);rcases g4 with g4|g4
    .exact(hpf g4).elim
    .omega
 .obtain⟨g1,g2,g3,g4⟩:=hJ;dsimp only;refine dH (by omega) ⟨⟨hp,hlen,g1,hmem ay g1 _ (by omega) g2⟩,?_⟩;rintro⟨⟨r,⟨⟩⟩,⟨⟩⟩ hr;have hr:Sp.raised d ay r:=hr;refine⟨trivial,af (λhne=>?_) λhe=>?_⟩
  .have hne:¬r=ay:=gV (fK hne);refine⟨(ahC λM hM hb=>?_).symm,λh=>(by cases h),λ_=>rfl⟩;rcases g4 with g4|g4
   .exact hne (alA (by rw[hr.1,g1]) λi hi=>VX hr (λi hi=>(g2 i hi).1) g4 i (by rw[← hr.1];exact hi))
   .have:=OH (a:=ay) (b:=d.length) d.length λi hi=>by have a:=g3 M hM i hi;have b:=hb i hi;omega
    omega
  .have he:r=ay:=fP (cZ he);subst he;have hpf:=hr.2.2.2.1 λi hi=>rfl;obtain⟨M,hM,hb⟩:=Mc (jX d) ⟨_,hpf⟩;exact⟨(afs hok hpf).symm,λ_=>⟨g1,λi hi=>⟨(g2 i hi).1,by have a:=g3 M hM i hi;have b:=hb i hi;omega⟩,hpf,g3⟩,λh=>by cases h⟩
theorem Qj:OK Ah.e:=by
 refine XA.ok mixed (aA [uU.e,wC.e,uT.e,wz.e] ⟨RG,Ua,RH,Ub,trivial⟩) af0 (λ⟨d,_⟩ hp=>by obtain⟨s,h1,h2⟩:=ab2 (d:=d);exact⟨(((s,au d,()),())),⟨rfl,h1⟩⟩) (by kernel_rfl) (show∀d,Ah.goal (aec d) (d,())from ?_);intro d hin hp;dsimp only[Ah]at hp ⊢;have hp:aX d:=hp;refine⟨hp,af (λh=>⟨(aft (fK h)).symm,λh=>by cases h⟩) λh=>?_⟩;have hok:=cZ h;have hlen:=RD hok;refine⟨⟨by omega,by omega,by rw[bW];omega⟩,?_⟩;have hmem:∀ay:List (Int×Unit),ay.length=d.length->(∀i,i<d.length->0<=Sp.lv ay i/\Sp.lv ay i<=d.length)->∀x∈ay,0<=x.1/\x.1<=1000000:=λay hl h=>
  ahD (p:=λz=>0<=z/\z<=1000000) λi hi=>by have:=h i (by omega);omega
 refine⟨λy=>y.2.1.length=d.length/\(∀i,i<d.length->0<=Sp.lv y.2.1 i/\Sp.lv y.2.1 i<=d.length)/\(∀M,iH (dK d) M->∀i,i<d.length->Sp.lv y.2.1 i<=M i)/\(y.1.1=false->iH (dK d) λi=>(Sp.lv y.2.1 i).toNat),
  λy=>(((d.length*d.length:Nat):Int)-wZ y.2.1 d.length).toNat*2+(if y.1.1=true then 1 else 0),⟨by simp,λi hi=>by rw[arI,Qi];omega,λM hM i hi=>by rw[arI,Qi];omega,λh=>by cases h⟩,?_⟩
 rintro⟨⟨ch,⟨⟩⟩,ay,⟨⟩⟩ ⟨g1,g2,g3,g4⟩;dsimp only at g1 g2 g3 g4 ⊢;refine af (λhch=>?_) λhch=>⟨(afs hok (g4 hch)).symm,λ_=>⟨g1,g2,g4 hch,g3⟩⟩;subst hch;refine eP (λi(x:Bool×List (Int×Unit))=>((x.1,i,()),x.2,())) (λy=>y.1.2.1) (λ_ _=>rfl) d.length (by omega)
  (λi(x:Bool×List (Int×Unit))=>x.2.length=d.length/\(∀i,i<d.length->Sp.lv ay i<=Sp.lv x.2 i/\Sp.lv x.2 i<=d.length)/\(∀M,iH (dK d) M->∀i,i<d.length->Sp.lv x.2 i<=M i)/\
    (x.1=true->wZ ay d.length<wZ x.2 d.length)/\(x.1=false->x.2=ay/\∀e∈dK d,e.1<i->Sp.lv ay e.2.1+e.2.2<=Sp.lv ay e.1))
  (s0:=(false,ay)) ⟨g1,λi hi=>⟨ar4 _,(g2 i hi).2⟩,g3,λh=>(by cases h),λ_=>⟨rfl,λe _ h=>by omega⟩⟩ (λI μ i x hi hJ next=>?_) λI μ x hJ=>?_
 .obtain⟨c,cur⟩:=x;obtain⟨q1,q2,q3,q4,q5⟩:=hJ;have q1:cur.length=d.length:=q1;have hcur:∀i,i<d.length->0<=Sp.lv cur i/\Sp.lv cur i<=d.length:=λi hi=>⟨Int.le_trans (g2 i hi).1 (q2 i hi).1,(q2 i hi).2⟩;have hm:=hmem cur q1 hcur;dsimp only;rw[arI];refine dG (by omega) ⟨⟨by omega,by omega⟩,uP hp hi,?_⟩;rintro⟨⟨r4,⟨⟩⟩,⟨⟩⟩ hr4;have hr4:iV r4 (eU (dM d i).2.1 false):=hr4;refine⟨⟨by omega,hr4.1,by omega,by omega,hm⟩,uP hp hi,?_⟩;rintro⟨⟨r6,⟨⟩⟩,⟨⟩⟩ hr6;have hr6:iV r6 (eU (dM d i).2.1 true):=hr6;refine⟨⟨by omega,hr6.1,by omega,by omega,hm⟩,?_⟩;dsimp only;have hle:∀M,iH (dK d) M->wE d cur 0 r4<=M i/\wE d cur 1 r6<=M i:=by
   intro M hM;refine⟨(FC r4 _).2 ⟨by omega,λx hx h0=>?_⟩,(FC r6 _).2 ⟨by omega,λx hx h0=>?_⟩⟩
   .have he:=CB.2 ⟨hi,x.1,.inl ⟨rfl,(hr4.2 x.1).1 hx⟩,h0,rfl⟩;have a:=hM _ he;have a:M (aJ d x.1).toNat+0<=M i:=a;have b:=q3 M hM _ (jX d _ he).2.1;have b:Sp.lv cur (aJ d x.1).toNat<=M (aJ d x.1).toNat:=b;omega
   .have he:=CB.2 ⟨hi,x.1,.inr ⟨rfl,(hr6.2 x.1).1 hx⟩,h0,rfl⟩;have a:=hM _ he;have a:M (aJ d x.1).toNat+1<=M i:=a;have b:=q3 M hM _ (jX d _ he).2.1;have b:Sp.lv cur (aJ d x.1).toNat<=M (aJ d x.1).toNat:=b;omega
  have hge:∀e∈dK d,e.1=i->Sp.lv cur e.2.1+e.2.2<=wE d cur 0 r4\/Sp.lv cur e.2.1+e.2.2<=wE d cur 1 r6:=by
   rintro⟨a,b,m⟩ he ha;have ha:a=i:=ha;subst ha;have hm1:m<=1:=(jX d _ he).2.2;rcases ati m with h|h
   .subst h;obtain⟨p,p1,p2,p3⟩:=NY hr4 he rfl;left;have:=((FC (d:=d) (ay:=cur) (more:=0) r4 _).1 (ar4 _)).2 _ (getD_mem (d:=(([]:List UInt8),())) p1) p2;show Sp.lv cur b+((0:Nat):Int)<=_;rw[p3];omega
   .have:m=1:=by omega
    subst this;obtain⟨p,p1,p2,p3⟩:=NY hr6 he rfl;right;have:=((FC (d:=d) (ay:=cur) (more:=1) r6 _).1 (ar4 _)).2 _ (getD_mem (d:=(([]:List UInt8),())) p1) p2;show Sp.lv cur b+((1:Nat):Int)<=_;rw[p3];omega
  generalize wE d cur 0 r4=u at hle hge ⊢;generalize wE d cur 1 r6=v at hle hge ⊢;have hv:∃z,(if v>u then v else u)=z/\u<=z/\v<=z/\(z=u\/z=v):=by refine⟨_,rfl,?_,?_,?_⟩<;>split<;>omega
  obtain⟨z,ez,hz1,hz2,hz3⟩:=hv;rw[ez];have e2:(cur.getD i (0,())).1=Sp.lv cur i:=rfl;rw[e2];refine af (λhbig=>?_) λhbig=>⟨⟨by omega,by omega⟩,by omega,af (λhup=>⟨⟨by omega,by omega⟩,by omega,rfl,next (true,cur.set i (z,())) ?_⟩) λhup=>⟨rfl,next (c,cur) ?_⟩⟩
  .have hbig:z>(d.length:Int):=fP hbig;refine⟨(ahC λM hM hb=>?_).symm,λh=>by cases h⟩;have a:=hle M hM;have b:=hb i hi;omega
  .have hbig:¬z>(d.length:Int):=gV hbig;have hup:z>Sp.lv cur i:=fP hup;have hs:=λk=>ahF (l:=cur) (i:=i) (by omega) z k;refine⟨by simp;omega,λk hk=>?_,λM hM k hk=>?_,λ_=>?_,λh=>by cases h⟩
   .dsimp only;rw[hs];have:=q2 k hk;dsimp only at this;split
    .next e=>subst e;omega
    .exact this
   .dsimp only;rw[hs];split
    .next e=>subst e;have:=hle M hM;omega
    .exact q3 M hM k hk
   .have a:=Z7 (a:=ay) (b:=cur) d.length λk hk=>(q2 k hk).1;have hsk:∀k,k<d.length->Sp.lv cur k<=Sp.lv (cur.set i (z,())) k:=λk hk=>by
     rw[hs];split
     .next e=>subst e;omega
     .exact ar4 _
    have b:=Z5 (a:=cur) (b:=cur.set i (z,())) d.length hsk ⟨i,hi,by rw[hs,if_pos rfl];omega⟩;show wZ ay d.length<wZ (cur.set i (z,())) d.length;omega
  .have hup:¬z>Sp.lv cur i:=gV hup;refine⟨q1,q2,q3,q4,λh=>?_⟩;obtain⟨a,b⟩:=q5 h;have a:cur=ay:=a;subst a;refine⟨rfl,λe he hlt=>?_⟩;rcases arH e.1 i with h'|h'
   .exact b e he h'
   .have PV:e.1=i:=by omega
    have:=hge e he PV;rw[PV];omega
 .obtain⟨c,cur⟩:=x;obtain⟨q1,q2,q3,q4,q5⟩:=hJ;dsimp only at q1 q2 q3 q4 q5 ⊢;have hcur:∀i,i<d.length->0<=Sp.lv cur i/\Sp.lv cur i<=d.length:=λi hi=>⟨Int.le_trans (g2 i hi).1 (q2 i hi).1,(q2 i hi).2⟩;have hsum:=OH (a:=cur) (b:=d.length) d.length λi hi=>(q2 i hi).2;refine dH (by omega) ⟨rfl,⟨q1,hcur,q3,λhc e he=>?_⟩,?_⟩
  .obtain⟨a,b⟩:=q5 hc;subst a;obtain⟨x1,x2,_⟩:=jX d e he;have:=b e he x1;have y1:=(hcur _ x1).1;have y2:=(hcur _ x2).1;dsimp only;omega
  .cases c with
   |true=>
    have:=q4 rfl;simp only[if_true];omega
   |false=>obtain⟨a,_⟩:=q5 rfl;subst a;simp
theorem RI:OK uY.e:=by refine PA.ok mixed (aA [rO.e] ⟨Dv,trivial⟩) H0 (by kernel_rfl) (show∀d,uY.goal (RJ d) (d,())from ?_);intro d hin hp;dsimp only[uY]at hp ⊢;refine⟨hp,λr hr=>?_⟩;exact atO hr.1 rfl
end Go.Proofs.Tryz
namespace Go.Proofs.Tryz
open Go Go.Fw Go.IntWalk Sp
theorem ab3:au [([100,97],[(1,0,0,[],0,0,[],())],())]=true:=lD.2 ⟨by kernel_rfl,λ_=>0,λe he=>by rw[show dK [([100,97],[(1,0,0,[],0,0,[],())],())]=[] by kernel_rfl]at he;cases he⟩
theorem ab4:OK CV.e:=by
 refine XA.ok mixed (aA [uY.e,yC.e] ⟨RI,NZ,trivial⟩) aed (λ_ _=>⟨(([([100,97],[(1,0,0,[],0,0,[],())],())],()),(([],0,0,()),())),⟨by decide,by decide,Gw zW (by simp) (by simp),ab3,by decide⟩⟩) (by kernel_rfl) (show∀c0 c1 c2,CV.goal (ab5 c0 c1 c2) ((c0,c1,c2,()),())from ?_);intro b i h hin hp;dsimp only[CV]at hp ⊢;have hp:0<=i:=hp;refine⟨hp,?_⟩;rintro⟨⟨d,_⟩,⟨b1,i1,h1,_⟩,_⟩ ⟨q1,q2,q3,q4⟩;dsimp only at q1 q2 q3 q4 ⊢;have fin:∀l:List aN,l.length<=4->aX l->(0<l.length->au l=true)->(bif (l.length:Int)==(0:Int)then 0<=i1/\([(([100,97]:List UInt8),[((1:Int),(0:Int),(0:Int),([]:List UInt8),(0:Int),(0:Int),([]:List UInt8),())],())]:List aN).length<=10/\aX [([100,97],[(1,0,0,[],0,0,[],())],())]/\au [([100,97],[(1,0,0,[],0,0,[],())],())]=true/\0<[(([100,97]:List UInt8),[((1:Int),(0:Int),(0:Int),([]:List UInt8),(0:Int),(0:Int),([]:List UInt8),())],())].length else 0<=i1/\l.length<=10/\aX l/\au l=true/\0<l.length):=λl hl hs hst=>
  af (λ_=>⟨q1,by simp,Gw zW (by simp) (by simp),ab3,by simp⟩) λh0=>have h1:0<l.length:=(by have h0:¬(l.length:Int)=0:=arn.1 h0;omega);⟨q1,by omega,hs,hst h1,h1⟩
 refine⟨λy=>y.1.1.length<=4/\aX y.1.1,λy=>y.1.1.length,⟨q3,q4⟩,?_⟩;rintro⟨⟨l,⟨⟩⟩,⟨⟩⟩ ⟨g1,g2⟩;dsimp only at g1 g2 ⊢;refine af (λhc=>⟨g2,af (λ_=>?_) λhst=>fin l g1 g2 λ_=>cZ hst⟩) λhc=>fin l g1 g2 λh=>(by have:=gV hc;omega);have hc:0<l.length:=by have:=fP hc;omega
 rw[uf hc (by omega),as4,arI];exact⟨⟨by omega,by omega⟩,rfl,⟨by rw[aro];omega,aiB _ g2⟩,by dsimp only;rw[aro];omega⟩
end Go.Proofs.Tryz
namespace Go.Proofs.Tryz
open Go Go.Fw Go.IntWalk Sp
theorem RN:∀{l:List aW}{n:Nat}{s:Sp.Bytes},n<l.length->(∀i,i<n->(bI l i).1≠s)->(bI l n).1=s->aF l s=(bI l n).2
 |[],n,_,h,_,_=>by simp at h
 |x::r,0,s,_,_,e=>by
  have e:x.1=s:=e;rw[aF,arA.2 e];rfl
 |x::r,n+1,s,h,hn,e=>by have h0:x.1≠s:=hn 0 (by omega);rw[aF,arn.2 h0];exact RN (l:=r) (by simpa using h) (λi hi=>hn (i+1) (by omega)) e
theorem Md:∀{l:List aW}{s:Sp.Bytes},(∀i,i<l.length->(bI l i).1≠s)->aF l s=(0,0,[],())
 |[],_,_=>rfl
 |x::r,s,h=>by have h0:x.1≠s:=h 0 (by simp);rw[aF,arn.2 h0];exact Md λi hi=>h (i+1) (by simpa using hi)
theorem Gx:OK qj.e:=by
 refine PA.ok mixed (aA [] trivial) aee (by kernel_rfl) (show∀f0 f1 f2 f3 f4 name,qj.goal (ab6 f0 f1 f2 f3 f4 name) ((f0,f1,f2,f3,f4,()),name,())from ?_);intro f0 f1 f2 f3 l s hin hp;dsimp only[qj]at hp ⊢;have hlen:l.length<=maxLen:=hin.1.2.2.2.2.1.1;rw[maxLen_eq]at hlen;refine iJ l.length hlen (λn=>∀i,i<n->(bI l i).1≠s) (λi hi=>by omega) (λI μ n hn hJ next=>?_) λI μ hJ=>?_
 .dsimp only;refine dG (by omega) ⟨⟨by omega,by omega⟩,af (λh=>?_) λh=>⟨rfl,next λi hi=>?_⟩⟩
  .exact congrArg (·,()) (RN hn hJ (arA.1 h)).symm
  .rcases arH i n with h'|h'
   .exact hJ i h'
   .have:i=n:=by omega
    rw[this];exact arn.1 h
 .dsimp only;exact dH (by omega) (congrArg (·,()) (Md hJ).symm)
theorem Gy:OK ql.e:=by
 refine PA.ok mixed (aA [] trivial) aef (by kernel_rfl) (show∀f0 f1 f2 f3 f4 name,ql.goal (ab7 f0 f1 f2 f3 f4 name) ((f0,f1,f2,f3,f4,()),name,())from ?_);intro f0 f1 f2 f3 l s hin hp;dsimp only[ql]at hp ⊢;have hlen:l.length<=maxLen:=hin.1.2.2.2.2.1.1;rw[maxLen_eq]at hlen;refine iJ l.length hlen (λn=>∀i,i<n->(bI l i).1≠s) (λi hi=>by omega) (λI μ n hn hJ next=>?_) λI μ hJ=>?_
 .dsimp only;refine dG (by omega) ⟨⟨by omega,by omega⟩,af (λh=>⟨⟨by omega,by omega⟩,?_⟩) λh=>⟨rfl,next λi hi=>?_⟩⟩
  .exact congrArg (·,()) (RN hn hJ (arA.1 h)).symm
  .rcases arH i n with h'|h'
   .exact hJ i h'
   .have:i=n:=by omega
    rw[this];exact arn.1 h
 .dsimp only;exact dH (by omega) (congrArg (·,()) (Md hJ).symm)
theorem ab8:OK yF.e:=by
 refine PA.ok mixed (aA [qj.e] ⟨Gx,trivial⟩) H0 (by kernel_rfl) (show∀f0 f1 f2 f3 f4 name,yF.goal (ab9 f0 f1 f2 f3 f4 name) ((f0,f1,f2,f3,f4,()),name,())from ?_);intro f0 f1 f2 f3 l s hin hp;dsimp only[yF]at hp ⊢;refine⟨trivial,?_⟩;cases h:((aF l s).1==1)with
 |true=>dsimp only[bne];rw[h];rfl
 |false=>dsimp only[bne];rw[h];rfl
theorem afu{α β:Type}[BEq β][LawfulBEq β](g:α->β)(v:β)(s:List α):Sp.findAt (λx=>v==g x) s=Sp.findAt (λx=>g x==v) s:=by
 congr 1
 funext x
 rw[arR,arA,arA];exact eq_comm
theorem Uc:OK wG.e:=by refine PA.ok mixed (aA [] trivial) VZ (by kernel_rfl) (show∀s v,wG.goal (Ud s v) (s,v,())from ?_);intro s v hin hp;dsimp only[wG]at hp ⊢;exact alB (K:=λr=>r=(Sp.findAt (λx=>x.1==v) s,())) (λx:Int×Unit=>v==x.1) (0,()) s _ hin.1.1 (by rw[afu])
theorem OI:OK qZ.e:=by refine PA.ok mixed (aA [] trivial) Qk (by kernel_rfl) (show∀s v,qZ.goal (OJ s v) (s,v,())from ?_);intro s v hin hp;dsimp only[qZ]at hp ⊢;exact alB (K:=λr=>r=(Sp.findAt (λx=>x.1==v) s,())) (λx:List UInt8×Unit=>v==x.1) ([],()) s _ hin.1.1 (by rw[afu])
theorem En:OK nV.e:=by refine PA.ok mixed (aA [wG.e] ⟨Uc,trivial⟩) H0 (by kernel_rfl) (show∀s v,nV.goal (OL s v) (s,v,())from ?_);intro s v hin hp;dsimp only[nV]at hp ⊢;exact⟨trivial,congrArg (·,()) (ahG _ s)⟩
theorem KD:OK oQ.e:=by refine PA.ok mixed (aA [qZ.e] ⟨OI,trivial⟩) H0 (by kernel_rfl) (show∀s v,oQ.goal (KE s v) (s,v,())from ?_);intro s v hin hp;dsimp only[oQ]at hp ⊢;exact⟨trivial,congrArg (·,()) (ahG _ s)⟩
theorem V3:OK rX.e:=by refine PA.ok mixed (aA [nV.e] ⟨En,trivial⟩) H0 (by kernel_rfl) (show∀ids id,rX.goal (V4 ids id) (ids,id,())from ?_);intro s v hin hp;dsimp only[rX]at hp ⊢;exact⟨trivial,rfl⟩
theorem Jg:OK o8.e:=by refine PA.ok mixed (aA [] trivial) X7 (by kernel_rfl) (show∀ids id,o8.goal (V5 ids id) (ids,id,())from ?_);intro s v hin hp;dsimp only[o8]at hp ⊢;exact aof (K:=λr=>r=(eF s v,())) (λx:Int×Unit=>x.1==v) (0,()) s _ hin.1.1 rfl
theorem Hu:OK qI.e:=by refine PA.ok mixed (aA [] trivial) V6 (by kernel_rfl) (show∀s,qI.goal (Ue s) (s,())from ?_);intro s hin hp;dsimp only[qI]at hp ⊢;have hp:s.length<=1000:=hp;intro g hg;refine af (λh=>?_) λh=>⟨by rw[bW];omega,rfl⟩;exact congrArg (·,()) (asr.1 (hg h)).symm
abbrev nM:dh:=([],[],())
theorem FD{r:List dh}(h:aY r){n:Nat}(hn:n<r.length):(r.getD n nM).2.1.length<=1000:=h.2 _ (getD_mem (d:=nM) hn)
theorem acd{r:List dh}{n:Nat}{s:Sp.Bytes}(hn:n<r.length)(hJ:∀i,i<n->(qE r i).1≠s)(e:(qE r n).1=s):eG r s=gZ r n:=by rw[← e];exact V7 hn λj hj=>by rw[e];exact hJ j hj
theorem DT:OK nN.e:=by
 refine PA.ok mixed (aA [qI.e] ⟨Hu,trivial⟩) Z8 (by kernel_rfl) (show∀DK name,nN.goal (X8 DK name) (DK,name,())from ?_);intro r s hin hp;dsimp only[nN]at hp ⊢;have hp:aY r:=hp;have hlen:r.length<=1000:=hp.1;refine iJ r.length (by omega) (λn=>∀i,i<n->(qE r i).1≠s) (λi hi=>by omega) (λI μ n hn hJ next=>?_) λI μ hJ=>?_
 .dsimp only;refine dG (by omega) ⟨⟨by omega,by omega⟩,af (λh=>⟨FD hp hn,?_⟩) λh=>⟨rfl,next λi hi=>?_⟩⟩
  .exact congrArg (·,()) (acd hn hJ (arA.1 h)).symm
  .rcases arH i n with h'|h'
   .exact hJ i h'
   .have:i=n:=by omega
    rw[this];exact arn.1 h
 .dsimp only;exact dH (by omega) (congrArg (·,()) (IC hJ).symm)
theorem DU:OK nO.e:=by
 refine PA.ok mixed (aA [] trivial) Z9 (by kernel_rfl) (show∀a name,nO.goal (X9 a name) (a,name,())from ?_);intro r s hin hp;dsimp only[nO]at hp ⊢;have hp:aY r:=hp;have hlen:r.length<=1000:=hp.1;refine iJ r.length (by omega) (λn=>∀i,i<n->(qE r i).1≠s) (λi hi=>by omega) (λI μ n hn hJ next=>?_) λI μ hJ=>?_
 .dsimp only;refine dG (by omega) ⟨⟨by omega,by omega⟩,af (λh=>⟨⟨by omega,by omega⟩,by have:(r.getD n ([],[],())).2.1.length<=1000:=FD hp hn;rw[bW,arI];omega,?_⟩) λh=>⟨rfl,next λi hi=>?_⟩⟩
  .exact congrArg (·,()) (acd hn hJ (arA.1 h)).symm
  .rcases arH i n with h'|h'
   .exact hJ i h'
   .have:i=n:=by omega
    rw[this];exact arn.1 h
 .dsimp only;exact dH (by omega) (congrArg (·,()) (IC hJ).symm)
theorem aac{q:List bM}{f:aI}{X:BX}{a:Nat}(h5:(Sp.nodeAt q a).1≠5)(h6:(Sp.nodeAt q a).1≠6)(h7:(Sp.nodeAt q a).1≠7):Sp.val q f X a=iZ (Sp.nodeAt q a) f X:=by rw[Ql,if_neg h5,if_neg h6,if_neg h7]
theorem ajd{q:List bM}{f:aI}{X:BX}{a:Nat}(h5:(Sp.nodeAt q a).1=5)(hl:(Sp.nodeAt q a).2.1.toNat<a):Sp.val q f X a=!Sp.val q f X (Sp.nodeAt q a).2.1.toNat:=by rw[Ql q f X a,if_pos h5,dif_pos hl]
theorem aje{q:List bM}{f:aI}{X:BX}{a:Nat}(h6:(Sp.nodeAt q a).1=6)(hl:(Sp.nodeAt q a).2.1.toNat<a/\(Sp.nodeAt q a).2.2.1.toNat<a):Sp.val q f X a=(Sp.val q f X (Sp.nodeAt q a).2.1.toNat&&Sp.val q f X (Sp.nodeAt q a).2.2.1.toNat):=by rw[Ql q f X a,if_neg (by omega),if_pos h6,dif_pos hl]
theorem alC{q:List bM}{f:aI}{X:BX}{a:Nat}(h7:(Sp.nodeAt q a).1=7)(hl:(Sp.nodeAt q a).2.1.toNat<a/\(Sp.nodeAt q a).2.2.1.toNat<a):Sp.val q f X a=(Sp.val q f X (Sp.nodeAt q a).2.1.toNat||Sp.val q f X (Sp.nodeAt q a).2.2.1.toNat):=by rw[Ql q f X a,if_neg (by omega),if_neg (by omega),if_pos h7,dif_pos hl]
theorem am7{n:bM}{f:aI}{X:BX}(h:n.1=2):iZ n f X=!((aF f.2.2.2.2.1 n.2.2.2.1).1==0):=by unfold iZ;rw[h];rfl
theorem am8{n:bM}{f:aI}{X:BX}(h:n.1=3):iZ n f X=decide (aF f.2.2.2.2.1 n.2.2.2.1=(n.2.2.2.2.1,n.2.2.2.2.2.1,n.2.2.2.2.2.2.1,())):=by unfold iZ;rw[h];rfl
theorem am9{n:bM}{f:aI}{X:BX}(h:n.1=4):iZ n f X=((aF f.2.2.2.2.1 n.2.2.2.1).1==1&&decide ((aF f.2.2.2.2.1 n.2.2.2.1).2.1<n.2.2.2.2.2.1)):=by unfold iZ;rw[h];rfl
theorem ana{n:bM}{f:aI}{X:BX}(h:n.1=8):iZ n f X=X n.2.2.2.1 f.1:=by unfold iZ;rw[h];rfl
theorem anb{n:bM}{f:aI}{X:BX}(h:n.1=9):iZ n f X=(!(f.2.2.2.1==0)&&X n.2.2.2.1 f.2.2.2.1):=by unfold iZ;rw[h];rfl
theorem anc{n:bM}{f:aI}{X:BX}(h2:n.1≠2)(h3:n.1≠3)(h4:n.1≠4)(h8:n.1≠8)(h9:n.1≠9):iZ n f X=true:=by unfold iZ;rw[arn.2 h2,arn.2 h3,arn.2 h4,arn.2 h8,arn.2 h9];rfl
theorem eq3(v w:qR):(v.1==w.1&&(v.2.1==w.2.1&&(v.2.2.1==w.2.2.1&&true)))=decide (v=w):=by rw[arR];simp[atj]
theorem Gz{x y z:Int}(h:x=y)(hne:y≠z):x≠z:=by rw[h];exact hne
theorem akm{n:bM}{a:Int}(h:jH n a=true):n.1=1\/n.1=2\/n.1=3\/n.1=4\/n.1=5\/n.1=6\/n.1=7\/n.1=8\/n.1=9:=by unfold jH at h;dsimp only at h;refine ar7 λhno=>?_;have e:∀k:Int,n.1≠k->(n.1==k)=false:=λk hk=>arn.2 hk;rw[e 1 (λh=>hno (by simp[h])),e 2 (λh=>hno (by simp[h])),e 3 (λh=>hno (by simp[h])),e 4 (λh=>hno (by simp[h])),e 5 (λh=>hno (by simp[h])),e 6 (λh=>hno (by simp[h])),e 7 (λh=>hno (by simp[h])),e 8 (λh=>hno (by simp[h])),e 9 (λh=>hno (by simp[h]))]at h;cases h
theorem Nb[qF](OM:nG prog G rD vI):nG prog G Em BU:=by
 refine Nc (aA [rX.e,nN.e,(rD,.pure vI),yF.e,qj.e] ⟨V3,DT,⟨OM,MX⟩,ab8,Gx,trivial⟩) ?_;intro q a f0 f1 f2 f3 f4 r hin hp;obtain⟨⟨hq,h0,h1,hr⟩,hm⟩:=hp;have ha:a.toNat<q.length:=by omega
 obtain⟨k1,k2⟩:=Me hq ha;have fin:∀z:Bool,Sp.val q (f0,f1,f2,f3,f4,()) (bg r) a.toNat=z->(z,())=(Sp.val q (f0,f1,f2,f3,f4,()) (bg r) a.toNat,()):=λz h=>by rw[h]
 have leaf:∀k:Int,k≠5->k≠6->k≠7->(Sp.nodeAt q a.toNat).1=k->Sp.val q (f0,f1,f2,f3,f4,()) (bg r) a.toNat=iZ (Sp.nodeAt q a.toNat) (f0,f1,f2,f3,f4,()) (bg r):=λk a b c h=>aac (Gz h a) (Gz h b) (Gz h c);have kid:∀k:Int,0<=k->k.toNat<a.toNat->(bF q=true/\0<=k/\k<(q.length:Int)/\aY r)/\k.toNat<qf:=λk h2 h3=>⟨⟨hq,h2,by omega,hr⟩,by omega⟩;refine⟨⟨h0,h1⟩,af (λh=>⟨trivial,fin _ ((leaf 2 (by decide) (by decide) (by decide) (arA.1 h)).trans (am7 (arA.1 h)))⟩) λh2=>af (λh=>⟨trivial,fin _ ((leaf 3 (by decide) (by decide) (by decide) (arA.1 h)).trans ((am8 (arA.1 h)).trans (eq3 _ _).symm))⟩) λh3=>af (λh=>⟨trivial,?_⟩) λh4=>af (λh=>?_) λh5=>af (λh=>?_) λh6=>af (λh=>?_) λh7=>af (λh=>⟨hr,trivial,fin _ ((leaf 8 (by decide) (by decide) (by decide) (arA.1 h)).trans (ana (arA.1 h)))⟩) λh8=>af (λh=>?_) λh9=>?_⟩
 .have e:=(leaf 4 (by decide) (by decide) (by decide) (arA.1 h)).trans (am9 (arA.1 h));dsimp only at e ⊢;refine af (λg=>fin _ (e.trans ?_)) λg=>fin _ (e.trans ?_)
  .unfold Sp.nodeAt;rw[g];rfl
  .unfold Sp.nodeAt;rw[g];rfl
 .have hk:=k1 (.inl (arA.1 h));exact⟨kid _ hk.1 hk.2,fin _ (ajd (arA.1 h) hk.2)⟩
 .have ht:ji (Sp.nodeAt q a.toNat)=true:=xg.2 (.inl (arA.1 h));have hk:=k1 (.inr ht);have hk2:=k2 ht;have e:=aje (f:=(f0,f1,f2,f3,f4,())) (X:=bg r) (arA.1 h) ⟨hk.2,hk2.2⟩;refine⟨kid _ hk.1 hk.2,af (λg=>⟨kid _ hk2.1 hk2.2,fin _ (e.trans ?_)⟩) λg=>fin _ (e.trans ?_)⟩
  .have g:Sp.val q (f0,f1,f2,f3,f4,()) (bg r) (Sp.nodeAt q a.toNat).2.1.toNat=true:=g;rw[g];rfl
  .have g:Sp.val q (f0,f1,f2,f3,f4,()) (bg r) (Sp.nodeAt q a.toNat).2.1.toNat=false:=g;rw[g];rfl
 .have ht:ji (Sp.nodeAt q a.toNat)=true:=xg.2 (.inr (arA.1 h));have hk:=k1 (.inr ht);have hk2:=k2 ht;have e:=alC (f:=(f0,f1,f2,f3,f4,())) (X:=bg r) (arA.1 h) ⟨hk.2,hk2.2⟩;refine⟨kid _ hk.1 hk.2,af (λg=>fin _ (e.trans ?_)) λg=>⟨kid _ hk2.1 hk2.2,fin _ (e.trans ?_)⟩⟩
  .have g:Sp.val q (f0,f1,f2,f3,f4,()) (bg r) (Sp.nodeAt q a.toNat).2.1.toNat=true:=g;rw[g];rfl
  .have g:Sp.val q (f0,f1,f2,f3,f4,()) (bg r) (Sp.nodeAt q a.toNat).2.1.toNat=false:=g;rw[g];rfl
 .have e:=(leaf 9 (by decide) (by decide) (by decide) (arA.1 h)).trans (anb (arA.1 h));refine af (λg=>⟨hr,trivial,fin _ (e.trans ?_)⟩) λg=>fin _ (e.trans ?_)
  .have g:(!(f3==0))=true:=g;dsimp only;rw[g];rfl
  .have g:(!(f3==0))=false:=g;dsimp only;rw[g];rfl
 .have n2:=arn.1 h2;have n3:=arn.1 h3;have n4:=arn.1 h4;have n8:=arn.1 h8;have n9:=arn.1 h9;exact fin _ ((aac (arn.1 h5) (arn.1 h6) (arn.1 h7)).trans (anc n2 n3 n4 n8 n9))
theorem Ya:nG prog G EX IY:=
 alc (λn=>@Fa ⟨n⟩) (λn=>@D8 ⟨n⟩) (by rintro⟨q,at',⟨i,o,s,l,a,⟨⟩⟩,r,⟨⟩⟩ h;exact auW _ h.2) (by rintro _ ⟨q,at',⟨i,o,s,l,a,⟨⟩⟩,r,⟨⟩⟩;rfl) (by rintro⟨q,at',⟨i,o,s,l,a,⟨⟩⟩,r,⟨⟩⟩ h;exact⟨_,h,auR _⟩) (by rintro _ ⟨q,at',⟨i,o,s,l,a,⟨⟩⟩,r,⟨⟩⟩;rfl) λn h=>@Nb ⟨n⟩ h
theorem Qm[qF](RP:nG prog G vz yG):nG prog G Gs Ea:=by
 refine Qn (aA [o8.e,nO.e,(vz,.pure yG),ql.e] ⟨Jg,DU,⟨RP,P5⟩,Gy,trivial⟩) ?_;intro q a f0 f1 f2 f3 f4 r hin hp;obtain⟨⟨hq,h0,h1,hr⟩,hm⟩:=hp;have ha:a.toNat<q.length:=by omega
 obtain⟨k1,k2⟩:=Me hq ha;have fin:∀z:Bool,Sp.val q (f0,f1,f2,f3,f4,()) (bg r) a.toNat=z->(z,())=(Sp.val q (f0,f1,f2,f3,f4,()) (bg r) a.toNat,()):=λz h=>by rw[h]
 have leaf:∀k:Int,k≠5->k≠6->k≠7->(Sp.nodeAt q a.toNat).1=k->Sp.val q (f0,f1,f2,f3,f4,()) (bg r) a.toNat=iZ (Sp.nodeAt q a.toNat) (f0,f1,f2,f3,f4,()) (bg r):=λk a b c h=>aac (Gz h a) (Gz h b) (Gz h c);have kid:∀k:Int,0<=k->k.toNat<a.toNat->(bF q=true/\0<=k/\k<(q.length:Int)/\aY r)/\k.toNat<qf:=λk h2 h3=>⟨⟨hq,h2,by omega,hr⟩,by omega⟩;refine⟨⟨h0,h1⟩,trivial,af (λh=>fin _ ((leaf 1 (by decide) (by decide) (by decide) (arA.1 h)).trans (anc (Gz (arA.1 h) (by decide)) (Gz (arA.1 h) (by decide)) (Gz (arA.1 h) (by decide)) (Gz (arA.1 h) (by decide)) (Gz (arA.1 h) (by decide))))) λh1=>af (λh=>fin _ ((leaf 2 (by decide) (by decide) (by decide) (arA.1 h)).trans (am7 (arA.1 h)))) λh2=>af (λh=>fin _ ((leaf 3 (by decide) (by decide) (by decide) (arA.1 h)).trans ((am8 (arA.1 h)).trans (eq3 _ _).symm))) λh3=>af (λh=>?_) λh4=>af (λh=>?_) λh5=>af (λh=>?_) λh6=>af (λh=>?_) λh7=>af (λh=>⟨hr,trivial,fin _ ((leaf 8 (by decide) (by decide) (by decide) (arA.1 h)).trans (ana (arA.1 h)))⟩) λh8=>?_⟩
 .have e:=(leaf 4 (by decide) (by decide) (by decide) (arA.1 h)).trans (am9 (arA.1 h));dsimp only at e ⊢;refine af (λg=>fin _ (e.trans ?_)) λg=>fin _ (e.trans ?_)
  .unfold Sp.nodeAt;rw[g];rfl
  .unfold Sp.nodeAt;rw[g];rfl
 .have hk:=k1 (.inl (arA.1 h));exact⟨kid _ hk.1 hk.2,fin _ (ajd (arA.1 h) hk.2)⟩
 .have ht:ji (Sp.nodeAt q a.toNat)=true:=xg.2 (.inl (arA.1 h));have hk:=k1 (.inr ht);have hk2:=k2 ht;have e:=aje (f:=(f0,f1,f2,f3,f4,())) (X:=bg r) (arA.1 h) ⟨hk.2,hk2.2⟩;refine⟨kid _ hk.1 hk.2,af (λg=>⟨kid _ hk2.1 hk2.2,fin _ (e.trans ?_)⟩) λg=>fin _ (e.trans ?_)⟩
  .have g:Sp.val q (f0,f1,f2,f3,f4,()) (bg r) (Sp.nodeAt q a.toNat).2.1.toNat=true:=g;rw[g];rfl
  .have g:Sp.val q (f0,f1,f2,f3,f4,()) (bg r) (Sp.nodeAt q a.toNat).2.1.toNat=false:=g;rw[g];rfl
 .have ht:ji (Sp.nodeAt q a.toNat)=true:=xg.2 (.inr (arA.1 h));have hk:=k1 (.inr ht);have hk2:=k2 ht;have e:=alC (f:=(f0,f1,f2,f3,f4,())) (X:=bg r) (arA.1 h) ⟨hk.2,hk2.2⟩;refine⟨kid _ hk.1 hk.2,af (λg=>fin _ (e.trans ?_)) λg=>⟨kid _ hk2.1 hk2.2,fin _ (e.trans ?_)⟩⟩
  .have g:Sp.val q (f0,f1,f2,f3,f4,()) (bg r) (Sp.nodeAt q a.toNat).2.1.toNat=true:=g;rw[g];rfl
  .have g:Sp.val q (f0,f1,f2,f3,f4,()) (bg r) (Sp.nodeAt q a.toNat).2.1.toNat=false:=g;rw[g];rfl
 .have n1:=arn.1 h1;have n2:=arn.1 h2;have n3:=arn.1 h3;have n4:=arn.1 h4;have n5:=arn.1 h5;have n6:=arn.1 h6;have n7:=arn.1 h7;have n8:=arn.1 h8;have h9:(Sp.nodeAt q a.toNat).1=9:=by
   rcases akm (MB hq ha).1 with h|h|h|h|h|h|h|h|h
   .exact(n1 h).elim
   .exact(n2 h).elim
   .exact(n3 h).elim
   .exact(n4 h).elim
   .exact(n5 h).elim
   .exact(n6 h).elim
   .exact(n7 h).elim
   .exact(n8 h).elim
   .exact h
  have e:=(leaf 9 (by decide) (by decide) (by decide) h9).trans (anb h9);refine af (λg=>⟨hr,trivial,fin _ (e.trans ?_)⟩) λg=>fin _ (e.trans ?_)
  .have g:(!(f3==0))=true:=g;dsimp only;rw[g];rfl
  .have g:(!(f3==0))=false:=g;dsimp only;rw[g];rfl
theorem ace:nG prog G Ii Lc:=
 alc (λn=>@Hl ⟨n⟩) (λn=>@FW ⟨n⟩) (by rintro⟨q,at',⟨i,o,s,l,a,⟨⟩⟩,r,⟨⟩⟩ h;exact auW _ h.2) (by rintro _ ⟨q,at',⟨i,o,s,l,a,⟨⟩⟩,r,⟨⟩⟩;rfl) (by rintro⟨q,at',⟨i,o,s,l,a,⟨⟩⟩,r,⟨⟩⟩ h;exact⟨_,h,auR _⟩) (by rintro _ ⟨q,at',⟨i,o,s,l,a,⟨⟩⟩,r,⟨⟩⟩;rfl) λn h=>@Qm ⟨n⟩ h
theorem acf:OK CY.e:=by
 refine PA.ok mixed (aA [(EX,.pure IY),mF.e] ⟨⟨Ya,VI⟩,zX,trivial⟩) H0 (by kernel_rfl) (show∀q f0 f1 f2 f3 f4 zu,CY.goal (acg q f0 f1 f2 f3 f4 zu) (q,(f0,f1,f2,f3,f4,()),zu,())from ?_);intro q f0 f1 f2 f3 f4 r hin hp;dsimp only[CY]at hp ⊢;obtain⟨h1,h2⟩:=hp;have e:∀z,bF q=z->lN q (f0,f1,f2,f3,f4,()) (bg r)=(z&&Sp.val q (f0,f1,f2,f3,f4,()) (bg r) (q.length-1)):=λz hz=>by unfold lN;rw[hz]
 refine⟨by omega,af (λh=>?_) λh=>?_⟩
 .have hl:=Sp.Eo h;rw[uf (by omega) (by omega)];refine⟨⟨h,by omega,by omega,h2⟩,?_⟩;rw[e _ h,arI];rfl
 .rw[e _ h];rfl
theorem ach:OK CZ.e:=by
 refine PA.ok mixed (aA [(Ii,.pure Lc),mD.e] ⟨⟨ace,ZC⟩,zY,trivial⟩) H0 (by kernel_rfl) (show∀q f0 f1 f2 f3 f4 a,CZ.goal (aci q f0 f1 f2 f3 f4 a) (q,(f0,f1,f2,f3,f4,()),a,())from ?_);intro q f0 f1 f2 f3 f4 r hin hp;dsimp only[CZ]at hp ⊢;obtain⟨h1,h2⟩:=hp;have e:∀z,bF q=z->lN q (f0,f1,f2,f3,f4,()) (bg r)=(z&&Sp.val q (f0,f1,f2,f3,f4,()) (bg r) (q.length-1)):=λz hz=>by unfold lN;rw[hz]
 refine⟨by omega,af (λh=>?_) λh=>?_⟩
 .have hl:=Sp.Eo h;rw[uf (by omega) (by omega)];refine⟨⟨h,by omega,by omega,h2⟩,?_⟩;rw[e _ h,arI];rfl
 .rw[e _ h];rfl
theorem Uf:OK wH.e:=by refine PA.ok mixed (aA [CY.e] ⟨acf,trivial⟩) V8 (by kernel_rfl) (show∀s0 s1 s2 q zu,wH.goal (Ug s0 s1 s2 q zu) ((s0,s1,s2,()),q,zu,())from ?_);intro s0 fs nx q r hin hp;dsimp only[wH]at hp ⊢;obtain⟨h1,h2,h3⟩:=hp;have hl:fs.length<=1000:=h1.2.1;exact aad (K:=λz=>z=(Sp.sel fs q (bg r),())) (λf=>lN q f (bg r)) (λf:aI=>(f.1,())) (0,0,false,0,[],()) fs _ (A:=λ_=>q.length<=1000/\aY r) (λ_ _=>⟨h2,h3⟩) (by omega) rfl
theorem Hw:OK qK.e:=by refine PA.ok mixed (aA [] trivial) V9 (by kernel_rfl) (show∀s1 s2,qK.goal (Uh s1 s2) (s1,s2,())from ?_);intro a b hin hp;dsimp only[qK]at hp ⊢;exact eqL (K:=λr=>r=(decide (a=b),())) (λx y:Int×Unit=>x.1 !=y.1) (λx y=>by simp[atj]) _ a b _ hin.1.1 rfl
theorem Ep:OK nX.e:=by
 refine PA.ok mixed (aA [qK.e] ⟨Hw,trivial⟩) H0 (by kernel_rfl) (show∀x0 x1 y0 y1,nX.goal (OO x0 x1 y0 y1) ((x0,x1,()),(y0,y1,()),())from ?_);intro a0 a1 b0 b1 hin hp;dsimp only[nX]at hp ⊢;refine af (λh0=>⟨trivial,?_⟩) λh0=>?_
 all_goals refine congrArg (·,()) (arR.2 ?_)
 .simp[arA.1 h0]
 .simp[show a0≠b0 by simpa using h0]
theorem nS:OK dP.e:=by refine PA.ok mixed (aA [nX.e] ⟨Ep,trivial⟩) oC (by kernel_rfl) (show∀s1 s2,dP.goal (nT s1 s2) (s1,s2,(()),())from ?_);intro a b hin hp;dsimp only[dP]at hp ⊢;exact amz (K:=λr=>r=(decide (a=b),())) (λx y=>!decide (x=y)) (λx y=>by simp) _ a b _ hin.1.1 rfl
theorem RQ:OK uZ.e:=by refine PA.ok mixed (aA [nX.e,dP.e] ⟨Ep,nS,trivial⟩) H0 (by kernel_rfl) (show∀a b,uZ.goal (RS a b) (a,b,())from ?_);intro a b hin hp;dsimp only[uZ]at hp ⊢;exact⟨trivial,rfl⟩
end Go.Proofs.Tryz
namespace Go.Proofs.Tryz
open Go Go.Fw Go.IntWalk Sp
theorem zZ{fs:List aI}{a:List dD}{nx:Int}{d:List aN}(r:List dh)(nm:Sp.Bytes->Bool):∃out,(au d&&ak (a,fs,nx,()))=true->gX fs d r nm out:=by
 by_cases h:(au d&&ak (a,fs,nx,()))=true
 .rw[ark]at h;obtain⟨ay,hl⟩:=Rz h.1;obtain⟨out,ho⟩:=RU r nm (lD.1 h.1).1 hl (ug h.2);exact⟨out,λ_=>ho⟩
 .exact⟨[],λh'=>(h h').elim⟩
abbrev DD0:aN:=([],[],())
theorem amA{a b:Int}(h:(a !=b)=false):a=b:=by simpa using h
theorem aae{α β:Type}(g:α->β)(d:α)(l:List α){n:Nat}(h:n<l.length):(l.take n).map g++[g (l.getD n d)]=(l.take (n+1)).map g:=by rw[Sp.take_succ' l n d h,asJ];rfl
theorem qU{d:List aN}(h:au d=true):gy d=true/\d.length<=5:=⟨(lD.1 h).1,RD (lD.1 h).1⟩
theorem still_at{d:List aN}{ay:List (Int×Unit)}{nm:Sp.Bytes->Bool}{fs:List aI}{out:List dh}{k:Nat}
 (h:∀j,j<d.length->j<d.length->nm (Sp.nameOf d j)=true->Sp.lv ay j=k->Sp.sel fs (fU d j) (bg out)=gZ out j):∀i,i<d.length->nm (Sp.nameOf d i)=true->Sp.lv ay i=k->Sp.sel fs (fU d i) (bg out)=gZ out i:=λi hi=>h i hi hi
theorem ahI:∀(l:List (Int×Unit)),0<l.length->∃m:Int,(∀x∈l,x.1<=m)/\(m,())∈l
 |[x],_=>⟨x.1,λy hy=>by rw[asq.1 hy];exact ar4 _,asq.2 rfl⟩
 |x::y::r,_=>by
  obtain⟨m,h1,h2⟩:=ahI (y::r) (by simp);by_cases h:x.1<=m
  .exact⟨m,λz hz=>by rcases arU.1 hz with rfl|hz;exact h;exact h1 z hz,arE _ h2⟩
  .exact⟨x.1,λz hz=>by rcases arU.1 hz with rfl|hz;exact ar4 _;have:=h1 z hz;omega,arC⟩
theorem Hy:OK qJ.e:=by
 refine PA.ok mixed (aA [CZ.e] ⟨ach,trivial⟩) Wh (by kernel_rfl) (show∀s0 s1 s2 q a,qJ.goal (Ui s0 s1 s2 q a) ((s0,s1,s2,()),q,a,())from ?_);intro s0 fs nx q r hin hp;dsimp only[qJ]at hp ⊢;obtain⟨h1,h2,h3⟩:=hp;have hl:fs.length<=1000:=h1.2.1;obtain⟨I,μ,g0,g1⟩:=aad (K:=λz=>z=(Sp.sel fs q (bg r),())) (λf=>lN q f (bg r)) (λf:aI=>(f.1,())) (0,0,false,0,[],()) fs (q,r,(s0,fs,nx,()),()) (A:=λ_=>q.length<=1000/\aY r) (λ_ _=>⟨h2,h3⟩) (by omega) rfl;refine⟨I,μ,g0,λy hy=>?_⟩;have h:=g1 y hy;dsimp only at h ⊢;revert h;cases decide (y.1.2.1<(fs.length:Int))with
 |false=>exact id
 |true=>
  rintro⟨b,a,h⟩;refine⟨b,a,?_⟩;revert h;cases lN q (fs.getD (Int.toNat y.1.2.1) (0,0,false,0,[],())) (bg r)with
  |true=>exactλh=>⟨b,h.1,rfl,h.2.2⟩
  |false=>exactλh=>⟨rfl,h.2⟩
theorem aeg:OK EG.e:=by refine PA.ok mixed (aA [] trivial) af2 (by kernel_rfl) (show∀list s,EG.goal (aeh list s) (list,s,())from ?_);intro l s hin hp;dsimp only[EG]at hp ⊢;exact aof (K:=λr=>r=(gm l s,())) (λx:List UInt8×Unit=>x.1==s) ([],()) l _ hin.1.1 rfl
theorem MC:OK wI.e:=by refine PA.ok mixed (aA [] trivial) acj (by kernel_rfl) (show∀d,wI.goal (aaf d) (d,())from ?_);intro d hin hp;dsimp only[wI]at hp ⊢;exact aog (K:=λr=>r=(iw d,())) (λx:aN=>(x.1,())) ([],[],()) d _ (by have hp:d.length<=1000:=hp;omega) rfl
theorem aag:OK BB.e:=by refine PA.ok mixed (aA [] trivial) ack (by kernel_rfl) (show∀d,BB.goal (aah d) (d,())from ?_);intro d hin hp;dsimp only[BB]at hp ⊢;exact aog (K:=λr=>r=(iw d,())) (λx:aN=>(x.1,())) ([],[],()) d _ (by have hp:d.length<=1000:=hp;omega) rfl
theorem RV:OK ve.e:=by
 refine PA.ok mixed (aA [qi.e] ⟨BM,trivial⟩) Uj (by kernel_rfl) (show∀a b,ve.goal (RX a b) (a,b,())from ?_);intro a b hin hp;dsimp only[ve]at hp ⊢;have hlen:a.length<=maxLen:=hin.1.1;rw[maxLen_eq]at hlen;refine af (λh=>?_) λh=>?_
 .have h:(a.length:Int)≠b.length:=by simpa using h
  exact congrArg (·,()) (arx λe=>h (by rw[e])).symm
 .have h:(a.length:Int)=b.length:=by simpa using h
  refine iJ a.length hlen (λn=>∀i,i<n->a.getD i nM=b.getD i nM) (λi hi=>by omega) (λI μ n hn hJ next=>?_) λI μ hJ=>(by dsimp only;exact dH (by omega) (by rw[aru (MF (by omega) hJ)]));dsimp only;have no:a.getD n nM≠b.getD n nM->(false,())=(decide (a=b),()):=λhne=>by rw[arx λe=>hne (by rw[e])]
  refine dG (by omega) ⟨⟨by omega,by omega⟩,⟨by omega,by omega⟩,af (λg=>no λe=>?_) λg=>⟨⟨by omega,by omega⟩,⟨by omega,by omega⟩,trivial,af (λg2=>no λe=>?_) λg2=>⟨rfl,next λi hi=>?_⟩⟩⟩
  .have g:¬(a.getD n nM).1=(b.getD n nM).1:=arn.1 (fK g);exact g (by rw[e])
  .have g2:¬(a.getD n nM).2.1=(b.getD n nM).2.1:=gV (fK g2);exact g2 (by rw[e])
  .rcases arH i n with h'|h'
   .exact hJ i h'
   .have:i=n:=by omega
    subst this;have g:(a.getD i nM).1=(b.getD i nM).1:=arA.1 (cZ g);have g2:(a.getD i nM).2.1=(b.getD i nM).2.1:=fP (cZ g2);exact atO g (atO g2 rfl)
theorem Yb:OK zG.e:=by
 refine XA.ok mixed (aA [] trivial) aai (λ⟨l,_⟩ hp=>by obtain⟨m,h⟩:=ahI l hp;exact⟨((m,()),()),h⟩) (by kernel_rfl) (show∀yS,zG.goal (Yc yS) (yS,())from ?_);intro l hin hp;dsimp only[zG]at hp ⊢;have hp:0<l.length:=hp;have hlen:l.length<=maxLen:=hin.1.1;rw[maxLen_eq]at hlen;refine⟨λ_=>True,af (λh=>by have:=fP h;omega) λh=>⟨rfl,trivial⟩,λ_ _=>⟨⟨by omega,by omega⟩,?_⟩⟩;refine⟨λy=>∃n:Nat,y.1.2.1=n/\1<=n/\n<=l.length/\(∀i,i<n->Sp.lv l i<=y.1.1)/\∃i,i<l.length/\Sp.lv l i=y.1.1,λy=>((l.length:Int)-y.1.2.1).toNat,⟨1,rfl,by omega,by omega,λi hi=>by rw[show i=0 by omega];exact ar4 _,0,hp,rfl⟩,?_⟩;rintro⟨⟨m,_,⟨⟩⟩,⟨⟩⟩ ⟨n,rfl,n1,n2,h1,h2⟩;dsimp only at h1 h2 ⊢;refine af (λhc=>?_) λhc=>⟨λx hx=>?_,?_⟩
 .have hc:=fP hc;have w:IntKind.i64.wrap ((n:Int)+1)=((n+1:Nat):Int):=fD _ (by omega);rw[w];have e:(l.getD (Int.toNat (n:Int)) (0,())).1=Sp.lv l n:=rfl;rw[e];refine⟨⟨by omega,by omega⟩,rfl,⟨n+1,rfl,by omega,by omega,λi hi=>?_,?_⟩,by omega⟩
  .by_cases hi':i=n
   .subst hi';split<;>omega
   .have:=h1 i (by omega);split<;>omega
  .split
   .exact⟨n,by omega,rfl⟩
   .exact h2
 .have hc:=gV hc;exact ahD (p:=λz=>z<=m) (λi hi=>h1 i (by omega)) x hx
 .obtain⟨i,hi,e⟩:=h2;have:=Wi hi;rw[e]at this;exact this
theorem Wj:OK xW.e:=by
 refine XA.ok mixed (aA [zG.e,Ah.e] ⟨Yb,Qj,trivial⟩) H0 (λ⟨d,_⟩ _=>⟨(((1000:Int),()),()),⟨ar4 _,λay hs hl i hi=>by have:=(hl.2.1 i hi).2;have:=(qU hs).2;show Sp.lv ay i<=1000;omega⟩⟩) (by kernel_rfl) (show∀d,xW.goal (Wl d) (d,())from ?_);intro d hin hp;dsimp only[xW]at hp ⊢;refine⟨hp,?_⟩;rintro⟨⟨ay,ok,⟨⟩⟩,⟨⟩⟩ ⟨e1,e2⟩;have e1:ok=au d:=e1;have e2:ok=true->jL d ay:=e2;refine af (λh=>?_) λh=>af (λh2=>?_) λh2=>⟨?_,?_⟩
 .have h:ok=false:=fK h;exact⟨by decide,λl hs=>by rw[← e1,h]at hs;cases hs⟩
 .have h2:(ay.length:Int)=0:=by simpa using h2
  have hl:=e2 (cZ h);exact⟨by decide,λl hs hl' i hi=>by have:=hl.1;omega⟩
 .have h2:¬(ay.length:Int)=0:=by simpa using h2
  show 0<ay.length;omega
 .rintro⟨⟨m,⟨⟩⟩,⟨⟩⟩ ⟨g1,g2⟩;have hl:=e2 (cZ h);have hlen:=(qU (e1▸cZ h)).2;have g2:(m,())∈ay:=g2;refine⟨?_,λl hs hl' i hi=>?_⟩
  .obtain⟨i,hi,e⟩:=asb g2;have hi':i<d.length:=by rw[← hl.1];exact hi
   have:=(hl.2.1 i hi').2;have e3:Sp.lv ay i=m:=by unfold Sp.lv;rw[arp,ars hi,e];rfl
   show m<=1000;omega
  .rw[Wn hl' hl];exact g1 _ (Wi (by rw[hl.1];exact hi))
theorem Jh:OK rY.e:=by
 refine XA.ok mixed (aA [rO.e] ⟨Dv,trivial⟩) Yd (λ⟨d,_⟩ _=>⟨(((1000:Int),()),()),⟨ar4 _,λay hs hl i hi=>by have:=(hl.2.1 i hi).2;have:=(qU hs).2;show Sp.lv ay i<=1000;omega⟩⟩) (by kernel_rfl) (show∀d,rY.goal (Wp d) (d,())from ?_);intro d hin hp;dsimp only[rY]at hp ⊢;refine⟨hp,?_⟩;rintro⟨⟨ay,ok,⟨⟩⟩,⟨⟩⟩ ⟨e1,e2,e3⟩;have e1:ok=au d:=e1;have e2:ok=true->jL d ay:=e2;have e3:ok=false->ay=[]:=e3;have hlen:ay.length<=5/\∀i,i<ay.length->Sp.lv ay i<=1000:=by
  cases hk:ok with
  |false=>rw[e3 hk];exact⟨by decide,λi hi=>by simp at hi⟩
  |true=>have hl:=e2 hk;have h5:=(qU (e1▸hk)).2;exact⟨by rw[hl.1];exact h5,λi hi=>by have:=(hl.2.1 i (by rw[← hl.1];exact hi)).2;omega⟩
 refine⟨λy=>∃n:Nat,y.1.2.1=n/\n<=ay.length/\y.1.1<=1000/\∀i,i<n->Sp.lv ay i<=y.1.1,λy=>((ay.length:Int)-y.1.2.1).toNat,⟨0,rfl,by omega,by decide,λi hi=>by omega⟩,?_⟩;rintro⟨⟨m,_,⟨⟩⟩,⟨⟩⟩ ⟨n,rfl,n2,hm,h1⟩;dsimp only at hm h1 ⊢;have e:(ay.getD (Int.toNat (n:Int)) (0,())).1=Sp.lv ay n:=rfl;rw[e];refine af (λhc=>?_) λhc=>?_
 .have hc:=fP hc;have w:IntKind.i64.wrap ((n:Int)+1)=((n+1:Nat):Int):=fD _ (by omega);rw[w];have ao0:=hlen.2 n (by omega);refine⟨⟨by omega,by omega⟩,af (λg=>⟨⟨by omega,by omega⟩,rfl,⟨n+1,rfl,by omega,ao0,λi hi=>?_⟩,by dsimp only;omega⟩) λg=>⟨rfl,⟨n+1,rfl,by omega,hm,λi hi=>?_⟩,by dsimp only;omega⟩⟩
  .have g:=fP g;by_cases hi':i=n
   .subst hi';exact ar4 _
   .have:=h1 i (by omega);dsimp only;omega
  .have g:=gV g;by_cases hi':i=n
   .subst hi';dsimp only;omega
   .exact h1 i (by omega)
 .have hc:=gV hc;refine⟨hm,λl hs hl' i hi=>?_⟩;have hl:=e2 (e1.trans hs);rw[Wn hl' hl];exact h1 i (by rw[← hl.1]at hi;omega)
theorem JO:OK uy.e:=by
 refine XA.ok mixed (aA [qK.e,wH.e,xW.e,nN.e,oQ.e,pV.e,Ah.e] ⟨Hw,Uf,Wj,DT,KD,Gv,Qj,trivial⟩) aaj (λ⟨(a,fs,nx,_),d,r,names,_⟩ _=>by obtain⟨out,h⟩:=zZ (fs:=fs) (a:=a) (nx:=nx) (d:=d) r (gm names);exact⟨(((out,0,(au d&&ak (a,fs,nx,())),()),())),⟨rfl,h⟩⟩) (by kernel_rfl) (show∀s0 s1 s2 d zu names,uy.goal (Ye s0 s1 s2 d zu names) ((s0,s1,s2,()),d,zu,names,())from ?_);intro a fs nx d r names hin hp;dsimp only[uy]at hp ⊢;obtain⟨hs,hd,hr⟩:aU (a,fs,nx,())/\aX d/\aY r:=hp;refine⟨hd,?_⟩;rintro⟨⟨ay,ok0,⟨⟩⟩,⟨⟩⟩ ⟨e1,e2⟩;have e1:ok0=au d:=e1;have e2:ok0=true->jL d ay:=e2;refine⟨λ_=>ok0=true/\ak (a,fs,nx,())=true,af (λh=>?_) λh=>⟨trivial,af (λh2=>?_) λh2=>⟨rfl,cZ h,cZ h2⟩⟩,?_⟩
 .have h:ok0=false:=fK h;have hz:(au d&&ak (a,fs,nx,()))=false:=by rw[← e1,h];rfl
  exact⟨hz.symm,λh=>by cases h⟩
 .have h2:ak (a,fs,nx,())=false:=fK h2;have hz:(au d&&ak (a,fs,nx,()))=false:=by rw[h2,ar9]
  exact⟨hz.symm,λh=>by cases h⟩
 rintro y3 ⟨hk,hst⟩;have CG:au d=true:=e1▸hk;have hz:(au d&&ak (a,fs,nx,()))=true:=by rw[CG,hst];rfl
 obtain⟨hok,hlen⟩:=qU CG;have hl:jL d ay:=e2 hk;have hf:=ug hst;have hf:Sp.distinct fs:=hf;have hfs:fs.length<=1000:=hs.2.1;refine eP (λi(x:List dh)=>(((),i,()),x,())) (λy=>y.1.2.1) (λ_ _=>rfl) d.length (by omega) (λn l=>l=(d.take n).map (pz r (gm names))) rfl (λI μ n l hn hJ next=>?_) λI μ l hJ=>?_
 .subst hJ;have hl:((d.take n).map (pz r (gm names))).length<=n:=by rw[arB,aro];omega
  have step:=aae (pz r (gm names)) DD0 d hn;dsimp only;refine dG (by omega) ⟨⟨by omega,by omega⟩,trivial,af (λh=>⟨hr,by rw[bW];simp only[arq,arw];omega,rfl,next _ ?_⟩) λh=>⟨by rw[bW];simp only[arq,arw];omega,rfl,next _ ?_⟩⟩
  .rw[← step];have h:gm names (d.getD n DD0).1=false:=fK h;unfold pz;rw[h];rfl
  .rw[← step];have h:gm names (d.getD n DD0).1=true:=cZ h;unfold pz;rw[h];rfl
 subst hJ;rw[arZ];dsimp only;refine dH (by omega) ⟨λy=>∃k:Nat,y.1.2.1=k/\mG fs d r (gm names) ay k y.2.1,λy=>(1002-y.1.2.1).toNat,⟨0,rfl,IE hok hl⟩,?_⟩;rintro⟨⟨ps,_,⟨⟩⟩,out,⟨⟩⟩ ⟨k,rfl,A⟩;dsimp only at A ⊢;refine⟨hd,?_⟩;rintro⟨⟨m,⟨⟩⟩,⟨⟩⟩ ⟨m1,m2⟩;have m1:m<=1000:=m1;have m2:∀i,i<d.length->Sp.lv ay i<=m:=m2 ay CG hl;refine af (λhc=>?_) λhc=>⟨hz.symm,λ_=>Sp.at_end hok hl A λi hi=>by have:=m2 i hi;have hc:¬(k:Int)<=m:=gV hc;omega⟩;have hc:(k:Int)<=m:=fP hc;refine⟨λy=>mG fs d r (gm names) ay k y.2.1/\(y.1.2.1=false->∀i,i<d.length->gm names (Sp.nameOf d i)=true->Sp.lv ay i=k->Sp.sel fs (fU d i) (bg y.2.1)=gZ y.2.1 i),λy=>Sp.room fs.length y.2.1*2+(if y.1.2.1=true then 1 else 0),⟨A,λh=>by cases h⟩,?_⟩;rintro⟨⟨ps2,ch,⟨⟩⟩,Wq,⟨⟩⟩ ⟨A2,st2⟩;dsimp only at A2 st2 ⊢;have wk:IntKind.i64.wrap ((k:Int)+1)=((k+1:Nat):Int):=fD _ (by omega);refine af (λhch=>?_) λhch=>⟨rfl,⟨k+1,wk,Sp.at_next hok A2 (st2 hch)⟩,by rw[wk];dsimp only;omega⟩;subst hch;refine eP (λi(x:Bool×List dh)=>((x.1,i,()),x.2,())) (λy=>y.1.2.1) (λ_ _=>rfl) d.length (by omega) (λi x=>Io fs d r (gm names) ay k Wq i x.1 x.2) (s0:=(false,Wq)) ⟨A2,λh=>(by cases h),λ_=>⟨rfl,λj hj=>by omega⟩⟩ (λI μ i x hi hJ next=>?_) λI μ x hJ=>?_
 .obtain⟨c,DV⟩:=x;have A3:=hJ.1;have ol:DV.length=d.length:=A3.order.1;have hsm:=OQ A3 (by omega) hfs hr;dsimp only;rw[arI];refine dG (by omega) ⟨⟨by omega,by omega⟩,⟨by omega,by rw[hl.1];omega⟩,af (λh=>⟨rfl,next (c,DV) (zx hJ λ_ h'=>?_)⟩) λh=>⟨trivial,af (λh2=>⟨rfl,next (c,DV) (zx hJ λh'=>?_)⟩) λh2=>⟨⟨hs,uP hd hi,hsm⟩,⟨by omega,by omega⟩,by omega,trivial,af (λh3=>⟨⟨by omega,by omega⟩,by omega,rfl,next (true,_) (aak hok hl hf hJ hi (cZ h2) ?_ ?_)⟩) λh3=>⟨rfl,next (c,DV) (zx hJ λ_ _=>?_)⟩⟩⟩⟩
  .exact(auL.1 h h').elim
  .have h2:gm names (Sp.nameOf d i)=false:=fK h2;rw[h2]at h';cases h'
  .exact amA h
  .exact gV (fK h3)
  .exact fP (cZ h3)
 .obtain⟨c,DV⟩:=x;dsimp only;obtain⟨A3,c1,c2⟩:=hJ;refine dH (by omega) ⟨rfl,⟨A3,λhc=>still_at (c2 hc).2⟩,?_⟩;cases c with
  |true=>have:=c1 rfl;dsimp only at this ⊢;simp only[if_true];omega
  |false=>have:=(c2 rfl).1;dsimp only at this ⊢;rw[this];simp
theorem Ws:OK xY.e:=by
 refine XA.ok mixed (aA [qi.e,qJ.e,rY.e,EG.e,nO.e,iT.e,rO.e] ⟨BM,Hy,Jh,aeg,DU,lC,Dv,trivial⟩) Yf (λ⟨(a,fs,nx,_),d,r,names,_⟩ _=>by obtain⟨out,h⟩:=zZ (fs:=fs) (a:=a) (nx:=nx) (d:=d) r (gm names);exact⟨(((out,(au d&&ak (a,fs,nx,())),()),())),⟨rfl,h⟩⟩) (by kernel_rfl) (show∀s0 s1 s2 d a names,xY.goal (Wu s0 s1 s2 d a names) ((s0,s1,s2,()),d,a,names,())from ?_);intro a fs nx d r names hin hp;dsimp only[xY]at hp ⊢;obtain⟨hs,hd,hr⟩:aU (a,fs,nx,())/\aX d/\aY r:=hp;refine⟨hd,?_⟩;rintro⟨⟨ay,ok0,⟨⟩⟩,⟨⟩⟩ ⟨e1,e2,_⟩;have e1:ok0=au d:=e1;have e2:ok0=true->jL d ay:=e2;refine⟨λ_=>ok0=true/\ak (a,fs,nx,())=true,af (λh=>?_) λh=>⟨trivial,af (λh2=>?_) λh2=>⟨rfl,cZ h,cZ h2⟩⟩,?_⟩
 .have h:ok0=false:=fK h;have hz:(au d&&ak (a,fs,nx,()))=false:=by rw[← e1,h];rfl
  exact⟨hz.symm,λh=>by cases h⟩
 .have h2:ak (a,fs,nx,())=false:=fK h2;have hz:(au d&&ak (a,fs,nx,()))=false:=by rw[h2,ar9]
  exact⟨hz.symm,λh=>by cases h⟩
 rintro y3 ⟨hk,hst⟩;have CG:au d=true:=e1▸hk;have hz:(au d&&ak (a,fs,nx,()))=true:=by rw[CG,hst];rfl
 obtain⟨hok,hlen⟩:=qU CG;have hl:jL d ay:=e2 hk;have hf:=ug hst;have hf:Sp.distinct fs:=hf;have hfs:fs.length<=1000:=hs.2.1;refine eP (λi(x:List dh)=>(((),i,()),x,())) (λy=>y.1.2.1) (λ_ _=>rfl) d.length (by omega) (λn l=>l=(d.take n).map (pz r (gm names))) rfl (λI μ n l hn hJ next=>?_) λI μ l hJ=>?_
 .subst hJ;have hl:((d.take n).map (pz r (gm names))).length<=n:=by rw[arB,aro];omega
  have step:=aae (pz r (gm names)) DD0 d hn;dsimp only;refine dG (by omega) ⟨⟨by omega,by omega⟩,⟨by omega,by omega⟩,hr,trivial,af (λh=>⟨by rw[bW];simp only[arq,arw];omega,rfl,next _ ?_⟩) λh=>⟨by rw[bW];simp only[arq,arw];omega,rfl,next _ ?_⟩⟩
  .rw[← step];have h:gm names (d.getD n DD0).1=true:=h;unfold pz;rw[h];rfl
  .rw[← step];have h:gm names (d.getD n DD0).1=false:=h;unfold pz;rw[h];rfl
 subst hJ;rw[arZ];dsimp only;refine dH (by omega) ⟨λy=>∃k:Nat,y.1.1=k/\mG fs d r (gm names) ay k y.2.1,λy=>(1002-y.1.1).toNat,⟨0,rfl,IE hok hl⟩,?_⟩;rintro⟨⟨_,⟨⟩⟩,out,⟨⟩⟩ ⟨k,rfl,A⟩;dsimp only at A ⊢;refine⟨hd,?_⟩;rintro⟨⟨m,⟨⟩⟩,⟨⟩⟩ ⟨m1,m2⟩;have m1:m<=1000:=m1;have m2:∀i,i<d.length->Sp.lv ay i<=m:=m2 ay CG hl;refine af (λhc=>?_) λhc=>⟨hz.symm,λ_=>Sp.at_end hok hl A λi hi=>by have:=m2 i hi;have hc:¬(k:Int)<=m:=gV hc;omega⟩;have hc:(k:Int)<=m:=fP hc;refine⟨λy=>mG fs d r (gm names) ay k y.2.1/\(y.1.1=false->∀i,i<d.length->gm names (Sp.nameOf d i)=true->Sp.lv ay i=k->Sp.sel fs (fU d i) (bg y.2.1)=gZ y.2.1 i),λy=>Sp.room fs.length y.2.1*2+(if y.1.1=true then 1 else 0),⟨A,λh=>by cases h⟩,?_⟩;rintro⟨⟨ch,⟨⟩⟩,Wq,⟨⟩⟩ ⟨A2,st2⟩;dsimp only at A2 st2 ⊢;have wk:IntKind.i64.wrap ((k:Int)+1)=((k+1:Nat):Int):=fD _ (by omega);refine af (λhch=>?_) λhch=>⟨rfl,⟨k+1,wk,Sp.at_next hok A2 (st2 hch)⟩,by rw[wk];dsimp only;omega⟩;subst hch;refine eP (λi(x:Bool×List dh)=>((x.1,i,()),x.2,())) (λy=>y.1.2.1) (λ_ _=>rfl) d.length (by omega) (λi x=>Io fs d r (gm names) ay k Wq i x.1 x.2) (s0:=(false,Wq)) ⟨A2,λh=>(by cases h),λ_=>⟨rfl,λj hj=>by omega⟩⟩ (λI μ i x hi hJ next=>?_) λI μ x hJ=>?_
 .obtain⟨c,DV⟩:=x;have A3:=hJ.1;have ol:DV.length=d.length:=A3.order.1;have hsm:=OQ A3 (by omega) hfs hr;dsimp only;rw[arI];refine dG (by omega) ⟨⟨by omega,by rw[hl.1];omega⟩,af (λh=>⟨rfl,next (c,DV) (zx hJ λ_ h'=>?_)⟩) λh=>⟨⟨by omega,by omega⟩,trivial,af (λh2=>⟨rfl,next (c,DV) (zx hJ λh'=>?_)⟩) λh2=>⟨⟨by omega,by omega⟩,⟨hs,uP hd hi,hsm⟩,⟨by omega,by omega⟩,by omega,trivial,af (λh3=>⟨⟨by omega,by omega⟩,by omega,rfl,next (true,_) (aak hok hl hf hJ hi (cZ h2) ?_ ?_)⟩) λh3=>⟨rfl,next (c,DV) (zx hJ λ_ _=>?_)⟩⟩⟩⟩
  .exact(auL.1 h h').elim
  .have h2:gm names (Sp.nameOf d i)=false:=fK h2;rw[h2]at h';cases h'
  .exact amA h
  .exact gV (fK h3)
  .exact fP (cZ h3)
 .obtain⟨c,DV⟩:=x;dsimp only;obtain⟨A3,c1,c2⟩:=hJ;refine dH (by omega) ⟨rfl,⟨A3,λhc=>still_at (c2 hc).2⟩,?_⟩;cases c with
  |true=>have:=c1 rfl;dsimp only at this ⊢;simp only[if_true];omega
  |false=>have:=(c2 rfl).1;dsimp only at this ⊢;rw[this];simp
theorem aei:OK EF.e:=by
 refine XA.ok mixed (aA [qi.e,qJ.e,rY.e,iT.e,rO.e] ⟨BM,Hy,Jh,lC,Dv,trivial⟩) af4 (λ⟨(a,fs,nx,_),d,_⟩ _=>by obtain⟨out,h⟩:=zZ (fs:=fs) (a:=a) (nx:=nx) (d:=d) [] (λ_=>true);exact⟨(((out,0,(au d&&ak (a,fs,nx,())),()),())),⟨rfl,h⟩⟩) (by kernel_rfl) (show∀s0 s1 s2 d,EF.goal (aej s0 s1 s2 d) ((s0,s1,s2,()),d,())from ?_);intro a fs nx d hin hp;dsimp only[EF]at hp ⊢;obtain⟨hs,hd⟩:aU (a,fs,nx,())/\aX d:=hp;have hr:aY []:=⟨by decide,λx hx=>by cases hx⟩;refine⟨hd,?_⟩;rintro⟨⟨ay,ok0,⟨⟩⟩,⟨⟩⟩ ⟨e1,e2,_⟩;have e1:ok0=au d:=e1;have e2:ok0=true->jL d ay:=e2;refine⟨λ_=>ok0=true/\ak (a,fs,nx,())=true,af (λh=>?_) λh=>⟨trivial,af (λh2=>?_) λh2=>⟨rfl,cZ h,cZ h2⟩⟩,?_⟩
 .have h:ok0=false:=fK h;have hz:(au d&&ak (a,fs,nx,()))=false:=by rw[← e1,h];rfl
  exact⟨hz.symm,λh=>by cases h⟩
 .have h2:ak (a,fs,nx,())=false:=fK h2;have hz:(au d&&ak (a,fs,nx,()))=false:=by rw[h2,ar9]
  exact⟨hz.symm,λh=>by cases h⟩
 rintro y3 ⟨hk,hst⟩;have CG:au d=true:=e1▸hk;have hz:(au d&&ak (a,fs,nx,()))=true:=by rw[CG,hst];rfl
 obtain⟨hok,hlen⟩:=qU CG;have hl:jL d ay:=e2 hk;have hf:=ug hst;have hf:Sp.distinct fs:=hf;have hfs:fs.length<=1000:=hs.2.1;refine eP (λi(x:List dh)=>(((),i,()),x,())) (λy=>y.1.2.1) (λ_ _=>rfl) d.length (by omega) (λn l=>l=(d.take n).map (pz [] (λ_=>true))) rfl (λI μ n l hn hJ next=>?_) λI μ l hJ=>?_
 .subst hJ;have hl:((d.take n).map (pz [] (λ_=>true))).length<=n:=by rw[arB,aro];omega
  have step:=aae (pz [] (λ_=>true)) DD0 d hn;dsimp only;refine dG (by omega) ⟨⟨by omega,by omega⟩,by rw[bW];simp only[arq,arw];omega,rfl,next _ ?_⟩;rw[← step];rfl
 subst hJ;rw[arZ];dsimp only;refine dH (by omega) ⟨λy=>∃k:Nat,y.1.2.1=k/\mG fs d [] (λ_=>true) ay k y.2.1,λy=>(1002-y.1.2.1).toNat,⟨0,rfl,IE hok hl⟩,?_⟩;rintro⟨⟨ps,_,⟨⟩⟩,out,⟨⟩⟩ ⟨k,rfl,A⟩;dsimp only at A ⊢;refine⟨hd,?_⟩;rintro⟨⟨m,⟨⟩⟩,⟨⟩⟩ ⟨m1,m2⟩;have m1:m<=1000:=m1;have m2:∀i,i<d.length->Sp.lv ay i<=m:=m2 ay CG hl;refine af (λhc=>?_) λhc=>⟨hz.symm,λ_=>Sp.at_end hok hl A λi hi=>by have:=m2 i hi;have hc:¬(k:Int)<=m:=gV hc;omega⟩;have hc:(k:Int)<=m:=fP hc;refine⟨λy=>mG fs d [] (λ_=>true) ay k y.2.1/\(y.1.2.1=false->∀i,i<d.length->true=true->Sp.lv ay i=k->Sp.sel fs (fU d i) (bg y.2.1)=gZ y.2.1 i),λy=>Sp.room fs.length y.2.1*2+(if y.1.2.1=true then 1 else 0),⟨A,λh=>by cases h⟩,?_⟩;rintro⟨⟨ps2,ch,⟨⟩⟩,Wq,⟨⟩⟩ ⟨A2,st2⟩;dsimp only at A2 st2 ⊢;have wk:IntKind.i64.wrap ((k:Int)+1)=((k+1:Nat):Int):=fD _ (by omega);refine af (λhch=>?_) λhch=>⟨rfl,⟨k+1,wk,Sp.at_next hok A2 (st2 hch)⟩,by rw[wk];dsimp only;omega⟩;subst hch;refine eP (λi(x:Bool×List dh)=>((x.1,i,()),x.2,())) (λy=>y.1.2.1) (λ_ _=>rfl) d.length (by omega) (λi x=>Io fs d [] (λ_=>true) ay k Wq i x.1 x.2) (s0:=(false,Wq)) ⟨A2,λh=>(by cases h),λ_=>⟨rfl,λj hj=>by omega⟩⟩ (λI μ i x hi hJ next=>?_) λI μ x hJ=>?_
 .obtain⟨c,DV⟩:=x;have A3:=hJ.1;have ol:DV.length=d.length:=A3.order.1;have hsm:=OQ A3 (by omega) hfs hr;dsimp only;rw[arI];refine dG (by omega) ⟨⟨by omega,by rw[hl.1];omega⟩,af (λh=>⟨rfl,next (c,DV) (zx hJ λ_ h'=>?_)⟩) λh=>⟨⟨by omega,by omega⟩,⟨hs,uP hd hi,hsm⟩,⟨by omega,by omega⟩,by omega,trivial,af (λh3=>⟨⟨by omega,by omega⟩,by omega,rfl,next (true,_) (aak hok hl hf hJ hi rfl ?_ ?_)⟩) λh3=>⟨rfl,next (c,DV) (zx hJ λ_ _=>?_)⟩⟩⟩
  .exact(auL.1 h h').elim
  .exact amA h
  .exact gV (fK h3)
  .exact fP (cZ h3)
 .obtain⟨c,DV⟩:=x;dsimp only;obtain⟨A3,c1,c2⟩:=hJ;refine dH (by omega) ⟨rfl,⟨A3,λhc=>still_at (nm:=λ_=>true) (c2 hc).2⟩,?_⟩;cases c with
  |true=>have:=c1 rfl;dsimp only at this ⊢;simp only[if_true];omega
  |false=>have:=(c2 rfl).1;dsimp only at this ⊢;rw[this];simp
end Go.Proofs.Tryz
namespace Go.Proofs.Tryz
open Go Go.Fw Go.IntWalk Sp
theorem aal:OK BF.e:=by
 refine PA.ok mixed (aA [tK.e,vX.e] ⟨Gt,LZ,trivial⟩) H0 (by kernel_rfl) (show∀s0 s1 s2 id,BF.goal (aam s0 s1 s2 id) ((s0,s1,s2,()),id,())from ?_);intro s0 s1 s2 id hin hp;dsimp only[BF]at hp ⊢;obtain⟨h0,h1,h2⟩:s0.length<=1000/\s1.length<=1000/\∀f∈s1,jl f:=hp;refine⟨trivial,?_⟩;rcases IG s1 id with⟨h,_⟩|⟨n,hn,h,_,_⟩
 .have e:fC (s0,s1,s2,()) id=(alD,false):=by show(bif decide (Sp.place s1 id<0)then _ else _)=_;rw[h];rfl
  refine dG (by omega) ?_;show _=((fC (s0,s1,s2,()) id).1,(fC (s0,s1,s2,()) id).2,());rw[e];rfl
 .have e:fC (s0,s1,s2,()) id=(Sp.fileAt s1 n,true):=by show(bif decide (Sp.place s1 id<0)then _ else(Sp.fileAt s1 (Sp.place s1 id).toNat,true))=_;rw[h,arx (by omega)];rfl
  refine dH (by omega) ⟨⟨by omega,by omega⟩,?_,?_⟩
  .rw[h,arI];exact h2 _ (getD_mem (d:=((0:Int),(0:Int),false,(0:Int),[],())) hn)
  .show _=((fC (s0,s1,s2,()) id).1,(fC (s0,s1,s2,()) id).2,());rw[e,h];rfl
theorem RY{d:List aN}{i:Nat}(hi:i<d.length):gm (iw d) (Sp.nameOf d i)=true:=by rw[aan];unfold iw;rw[asK];exact⟨dM d i,getD_mem hi,rfl⟩
theorem KF:aY []:=⟨by decide,λx hx=>by cases hx⟩
theorem alE{fs:List aI}{d:List aN}{out:List dh}(h:gX fs d [] (gm (iw d)) out):gX fs d [] (λ_=>true) out:=
 YX h (λi hi=>RY hi) λi hi hn=>absurd ((RY hi).symm.trans hn) (by decide)
theorem aao:OK BD.e:=by refine XA.ok mixed (aA [uy.e,wI.e] ⟨JO,MC,trivial⟩) H0 (λ⟨(a,fs,nx,_),d,_⟩ _=>by obtain⟨out,h⟩:=zZ (fs:=fs) (a:=a) (nx:=nx) (d:=d) [] (λ_=>true);exact⟨(((out,(au d&&ak (a,fs,nx,())),()),())),⟨rfl,h⟩⟩) (by kernel_rfl) (show∀s0 s1 s2 d,BD.goal (aap s0 s1 s2 d) ((s0,s1,s2,()),d,())from ?_);intro a fs nx d hin hp;dsimp only[BD]at hp ⊢;refine⟨hp.2.1,⟨hp.1,hp.2,KF⟩,λr hr=>⟨hr.1,λh=>alE (hr.2 h)⟩⟩
theorem Wv:OK xX.e:=by refine XA.ok mixed (aA [uy.e] ⟨JO,trivial⟩) H0 (λ⟨(a,fs,nx,_),d,r,names,_⟩ _=>by obtain⟨out,h⟩:=zZ (fs:=fs) (a:=a) (nx:=nx) (d:=d) r (gm names);exact⟨(((out,(au d&&ak (a,fs,nx,())),()),())),⟨rfl,h⟩⟩) (by kernel_rfl) (show∀s0 s1 s2 d zu names,xX.goal (Wx s0 s1 s2 d zu names) ((s0,s1,s2,()),d,zu,names,())from ?_);intro a fs nx d r names hin hp;dsimp only[xX]at hp ⊢;exact⟨hp,λr hr=>hr⟩
theorem MG:OK wJ.e:=by refine XA.ok mixed (aA [EF.e] ⟨aei,trivial⟩) acn (λ⟨(a,fs,nx,_),d,_⟩ _=>by obtain⟨out,h⟩:=zZ (fs:=fs) (a:=a) (nx:=nx) (d:=d) [] (λ_=>true);exact⟨(((out,(au d&&ak (a,fs,nx,())),()),())),⟨rfl,h⟩⟩) (by kernel_rfl) (show∀s0 s1 s2 d,wJ.goal (aaq s0 s1 s2 d) ((s0,s1,s2,()),d,())from ?_);intro a fs nx d hin hp;dsimp only[wJ]at hp ⊢;exact⟨hp,λr hr=>hr⟩
theorem akn(a:List dD)(fs:List aI)(nx:Int)(d:List aN):∃t:((List dD×List aI×Int×List aN×List dh×Unit)×Bool×Unit)×Unit,
 t.1.2.1=(au d&&ak (a,fs,nx,()))/\(t.1.2.1=true->(t.1.1.1,t.1.1.2.1,t.1.1.2.2.1,())=(a,fs,nx,())/\t.1.1.2.2.2.1=d/\gX fs d [] (λ_=>true) t.1.1.2.2.2.2.1)/\(t.1.2.1=false->(t.1.1.1,t.1.1.2.1,t.1.1.2.2.1,t.1.1.2.2.2.1,t.1.1.2.2.2.2.1,())=([],[],0,[],[],())):=by
 obtain⟨out,h⟩:=zZ (fs:=fs) (a:=a) (nx:=nx) (d:=d) [] (λ_=>true);cases hk:(au d&&ak (a,fs,nx,()))with
 |true=>exact⟨(((a,fs,nx,d,out,()),true,()),()),⟨rfl,λ_=>⟨rfl,rfl,h hk⟩,λh=>(by cases h)⟩⟩
 |false=>exact⟨((([],[],0,[],[],()),false,()),()),⟨rfl,λh=>(by cases h),λ_=>rfl⟩⟩
theorem Wy:OK xZ.e:=by
 refine XA.ok mixed (aA [yE.e,nU.e,wJ.e] ⟨N7,wY,MG,trivial⟩) Yg (λ⟨(a,fs,nx,_),d,_⟩ _=>akn a fs nx d) (by kernel_rfl) (show∀s0 s1 s2 d,xZ.goal (WA s0 s1 s2 d) ((s0,s1,s2,()),d,())from ?_);intro a fs nx d hin hp;dsimp only[xZ]at hp ⊢;refine⟨hp,λr0 hr0=>af (λh=>?_) λh=>⟨hp.1,λr1 hr1=>⟨hp.2,?_⟩⟩⟩
 .have h:r0.1.2.1=false:=fK h;have e:(au d&&ak (a,fs,nx,()))=false:=hr0.1.symm.trans h;exact⟨e.symm,λh=>(by cases h),λ_=>rfl⟩
 .have h:r0.1.2.1=true:=cZ h;have e:(au d&&ak (a,fs,nx,()))=true:=hr0.1.symm.trans h;exact⟨e.symm,λ_=>⟨hr1,rfl,hr0.2 h⟩,λh=>by cases h⟩
theorem WB{a:List dD}{fs:List aI}{nx:Int}{d:List aN}{r out:List dh}(h:(au d&&ak (a,fs,nx,()))=true)(ho:gX fs d [] (λ_=>true) out):iM (a,fs,nx,d,r,())=decide (out=r):=by have e:iM (a,fs,nx,d,r,())=((au d&&ak (a,fs,nx,()))&&@decide (gX fs d [] (λ_=>true) r) (Classical.propDecidable _)):=rfl;rw[e,h,aug,arR,arD (p:=out=r)];rw[ark]at h;exact(@auA _ (Classical.propDecidable _)).trans ⟨λhr=>MH (lD.1 h.1).1 ho hr,λe=>e▸ho⟩
theorem alF{a:List dD}{fs:List aI}{nx:Int}{d:List aN}{r:List dh}(h:(au d&&ak (a,fs,nx,()))=false):iM (a,fs,nx,d,r,())=false:=by have e:iM (a,fs,nx,d,r,())=((au d&&ak (a,fs,nx,()))&&@decide (gX fs d [] (λ_=>true) r) (Classical.propDecidable _)):=rfl;rw[e,h,as6]
theorem JQ:OK uz.e:=by
 refine PA.ok mixed (aA [uZ.e,BD.e] ⟨RQ,aao,trivial⟩) H0 (by kernel_rfl) (show∀c0 c1 c2 c3 c4,uz.goal (Yh c0 c1 c2 c3 c4) ((c0,c1,c2,c3,c4,()),())from ?_);intro a fs nx d r hin hp;dsimp only[uz]at hp ⊢;obtain⟨h1,h2,h3⟩:aU (a,fs,nx,())/\aX d/\aY r:=hp;refine⟨⟨h1,h2⟩,λr0 hr0=>af (λh=>⟨trivial,?_⟩) λh=>?_⟩
 .rw[WB (hr0.1.symm.trans h) (hr0.2 h)]
 .rw[alF (hr0.1.symm.trans h)]
theorem Yi:OK zH.e:=by
 refine PA.ok mixed (aA [ve.e,wJ.e] ⟨RV,MG,trivial⟩) H0 (by kernel_rfl) (show∀l0 l1 l2 l3 l4,zH.goal (Yj l0 l1 l2 l3 l4) ((l0,l1,l2,l3,l4,()),())from ?_);intro a fs nx d r hin hp;dsimp only[zH]at hp ⊢;obtain⟨h1,h2,h3⟩:aU (a,fs,nx,())/\aX d/\aY r:=hp;refine⟨⟨h1,h2⟩,λr0 hr0=>af (λh=>⟨trivial,?_⟩) λh=>?_⟩
 .rw[WB (hr0.1.symm.trans h) (hr0.2 h)]
 .rw[alF (hr0.1.symm.trans h)]
end Go.Proofs.Tryz
namespace Go.Proofs.Tryz
open Go Go.Fw Go.IntWalk Sp
def asks(name:Sp.Bytes)(x:aN):Bool:=(aco x.2.1).contains name
theorem MI:OK pR.e:=by refine XA.ok mixed (aA [] trivial) Nh (λ⟨s,_⟩ _=>⟨((s,()),()),rfl⟩) (by kernel_rfl) (show∀s,pR.goal (MJ s) (s,())from ?_);intro s hin hp;dsimp only[pR]at hp ⊢;have hp:s.length<=1000:=hp;intro g hg;refine af (λh=>?_) λh=>⟨by rw[bW];omega,rfl⟩;exact(asr.1 (hg h)).symm
theorem WC{α:Type}[BEq α][LawfulBEq α]:∀(a b:List α),a.Nodup->(∀x∈a,x∈b)->a.length<=b.length
 |[],_,_,_=>ar0 _
 |x::r,b,hn,h=>by
  rw[auX]at hn;have hx:=h x arC;have ih:=WC r (b.erase x) hn.2 λy hy=>by
   have hne:y≠x:=λe=>by subst e;exact hn.1 hy
   rw[List.mem_erase_of_ne hne];exact h y (arE _ hy)
  rw[List.length_erase_of_mem hx]at ih;have:0<b.length:=List.length_pos_of_mem hx;rw[arq];omega
def Grown(d:List aN)(names out:Sp.LS):Prop:=∃ex,out=names++ex/\ex.Nodup/\(∀x∈ex,x∈iw d)/\∀x∈out,Sp.Reach d (λs=>gm names s=true) x.1
theorem Grown.len{d:List aN}{names out:Sp.LS}(h:Grown d names out):out.length<=names.length+d.length:=by obtain⟨ex,rfl,h1,h2,_⟩:=h;have:=WC ex (iw d) h1 h2;unfold iw at this;rw[arB]at this;rw[arv];omega
theorem Grown.add{d:List aN}{names out:Sp.LS}(h:Grown d names out){x:Sp.Bytes×Unit}(h1:x∈iw d)(h2:x ∉ out)(h3:Sp.Reach d (λs=>gm names s=true) x.1):Grown d names (out++[x]):=by
 obtain⟨ex,rfl,g1,g2,g3⟩:=h;refine⟨ex++[x],by rw[ar6],?_,λy hy=>?_,λy hy=>?_⟩
 .rw[List.nodup_append];refine⟨g1,auX.2 ⟨by simp,List.nodup_nil⟩,λa ha b hb e=>h2 ?_⟩;rw[asq.1 hb]at e;exact arW.2 (.inr (e▸ha))
 .rcases arW.1 hy with hy|hy
  .exact g2 y hy
  .rw[asq.1 hy];exact h1
 .rcases arW.1 hy with hy|hy
  .exact g3 y hy
  .rw[asq.1 hy];exact h3
theorem ahJ{d:List aN}{i:Nat}(hi:i<d.length):(Sp.nameOf d i,())∈iw d:=aan.1 (RY hi)
end Go.Proofs.Tryz
namespace Go.Proofs.Tryz
open Go Go.Fw Go.IntWalk Sp
theorem DW:OK qm.e:=by refine PA.ok mixed (aA [nV.e] ⟨En,trivial⟩) H0 (by kernel_rfl) (show∀id p10,qm.goal (Yk id p10) (id,(p10,()),())from ?_);intro x b hin hp;dsimp only[qm]at hp ⊢;exact⟨trivial,rfl⟩
theorem Aw:OK iU.e:=by refine PA.ok mixed (aA [qm.e] ⟨DW,trivial⟩) Bg (by kernel_rfl) (show∀s lF,iU.goal (Az s lF) (s,((lF,()),()),())from ?_);intro l b hin hp;dsimp only[iU]at hp ⊢;exact WE (K:=λr=>r=(Sp.findAt (λx:Int×Unit=>eF b x.1) l,())) (λx:Int×Unit=>eF b x.1) (0,()) l _ hin.1.1 rfl
theorem Aa:OK iO.e:=by refine XA.ok mixed (aA [iU.e,qm.e] ⟨Aw,DW,trivial⟩) AA (λ⟨s,((b,_),_),_⟩ _=>⟨((s.filter (λx=>!eF b x.1),()),()),rfl⟩) (by kernel_rfl) (show∀s yX,iO.goal (Ac s yX) (s,((yX,()),()),())from ?_);intro s b hin hp;dsimp only[iO]at hp ⊢;exact⟨trivial,ajf (K:=λr=>r.1.1=s.filter λx=>!eF b x.1) (λx:Int×Unit=>eF b x.1) (0,()) s _ (by have hp:s.length<=1000:=hp;omega) rfl⟩
theorem acp:OK C9.e:=by refine XA.ok mixed (aA [iO.e,qm.e,pR.e] ⟨Aa,DW,MI,trivial⟩) aek (λ⟨a,b,_⟩ _=>⟨((Sp.without a b,()),()),rfl⟩) (by kernel_rfl) (show∀a b,C9.goal (acr a b) (a,b,())from ?_);intro a b hin hp;dsimp only[C9]at hp ⊢;have hp:a.length<=1000:=hp;refine⟨hp,?_⟩;rintro⟨⟨r0,⟨⟩⟩,⟨⟩⟩ e;have e:r0=a:=e;subst e;exact⟨hp,λr h=>h⟩
theorem acs:OK Dc.e:=by refine XA.ok mixed (aA [C9.e] ⟨acp,trivial⟩) H0 (λ⟨a,b,_⟩ _=>⟨((Sp.without b a,Sp.without a b,()),()),⟨rfl,rfl⟩⟩) (by kernel_rfl) (show∀a b,Dc.goal (acu a b) (a,b,())from ?_);intro a b hin hp;dsimp only[Dc]at hp ⊢;exact⟨hp.2,λr0 h0=>⟨hp.1,λr1 h1=>⟨h0,h1⟩⟩⟩
theorem YZ(a b:List (Int×Unit)):(Sp.without a b).length<=a.length:=asn _ _
theorem RZ{r:List dh}(h:aY r)(s:Sp.Bytes):(eG r s).length<=1000:=by
 have:∀l:List dh,(∀x∈l,x.2.1.length<=1000)->(eG l s).length<=1000:=by
  intro l
  induction l with
  |nil=>exactλ_=>ar0 _
  |cons x t ih=>
   intro hl;rw[eG];cases x.1==s with
   |true=>exact hl x arC
   |false=>exact ih λy hy=>hl y (arE _ hy)
 exact this r h.2
theorem acv(a b:List dh){n:Nat}(h:n<b.length):((b.take (n+1)).map (qV a)).filter xk=((b.take n).map (qV a)).filter xk++(bif xk (qV a (b.getD n nM))then[qV a (b.getD n nM)]else[]):=by rw[Sp.take_succ' b n nM h,asJ,as5,List.map_singleton,atP];cases xk (qV a (b.getD n nM))<;>rfl
theorem Uk:OK wK.e:=by
 refine XA.ok mixed (aA [Dc.e,nN.e] ⟨acs,DT,trivial⟩) WG (λ⟨a,b,_⟩ _=>⟨((Iq a b,()),()),rfl⟩) (by kernel_rfl) (show∀a b,wK.goal (Ul a b) (a,b,())from ?_);intro a b hin hp;dsimp only[wK]at hp ⊢;obtain⟨ha,hb⟩:aY a/\aY b:=hp;have hbl:=hb.1;refine eP (λi(x:List II)=>(((),i,()),x,())) (λy=>y.1.2.1) (λ_ _=>rfl) b.length (by omega) (λn l=>l=((b.take n).map (qV a)).filter xk) rfl (λI μ n l hn hJ next=>?_) λI μ l hJ=>?_
 .subst hJ;have hl:(((b.take n).map (qV a)).filter xk).length<=n:=by have:=asn xk ((b.take n).map (qV a));rw[arB,aro]at this;omega
  have step:=acv a b hn;have l1:=RZ ha (b.getD n nM).1;have l2:(b.getD n nM).2.1.length<=1000:=FD hb hn;dsimp only;refine dG (by omega) ⟨⟨by omega,by omega⟩,ha,⟨l1,l2⟩,?_⟩;rintro⟨⟨x,y,⟨⟩⟩,⟨⟩⟩ ⟨e1,e2⟩;have e1:x=Sp.without (b.getD n nM).2.1 (eG a (b.getD n nM).1):=e1;have e2:y=Sp.without (eG a (b.getD n nM).1) (b.getD n nM).2.1:=e2;have k1:=YZ (b.getD n nM).2.1 (eG a (b.getD n nM).1);have k2:=YZ (eG a (b.getD n nM).1) (b.getD n nM).2.1;rw[← e1]at k1;rw[← e2]at k2;have w:IntKind.i64.wrap ((x.length:Int)+(y.length:Int))=((x.length+y.length:Nat):Int):=by rw[fD _ (by omega)];omega
  have hd:qV a (b.getD n nM)=((b.getD n nM).1,x,y,()):=by rw[e1,e2];rfl
  have hz:xk (qV a (b.getD n nM))=decide (0<x.length+y.length):=by rw[hd];rfl
  dsimp only;rw[w];refine af (λh=>⟨by rw[bW];simp only[arq,arw];omega,rfl,next _ ?_⟩) λh=>⟨rfl,next _ ?_⟩
  .have h:=fP h;rw[step,hz,aru (by omega),hd];rfl
  .have h:=gV h;rw[step,hz,arx (by omega)];simp
 .subst hJ;rw[arZ];dsimp only;exact dH (by omega) rfl
theorem Um:OK wM.e:=by
 refine XA.ok mixed (aA [qI.e] ⟨Hu,trivial⟩) WH (λ⟨r,_⟩ _=>⟨((r,()),()),rfl⟩) (by kernel_rfl) (show∀DK,wM.goal (Un DK) (DK,())from ?_);intro r hin hp;dsimp only[wM]at hp ⊢;have hp:aY r:=hp;have hl:=hp.1;refine eP (λi(x:List dh)=>(((),i,()),x,())) (λy=>y.1.2.1) (λ_ _=>rfl) r.length (by omega) (λn l=>l=r.take n) (by simp) (λI μ n l hn hJ next=>?_) λI μ l hJ=>?_
 .subst hJ;have hl:(r.take n).length<=n:=by rw[aro];omega
  dsimp only;refine dG (by omega) ⟨⟨by omega,by omega⟩,FD hp hn,by rw[bW];simp only[arq,arw];omega,rfl,next _ ?_⟩;rw[Sp.take_succ' r n nM hn];rfl
 .subst hJ;rw[arZ];dsimp only;exact dH (by omega) rfl
theorem WI:OK yc.e:=by
 refine XA.ok mixed (aA [] trivial) Yl (λ⟨r,_⟩ _=>⟨((r,()),()),rfl⟩) (by kernel_rfl) (show∀a,yc.goal (WJ a) (a,())from ?_);intro r hin hp;dsimp only[yc]at hp ⊢;have hp:aY r:=hp;have hl:=hp.1;refine eP (λi(x:List dh)=>(((),i,()),x,())) (λy=>y.1.2.1) (λ_ _=>rfl) r.length (by omega) (λn l=>l=r.take n) (by simp) (λI μ n l hn hJ next=>?_) λI μ l hJ=>?_
 .subst hJ;have hl:(r.take n).length<=n:=by rw[aro];omega
  have h2:(r.getD n ([],[],())).2.1.length<=1000:=FD hp hn;dsimp only;rw[arI];refine dG (by omega) ⟨⟨by omega,by omega⟩,⟨by omega,by omega⟩,by rw[bW];omega,by rw[bW];simp only[arq,arw];omega,rfl,next _ ?_⟩;rw[Sp.take_succ' r n nM hn]
 .subst hJ;rw[arZ];dsimp only;exact dH (by omega) rfl
theorem Hz:OK qL.e:=by refine XA.ok mixed (aA [wM.e,wF.e,uq.e] ⟨Um,MK,JM,trivial⟩) H0 (λ⟨(a,l,nx,d,r,_),_⟩ _=>⟨(((a,l,nx,d,r,()),()),()),rfl⟩) (by kernel_rfl) (show∀c0 c1 c2 c3 c4,qL.goal (Uo c0 c1 c2 c3 c4) ((c0,c1,c2,c3,c4,()),())from ?_);intro a l nx d r hin hp;dsimp only[qL]at hp ⊢;obtain⟨h1,h2,h3⟩:aU (a,l,nx,())/\aX d/\aY r:=hp;refine⟨h1,?_⟩;rintro⟨⟨⟨a',l',nx',⟨⟩⟩,⟨⟩⟩,⟨⟩⟩ e;have e:((a',l',nx',()):bf)=(a,l,nx,()):=e;refine⟨h2,h3,?_⟩;rintro⟨⟨r',⟨⟩⟩,⟨⟩⟩ e2;have e2:r'=r:=e2;simp only[Prod.mk.injEq]at e;obtain⟨rfl,rfl,rfl,_⟩:=e;subst e2;rfl
theorem acw:OK Dh.e:=by refine XA.ok mixed (aA [yc.e,yE.e,nU.e] ⟨WI,N7,wY,trivial⟩) H0 (λ⟨(a,l,nx,d,r,_),_⟩ _=>⟨(((a,l,nx,d,r,()),()),()),rfl⟩) (by kernel_rfl) (show∀l0 l1 l2 l3 l4,Dh.goal (acy l0 l1 l2 l3 l4) ((l0,l1,l2,l3,l4,()),())from ?_);intro a l nx d r hin hp;dsimp only[Dh]at hp ⊢;obtain⟨h1,h2,h3⟩:aU (a,l,nx,())/\aX d/\aY r:=hp;refine⟨h1,?_⟩;rintro⟨⟨⟨a',l',nx',⟨⟩⟩,⟨⟩⟩,⟨⟩⟩ e;have e:((a',l',nx',()):bf)=(a,l,nx,()):=e;refine⟨h2,h3,?_⟩;rintro⟨⟨r',⟨⟩⟩,⟨⟩⟩ e2;have e2:r'=r:=e2;simp only[Prod.mk.injEq]at e;obtain⟨rfl,rfl,rfl,_⟩:=e;subst e2;rfl
theorem IJ{fs:List aI}{d:List aN}{r out:List dh}{nm:Sp.Bytes->Bool}(h:gX fs d r nm out)(hd:d.length<=1000)(hf:fs.length<=1000)(hr:aY r):aY out:=by
 refine⟨by rw[h.order.1];exact hd,λx hx=>?_⟩;obtain⟨i,hi,rfl⟩:=asb hx;have hi':i<d.length:=by rw[← h.order.1];exact hi
 have e:(out[i]).2.1=gZ out i:=by unfold gZ qE;rw[arp,ars hi];rfl
 rw[e];cases hn:nm (Sp.nameOf d i)with
 |true=>
  rw[h.fix i hi' hn];unfold Sp.sel;rw[arB];exact arM (asn _ _) hf
 |false=>rw[h.kept i hi' hn];exact RZ hr _
theorem acz(c:jG)(s:bf)(d:List aN)(nm:Sp.Bytes->Bool):∃c' df,Sp.turned c s d nm c' df (au d&&ak s):=by
 obtain⟨a,fs,nx,_⟩:=s;obtain⟨out,h⟩:=zZ (fs:=fs) (a:=a) (nx:=nx) (d:=d) (CJ c) nm;cases hk:(au d&&ak (a,fs,nx,()))with
 |true=>exact⟨(a,fs,nx,d,out,()),Iq (CJ c) out,hk.symm,λ_=>⟨rfl,rfl,h hk,rfl⟩,λh=>(by cases h)⟩
 |false=>exact⟨c,[],hk.symm,λh=>(by cases h),λ_=>⟨rfl,rfl⟩⟩
theorem Ym:OK zI.e:=by
 refine XA.ok mixed (aA [wK.e,wF.e,uq.e,qL.e,xX.e] ⟨Uk,MK,JM,Hz,Wv,trivial⟩) H0 (λ⟨c,s,d,names,_⟩ _=>by obtain⟨c',df,h⟩:=acz c s d (gm names);exact⟨((((c'.1,c'.2.1,c'.2.2.1,c'.2.2.2.1,c'.2.2.2.2.1,()),df,(au d&&ak s),()),())),h⟩) (by kernel_rfl) (show∀c0 c1 c2 c3 c4 s0 s1 s2 d names,zI.goal (Yn c0 c1 c2 c3 c4 s0 s1 s2 d names) ((c0,c1,c2,c3,c4,()),(s0,s1,s2,()),d,names,())from ?_);intro a l nx d0 r0 sa sl sn d names hin hp;dsimp only[zI]at hp ⊢;obtain⟨hc,hs,hd⟩:=hp;have hr:aY r0:=hc.2.2;refine⟨⟨hs,hd,hr⟩,?_⟩;rintro⟨⟨out,ok,⟨⟩⟩,⟨⟩⟩ ⟨e1,e2⟩;have e1:ok=(au d&&ak (sa,sl,sn,())):=e1;have e2:ok=true->gX sl d r0 (gm names) out:=e2;dsimp only;refine af (λh=>⟨hc,λr1 hr1=>?_⟩) λh=>⟨hs,?_⟩
 .have h:ok=false:=fK h;exact⟨e1▸h.symm,λh=>(by cases h),λ_=>⟨hr1,rfl⟩⟩
 .have h:ok=true:=cZ h;rintro⟨⟨s',⟨⟩⟩,⟨⟩⟩ es;have es:s'=(sa,sl,sn,()):=es;subst es;refine⟨hd,⟨hr,IJ (e2 h) hd.1 hs.2.1 hr⟩,λr3 hr3=>⟨e1▸h.symm,λ_=>⟨rfl,rfl,e2 h,hr3⟩,λh=>(by cases h)⟩⟩
theorem WL{c:jG}(h:iM c=true):au (je c)=true/\ak (dX c)=true/\gX c.2.1 (je c) [] (λ_=>true) (CJ c):=by have e:iM c=((au (je c)&&ak (dX c))&&@decide (gX c.2.1 (je c) [] (λ_=>true) (CJ c)) (Classical.propDecidable _)):=rfl;rw[e,ark,ark]at h;exact⟨h.1.1,h.1.2,(@auA _ (Classical.propDecidable _)).1 h.2⟩
theorem EZ:OK rq.e:=by refine PA.ok mixed (aA [] trivial) acA (by kernel_rfl) (show∀a b,rq.goal (aar a b) (a,b,())from ?_);intro a b hin hp;dsimp only[rq]at hp ⊢;exact eqL (K:=λr=>r=(decide (a=b),())) (λx y:Int×Unit=>x.1 !=y.1) (λx y=>by simp[atj]) _ a b _ hin.1.1 rfl
theorem WM:OK yg.e:=by
 refine PA.ok mixed (aA [rq.e] ⟨EZ,trivial⟩) H0 (by kernel_rfl) (show∀a0 a1 b0 b1,yg.goal (WN a0 a1 b0 b1) ((a0,a1,()),(b0,b1,()),())from ?_);intro a0 a1 b0 b1 hin hp;dsimp only[yg]at hp ⊢;refine af (λh0=>⟨trivial,?_⟩) λh0=>?_
 all_goals refine congrArg (·,()) (arR.2 ?_)
 .simp[arA.1 h0]
 .simp[show a0≠b0 by simpa using h0]
theorem Ur:OK wO.e:=by refine PA.ok mixed (aA [yg.e] ⟨WM,trivial⟩) WO (by kernel_rfl) (show∀a b,wO.goal (Us a b) (a,b,())from ?_);intro a b hin hp;dsimp only[wO]at hp ⊢;exact amz (K:=λr=>r=(decide (a=b),())) (λx y=>!decide (x=y)) (λx y=>by simp) _ a b _ hin.1.1 rfl
theorem Ut:OK wP.e:=by
 refine PA.ok mixed (aA [wO.e,BA.e,um.e] ⟨Ur,aas,JJ,trivial⟩) H0 (by kernel_rfl) (show∀a0 a1 a2 a3 a4 b0 b1 b2 b3 b4,wP.goal (Uu a0 a1 a2 a3 a4 b0 b1 b2 b3 b4) ((a0,a1,a2,a3,a4,()),(b0,b1,b2,b3,b4,()),())from ?_);intro a0 a1 a2 a3 a4 b0 b1 b2 b3 b4 hin hp;dsimp only[wP]at hp ⊢;refine⟨trivial,af (λh0=>⟨trivial,af (λh1=>⟨trivial,?_⟩) λh1=>?_⟩) λh0=>?_⟩
 all_goals refine congrArg (·,()) (arR.2 ?_)
 .have h0:=fP h0;have h1:=fP h1;simp only[Prod.mk.injEq]at h0;obtain⟨rfl,rfl,rfl,_⟩:=h0;subst h1;simp
 .have h1:=gV h1;simp[h1]
 .have h0:=gV h0;simp only[arD,asU,false_iff,Prod.mk.injEq,auv]at h0 ⊢;exactλh=>h0 ⟨h.1,h.2.1,h.2.2.1⟩
theorem ajg{a:List dD}{fs:List aI}{nx:Int}{d:List aN}{r:List dh}(h1:a=Sp.usual)(h2:ak (a,fs,nx,())=true)(h3:aU (a,fs,nx,()))(h4:0<fs.length)(h5:aX d)(h6:au d=true)(h7:gX fs d [] (λ_=>true) r):Xr (a,fs,nx,d,r,()):=by refine⟨⟨h3,h5,IJ h7 h5.1 h3.2.1 KF⟩,h1,h4,?_⟩;rw[WB (by rw[h6,h2];rfl) h7,aru rfl]
theorem alG:∃c,Xr c/\0<c.2.2.2.1.length:=by obtain⟨out,h⟩:=zZ (fs:=[(1,0,false,0,[],())]) (a:=Sp.usual) (nx:=2) (d:=[([100,97],[(1,0,0,[],0,0,[],())],())]) [] (λ_=>true);exact⟨_,ajg rfl L9.1 L9.2 (by decide) (Gw zW (by simp) (by simp)) ab3 (h (by rw[ab3,L9.1];rfl)),Nat.zero_lt_one⟩
theorem acB:OK Dj.e:=by
 refine XA.ok mixed (aA [xZ.e,CV.e,qW.e] ⟨Wy,ab4,EY,trivial⟩) ael (λ_ _=>by obtain⟨c,h⟩:=alG;exact⟨(((c.1,c.2.1,c.2.2.1,c.2.2.2.1,c.2.2.2.2.1,()),()),(([],0,0,()),())),⟨ar4 0,h⟩⟩) (by kernel_rfl) (show∀c0 c1 c2,Dj.goal (acC c0 c1 c2) ((c0,c1,c2,()),())from ?_);intro b i h hin hp;dsimp only[Dj]at hp ⊢;refine⟨hp,λr0 hr0=>⟨hr0.1,λr1 hr1=>⟨⟨hr0.2.2.2.2.1,hr1.2.2.1⟩,?_⟩⟩⟩;rintro⟨⟨⟨a,fs,nx,d,r,⟨⟩⟩,ok,⟨⟩⟩,⟨⟩⟩ ⟨e1,e2,_⟩;have hz:(au r1.1.1&&ak r0.1.1)=true:=by rw[hr1.2.2.2.1,hr0.2.2.1];rfl
 obtain⟨k1,k2,k3⟩:=e2 (e1.trans hz);have k1:((a,fs,nx,()):bf)=r0.1.1:=k1;have k2:d=r1.1.1:=k2;refine⟨hr1.1,?_⟩;subst k2;rw[← k1]at hr0 k3;exact⟨ajg hr0.2.1 hr0.2.2.1 hr0.2.2.2.2.1 hr0.2.2.2.2.2 hr1.2.2.1 hr1.2.2.2.1 k3,hr1.2.2.2.2⟩
end Go.Proofs.Tryz
namespace Go.Proofs.Tryz
open Go Go.Fw Go.IntWalk Sp
theorem OT:OK ru.e:=by
 refine XA.ok mixed (aA [] trivial) Qq (λ⟨(i,o,s,l,a,_),name,(k,n,w,_),_⟩ _=>⟨(((i,o,s,l,dO a name k n w,()),()),()),⟨rfl,rfl,rfl,rfl,rfl⟩⟩) (by kernel_rfl) (show∀f0 f1 f2 f3 f4 name v0 v1 v2,ru.goal (OU f0 f1 f2 f3 f4 name v0 v1 v2) ((f0,f1,f2,f3,f4,()),name,(v0,v1,v2,()),())from ?_);intro f0 f1 f2 f3 f4 name k n s hin hp;dsimp only[ru]at hp ⊢;have hp:f4.length<=1000:=hp;refine eP (λi(x:List aW)=>(((),i,()),x,())) (λy=>y.1.2.1) (λ_ _=>rfl) f4.length (by omega) (λm l=>l=(f4.take m).filter (fQ name)) (by simp) (λI μ m l hm hJ next=>?_) λI μ l hJ=>?_
 .subst hJ;have hl:=NU f4 (fQ name) m;dsimp only;refine dG (by omega) ⟨⟨by omega,by omega⟩,af (λh=>⟨⟨by omega,by omega⟩,by rw[bW];simp only[arq,arw];omega,rfl,next _ ?_⟩) λh=>⟨rfl,next _ ?_⟩⟩
  .rw[zU _ hm,if_pos (show fQ name (bI f4 m)=true from h)];rfl
  .rw[zU _ hm,if_neg (show ¬fQ name (bI f4 m)=true fromλh'=>by have h:fQ name (bI f4 m)=false:=h;rw[h]at h';cases h'),ash]
 .rw[arZ]at hJ;have hl:l.length<=1000:=by rw[hJ];have:=asn (fQ name) f4;omega
  dsimp only;refine dH (by omega) (af (λh=>?_) λh=>?_)
  .have hk:k≠0:=by simpa using h
   have fin:∀m:Nat,m<=l.length->(∀i,i<m->iC name (bI l i)=true)->(m<l.length->iC name (bI l m)=false)->
    ((0:Int)<=m/\(m:Int)<=l.length)/\0+(List.drop 0 (List.take m l)).length<=big/\(List.drop 0 (List.take m l)).length+[(name,k,n,s,())].length<=big/\((0:Int)<=m/\(m:Int)<=l.length)/\
    (List.drop 0 (List.take m l)++[(name,k,n,s,())]).length+(List.drop m (List.take l.length l)).length<=big/\
    (f0=f0/\f1=f1/\f2=f2/\f3=f3/\List.drop 0 (List.take m l)++[(name,k,n,s,())]++List.drop m (List.take l.length l)=dO f4 name k n s):=by
    intro m hm h1 h2;refine⟨⟨by omega,by omega⟩,?_,?_,⟨by omega,by omega⟩,?_,rfl,rfl,rfl,rfl,abR hk hJ hm h1 h2⟩
    all_goals
     rw[bW];simp only[arv,arY,aro,arq,arw];omega
   refine iJ l.length (by omega) (λm=>∀i,i<m->iC name (bI l i)=true) (λi hi=>by omega) (λI μ m hm hJ2 next=>?_) λI μ hJ2=>?_
   .dsimp only;refine dG (by omega) ⟨⟨by omega,by omega⟩,hm,af (λh2=>⟨rfl,next (dV (f:=λi=>iC name (bI l i)) hJ2 h2)⟩) λh2=>?_⟩;exact fin m (by omega) hJ2 λ_=>h2
   .dsimp only;exact dH (by omega) (fin l.length (arF _) hJ2 λh'=>by omega)
  .have hk:k=0:=by simpa using h
   subst hk;exact⟨rfl,rfl,rfl,rfl,by rw[VP];exact hJ⟩
theorem ajh{s:bf}(h:ak s=true){i j:Nat}(hi:i<s.2.1.length)(hj:j<s.2.1.length)(e:(Sp.fileAt s.2.1 i).1=(Sp.fileAt s.2.1 j).1):i=j:=by
 rcases atE i j with h1|h1|h1
 .have:=Sj h j i h1 hj;omega
 .exact h1
 .have:=Sj h i j h1 hi;omega
theorem aji{c:jG}(hok:ak (dX c)=true){m:Nat}(hm:m<c.2.1.length):dm c.1 (Sp.fileAt c.2.1 m)=true:=(kN.1 ((jE.1 hok).1 m hm)).1
theorem acH{a:List dD}{f:aI}(h:dm a f=true):ja a f.2.2.2.2.1=true/\f.2.2.2.2.1.length<=5:=by unfold dm at h;simp only[ark]at h;have h1:=h.1.1.1.1;have h2:=h.1.1.1.2;refine⟨h1,arM (ahK h1) ?_⟩;unfold dF at h2;rw[ark,arD]at h2;omega
theorem anE{c:jG}(hok:ak (dX c)=true):ao1 c:=λf hf=>by
 obtain⟨i,hi,rfl⟩:=asb hf;have at_:Sp.fileAt c.2.1 i=c.2.1[i]:=by unfold Sp.fileAt;rw[arp,ars hi];rfl
 have:=(acH (aji hok hi)).2;rw[at_]at this;exact arM this (by decide)
theorem alI{c:jG}(h:iM c=true)(hs:aX (je c)):kJ c:=by
 obtain⟨hst,hok,hev⟩:=WL h;have hf:c.2.1.length<=12:=(jE.1 hok).2.2.1;have ako:=(jE.1 hok).2.1;have h5:c.1.length<=5:=by have ako:dF c.1=true:=ako;unfold dF at ako;rw[ark,arD]at ako;omega
 refine⟨⟨by show c.1.length<=1000;omega,by show c.2.1.length<=1000;omega,λf hf=>arM (anE hok f hf) (by decide)⟩,hs,IJ hev hs.1 (by omega) KF⟩
end Go.Proofs.Tryz
namespace Go.Proofs.Tryz
open Go Go.Fw Go.IntWalk Sp
theorem without_take(a b:List (Int×Unit)){n:Nat}(h:n<a.length):(a.take (n+1)).filter (λx=>!eF b x.1)=(a.take n).filter (λx=>!eF b x.1)++(bif !eF b (a.getD n (0,())).1 then[a.getD n (0,())]else[]):=OV (λx:Int×Unit=>!eF b x.1) (0,()) a h
theorem acI:OK Df.e:=by
 refine XA.ok mixed (aA [o8.e] ⟨Jg,trivial⟩) aes (λ⟨a,b,_⟩ _=>⟨((Sp.without b a,Sp.without a b,()),()),⟨rfl,rfl⟩⟩) (by kernel_rfl) (show∀a b,Df.goal (acJ a b) (a,b,())from ?_);intro a b hin hp;dsimp only[Df]at hp ⊢;obtain⟨ha,hb⟩:a.length<=1000/\b.length<=1000:=hp;have fl:∀(p:Int×Unit->Bool)(l:List (Int×Unit)) n,((l.take n).filter p).length<=n:=λp l n=>by have:=asn p (l.take n);rw[aro]at this;omega
 refine eP (λi(x:List (Int×Unit))=>(((),i,()),x,())) (λy=>y.1.2.1) (λ_ _=>rfl) b.length (by omega) (λn l=>l=(b.take n).filter λx=>!eF a x.1) rfl (λI μ n l hn hJ next=>?_) λI μ l hJ=>?_
 .subst hJ;have hl:=fl (λx=>!eF a x.1) b n;have step:=without_take b a hn;dsimp only;refine dG (by omega) ⟨⟨by omega,by omega⟩,trivial,af (λh=>⟨⟨by omega,by omega⟩,by rw[bW];simp only[arq,arw];exact arM (Nat.add_le_add_right hl _) (by omega),rfl,next _ ?_⟩) λh=>⟨rfl,next _ ?_⟩⟩
  .have h:(!eF a (b.getD n (0,())).1)=true:=h;rw[step,h];rfl
  .have h:(!eF a (b.getD n (0,())).1)=false:=h;rw[step,h];simp
 .subst hJ;rw[arZ];dsimp only;refine dH (by omega) (eP (λi(x:List (Int×Unit))=>(((),i,()),x,())) (λy=>y.1.2.1) (λ_ _=>rfl) a.length (by omega) (λn l=>l=(a.take n).filter λx=>!eF b x.1) rfl (λI μ n l hn hJ next=>?_) λI μ l hJ=>?_)
  .subst hJ;have hl:=fl (λx=>!eF b x.1) a n;have step:=without_take a b hn;dsimp only;refine dG (by omega) ⟨⟨by omega,by omega⟩,trivial,af (λh=>⟨⟨by omega,by omega⟩,by rw[bW];simp only[arq,arw];exact arM (Nat.add_le_add_right hl _) (by omega),rfl,next _ ?_⟩) λh=>⟨rfl,next _ ?_⟩⟩
   .have h:(!eF b (a.getD n (0,())).1)=true:=h;rw[step,h];rfl
   .have h:(!eF b (a.getD n (0,())).1)=false:=h;rw[step,h];simp
  .subst hJ;rw[arZ];dsimp only;exact dH (by omega) ⟨rfl,rfl⟩
theorem Uy:OK wL.e:=by
 refine XA.ok mixed (aA [Df.e,nO.e] ⟨acI,DU,trivial⟩) WT (λ⟨a,b,_⟩ _=>⟨((Iq a b,()),()),rfl⟩) (by kernel_rfl) (show∀a b,wL.goal (Uz a b) (a,b,())from ?_);intro a b hin hp;dsimp only[wL]at hp ⊢;obtain⟨ha,hb⟩:aY a/\aY b:=hp;have hbl:=hb.1;refine eP (λi(x:List II)=>(((),i,()),x,())) (λy=>y.1.2.1) (λ_ _=>rfl) b.length (by omega) (λn l=>l=((b.take n).map (qV a)).filter xk) rfl (λI μ n l hn hJ next=>?_) λI μ l hJ=>?_
 .subst hJ;have hl:(((b.take n).map (qV a)).filter xk).length<=n:=by have:=asn xk ((b.take n).map (qV a));rw[arB,aro]at this;omega
  have step:=acv a b hn;have l1:=RZ ha (b.getD n nM).1;have l2:(b.getD n nM).2.1.length<=1000:=FD hb hn;dsimp only;refine dG (by omega) ⟨⟨by omega,by omega⟩,ha,⟨by omega,by omega⟩,⟨l1,l2⟩,?_⟩;rintro⟨⟨x,y,⟨⟩⟩,⟨⟩⟩ ⟨e1,e2⟩;have e1:x=Sp.without (b.getD n nM).2.1 (eG a (b.getD n nM).1):=e1;have e2:y=Sp.without (eG a (b.getD n nM).1) (b.getD n nM).2.1:=e2;have hd:qV a (b.getD n nM)=((b.getD n nM).1,x,y,()):=by rw[e1,e2];rfl
  have hz:xk (qV a (b.getD n nM))=decide (0<x.length+y.length):=by rw[hd];rfl
  have small:(((b.take n).map (qV a)).filter xk).length+1<=big:=by rw[bW];omega
  dsimp only;refine af (λh=>⟨⟨by omega,by omega⟩,small,rfl,next _ ?_⟩) λh=>af (λh2=>⟨⟨by omega,by omega⟩,small,rfl,next _ ?_⟩) λh2=>⟨rfl,next _ ?_⟩
  .have h:(x.length:Int)>0:=fP h;rw[step,hz,aru (by omega),hd];rfl
  .have h2:(y.length:Int)>0:=fP h2;rw[step,hz,aru (by omega),hd];rfl
  .have h:¬(x.length:Int)>0:=gV h;have h2:¬(y.length:Int)>0:=gV h2;rw[step,hz,arx (by omega)];simp
 .subst hJ;rw[arZ];dsimp only;exact dH (by omega) rfl
def akp(l:Sp.LS):Prop:=l.Pairwise λx y=>Op.bytesLess x.1 y.1=true
theorem alJ{x:Sp.Bytes×Unit}{r:Sp.LS}{s:Sp.Bytes}:ER (x::r) s=if Op.bytesLess x.1 s=true then x::ER r s else if x.1=s then x::r else(s,())::x::r:=by
 unfold ER;by_cases h:Op.bytesLess x.1 s=true
 .rw[if_pos h,List.takeWhile_cons_of_pos (p:=λx:Sp.Bytes×Unit=>Op.bytesLess x.1 s) h];dsimp only;rw[arq];cases hc:(decide ((r.takeWhile λx=>Op.bytesLess x.1 s).length<r.length)&&(r.getD (r.takeWhile λx=>Op.bytesLess x.1 s).length ([],())).1==s)with
  |true=>
   have:(decide ((r.takeWhile λx=>Op.bytesLess x.1 s).length+1<(x::r).length)&&((x::r).getD ((r.takeWhile λx=>Op.bytesLess x.1 s).length+1) ([],())).1==s)=true:=by rw[← hc,arq];simp[List.getD_cons_succ]
   rw[this];rfl
  |false=>
   have:(decide ((r.takeWhile λx=>Op.bytesLess x.1 s).length+1<(x::r).length)&&((x::r).getD ((r.takeWhile λx=>Op.bytesLess x.1 s).length+1) ([],())).1==s)=false:=by rw[← hc,arq];simp[List.getD_cons_succ]
   rw[this];rfl
 .rw[if_neg h,List.takeWhile_cons_of_neg (p:=λx:Sp.Bytes×Unit=>Op.bytesLess x.1 s) h];by_cases e:x.1=s
  .rw[if_pos e];simp[e]
  .rw[if_neg e];simp[arn.2 e]
theorem ahL{s:Sp.Bytes}:∀{l:Sp.LS},akp l->akp (ER l s)
 |[],_=>List.pairwise_singleton _ _
 |y::r,h=>by
  obtain⟨h1,h2⟩:=asx.1 h;have i1:=ahL (s:=s) h2;rw[alJ];by_cases c1:Op.bytesLess y.1 s=true
  .rw[if_pos c1];refine asx.2 ⟨λz hz=>?_,i1⟩;rcases(ML z).1 hz with rfl|hz
   .exact c1
   .exact h1 z hz
  .rw[if_neg c1];by_cases c2:y.1=s
   .rw[if_pos c2];exact h
   .rw[if_neg c2];have c3:Op.bytesLess s y.1=true:=Sl y.1 s (by simpa using c1) c2;refine asx.2 ⟨λz hz=>?_,h⟩;rcases arU.1 hz with rfl|hz
    .exact c3
    .exact Dw _ _ _ c3 (h1 z hz)
theorem anF{l b:Sp.LS}(h:akp l)(hs:∀x∈l,x∈b):l.length<=b.length:=by
 have hn:l.Nodup:=by unfold List.Nodup;exact List.Pairwise.imp (λ{a b} hab e=>Qr hab (congrArg Prod.fst e)) h
 exact WC l b hn hs
structure Rd(d:List aN)(names out:Sp.LS):Prop where
 asc:akp out
 base:∀x∈names,x∈out
 reach:∀x∈out,Sp.Reach d (λs=>gm names s=true) x.1
 sub:∀x∈out,x∈names++iw d
theorem Rd.len{d:List aN}{names out:Sp.LS}(h:Rd d names out):out.length<=names.length+d.length:=by
 have:=anF h.asc h.sub;rw[arv]at this;have e:(iw d).length=d.length:=by unfold iw;rw[arB]
 omega
theorem Rd.put{d:List aN}{names out:Sp.LS}(h:Rd d names out){i:Nat}(hi:i<d.length){s:Sp.Bytes}(hs:(s,())∈out)(ha:s∈aco (fU d i)):Rd d names (ER out (Sp.nameOf d i)) where
 asc:=ahL h.asc
 base:=λx hx=>(ML x).2 (.inr (h.base x hx))
 reach:=λx hx=>by
  rcases(ML x).1 hx with rfl|hx
  .exact .step (h.reach _ hs) hi ha
  .exact h.reach x hx
 sub:=λx hx=>by
  rcases(ML x).1 hx with rfl|hx
  .exact arW.2 (.inr (ahJ hi))
  .exact h.sub x hx
def shut(d:List aN)(out:Sp.LS):Prop:=∀i,i<d.length->∀s∈aco (fU d i),(s,())∈out->(Sp.nameOf d i,())∈out
theorem aiC{c:jG}{s:bf}{d:List aN}(nm:Sp.Bytes->Bool)(h:(au d&&ak s)=true):∃c' df,Sp.turned c s d nm c' df true:=by obtain⟨c',df,g⟩:=acz c s d nm;rw[h]at g;exact⟨c',df,g⟩
theorem acK:OK Di.e:=by refine XA.ok mixed (aA [wL.e,xY.e] ⟨Uy,Ws,trivial⟩) H0 (λ⟨c,s,d,names,_⟩ hp=>by obtain⟨c',df,h⟩:=aiC (c:=c) (gm names) hp.2.2.2;exact⟨((((c'.1,c'.2.1,c'.2.2.1,c'.2.2.2.1,c'.2.2.2.2.1,()),df,()),())),h⟩) (by kernel_rfl) (show∀l0 l1 l2 l3 l4 s0 s1 s2 d names,Di.goal (acL l0 l1 l2 l3 l4 s0 s1 s2 d names) ((l0,l1,l2,l3,l4,()),(s0,s1,s2,()),d,names,())from ?_);intro a l nx d0 r0 sa sl sn d names hin hp;dsimp only[Di]at hp ⊢;obtain⟨hc,hs,hd,hz⟩:=hp;have hr:aY r0:=hc.2.2;refine⟨⟨hs,hd,hr⟩,?_⟩;rintro⟨⟨out,ok,⟨⟩⟩,⟨⟩⟩ ⟨e1,e2⟩;have e1:ok=(au d&&ak (sa,sl,sn,())):=e1;have e2:ok=true->gX sl d r0 (gm names) out:=e2;have hev:=e2 (e1.trans hz);exact⟨⟨hr,IJ hev hd.1 hs.2.1 hr⟩,λr3 hr3=>⟨hz.symm,λ_=>⟨rfl,rfl,hev,hr3⟩,λh=>by cases h⟩⟩
end Go.Proofs.Tryz
namespace Go.Proofs.Tryz
open Go Go.Fw Go.IntWalk Sp
theorem anG{a b:jG}(h1:dX a=dX b)(h2:je a=je b)(h3:CJ a=CJ b):a=b:=by obtain⟨x1,x2,x3,x4,x5,_⟩:=a;obtain⟨y1,y2,y3,y4,y5,_⟩:=b;have t1:x1=y1:=congrArg (λs:bf=>s.1) h1;have t2:x2=y2:=congrArg (λs:bf=>s.2.1) h1;have t3:x3=y3:=congrArg (λs:bf=>s.2.2.1) h1;have t4:x4=y4:=h2;have t5:x5=y5:=h3;rw[t1,t2,t3,t4,t5]
theorem amB{a b:jG}(ha:iM a=true)(hb:iM b=true)(h1:dX a=dX b)(h2:je a=je b):a=b:=by obtain⟨hst,_,e1⟩:=WL ha;obtain⟨_,_,e2⟩:=WL hb;have hf:a.2.1=b.2.1:=congrArg (λs:bf=>s.2.1) h1;rw[← hf,← h2]at e2;exact anG h1 h2 (MH (qU hst).1 e1 e2)
end Go.Proofs.Tryz
namespace Go.Proofs.Tryz
open Go Go.Fw Go.IntWalk Sp
theorem alK{c:jG}(hok:ak (dX c)=true):aoi c:=λf hf=>by
 obtain⟨i,hi,rfl⟩:=asb hf;have at_:Sp.fileAt c.2.1 i=c.2.1[i]:=by unfold Sp.fileAt;rw[arp,ars hi];rfl
 have:=(acH (aji hok hi)).2;rw[at_]at this;exact arM this (by decide)
theorem KH{a:List dD}{l:List aI}{nx:Int}(h:ak (a,l,nx,())=true):∀f∈l,f.2.2.2.2.1.length<=400:=alK (c:=(a,l,nx,[],[],())) h
theorem akq{c c':jG}{s:bf}{d:List aN}{nm:Sp.Bytes->Bool}{df:List II}{ok:Bool}(h:Sp.turned c s d nm c' df ok)(hz:(au d&&ak s)=true)
 (he:∀R E,gX s.2.1 d (CJ c) nm R->gX s.2.1 d [] (λ_=>true) E->R=E):Sp.became c s d true c' df ok:=by
 obtain⟨u1,u2,_⟩:=h;have hok:=u1.trans hz;obtain⟨k1,k2,k3,k4⟩:=u2 hok;rw[ark]at hz;obtain⟨ay,hl⟩:=Rz hz.1;obtain⟨E,hE⟩:=RU [] (λ_=>true) (qU hz.1).1 hl (ug hz.2);have e:=he _ _ k3 hE;refine⟨hok,λ_=>⟨k1,k2,?_,k4⟩,λhno=>by rw[hok]at hno;cases hno⟩;obtain⟨a,l,nx,d',r,_⟩:=c';have k1':((a,l,nx,()):bf)=s:=k1;have k2:d'=d:=k2;have e:r=E:=e;subst k1' k2 e;rw[WB (out:=r) (by rw[hz.1,hz.2];rfl) hE,aru rfl]
theorem akr{c c1 c2:jG}{s:bf}{d:List aN}{b ok1 ok2:Bool}{df1 df2:List II}(h1:Sp.became c s d b c1 df1 ok1)(h2:Sp.became c s d b c2 df2 ok2):c1=c2/\df1=df2/\ok1=ok2:=by
 obtain⟨a1,a2,a3⟩:=h1;obtain⟨b1,b2,b3⟩:=h2;cases hb:b with
 |true=>
  obtain⟨x1,x2,x3,x4⟩:=a2 (a1.trans hb);obtain⟨y1,y2,y3,y4⟩:=b2 (b1.trans hb);have e:=amB x3 y3 (x1.trans y1.symm) (x2.trans y2.symm);exact⟨e,by rw[x4,y4,e],a1.trans b1.symm⟩
 |false=>obtain⟨x1,x2⟩:=a3 (a1.trans hb);obtain⟨y1,y2⟩:=b3 (b1.trans hb);exact⟨x1.trans y1.symm,x2.trans y2.symm,a1.trans b1.symm⟩
theorem aks(c:jG)(s:bf)(d:List aN)(b:Bool)(hb:b=true->(au d&&ak s)=true):∃c' df,Sp.became c s d b c' df b:=by
 cases h:b with
 |false=>exact⟨c,[],rfl,λh=>(by cases h),λ_=>⟨rfl,rfl⟩⟩
 |true=>have hz:=hb h;have hz':=hz;rw[ark]at hz';obtain⟨ay,hl⟩:=Rz hz'.1;obtain⟨E,hE⟩:=RU [] (λ_=>true) (qU hz'.1).1 hl (ug hz'.2);obtain⟨a,l,nx,_⟩:=s;exact⟨(a,l,nx,d,E,()),Iq (CJ c) E,rfl,λ_=>⟨rfl,rfl,by rw[WB (out:=E) hz hE,aru rfl],rfl⟩,λh=>(by cases h)⟩
theorem aeu:OK Ey.e:=by
 refine XA.ok mixed (aA [o7.e,qh.e,Af.e,Ag.e,iW.e,bY.e,qW.e] ⟨Cm,BL,P6,Qc,kM,dJ,EY,trivial⟩) af7 (λ_ _=>⟨((([],[],0,()),()),(([],0,0,()),())),⟨by decide,⟨by decide,by decide,λf hf=>by cases hf⟩,λf hf=>by cases hf⟩⟩) (by kernel_rfl) (show∀c0 c1 c2,Ey.goal (aev c0 c1 c2) ((c0,c1,c2,()),())from ?_);intro b i h hin hp;dsimp only[Ey]at hp ⊢;have hp:0<=i:=hp;refine⟨hp,?_⟩;rintro⟨⟨⟨a,l,nx,⟨⟩⟩,⟨⟩⟩,⟨b0,i0,g0,⟨⟩⟩,⟨⟩⟩ ⟨p0,d1,d2,d3,d4,_⟩;have D:nJ 2 (a,l,nx,()):=⟨d1,d2,d3,d4⟩;obtain⟨z0,z1,z2⟩:a.length<=1000/\l.length<=1000/\∀f∈l,jl f:=d4;have z3:l.length<=12:=(jE.1 D.ok).2.2.1;have hh:=KH D.ok;refine⟨p0,?_⟩;rintro⟨⟨x1,⟨⟩⟩,⟨b1,i1,g1,⟨⟩⟩,⟨⟩⟩ ⟨p1,_⟩;refine af (λ_=>⟨⟨p1,by simp⟩,?_⟩) λ_=>af (λ_=>⟨p1,?_⟩) λ_=>af (λ_=>⟨p1,?_⟩) λ_=>af (λ_=>?_) λ_=>⟨p1,D.small,hh⟩
 .rintro⟨⟨x3,⟨⟩⟩,⟨b3,i3,g3,⟨⟩⟩,⟨⟩⟩ ⟨p3,_⟩;exact⟨p3,⟨z0,z1,z2⟩,hh⟩
 .rintro⟨⟨⟨d,o,s,lk,al,⟨⟩⟩,⟨⟩⟩,⟨b2,i2,g2,⟨⟩⟩,⟨⟩⟩ ⟨p2,ha⟩;have hf:jl (d,o,s,lk,al,()):=(show al.length<=1000 from arM ha (by decide));refine⟨(show l.length+1<=big by rw[bW];omega),p2,⟨z0,?_,λf hf'=>?_⟩,λf hf'=>?_⟩
  .show(l++[_]).length<=1000;rw[arv,arq,arw];omega
  .rcases arW.1 hf' with h'|h'
   .exact z2 f h'
   .have:f=(d,o,s,lk,al,()):=by simpa using h'
    rw[this];exact hf
  .rcases arW.1 hf' with h'|h'
   .exact hh f h'
   .have:f=(d,o,s,lk,al,()):=by simpa using h'
    rw[this];exact arM ha (by decide)
 .rintro⟨⟨x3,⟨⟩⟩,⟨b3,i3,g3,⟨⟩⟩,⟨⟩⟩ ⟨p3,hx⟩;exact⟨p3,⟨arM (show x3.length<=6 from hx) (by decide),z1,z2⟩,hh⟩
 .refine⟨λy=>0<=y.2.1.2.1/\nJ 2 y.2.2.1,λy=>12-y.2.2.1.2.1.length,⟨p1,D⟩,?_⟩;rintro⟨⟨⟩,⟨b2,i2,g2,⟨⟩⟩,⟨a,l,nx,⟨⟩⟩,⟨⟩⟩ ⟨p2,D⟩;have D:nJ 2 (a,l,nx,()):=D;refine af (λhc=>⟨p2,?_⟩) λ_=>⟨p2,D.small,KH D.ok⟩;have hc:(l.length:Int)<12:=fP hc;rintro⟨⟨⟨d,o,s,lk,al,⟨⟩⟩,⟨⟩⟩,⟨b3,i3,g3,⟨⟩⟩,⟨⟩⟩ ⟨p3,_,ho1,ho2,hl1,hl2,hok,ha⟩;have hf:jl (d,o,s,lk,al,()):=(show al.length<=1000 from arM ha (by decide));refine⟨⟨D.small,hf⟩,?_⟩;rintro⟨⟨⟨a3,l3,VU,⟨⟩⟩,id3,ok3,⟨⟩⟩,⟨⟩⟩ ⟨e1,e2,e3,_⟩;have e:((a3,l3,VU,()):bf)=(bJ (a,l,nx,()) (d,o,s,lk,al,())).1:=Rt e1 e2 e3;have hg:=D.grows (f:=(d,o,s,lk,al,())) (show l.length<12 by omega) ⟨ho1,ho2⟩ ⟨hl1,hl2⟩ hok;have e2:l3=(bJ (a,l,nx,()) (d,o,s,lk,al,())).1.2.1:=e2;refine⟨rfl,⟨p3,?_⟩,?_⟩
  .show nJ 2 (a3,l3,VU,());rw[e];exact D.create hf
  .show 12-l3.length<12-l.length;have hg:(bJ (a,l,nx,()) (d,o,s,lk,al,())).1.2.1.length=l.length+1:=hg;rw[e2,hg];omega
theorem aew:OK EH.e:=by refine XA.ok mixed (aA [jQ.e] ⟨rJ,trivial⟩) af8 (λ_ _=>⟨(([],()),(([],0,0,()),())),⟨by decide,by decide⟩⟩) (by kernel_rfl) (show∀c0 c1 c2,EH.goal (aex c0 c1 c2) ((c0,c1,c2,()),())from ?_);intro b i h hin hp;dsimp only[EH]at hp ⊢;refine⟨λy=>∃n:Nat,y.1.2.1=n/\1<=n/\n<=8/\0<=y.2.1.2.1/\y.2.2.1.length+1<=n,λy=>(8-y.1.2.1).toNat,⟨1,rfl,arF 1,by decide,hp,arF 1⟩,?_⟩;rintro⟨⟨_,_,⟨⟩⟩,⟨b,i,h,⟨⟩⟩,l,⟨⟩⟩ ⟨n,rfl,h1,h8,hi,hl⟩;dsimp only at hi hl ⊢;have w:IntKind.i64.wrap ((n:Int)+1)=((n+1:Nat):Int):=fD _ (by omega);rw[w];refine af (λhc=>⟨hi,?_⟩) λhc=>⟨hi,by show l.length<=7;omega⟩;have hc:=fP hc;rintro⟨⟨x,⟨⟩⟩,⟨b1,i1,g1,⟨⟩⟩,⟨⟩⟩ q1;have q1:0<=i1:=q1;dsimp only;refine af (λ_=>⟨by rw[bW];simp only[arq,arw];omega,rfl,⟨n+1,rfl,by omega,by omega,q1,by simp;omega⟩,by dsimp only;omega⟩) λ_=>⟨rfl,⟨n+1,rfl,by omega,by omega,q1,by dsimp only;omega⟩,by dsimp only;omega⟩
theorem any_some:∃c,Ot c:=⟨([],[],0,[],[],()),⟨⟨by decide,by decide,λf hf=>by cases hf⟩,zW,KF⟩,λf hf=>(by cases hf),by decide⟩
theorem amC{c:jG}(h:Xr c):Ot c/\(CJ c).length=(je c).length:=by obtain⟨h1,h2,h3,h4⟩:=h;obtain⟨k1,k2,k3⟩:=WL h4;exact⟨⟨h1,alK k2,arM (qU k1).2 (by decide)⟩,k3.order.1⟩
theorem aey:OK EI.e:=by
 refine XA.ok mixed (aA [Ey.e,EC.e,EH.e,bY.e,Dj.e] ⟨aeu,aep,aew,dJ,acB,trivial⟩) af9 (λ_ _=>by obtain⟨c,h⟩:=any_some;exact⟨(((c.1,c.2.1,c.2.2.1,c.2.2.2.1,c.2.2.2.2.1,()),()),(([],0,0,()),())),⟨ar4 0,h⟩⟩) (by kernel_rfl) (show∀c0 c1 c2,EI.goal (aez c0 c1 c2) ((c0,c1,c2,()),())from ?_);intro b i h hin hp;dsimp only[EI]at hp ⊢;refine⟨hp,?_⟩;rintro⟨⟨⟨a,l,nx,d,r,⟨⟩⟩,⟨⟩⟩,⟨b0,i0,g0,⟨⟩⟩,⟨⟩⟩ ⟨p0,hl,hd⟩;have hl:Xr (a,l,nx,d,r,()):=hl;have hd:0<d.length:=hd;obtain⟨⟨⟨s1,s2,s3⟩,s4,s5⟩,er⟩:=amC hl;have s3:aY r:=s3;have er:r.length=d.length:=er;refine⟨p0,λr1 hr1=>af (λ_=>⟨hr1.1,λr2 hr2=>⟨⟨ar4 _,by show(0:Int)<(r.length:Int);omega⟩,(show 0<r.length by omega),hr2.1,?_⟩⟩) λ_=>af (λ_=>⟨hr1.1,λr3 hr3=>?_⟩) λ_=>af (λ_=>⟨hr1.1,λr4 hr4=>?_⟩) λ_=>⟨hr1.1,⟨s1,s2,s3⟩,s4,s5⟩⟩
 .refine⟨⟨s1,s2,by show(r.set 0 _).length<=1000;rw[arP];exact s3.1,λx hx=>?_⟩,s4,s5⟩;rcases atY hx with hx|rfl
  .exact s3.2 x hx
  .exact arM hr2.2 (by decide)
 .exact⟨hr3.1,⟨s1,hr3.2.2,s3⟩,s4,hr3.2.1⟩
 .exact⟨hr4.1,⟨hr4.2.1,s2,s3⟩,hr4.2.2,s5⟩
end Go.Proofs.Tryz
namespace Go.Proofs.Tryz
open Go Go.Fw Go.IntWalk Sp
theorem aat:OK BG.e:=by
 refine PA.ok mixed (aA [rq.e] ⟨EZ,trivial⟩) H0 (by kernel_rfl) (show∀a0 a1 a2 b0 b1 b2,BG.goal (aau a0 a1 a2 b0 b1 b2) ((a0,a1,a2,()),(b0,b1,b2,()),())from ?_);intro a0 a1 a2 b0 b1 b2 hin hp;dsimp only[BG]at hp ⊢;refine af (λh0=>⟨trivial,af (λh1=>⟨trivial,?_⟩) λh1=>?_⟩) λh0=>?_
 all_goals refine congrArg (·,()) (arR.2 ?_)
 .simp[arA.1 h0,fP h1]
 .simp[gV h1]
 .simp[show a0≠b0 by simpa using h0]
theorem Yo:OK zJ.e:=by refine PA.ok mixed (aA [BG.e] ⟨aat,trivial⟩) aav (by kernel_rfl) (show∀a b,zJ.goal (Yp a b) (a,b,())from ?_);intro a b hin hp;dsimp only[zJ]at hp ⊢;exact amz (K:=λr=>r=(decide (a=b),())) (λx y=>!decide (x=y)) (λx y=>by simp) _ a b _ hin.1.1 rfl
theorem stays{c:jG}{s:bf}{d:List aN}{b:Bool}(hb:b=false){z:jG}(e:z=c):Sp.became c s d b z [] false:=⟨hb.symm,λh=>(by cases h),λ_=>⟨e,rfl⟩⟩
end Go.Proofs.Tryz
