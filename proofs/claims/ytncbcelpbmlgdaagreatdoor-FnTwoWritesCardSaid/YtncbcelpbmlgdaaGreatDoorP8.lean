import Derived.Test.YtncbcelpbmlgdaaGreatDoorP1
import Derived.Test.YtncbcelpbmlgdaaGreatDoorSp
import Derived.Test.YtncbcelpbmlgdaaGreatDoorV3
import Derived.Test.YtncbcelpbmlgdaaGreatDoorL4
import Derived.Test.YtncbcelpbmlgdaaGreatDoorV20
import Derived.Test.YtncbcelpbmlgdaaGreatDoorFwC
namespace Go.Proofs.Tryz
open Go Go.Fw Go.IntWalk Sp
theorem Jf:OK uV.e:=by refine PA.ok mixed (aO [] trivial) H0 (by kernel_rfl) (show∀x0 x1 p10,uV.goal (Yt x0 x1 p10) ((x0,x1,()),(p10,()),())from ?_);intro x0 x1 p hin hp;dsimp only[uV]at hp ⊢;exact rfl
theorem WJ{d:List bf}{s:Sp.Bytes}{n:Nat}(hn:n<d.length)(h1:(bQ d n).1=s)(h2:∀i,i<n->(bQ d i).1≠s):aB d s=n:=by
 rcases DN d s with⟨_,h⟩|⟨m,g1,g2,g3,g4⟩
 .exact(h _ (getD_mem (d:=(([]:List UInt8),([]:List ax),())) hn) h1).elim
 .have:m=n:=by
   rcases Nat.lt_trichotomy m n with h|h|h
   .exact(h2 m h g3).elim
   .exact h
   .exact(g4 n h h1).elim
  rw[g2,this]
theorem ads{d:List bf}{s:Sp.Bytes}(h2:∀i,i<d.length->(bQ d i).1≠s):aB d s=-1:=by
 rcases DN d s with⟨h,_⟩|⟨m,g1,_,g3,_⟩
 .exact h
 .exact(h2 m g1 g3).elim
theorem vS:OK gJ.e:=by
 refine PA.ok mixed (aO [uV.e] ⟨Jf,trivial⟩) vW (by kernel_rfl) (show∀s adt,gJ.goal (vT s adt) (s,((adt,()),()),())from ?_);intro d s hin hp;dsimp only[gJ]at hp ⊢;have hlen:d.length<=maxLen:=hin.1.1;rw[maxLen_eq]at hlen;refine kK d.length hlen (λn=>∀i,i<n->(bQ d i).1≠s) (λi hi=>by omega) (λI μ n hn hJ next=>?_) λI μ hJ=>?_
 .dsimp only;refine eX (by omega) ⟨⟨by omega,by omega⟩,trivial,af (λh=>?_) λh=>⟨rfl,next λi hi=>?_⟩⟩
  .rw[WJ hn (apf.1 h) hJ]
  .rcases apa i n with h'|h'
   .exact hJ i h'
   .have:i=n:=by omega
    rw[this];exact aoL.1 h
 .dsimp only;refine eY (by omega) ?_;rw[ads hJ]
theorem abp:OK BH.e:=by refine PA.ok mixed (aO [gJ.e,uV.e] ⟨vS,Jf,trivial⟩) H0 (by kernel_rfl) (show∀d name,BH.goal (abq d name) (d,name,())from ?_);intro d s hin hp;dsimp only[BH]at hp ⊢;exact⟨trivial,rfl⟩
theorem WL:OK yc.e:=by
 refine PA.ok mixed (aO [] trivial) Yu (by kernel_rfl) (show∀d name,yc.goal (WM d name) (d,name,())from ?_);intro d s hin hp;dsimp only[yc]at hp ⊢;have hlen:d.length<=maxLen:=hin.1.1;rw[maxLen_eq]at hlen;refine kK d.length hlen (λn=>∀i,i<n->(bQ d i).1≠s) (λi hi=>by omega) (λI μ n hn hJ next=>?_) λI μ hJ=>?_
 .dsimp only;refine eX (by omega) ⟨⟨by omega,by omega⟩,af (λh=>?_) λh=>⟨rfl,next λi hi=>?_⟩⟩
  .rw[WJ hn (apf.1 h) hJ]
  .rcases apa i n with h'|h'
   .exact hJ i h'
   .have:i=n:=by omega
    rw[this];exact aoL.1 h
 .dsimp only;refine eY (by omega) ?_;rw[ads hJ]
theorem O8:OK sD.e:=by
 refine PA.ok mixed (aO [BH.e] ⟨abp,trivial⟩) RS (by kernel_rfl) (show∀d CW names more,sD.goal (PW d CW names more) (d,CW,names,more,())from ?_);intro d aH names more hin hp;dsimp only[sD]at hp ⊢;obtain⟨h1,h2,h3,h4,h5⟩:d.length<=aH.length/\names.length<=1000/\0<=more/\more<=1/\∀x∈aH,0<=x.1/\x.1<=1000000:=hp;refine fZ (λi(c:Int)=>((c,i,()),())) (λy=>y.1.2.1) (λ_ _=>rfl) names.length (by omega) (λn c=>∀B,c<=B↔0<=B/\∀x∈names.take n,0<=aB d x.1->Sp.lv aH (aB d x.1).toNat+more<=B) (λB=>by simp) (λI μ n c hn hJ next=>?_) λI μ c hJ=>?_
 .dsimp only;rw[ao6];have e:=Sp.take_succ' names n ([],()) hn;refine eX (by omega) ⟨⟨by omega,by omega⟩,trivial,af (λh=>?_) λh=>⟨rfl,next _ λB=>?_⟩⟩
  .have h:0<=aB d (names.getD n ([],())).1:=fV h;have hlt:=D7 h;have hb:=h5 _ (adu (l:=aH) (i:=(aB d (names.getD n ([],())).1).toNat) (by omega));dsimp only at hb;have hw:IntKind.i64.wrap (Sp.lv aH (aB d (names.getD n ([],())).1).toNat+more)=Sp.lv aH (aB d (names.getD n ([],())).1).toNat+more:=fJ _ (by omega);have e2:(aH.getD (aB d (names.getD n ([],())).1).toNat (0,())).1=Sp.lv aH (aB d (names.getD n ([],())).1).toNat:=rfl;refine⟨⟨h,by omega⟩,rfl,next _ λB=>?_⟩;rw[e2,hw,e];simp only[apc,ao7];have:=hJ B;constructor
   .intro hB;have hc:c<=B:=by split at hB<;>omega
    have hv:Sp.lv aH (aB d (names.getD n ([],())).1).toNat+more<=B:=by split at hB<;>omega
    obtain⟨a,b⟩:=this.1 hc;refine⟨a,λx hx hx0=>?_⟩;rcases hx with hx|rfl
    .exact b x hx hx0
    .exact hv
   .rintro⟨a,b⟩;have hc:=this.2 ⟨a,λx hx=>b x (.inl hx)⟩;have hv:=b _ (.inr rfl) h;split<;>omega
  .have h:¬0<=aB d (names.getD n ([],())).1:=gK h;rw[hJ B,e];simp only[apc,ao7];constructor
   .rintro⟨a,b⟩;refine⟨a,λx hx hx0=>?_⟩;rcases hx with hx|rfl
    .exact b x hx hx0
    .exact(h hx0).elim
   .exactλ⟨a,b⟩=>⟨a,λx hx=>b x (.inl hx)⟩
 .dsimp only;refine eY (by omega) (congrArg (·,()) ?_);rw[ap3]at hJ;have h6:=λB=>(hJ B).trans (Bl (d:=d) (aH:=aH) (more:=more) names B).symm;have a:=(h6 c).1 (apM _);have b:=(h6 (sF d aH more names)).2 (apM _);omega
end Go.Proofs.Tryz
namespace Go.Proofs.Tryz
open Go Go.Fw Go.IntWalk Sp
theorem aaK{d:List bf}{i:Nat}(hi:i<d.length){neg:Bool}{r:Sp.LS}(hr:iH r (dI (bQ d i).2.1 neg)){p:Nat}(hp:p<r.length)(h0:0<=aB d (r.getD p ([],())).1):
 (i,(aB d (r.getD p ([],())).1).toNat,if neg then 1 else 0)∈bV d:=by
 have hm:=getD_mem (d:=(([]:List UInt8),())) hp;have:=(hr.2 (r.getD p ([],())).1).1 hm;cases neg with
 |false=>exact Bo.2 ⟨hi,_,.inl ⟨rfl,this⟩,h0,rfl⟩
 |true=>exact Bo.2 ⟨hi,_,.inr ⟨rfl,this⟩,h0,rfl⟩
theorem I7{d:List bf}{i j m:Nat}{neg:Bool}{r:Sp.LS}(hr:iH r (dI (bQ d i).2.1 neg))(he:(i,j,m)∈bV d)(hm:m=if neg then 1 else 0):
 ∃p,p<r.length/\0<=aB d (r.getD p ([],())).1/\j=(aB d (r.getD p ([],())).1).toNat:=by
 obtain⟨_,s,h2,h3,h4⟩:=Bo.1 he;have hs:s∈dI (bQ d i).2.1 neg:=by
  cases neg with
  |false=>rcases h2 with⟨_,h⟩|⟨h,_⟩;exact h;simp at hm;omega
  |true=>rcases h2 with⟨h,_⟩|⟨_,h⟩;simp at hm;omega;exact h
 have hm:=(hr.2 s).2 hs;obtain⟨p,hp,e⟩:=ap0 hm;have e2:r.getD p ([],())=(s,()):=by rw[aoN,aoQ hp,e];rfl
 exact⟨p,hp,by rw[e2];exact h3,by rw[e2];exact h4⟩
theorem ahW:∀x,(oP.F x).1->∃t,(oP.F x).2 t:=by rintro⟨d,aH,_⟩ hp;obtain⟨_,_,h3,h4⟩:jR d/\d.length<=5/\aH.length=d.length/\∀x∈aH,0<=x.1/\x.1<=1000000:=hp;obtain⟨r,hr⟩:=aez d aH h3 λi hi=>(h4 _ (adu (by omega))).1;exact⟨((r,()),()),hr⟩
theorem V7:OK oP.e:=by
 refine XA.ok mixed (aO [qR.e,yc.e,qQ.e] ⟨N7,WL,NY,trivial⟩) Yv (ahW) (by kernel_rfl) (show∀d aH,oP.goal (WN d aH) (d,aH,())from ?_);intro d aH hin hp;dsimp only[oP]at hp ⊢;obtain⟨h1,h2,h3,h4⟩:jR d/\d.length<=5/\aH.length=d.length/\∀x∈aH,0<=x.1/\x.1<=1000000:=hp;have h0:∀i,i<d.length->0<=Sp.lv aH i/\Sp.lv aH i<=1000000:=λi hi=>h4 _ (adu (by omega));have hB:∀i,i<d.length->Sp.lv aH i<=1000000:=λi hi=>(h0 i hi).2;refine⟨by rw[mP];omega,?_⟩;refine fZ (λi(x:List (Int×Unit))=>((i,()),x,())) (λy=>y.1.1) (λ_ _=>rfl) d.length (by omega) (λi cur=>Dw d aH cur (1000*i) λe=>e∈bV d/\e.1<i) ((Dw.start h3).weaken (by omega) λe he=>by have:=he.2;omega) (λI μ i cur hi hJ next=>?_) λI μ cur hJ=>?_
 .dsimp only;rw[ao6];refine eX (by omega) ⟨⟨by omega,by omega⟩,DJ h1 hi,?_⟩;rintro⟨⟨r,⟨⟩⟩,⟨⟩⟩ hr;have hr:iH r (dI (bQ d i).2.1 false):=hr;have hrl:r.length<=1000:=hr.1;refine fZ (λi(x:List (Int×Unit))=>((i,()),x,())) (λy=>y.1.1) (λ_ _=>rfl) r.length (by omega) (λp cur=>Dw d aH cur (1000*i) λe=>e∈bV d/\(e.1<i\/(e.1=i/\e.2.2=0/\∃p',p'<p/\e.2.1=(aB d (r.getD p' ([],())).1).toNat/\0<=aB d (r.getD p' ([],())).1))) (hJ.weaken (apM _) λe he=>⟨he.1,by rcases he.2 with h|⟨_,_,_,h,_⟩;exact h;omega⟩) (λI1 μ1 p cur hp hJ agu=>?_) λI1 μ1 cur hJ=>?_
  .dsimp only;rw[ao6];have hl:=hJ.len;have hP:∀e:Nat×Nat×Nat,(e∈bV d/\(e.1<i\/(e.1=i/\e.2.2=0/\∃p',p'<p+1/\e.2.1=(aB d (r.getD p' ([],())).1).toNat/\0<=aB d (r.getD p' ([],())).1)))->
    (e∈bV d/\(e.1<i\/(e.1=i/\e.2.2=0/\∃p',p'<p/\e.2.1=(aB d (r.getD p' ([],())).1).toNat/\0<=aB d (r.getD p' ([],())).1)))\/(e=(i,(aB d (r.getD p ([],())).1).toNat,0)/\0<=aB d (r.getD p ([],())).1):=by
    rintro⟨a,b,c⟩ ⟨he,h|⟨h,h5,p',h6,h7,h8⟩⟩
    .exact .inl ⟨he,.inl h⟩
    .by_cases hpp:p'=p
     .subst hpp;have h:a=i:=h;have h5:c=0:=h5;have h7:b=(aB d (r.getD p' ([],())).1).toNat:=h7;exact .inr ⟨by rw[h,h5,h7],h8⟩
     .exact .inl ⟨he,.inr ⟨h,h5,p',by omega,h7,h8⟩⟩
   refine eX (by omega) ⟨⟨by omega,by omega⟩,trivial,af (λh=>?_) λh=>⟨rfl,agu _ (hJ.weaken (apM _) λe he=>?_)⟩⟩
   .have h:0<=aB d (r.getD p ([],())).1:=fV h;have hlt:=D7 h;have he:=aaK hi hr hp h;refine⟨⟨h,by omega⟩,by omega,⟨by omega,by omega⟩,by omega,af (λhc=>⟨⟨h,by omega⟩,by omega,⟨by omega,by omega⟩,by omega,rfl,agu _ ?_⟩) λhc=>⟨rfl,agu _ ?_⟩⟩
    .have hc:Sp.lv cur i<Sp.lv cur (aB d (r.getD p ([],())).1).toNat:=fV hc;have:=hJ.set he (by show _<_+((0:Nat):Int);omega);have e0:Sp.lv cur (aB d (r.getD p ([],())).1).toNat+((if false=true then 1 else 0:Nat):Int)=Sp.lv cur (aB d (r.getD p ([],())).1).toNat:=by show _+((0:Nat):Int)=_;omega
     rw[e0]at this;exact this.weaken (by show 1000*(i:Int)+((0:Nat):Int)<=_;omega) λe he=>(hP e he).imp_right λh=>h.1
    .have hc:¬Sp.lv cur i<Sp.lv cur (aB d (r.getD p ([],())).1).toNat:=gK hc;have:=hJ.still he (by show _+((0:Nat):Int)<=_;omega);exact this.weaken (apM _) λe he=>(hP e he).imp_right λh=>h.1
   .have h:¬0<=aB d (r.getD p ([],())).1:=gK h;rcases hP e he with h'|h'
    .exact h'
    .exact(h h'.2).elim
  .dsimp only;have hJ2:Dw d aH cur (1000*i) λe=>e∈bV d/\(e.1<i\/(e.1=i/\e.2.2=0)):=hJ.weaken (apM _) λe he=>⟨he.1,he.2.imp_right λh=>⟨h.1,h.2,by obtain⟨a,b,c⟩:=e;obtain⟨he,_⟩:=he;obtain⟨h,h5⟩:=h;have h:a=i:=h;have h5:c=0:=h5;subst h h5;obtain⟨p,q1,q2,q3⟩:=I7 hr he rfl;exact⟨p,q1,q3,q2⟩⟩⟩;clear hJ;refine eY (by omega) ⟨⟨by omega,by omega⟩,DJ h1 hi,?_⟩;rintro⟨⟨r2,⟨⟩⟩,⟨⟩⟩ hr2;have hr2:iH r2 (dI (bQ d i).2.1 true):=hr2;have hrl2:r2.length<=1000:=hr2.1;refine fZ (λi(x:List (Int×Unit))=>((i,()),x,())) (λy=>y.1.1) (λ_ _=>rfl) r2.length (by omega) (λp cur=>Dw d aH cur (1000*i+p) λe=>e∈bV d/\(e.1<i\/(e.1=i/\e.2.2=0)\/(e.1=i/\e.2.2=1/\∃p',p'<p/\e.2.1=(aB d (r2.getD p' ([],())).1).toNat/\0<=aB d (r2.getD p' ([],())).1))) (hJ2.weaken (by omega) λe he=>⟨he.1,by rcases he.2 with h|h|⟨_,_,_,h,_⟩;exact .inl h;exact .inr h;omega⟩) (λI2 μ2 p cur hp hJ agv=>?_) λI2 μ2 cur hJ=>?_
   .dsimp only;rw[ao6];have hl:=hJ.len;have hP:∀e:Nat×Nat×Nat,(e∈bV d/\(e.1<i\/(e.1=i/\e.2.2=0)\/(e.1=i/\e.2.2=1/\∃p',p'<p+1/\e.2.1=(aB d (r2.getD p' ([],())).1).toNat/\0<=aB d (r2.getD p' ([],())).1)))->
     (e∈bV d/\(e.1<i\/(e.1=i/\e.2.2=0)\/(e.1=i/\e.2.2=1/\∃p',p'<p/\e.2.1=(aB d (r2.getD p' ([],())).1).toNat/\0<=aB d (r2.getD p' ([],())).1)))\/(e=(i,(aB d (r2.getD p ([],())).1).toNat,1)/\0<=aB d (r2.getD p ([],())).1):=by
     rintro⟨a,b,c⟩ ⟨he,h|h|⟨h,h5,p',h6,h7,h8⟩⟩
     .exact .inl ⟨he,.inl h⟩
     .exact .inl ⟨he,.inr (.inl h)⟩
     .by_cases hpp:p'=p
      .subst hpp;have h:a=i:=h;have h5:c=1:=h5;have h7:b=(aB d (r2.getD p' ([],())).1).toNat:=h7;exact .inr ⟨by rw[h,h5,h7],h8⟩
      .exact .inl ⟨he,.inr (.inr ⟨h,h5,p',by omega,h7,h8⟩)⟩
    refine eX (by omega) ⟨⟨by omega,by omega⟩,trivial,af (λh=>?_) λh=>⟨rfl,agv _ (hJ.weaken (by omega) λe he=>?_)⟩⟩
    .have h:0<=aB d (r2.getD p ([],())).1:=fV h;have hlt:=D7 h;have he:=aaK hi hr2 hp h;have hg:=hJ.grow 1000000 hB (aB d (r2.getD p ([],())).1).toNat (by omega);have hu:=hJ.up (aB d (r2.getD p ([],())).1).toNat (by omega);have hz:=(h0 (aB d (r2.getD p ([],())).1).toNat (by omega)).1;have hw:IntKind.i64.wrap (Sp.lv cur (aB d (r2.getD p ([],())).1).toNat+1)=Sp.lv cur (aB d (r2.getD p ([],())).1).toNat+1:=fJ _ (by omega);have e2:(cur.getD (aB d (r2.getD p ([],())).1).toNat (0,())).1=Sp.lv cur (aB d (r2.getD p ([],())).1).toNat:=rfl;rw[e2,hw];refine⟨⟨h,by omega⟩,by omega,⟨by omega,by omega⟩,by omega,af (λhc=>⟨⟨h,by omega⟩,by omega,⟨by omega,by omega⟩,by omega,rfl,agv _ ?_⟩) λhc=>⟨rfl,agv _ ?_⟩⟩
     .have hc:Sp.lv cur i<Sp.lv cur (aB d (r2.getD p ([],())).1).toNat+1:=fV hc;have:=hJ.set he (by show _<_+((1:Nat):Int);omega);exact this.weaken (by show 1000*(i:Int)+p+((1:Nat):Int)<=_;omega) λe he=>(hP e he).imp_right λh=>h.1
     .have hc:¬Sp.lv cur i<Sp.lv cur (aB d (r2.getD p ([],())).1).toNat+1:=gK hc;have:=hJ.still he (by show _+((1:Nat):Int)<=_;omega);exact this.weaken (by omega) λe he=>(hP e he).imp_right λh=>h.1
    .have h:¬0<=aB d (r2.getD p ([],())).1:=gK h;rcases hP e he with h'|h'
     .exact h'
     .exact(h h'.2).elim
   .dsimp only;refine eY (by omega) ⟨rfl,next _ (hJ.weaken (by omega) λe he=>⟨he.1,?_⟩)⟩;obtain⟨a,b,c⟩:=e;obtain⟨he,h⟩:=he;have h:a<i+1:=h;rcases apa a i with h'|h'
    .exact .inl h'
    .have:a=i:=by omega
     subst this;obtain⟨_,_,hc⟩:=jH d _ he;have hc:c<=1:=hc;rcases aqm c with hc0|hc0
     .exact .inr (.inl ⟨rfl,hc0⟩)
     .have hc1:c=1:=by omega
      subst hc1;obtain⟨p,q1,q2,q3⟩:=I7 hr2 he rfl;exact .inr (.inr ⟨rfl,rfl,p,q1,q3,q2⟩)
 .dsimp only;refine eY (by omega) ?_;exact hJ.raised (by omega) (λe he=>⟨he,(jH d e he).1⟩) λi hi=>(h0 i hi).1
end Go.Proofs.Tryz
namespace Go.Proofs.Tryz
open Go Go.Fw Go.IntWalk Sp
theorem Q9{d:List bf}{aH r:List (Int×Unit)}(h:Sp.raised d aH r)(h0:∀i,i<d.length->0<=Sp.lv aH i)(hp:ig (bV d) λi=>(Sp.lv aH i).toNat):∀i,i<d.length->Sp.lv r i=Sp.lv aH i:=by obtain⟨_,h2,_,_,h5⟩:=h;intro i hi;have a:Sp.lv aH i<=Sp.lv r i:=h2 i hi;have b:Sp.lv r i<=((Sp.lv aH i).toNat:Int):=h5 _ hp (λj hj=>by have:=h0 j hj;show Sp.lv aH j<=((Sp.lv aH j).toNat:Int);omega) i hi;have:=h0 i hi;omega
theorem ac0{d:List bf}{aH r:List (Int×Unit)}(h:Sp.raised d aH r)(hp:¬ig (bV d) λi=>(Sp.lv aH i).toNat):∃i,i<d.length/\Sp.lv aH i<Sp.lv r i:=by obtain⟨_,h2,_,h4,_⟩:=h;refine apW λhno=>hp (h4 λi hi=>?_);have a:Sp.lv aH i<=Sp.lv r i:=h2 i hi;have b:¬Sp.lv aH i<Sp.lv r i:=λh=>hno ⟨i,hi,h⟩;show Sp.lv r i=Sp.lv aH i;omega
theorem aaC{d:List bf}(h1:lF d=true){L:Nat->Nat}(h2:ig (bV d) L):fB d=true:=mV.2 ⟨h1,L,h2⟩
theorem ac1{d:List bf}(h:∀M,ig (bV d) M->(∀i,i<d.length->M i<d.length)->False):fB d=false:=by rw[arM];intro h1;obtain⟨_,h2⟩:=mV.1 h1;obtain⟨M,h3,h4⟩:=G8 (jH d) h2;exact h M h3 h4
theorem aaD{d:List bf}(h:lF d=false):fB d=false:=by rw[arM];intro h1;rw[(mV.1 h1).1]at h;cases h
theorem Ll(n i:Nat):Sp.lv (List.replicate n (0,())) i=0:=by
 unfold Sp.lv;rw[aoN];by_cases h:i<n
 .rw[aqO,if_pos h];rfl
 .rw[apJ (by simp;omega)];rfl
theorem aiX{d:List bf}(h:fB d=true):∃s,Iu d s:=by obtain⟨hok,h2⟩:=mV.1 h;exact agk (G8 (jH d) h2)
theorem X7{d:List bf}:∃s:List (Int×Unit),(fB d=true->Iu d s)/\(fB d=false->s=[]):=by
 cases h:fB d with
 |true=>obtain⟨s,hs⟩:=aiX h;exact⟨s,λ_=>hs,λh=>by cases h⟩
 |false=>exact⟨[],λh=>(by cases h),λ_=>rfl⟩
theorem Zw:OK Ak.e:=by
 refine XA.ok mixed (aO [yY.e,oP.e,rX.e] ⟨X8,V7,O7,trivial⟩) abk (λ⟨d,_⟩ hp=>by obtain⟨s,h1,h2⟩:=X7 (d:=d);exact⟨(((s,fB d,()),())),⟨rfl,h1,h2⟩⟩) (by kernel_rfl) (show∀d,Ak.goal (Zx d) (d,())from ?_);intro d hin hp;dsimp only[Ak]at hp ⊢;have hp:jR d:=hp;refine⟨hp,af (λh=>⟨(aaD (iW h)).symm,λh=>(by cases h),λ_=>rfl⟩) λh=>?_⟩;have hok:=fC h;have hlen:=X9 hok;refine⟨⟨by omega,by omega,by rw[mP];omega⟩,?_⟩;have hnn:d.length*d.length<=25:=arX hlen hlen;have e1:(d.length:Int)*(d.length:Int)=((d.length*d.length:Nat):Int):=by simp
 have w:IntKind.i64.wrap (IntKind.i64.wrap ((d.length:Int)*(d.length:Int))+1)=((d.length*d.length:Nat):Int)+1:=by rw[e1,fJ ((d.length*d.length:Nat):Int) (by omega)];exact fJ _ (by omega)
 rw[w];have hmem:∀aH:List (Int×Unit),aH.length=d.length->∀k:Nat,k<=27->(∀i,i<d.length->0<=Sp.lv aH i/\Sp.lv aH i<=5000*k)->∀x∈aH,0<=x.1/\x.1<=1000000:=λaH hl k hk h=>
  ahH (p:=λz=>0<=z/\z<=1000000) λi hi=>by have:=h i (by omega);omega
 refine fZ (λi(x:List (Int×Unit))=>((x,i,()),())) (λy=>y.1.2.1) (λ_ _=>rfl) (d.length*d.length+2) (by omega)
  (λk aH=>aH.length=d.length/\(∀i,i<d.length->0<=Sp.lv aH i/\Sp.lv aH i<=5000*k)/\(∀M,ig (bV d) M->∀i,i<d.length->Sp.lv aH i<=M i)/\((ig (bV d) λi=>(Sp.lv aH i).toNat)\/(k:Int)<=sW aH d.length))
  ⟨by simp,λi hi=>by rw[ao6,Ll];omega,λM hM i hi=>by rw[ao6,Ll];omega,.inr (Rf _ λi hi=>by rw[ao6,Ll];omega)⟩ (λI μ k aH hk hJ next=>?_) λI μ aH hJ=>?_
 .obtain⟨g1,g2,g3,g4⟩:=hJ;dsimp only;refine eX (by omega) ⟨⟨hp,hlen,g1,hmem aH g1 k (by omega) g2⟩,?_⟩;rintro⟨⟨r,⟨⟩⟩,⟨⟩⟩ hr;have hr:Sp.raised d aH r:=hr;have hr':=hr;obtain⟨q1,q2,q3,q4,q5⟩:=hr';have hup:∀i,i<d.length->Sp.lv aH i<=Sp.lv r i:=q2;refine⟨rfl,next r ⟨q1,λi hi=>?_,λM hM i hi=>q5 M hM (g3 M hM) i hi,?_⟩⟩
  .have a:=hup i hi;have b:=q3 (5000*k) (λj hj=>(g2 j hj).2) i hi;have b:Sp.lv r i<=5000*k+5000:=b;have c:=g2 i hi;omega
  .by_cases hpf:ig (bV d) λi=>(Sp.lv aH i).toNat
   .left;have hs:=Q9 hr (λi hi=>(g2 i hi).1) hpf;intro e he;have:=hpf e he;obtain⟨a,b,_⟩:=jH d e he;dsimp only at this ⊢;rw[hs _ a,hs _ b];exact this
   .right;have hm:=V8 d.length hup (ac0 hr hpf);rcases g4 with g4|g4
    .exact(hpf g4).elim
    .omega
 .obtain⟨g1,g2,g3,g4⟩:=hJ;dsimp only;refine eY (by omega) ⟨⟨hp,hlen,g1,hmem aH g1 _ (by omega) g2⟩,?_⟩;rintro⟨⟨r,⟨⟩⟩,⟨⟩⟩ hr;have hr:Sp.raised d aH r:=hr;refine⟨trivial,af (λhne=>?_) λhe=>?_⟩
  .have hne:¬r=aH:=gK (iW hne);refine⟨(ac1 λM hM hb=>?_).symm,λh=>(by cases h),λ_=>rfl⟩;rcases g4 with g4|g4
   .exact hne (alh (by rw[hr.1,g1]) λi hi=>Q9 hr (λi hi=>(g2 i hi).1) g4 i (by rw[← hr.1];exact hi))
   .have:=JG (a:=aH) (b:=d.length) d.length λi hi=>by have a:=g3 M hM i hi;have b:=hb i hi;omega
    omega
  .have he:r=aH:=fV (fC he);subst he;have hpf:=hr.2.2.2.1 λi hi=>rfl;obtain⟨M,hM,hb⟩:=G8 (jH d) ⟨_,hpf⟩;exact⟨(aaC hok hpf).symm,λ_=>⟨g1,λi hi=>⟨(g2 i hi).1,by have a:=g3 M hM i hi;have b:=hb i hi;omega⟩,hpf,g3⟩,λh=>by cases h⟩
theorem Zy:OK Aj.e:=by
 refine XA.ok mixed (aO [qP.e,sD.e,qO.e,rY.e] ⟨Nl,O8,Np,O9,trivial⟩) abl (λ⟨d,_⟩ hp=>by obtain⟨s,h1,h2⟩:=X7 (d:=d);exact⟨(((s,fB d,()),())),⟨rfl,h1⟩⟩) (by kernel_rfl) (show∀d,Aj.goal (Zz d) (d,())from ?_);intro d hin hp;dsimp only[Aj]at hp ⊢;have hp:jR d:=hp;refine⟨hp,af (λh=>⟨(aaD (iW h)).symm,λh=>by cases h⟩) λh=>?_⟩;have hok:=fC h;have hlen:=X9 hok;refine⟨⟨by omega,by omega,by rw[mP];omega⟩,?_⟩;have hmem:∀aH:List (Int×Unit),aH.length=d.length->(∀i,i<d.length->0<=Sp.lv aH i/\Sp.lv aH i<=d.length)->∀x∈aH,0<=x.1/\x.1<=1000000:=λaH hl h=>
  ahH (p:=λz=>0<=z/\z<=1000000) λi hi=>by have:=h i (by omega);omega
 refine⟨λy=>y.2.1.length=d.length/\(∀i,i<d.length->0<=Sp.lv y.2.1 i/\Sp.lv y.2.1 i<=d.length)/\(∀M,ig (bV d) M->∀i,i<d.length->Sp.lv y.2.1 i<=M i)/\(y.1.1=false->ig (bV d) λi=>(Sp.lv y.2.1 i).toNat),
  λy=>(((d.length*d.length:Nat):Int)-sW y.2.1 d.length).toNat*2+(if y.1.1=true then 1 else 0),⟨by simp,λi hi=>by rw[ao6,Ll];omega,λM hM i hi=>by rw[ao6,Ll];omega,λh=>by cases h⟩,?_⟩
 rintro⟨⟨ch,⟨⟩⟩,aH,⟨⟩⟩ ⟨g1,g2,g3,g4⟩;dsimp only at g1 g2 g3 g4 ⊢;refine af (λhch=>?_) λhch=>⟨(aaC hok (g4 hch)).symm,λ_=>⟨g1,g2,g4 hch,g3⟩⟩;subst hch;refine fZ (λi(x:Bool×List (Int×Unit))=>((x.1,i,()),x.2,())) (λy=>y.1.2.1) (λ_ _=>rfl) d.length (by omega)
  (λi(x:Bool×List (Int×Unit))=>x.2.length=d.length/\(∀i,i<d.length->Sp.lv aH i<=Sp.lv x.2 i/\Sp.lv x.2 i<=d.length)/\(∀M,ig (bV d) M->∀i,i<d.length->Sp.lv x.2 i<=M i)/\
    (x.1=true->sW aH d.length<sW x.2 d.length)/\(x.1=false->x.2=aH/\∀e∈bV d,e.1<i->Sp.lv aH e.2.1+e.2.2<=Sp.lv aH e.1))
  (s0:=(false,aH)) ⟨g1,λi hi=>⟨apM _,(g2 i hi).2⟩,g3,λh=>(by cases h),λ_=>⟨rfl,λe _ h=>by omega⟩⟩ (λI μ i x hi hJ next=>?_) λI μ x hJ=>?_
 .obtain⟨c,cur⟩:=x;obtain⟨q1,q2,q3,q4,q5⟩:=hJ;have q1:cur.length=d.length:=q1;have hcur:∀i,i<d.length->0<=Sp.lv cur i/\Sp.lv cur i<=d.length:=λi hi=>⟨Int.le_trans (g2 i hi).1 (q2 i hi).1,(q2 i hi).2⟩;have hm:=hmem cur q1 hcur;dsimp only;rw[ao6];refine eX (by omega) ⟨⟨by omega,by omega⟩,DJ hp hi,?_⟩;rintro⟨⟨r4,⟨⟩⟩,⟨⟩⟩ hr4;have hr4:iH r4 (dI (bQ d i).2.1 false):=hr4;refine⟨⟨by omega,hr4.1,by omega,by omega,hm⟩,DJ hp hi,?_⟩;rintro⟨⟨r6,⟨⟩⟩,⟨⟩⟩ hr6;have hr6:iH r6 (dI (bQ d i).2.1 true):=hr6;refine⟨⟨by omega,hr6.1,by omega,by omega,hm⟩,?_⟩;dsimp only;have hle:∀M,ig (bV d) M->sF d cur 0 r4<=M i/\sF d cur 1 r6<=M i:=by
   intro M hM;refine⟨(Bl r4 _).2 ⟨by omega,λx hx h0=>?_⟩,(Bl r6 _).2 ⟨by omega,λx hx h0=>?_⟩⟩
   .have he:=Bo.2 ⟨hi,x.1,.inl ⟨rfl,(hr4.2 x.1).1 hx⟩,h0,rfl⟩;have a:=hM _ he;have a:M (aB d x.1).toNat+0<=M i:=a;have b:=q3 M hM _ (jH d _ he).2.1;have b:Sp.lv cur (aB d x.1).toNat<=M (aB d x.1).toNat:=b;omega
   .have he:=Bo.2 ⟨hi,x.1,.inr ⟨rfl,(hr6.2 x.1).1 hx⟩,h0,rfl⟩;have a:=hM _ he;have a:M (aB d x.1).toNat+1<=M i:=a;have b:=q3 M hM _ (jH d _ he).2.1;have b:Sp.lv cur (aB d x.1).toNat<=M (aB d x.1).toNat:=b;omega
  have hge:∀e∈bV d,e.1=i->Sp.lv cur e.2.1+e.2.2<=sF d cur 0 r4\/Sp.lv cur e.2.1+e.2.2<=sF d cur 1 r6:=by
   rintro⟨a,b,m⟩ he ha;have ha:a=i:=ha;subst ha;have hm1:m<=1:=(jH d _ he).2.2;rcases aqm m with h|h
   .subst h;obtain⟨p,p1,p2,p3⟩:=I7 hr4 he rfl;left;have:=((Bl (d:=d) (aH:=cur) (more:=0) r4 _).1 (apM _)).2 _ (getD_mem (d:=(([]:List UInt8),())) p1) p2;show Sp.lv cur b+((0:Nat):Int)<=_;rw[p3];omega
   .have:m=1:=by omega
    subst this;obtain⟨p,p1,p2,p3⟩:=I7 hr6 he rfl;right;have:=((Bl (d:=d) (aH:=cur) (more:=1) r6 _).1 (apM _)).2 _ (getD_mem (d:=(([]:List UInt8),())) p1) p2;show Sp.lv cur b+((1:Nat):Int)<=_;rw[p3];omega
  generalize sF d cur 0 r4=u at hle hge ⊢;generalize sF d cur 1 r6=v at hle hge ⊢;have hv:∃z,(if v>u then v else u)=z/\u<=z/\v<=z/\(z=u\/z=v):=by refine⟨_,rfl,?_,?_,?_⟩<;>split<;>omega
  obtain⟨z,ez,hz1,hz2,hz3⟩:=hv;rw[ez];have e2:(cur.getD i (0,())).1=Sp.lv cur i:=rfl;rw[e2];refine af (λhbig=>?_) λhbig=>⟨⟨by omega,by omega⟩,by omega,af (λhup=>⟨⟨by omega,by omega⟩,by omega,rfl,next (true,cur.set i (z,())) ?_⟩) λhup=>⟨rfl,next (c,cur) ?_⟩⟩
  .have hbig:z>(d.length:Int):=fV hbig;refine⟨(ac1 λM hM hb=>?_).symm,λh=>by cases h⟩;have a:=hle M hM;have b:=hb i hi;omega
  .have hbig:¬z>(d.length:Int):=gK hbig;have hup:z>Sp.lv cur i:=fV hup;have hs:=λk=>ac2 (l:=cur) (i:=i) (by omega) z k;refine⟨by simp;omega,λk hk=>?_,λM hM k hk=>?_,λ_=>?_,λh=>by cases h⟩
   .dsimp only;rw[hs];have:=q2 k hk;dsimp only at this;split
    .next e=>subst e;omega
    .exact this
   .dsimp only;rw[hs];split
    .next e=>subst e;have:=hle M hM;omega
    .exact q3 M hM k hk
   .have a:=V9 (a:=aH) (b:=cur) d.length λk hk=>(q2 k hk).1;have hsk:∀k,k<d.length->Sp.lv cur k<=Sp.lv (cur.set i (z,())) k:=λk hk=>by
     rw[hs];split
     .next e=>subst e;omega
     .exact apM _
    have b:=V8 (a:=cur) (b:=cur.set i (z,())) d.length hsk ⟨i,hi,by rw[hs,if_pos rfl];omega⟩;show sW aH d.length<sW (cur.set i (z,())) d.length;omega
  .have hup:¬z>Sp.lv cur i:=gK hup;refine⟨q1,q2,q3,q4,λh=>?_⟩;obtain⟨a,b⟩:=q5 h;have a:cur=aH:=a;subst a;refine⟨rfl,λe he hlt=>?_⟩;rcases apa e.1 i with h'|h'
   .exact b e he h'
   .have KQ:e.1=i:=by omega
    have:=hge e he KQ;rw[KQ];omega
 .obtain⟨c,cur⟩:=x;obtain⟨q1,q2,q3,q4,q5⟩:=hJ;dsimp only at q1 q2 q3 q4 q5 ⊢;have hcur:∀i,i<d.length->0<=Sp.lv cur i/\Sp.lv cur i<=d.length:=λi hi=>⟨Int.le_trans (g2 i hi).1 (q2 i hi).1,(q2 i hi).2⟩;have hsum:=JG (a:=cur) (b:=d.length) d.length λi hi=>(q2 i hi).2;refine eY (by omega) ⟨rfl,⟨q1,hcur,q3,λhc e he=>?_⟩,?_⟩
  .obtain⟨a,b⟩:=q5 hc;subst a;obtain⟨x1,x2,_⟩:=jH d e he;have:=b e he x1;have y1:=(hcur _ x1).1;have y2:=(hcur _ x2).1;dsimp only;omega
  .cases c with
   |true=>
    have:=q4 rfl;simp only[if_true];omega
   |false=>obtain⟨a,_⟩:=q5 rfl;subst a;simp
theorem Nq:OK qU.e:=by refine PA.ok mixed (aO [Aj.e] ⟨Zy,trivial⟩) H0 (by kernel_rfl) (show∀d,qU.goal (Nr d) (d,())from ?_);intro d hin hp;dsimp only[qU]at hp ⊢;refine⟨hp,λr hr=>?_⟩;exact arR hr.1 rfl
theorem Ns:OK qV.e:=by refine PA.ok mixed (aO [Ak.e] ⟨Zw,trivial⟩) H0 (by kernel_rfl) (show∀d,qV.goal (Nu d) (d,())from ?_);intro d hin hp;dsimp only[qV]at hp ⊢;refine⟨hp,λr hr=>?_⟩;exact arR hr.1 rfl
end Go.Proofs.Tryz
namespace Go.Proofs.Tryz
open Go Go.Fw Go.IntWalk Sp
theorem rG:OK gX.e:=by
 refine PA.ok mixed (aO [qU.e,qL.e] ⟨Nq,Nj,trivial⟩) H0 (by kernel_rfl) (show∀x0 x1 x2 x3,gX.goal (Ig x0 x1 x2 x3) ((x0,x1,x2,x3,()),())from ?_);intro x0 x1 x2 x3 hin hp;dsimp only[gX]at hp ⊢;refine⟨trivial,af (λh=>⟨hp.2,?_⟩) λh=>?_⟩
 .have h:eF (yO (x0,x1,x2,x3,()))=true:=h;unfold bK;rw[h];rfl
 .have h:eF (yO (x0,x1,x2,x3,()))=false:=h;unfold bK;rw[h];rfl
theorem zy:OK lG.e:=by
 refine PA.ok mixed (aO [qV.e,nV.e] ⟨Ns,CQ,trivial⟩) H0 (by kernel_rfl) (show∀x0 x1 x2 x3,lG.goal (Ih x0 x1 x2 x3) ((x0,x1,x2,x3,()),())from ?_);intro x0 x1 x2 x3 hin hp;dsimp only[lG]at hp ⊢;refine⟨trivial,af (λh=>⟨hp.2,?_⟩) λh=>?_⟩
 .have h:eF (yO (x0,x1,x2,x3,()))=true:=h;unfold bK;rw[h];rfl
 .have h:eF (yO (x0,x1,x2,x3,()))=false:=h;unfold bK;rw[h];rfl
end Go.Proofs.Tryz
namespace Go.Proofs.Tryz
open Go Go.Fw Go.IntWalk Sp
theorem Px:OK sG.e:=by refine PA.ok mixed (aO [] trivial) H0 (by kernel_rfl) (show∀s,sG.goal (Py s) (s,())from ?_);intro w hin hp;dsimp only[sG]at hp ⊢;exact rfl
theorem Rk:OK uy.e:=by
 refine XA.ok mixed (aO [xR.e,Ag.e] ⟨VP,Zm,trivial⟩) Uk (λ_ _=>⟨((List.replicate 12 (0,()),()),()),⟨by decide,λx hx=>by rw[List.eq_of_mem_replicate hx];decide⟩⟩) (by kernel_rfl) (show∀code,uy.goal (Rw code) (code,())from ?_);intro code hin hp;dsimp only[uy]at hp ⊢;refine⟨hp,λr0 hr0=>?_⟩;refine⟨λy=>∃n:Nat,y.1.2.1=n/\n<=12/\0<=y.2.1.2.1/\y.2.2.1.length=n/\∀x∈y.2.2.1,0<=x.1/\x.1<10000,λy=>(12-y.1.2.1).toNat,⟨0,rfl,by decide,by rw[hr0];exact apM _,rfl,λx hx=>by cases hx⟩,?_⟩;rintro⟨⟨_,_,⟨⟩⟩,⟨b,i,h,⟨⟩⟩,l,⟨⟩⟩ ⟨n,rfl,hn,hi,hl,hx⟩;dsimp only at hi hl hx ⊢;have w:IntKind.i64.wrap ((n:Int)+1)=((n+1:Nat):Int):=fJ _ (by omega);rw[w];refine af (λhc=>⟨hi,?_⟩) λhc=>⟨by have:=gK hc;show l.length=12;omega,hx⟩;have hc:=fV hc;rintro⟨⟨x,⟨⟩⟩,⟨b1,i1,h1,⟨⟩⟩,⟨⟩⟩ ⟨q1,q2,q3,_⟩;refine⟨by rw[mP];simp only[aoO,ao5];omega,rfl,⟨n+1,rfl,by omega,q1,by simp;omega,λy hy=>?_⟩,by dsimp only;omega⟩;rcases apc.1 hy with hy|hy
 .exact hx y hy
 .rw[ao7.1 hy];exact⟨q2,q3 (by decide)⟩
theorem Lm:OK pV.e:=by refine XA.ok mixed (aO [xU.e] ⟨VR,trivial⟩) NI (λ_ _=>⟨((_,()),()),rfl⟩) (by kernel_rfl) (show pV.goal (Lp) (())from ?_);intro hin hp;dsimp only[pV]at hp ⊢;exact⟨trivial,λr h=>h⟩
theorem Pg:OK sH.e:=by refine XA.ok mixed (aO [uw.e,yV.e,xW.e,xY.e,pV.e] ⟨Q5,X0,VT,V4,Lm,trivial⟩) H0 (λ⟨n,_⟩ _=>⟨((((Sp.sample n).1,(Sp.sample n).2.1,(Sp.sample n).2.2.1,()),()),()),rfl⟩) (by kernel_rfl) (show∀n,sH.goal (Pz n) (n,())from ?_);intro n hin hp;dsimp only[sH]at hp ⊢;refine⟨trivial,?_⟩;rintro⟨⟨u,⟨⟩⟩,⟨⟩⟩ eu;have eu:u=Sp.usual:=eu;subst eu;refine⟨by decide,?_⟩;rintro⟨⟨⟨a,l,nx,⟨⟩⟩,⟨⟩⟩,⟨⟩⟩ ⟨e1,e2,e3⟩;have e1:a=Sp.usual:=e1;have e2:l=[]:=e2;have e3:nx=1:=e3;subst e1 e2 e3;refine⟨trivial,by decide,?_⟩;rintro⟨⟨⟨f0,f1,f2,f3,f4,⟨⟩⟩,⟨⟩⟩,⟨⟩⟩ ⟨g0,g1,g2,g3,g4⟩;have g0:f0=0:=g0;have g1:f1=0:=g1;have g2:f2=false:=g2;have g3:f3=0:=g3;have g4:f4=oO [] [97] 1 n []:=g4;subst g0 g1 g2 g3 g4;have sl:=aeo [] [97] 1 n [];refine⟨⟨⟨by decide,by decide,λf hf=>by cases hf⟩,show(oO [] [97] 1 n []).length<=1000 by rw[ao5]at sl;omega⟩,?_⟩;rintro⟨⟨⟨s1,s2,s3,⟨⟩⟩,id,ok,⟨⟩⟩,⟨⟩⟩ ⟨h1,h2,h3,_⟩;exact aiW h1 h2 h3
end Go.Proofs.Tryz
namespace Go.Proofs.Tryz
open Go Go.Fw Go.IntWalk Sp
theorem uP:OK lV.e:=by refine PA.ok mixed (aO [(DF,.pure Az)] ⟨⟨XQ,VN⟩,trivial⟩) H0 (by kernel_rfl) (show∀n,lV.goal (Ul n) (n,())from ?_);intro n hin hp;dsimp only[lV]at hp ⊢;exact⟨hin.1,rfl⟩
theorem Um:OK wG.e:=by
 refine PA.ok mixed (aO [] trivial) H0 (by kernel_rfl) (show∀OU,wG.goal (Un OU) (OU,())from ?_);intro x hin hp;dsimp only[wG]at hp ⊢;obtain⟨h0,h1⟩:=hp;refine af (λh=>?_) λh=>?_<;>simp only[aoS,aps]at h
 .rw[i64_in (48+x) (by omega),u8_in (48+x) (by omega)]
 .omega
theorem ZC{c:Int}(h:¬c.tmod 10<0):c.tmod 10=((c.natAbs%10:Nat):Int):=by have:(c.tmod 10).natAbs=c.natAbs%10:=arU c 10;omega
theorem aeu{c:Int}(h:c.tmod 10<0):0-c.tmod 10=((c.natAbs%10:Nat):Int):=by have:(c.tmod 10).natAbs=c.natAbs%10:=arU c 10;omega
theorem Ry(k:Nat):byteRow [((48:Int)+(k:Int),())]=[UInt8.ofNat (48+k)]:=by
 have:((48:Int)+(k:Int)).toNat=48+k:=by omega
 simp[byteRow,Vo,this]
theorem agp{n c:Nat}{s:List UInt8}(hc:c≠0)(hJ:Lib.decDigits n=(if c=0 then[]else Lib.decDigits c)++s):
 Lib.decDigits n=(if c / 10=0 then[]else Lib.decDigits (c / 10))++(UInt8.ofNat (48+c%10)::s):=by
 rw[hJ,if_neg hc,ZE c];simp
theorem pO:OK jS.e:=by
 refine PA.ok mixed (aO [wG.e] ⟨Um,trivial⟩) WA (by kernel_rfl) (show∀n,jS.goal (Uo n) (n,())from ?_);intro n hin hp;dsimp only[jS]at hp ⊢;have h0:(-9223372036854775808:Int)<=n/\n<=9223372036854775807:=hin.1;have hL:=Lib.itoa_length_le n h0.1 h0.2;have hD:(Lib.decDigits n.natAbs).length<=21:=by
  unfold Lib.itoa at hL;split at hL
  .simp at hL;omega
  .rw[show n.natAbs=n.toNat by omega];exact hL
 refine af (λh=>?_) λh=>?_
 .have:n=0:=by simpa using h
  subst this;simp[Lib.itoa,Lib.decDigits]
 .have hn0:n≠0:=by simpa using h
  refine⟨λy=>-9223372036854775808<=y.1.1/\y.1.1<=9223372036854775807/\Lib.decDigits n.natAbs=(if y.1.1.natAbs=0 then[]else Lib.decDigits y.1.1.natAbs)++y.1.2.1,λy=>y.1.1.natAbs,⟨h0.1,h0.2,?_⟩,?_⟩
  .show _=(if n.natAbs=0 then _ else _)++_;rw[if_neg (by omega)];simp
  rintro⟨⟨c,s,⟨⟩⟩,⟨⟩⟩ ⟨hc1,hc2,hJ⟩;dsimp only at hc1 hc2 hJ ⊢;have hs:s.length<=21:=by rw[hJ,aoK]at hD;omega
  have hq:(c.tdiv 10).natAbs=c.natAbs / 10:=Int.natAbs_tdiv c 10;have hrow:∀k:Nat,(byteRow [((48:Int)+(k:Int),())]).length=1:=λk=>by rw[Ry];rfl
  refine af (λh=>?_) λh=>?_
  .have hc:c.natAbs≠0:=by simp at h;omega
   have hstep:=agp hc hJ;have hm:c.natAbs%10<10:=arv _ (by decide);have hlt:c.natAbs / 10<c.natAbs:=Nat.div_lt_self (by omega) (by decide);have hw:IntKind.i64.wrap (c.tdiv 10)=c.tdiv 10:=fJ _ (by omega);refine⟨by decide,af (λhd=>?_) λhd=>?_⟩<;>simp only[aoS,aps]at hd
   .have e:=aeu hd;rw[fJ (0-c.tmod 10) (by omega),e,hw,Ry];refine⟨⟨by omega,by omega⟩,by simp only[aoO,ao5];rw[maxLen_eq];omega,by decide,rfl,⟨by dsimp only;omega,by dsimp only;omega,?_⟩,?_⟩
    .show _=(if(c.tdiv 10).natAbs=0 then[]else Lib.decDigits (c.tdiv 10).natAbs)++_;rw[hq];exact hstep
    .show(c.tdiv 10).natAbs<c.natAbs;rw[hq];exact hlt
   .have e:=ZC hd;rw[e,hw,Ry];refine⟨⟨by omega,by omega⟩,by simp only[aoO,ao5];rw[maxLen_eq];omega,by decide,rfl,⟨by dsimp only;omega,by dsimp only;omega,?_⟩,?_⟩
    .show _=(if(c.tdiv 10).natAbs=0 then[]else Lib.decDigits (c.tdiv 10).natAbs)++_;rw[hq];exact hstep
    .show(c.tdiv 10).natAbs<c.natAbs;rw[hq];exact hlt
  .have hc:c=0:=by simpa using h
   subst hc;have hJ:Lib.decDigits n.natAbs=s:=by simpa using hJ
   subst hJ;refine af (λhd=>?_) λhd=>?_<;>simp only[aoS,aps]at hd
   .refine⟨by simp only[aoO,ao5];rw[maxLen_eq];omega,?_⟩;rw[Lib.itoa,if_pos hd];rfl
   .rw[Lib.itoa,if_neg hd,show n.toNat=n.natAbs by omega]
theorem NQ(x y:List UInt8):Lib.join [x,y] [32]=x++[32]++y:=by simp[Lib.join_cons,Lib.joinTail]
theorem Yh(x y z:List UInt8):Lib.join [x,y,z] [32]=x++[32]++y++[32]++z:=by simp[Lib.join_cons,Lib.joinTail]
theorem aiw:OK AB.e:=by
 refine PA.ok mixed (aO [jS.e] ⟨pO,trivial⟩) WB (by kernel_rfl) (show∀text,AB.goal (Ur text) (text,())from ?_);intro text hin hp;dsimp only[AB]at hp ⊢;refine af (λh=>?_) λh=>?_
 .exact G9 (QO (by have:=fV h;omega))
 .have hl:text.length<=10:=by have:=gK h;omega
  refine fZ (mk:=λi v=>((v,i,()),())) (λy=>y.1.2.1) (λ_ _=>rfl) text.length (by omega)
   (λn v=>v=jl (text.take n)/\∀i,i<n->48<=(text.getD i 0).toNat/\(text.getD i 0).toNat<=57) ⟨rfl,λi hi=>absurd hi (apP _)⟩ (λI μ n v hn hJ next=>?_) λI μ v hJ=>?_
  .obtain⟨rfl,hd⟩:=hJ;obtain⟨b0,b1⟩:=ac8 hn hl hd;dsimp only;rw[ao6];refine eX (by omega) ⟨⟨by omega,by omega⟩,af (λh2=>?_) λh2=>⟨⟨by omega,by omega⟩,af (λh3=>?_) λh3=>⟨⟨by omega,by omega⟩,rfl,?_⟩⟩⟩
   .exact G9 (I9 hn (by have:=fV h2;omega))
   .exact G9 (I9 hn (by have:=fV h3;omega))
   .have g2:=gK h2;have g3:=gK h3;have w1:IntKind.i64.wrap (10*jl (text.take n))=10*jl (text.take n):=fJ _ (by omega);have w2:IntKind.i64.wrap ((text.getD n 0).toNat:Int)=(text.getD n 0).toNat:=fJ _ (by omega);have w3:IntKind.i64.wrap (10*jl (text.take n)+(text.getD n 0).toNat)=10*jl (text.take n)+(text.getD n 0).toNat:=fJ _ (by omega);have w4:IntKind.i64.wrap (10*jl (text.take n)+(text.getD n 0).toNat-48)=10*jl (text.take n)+(text.getD n 0).toNat-48:=fJ _ (by omega);refine next _ ⟨?_,λi hi=>?_⟩
    .rw[w1,w2,w3,w4,aev hn];omega
    .rcases apa i n with h5|h5
     .exact hd i h5
     .rw[show i=n by omega];omega
  .obtain⟨rfl,hd⟩:=hJ;dsimp only;rw[apl (aoP _)];refine eY (by omega) (af (λh2=>?_) λh2=>⟨trivial,af (λh3=>?_) λh3=>?_⟩)
   .refine G9 ?_;cases hk:aU text with
    |false=>rfl
    |true=>have:=(gG.1 (zY.1 hk).1).2;have:=fV h2;omega
   .refine G9 ?_;cases hk:aU text with
    |false=>rfl
    |true=>exact absurd (zY.1 hk).2 (ne_of_beq_false (iW h3))
   .have e:=apf.1 (fC h3);have h0:0<=jl text:=(He text.length text rfl (λb hb=>by obtain⟨i,hi,rfl⟩:=aqr.1 hb;have:=hd i hi;rw[aoN,aoQ hi]at this;exact this)).1;have:=MV (gG.2 ⟨h0,by have:=gK h2;omega⟩) e;rw[this.1,this.2]
theorem agX:OK yC.e:=by
 refine PA.ok mixed (aO [] trivial) Rz (by kernel_rfl) (show∀line,yC.goal (PG line) (line,())from ?_);intro line hin hp;dsimp only[yC]at hp ⊢;have hp:line.length<=1048576:=hp;refine af (λh=>?_) λh=>?_
 .exact(AU λhh=>by have:=fV h;omega).symm
 .have hl:line.length<=600:=by have:=gK h;omega
  refine fZ (mk:=λi(s:Int×Sp.LS)=>(((),s.1,i,()),s.2,())) (λy=>y.1.2.2.1) (λ_ _=>rfl) (line.length+1) (by omega)
   (λn s=>∃b:Nat,s.1=b/\Sp.splitAt line n b s.2) (s0:=((0:Int),[])) ⟨0,rfl,ac9 line⟩ (λI μ n s hn hJ next=>?_) λI μ s hJ=>?_
  .obtain⟨b,out⟩:=s;obtain⟨b,rfl,hs⟩:=hJ;dsimp only at hs ⊢;have hb:=hs.1;have hout:=hs.2.2.1;have hw:IntKind.i64.wrap ((n:Int)+1)=((n+1:Nat):Int):=fJ _ (by omega);rw[ao6,ao6];refine eX (by omega) ⟨λ_=>n<line.length->kL (line.getD n 0)=true,?_,λ_ hj=>?_⟩
   .refine af (λh2=>⟨⟨by omega,by have:=fV h2;omega⟩,af (λh3=>?_) λh3=>⟨⟨by omega,by have:=fV h2;omega⟩,af (λh4=>?_) λh4=>⟨rfl,λ_=>?_⟩⟩⟩) λh2=>⟨rfl,λhh=>?_⟩
    .exact(AU λhh=>by have h5:=wR.1 (WC hh.2.1 (show n<line.length by have:=fV h2;omega));have:=fV h3;omega).symm
    .exact(AU λhh=>by have h5:=wR.1 (WC hh.2.1 (show n<line.length by have:=fV h2;omega));have:=fV h4;omega).symm
    .exact wR.2 ⟨by have:=gK h3;omega,by have:=gK h4;omega⟩
    .have:=gK h2;omega
   .have tail:(n<line.length->kL (line.getD n 0)=true/\line.getD n 0=32)->
     bif decide ((b:Int)<n)then((0:Int)<=b/\(b:Int)<=n/\(n:Int)<=line.length)/\List.length out+[(List.drop b (List.take n line),())].length<=big/\(((line,()),())=((line,()),()))/\
         I (((),IntKind.i64.wrap ((n:Int)+1),IntKind.i64.wrap ((n:Int)+1),()),out++[(List.drop b (List.take n line),())],())/\μ (((),IntKind.i64.wrap ((n:Int)+1),IntKind.i64.wrap ((n:Int)+1),()),out++[(List.drop b (List.take n line),())],())<μ (((),(b:Int),(n:Int),()),out,())
      else(((line,()),())=((line,()),()))/\I (((),IntKind.i64.wrap ((n:Int)+1),IntKind.i64.wrap ((n:Int)+1),()),out,())/\μ (((),IntKind.i64.wrap ((n:Int)+1),IntKind.i64.wrap ((n:Int)+1),()),out,())<μ (((),(b:Int),(n:Int),()),out,()):=by
     intro ho;refine af (λh3=>⟨⟨by omega,by omega,by omega⟩,?_,rfl,?_⟩) λh3=>⟨rfl,?_⟩
     .rw[mP];show _+1<=_;omega
     .exact next (IntKind.i64.wrap ((n:Int)+1),out++[((line.take n).drop b,())]) ⟨n+1,hw,ada hs (by omega) (by have:=fV h3;omega) ho⟩
     .exact next (IntKind.i64.wrap ((n:Int)+1),out) ⟨n+1,hw,adb hs (by omega) (by have:=gK h3;omega) ho⟩
    refine af (λh2=>⟨⟨by omega,by have:=fV h2;omega⟩,af (λh3=>⟨rfl,?_⟩) λh3=>?_⟩) λh2=>?_
    .have hn2:n<line.length:=by have:=fV h2;omega
     exact next ((b:Int),out) ⟨b,rfl,ade hs hn2 (hj hn2) λe=>by rw[e]at h3;revert h3;decide⟩
    .refine tail λhn2=>⟨hj hn2,?_⟩;have h3:((line.getD n 0).toNat:Int)=32:=by simpa using h3
     exact UInt8.toNat_inj.1 (by show _=32;omega)
    .exact tail λhn2=>by have:=gK h2;omega
  .obtain⟨b,out⟩:=s;obtain⟨b,rfl,hs⟩:=hJ;dsimp only at hs ⊢;obtain⟨h1,h2⟩:=aew hs;subst h2;refine eY (by omega) (af (λh2=>?_) λh2=>?_)
   .exact(AU λhh=>by have:=fV h2;rw[vM]at this;omega).symm
   .exact(aaH (ug.2 ⟨hl,h1,by have:=gK h2;rw[vM]at this;omega⟩)).symm
theorem PI:OK mg.e:=by
 refine PA.ok mixed (aO [(AP,.pure yA),iL.e] ⟨⟨TP,QU⟩,jB,trivial⟩) RD (by kernel_rfl) (show∀line,mg.goal (PK line) (line,())from ?_);intro line hin hp;dsimp only[mg]at hp ⊢;refine af (λh=>?_) λh=>?_
 .exact(AU λhh=>by have:=fV h;omega).symm
 .have hl:line.length<=600:=by have:=gK h;omega
  refine kK line.length (by omega) (λn=>∀i,i<n->kL (line.getD i 0)=true) (λi hi=>absurd hi (apP _)) (λI μ n hn hJ next=>?_) λI μ hJ=>?_
  .dsimp only;rw[ao6,agq];refine eX (by omega) ⟨⟨by omega,by omega⟩,trivial,af (λh2=>?_) λh2=>⟨rfl,next λi hi=>?_⟩⟩
   .exact(AU λhh=>by have:=WC hh.2.1 hn;rw[iW h2]at this;cases this).symm
   .rcases apa i n with h5|h5
    .exact hJ i h5
    .rw[show i=n by omega];exact fC h2
  .dsimp only;have hall:=adf hJ;refine eY (by omega) ⟨⟨hp,ai3 hall⟩,af (λh2=>?_) λh2=>?_⟩
   .exact(AU λhh=>by have:=fV h2;rw[vM]at this;omega).symm
   .exact(aaH (ug.2 ⟨hl,hall,by have:=gK h2;rw[vM]at this;omega⟩)).symm
theorem JQ:OK jO.e:=by
 refine PA.ok mixed (aO [] trivial) Ls (by kernel_rfl) (show∀s1 s2,jO.goal (JR s1 s2) (s1,s2,())from ?_);intro a b hin hp;dsimp only[jO]at hp ⊢;have hlen:a.length<=maxLen:=hin.1.1;rw[maxLen_eq]at hlen;refine af (λh=>?_) λh=>?_
 .have h:(a.length:Int)≠b.length:=by simpa using h
  exact congrArg (·,()) (ao1 λe=>h (by rw[e])).symm
 .have h:(a.length:Int)=b.length:=by simpa using h
  exact Lc (K:=λr=>r=(decide (a=b),())) (λx y=>!(x.1==y.1)) (λx y=>by simp[aqW]) _ a b _ hlen (by omega) (λe=>by rw[ao1 e]) λe=>by rw[aoZ e]
end Go.Proofs.Tryz
namespace Go.Proofs.Tryz
open Go Go.Fw Go.IntWalk Sp
theorem Du:OK mr.e:=by
 refine PA.ok mixed (aO [lV.e,jD.e] ⟨uP,qg,trivial⟩) H0 (by kernel_rfl) (show∀v0 v1 v2,mr.goal (PL v0 v1 v2) ((v0,v1,v2,()),())from ?_);intro v0 v1 v2 hin hp;dsimp only[mr]at hp ⊢;refine⟨trivial,?_⟩;unfold bF;dsimp only;cases !bn v0 v1 v2 with
 |true=>exact rfl
 |false=>
 cases v0==1 with
 |true=>exact⟨trivial,rfl⟩
 |false=>cases v0==2<;>exact rfl
theorem Dv:OK mD.e:=by
 refine PA.ok mixed (aO [jS.e,lq.e] ⟨pO,wP,trivial⟩) H0 (by kernel_rfl) (show∀v0 v1 v2,mD.goal (PN v0 v1 v2) ((v0,v1,v2,()),())from ?_);intro v0 v1 v2 hin hp;dsimp only[mD]at hp ⊢;refine⟨trivial,?_⟩;unfold bF;dsimp only;cases !bn v0 v1 v2 with
 |true=>exact rfl
 |false=>
 cases v0==1 with
 |true=>exact⟨trivial,rfl⟩
 |false=>cases v0==2<;>exact rfl
theorem aky{n:Int}(h:0<=n):bn 1 n []=decide (n<=999):=by unfold bn;simp[h]
theorem akz(s:List UInt8):bn 2 0 s=aS s:=by unfold bn;simp
theorem WE:OK yj.e:=by refine PA.ok mixed (aO [] trivial) H0 (by kernel_rfl) (show∀n,yj.goal (WG n) (n,())from ?_);intro n hin hp;dsimp only[yj]at hp ⊢;exact rfl
theorem ED:OK kN.e:=by
 refine PA.ok mixed (aO [jD.e,sG.e,yj.e,(qH,.pure oI)] ⟨qg,Px,WE,⟨uM,yN⟩,trivial⟩) H0 (by kernel_rfl) (show∀s,kN.goal (RG s) (s,())from ?_);intro s hin hp;dsimp only[kN]at hp ⊢;have h0:=(gG.1 (Ar s)).1;refine⟨trivial,?_⟩;unfold bU;cases hk:aU s with
 |true=>
  refine⟨trivial,trivial,?_⟩;dsimp only;rw[aky h0];cases decide (Sp.parseNum s<=999)<;>exact rfl
 |false=>
  cases hs:s==[45]with
  |true=>exact⟨trivial,rfl⟩
  |false=>refine⟨trivial,trivial,?_⟩;dsimp only;rw[akz];cases aS s<;>exact rfl
theorem ahQ{op:Int}(h:(decide (1<=op)&&decide (op<=9))=false):fH op=[63]:=by rw[aqA,aps,aps]at h;unfold fH;rw[aoL.2 (show op≠1 by omega),aoL.2 (show op≠2 by omega),aoL.2 (show op≠3 by omega),aoL.2 (show op≠4 by omega),aoL.2 (show op≠5 by omega),aoL.2 (show op≠6 by omega),aoL.2 (show op≠7 by omega),aoL.2 (show op≠8 by omega),aoL.2 (show op≠9 by omega)];rfl
theorem ajU{op:Int}(h:(decide (1<=op)&&decide (op<=9))=true):op=1\/op=2\/op=3\/op=4\/op=5\/op=6\/op=7\/op=8\/op=9:=by rw[aoJ,aoS,aoS]at h;omega
theorem Fa:OK jT.e:=by
 refine PA.ok mixed (aO [iL.e] ⟨jB,trivial⟩) H0 (by kernel_rfl) (show∀op,jT.goal (Us op) (op,())from ?_);intro op hin hp;dsimp only[jT]at hp ⊢;refine⟨trivial,af (λh=>?_) λh=>?_⟩
 .exact congrArg (·,()) (ahQ (iW h)).symm
 .rcases ajU (fC h)with e|e|e|e|e|e|e|e|e<;>subst e<;>exact⟨by decide,rfl⟩
theorem Ut:OK qA.e:=by
 refine PA.ok mixed (aO [jc.e] ⟨kz,trivial⟩) H0 (by kernel_rfl) (show∀op,qA.goal (Uu op) (op,())from ?_);intro op hin hp;dsimp only[qA]at hp ⊢;refine⟨trivial,af (λh=>?_) λh=>?_⟩
 .exact congrArg (·,()) (ahQ (iW h)).symm
 .rcases ajU (fC h)with e|e|e|e|e|e|e|e|e<;>subst e<;>exact⟨by decide,rfl⟩
theorem aX{n:Nat}(h:n<=100000000000):n<=maxLen:=by rw[maxLen_eq];omega
theorem vN{n:Nat}(h:n<=4000000000):n<=big:=by rw[mP];omega
theorem Ja{n:Nat}(h:Nat.ble n 10=true):n<=big:=vN (aoW (apL h) (by decide))
theorem CS{n:Nat}(h:Nat.ble n 10=true):n<=140737488355328:=aoW (apL h) (by decide)
theorem Io[xK](JS:gu prog G oV ru):gu prog G zX yE:=by
 refine Ip (aO [(uZ,.pure qy),(oV,.pure ru),mr.e,jT.e] ⟨⟨CJ,G5⟩,⟨JS,Ia⟩,Du,Fa,trivial⟩) ?_;intro q i hin hp;obtain⟨⟨ho,h0,hl⟩,hf⟩:=hp;have hT:(Lib.join (bJ (i.toNat+1) q i) [32]).length<=140737488355328:=aoW (adg ho h0 hl) (by decide);have hlen:=(Sp.fG ho).2;have hn:=(jg ho (show i.toNat<q.length by omega)).1;refine⟨⟨h0,hl⟩,trivial,?_⟩;have eN:q.getD i.toNat (0,0,0,[],0,0,[],())=Sp.nodeAt q i.toNat:=rfl;dsimp only;rw[eN];rcases Jb hn with c|c|c
 .have e:=ae5 (q:=q) (i:=i) i.toNat c;rw[e]at hT ⊢;generalize Sp.nodeAt q i.toNat=n at c hT;obtain⟨op,l,r,s,v⟩:=n;dsimp only at c hT ⊢;rcases c with rfl|rfl|rfl|rfl|rfl|rfl
  .exact gB ((false,()),()) ⟨rfl,rfl⟩ ⟨⟨CS rfl,hT⟩,rfl⟩
  .exact gB ((true,()),()) ⟨rfl,rfl⟩ ⟨Ja rfl,⟨CS rfl,hT⟩,rfl⟩
  .exact gB ((false,()),()) ⟨rfl,rfl⟩ ⟨trivial,Ja rfl,⟨CS rfl,hT⟩,rfl⟩
  .exact gB ((false,()),()) ⟨rfl,rfl⟩ ⟨trivial,Ja rfl,⟨CS rfl,hT⟩,rfl⟩
  .exact gB ((true,()),()) ⟨rfl,rfl⟩ ⟨Ja rfl,⟨CS rfl,hT⟩,rfl⟩
  .exact gB ((true,()),()) ⟨rfl,rfl⟩ ⟨Ja rfl,⟨CS rfl,hT⟩,rfl⟩
 .obtain⟨e,k0,k1⟩:=ahR ho h0 hl c;rw[e]at hT ⊢;have e2:=Yi (fH 5) (Gf (Sp.nodeAt q i.toNat).2.1.toNat q (Sp.nodeAt q i.toNat).2.1);rw[← e2]at hT ⊢;have hk:(ay q=true/\0<=(Sp.nodeAt q i.toNat).2.1/\(Sp.nodeAt q i.toNat).2.1<(q.length:Int))/\(Sp.nodeAt q i.toNat).2.1.toNat<lD:=⟨⟨ho,k0,by omega⟩,by omega⟩;rw[c];exact gB ((false,()),()) ⟨rfl,rfl⟩ ⟨hk,Ja rfl,⟨CS rfl,hT⟩,rfl⟩
 .obtain⟨e,⟨k0,k1⟩,m0,m1⟩:=ahS ho h0 hl c;rw[e]at hT ⊢;have e2:=Yj (fH (Sp.nodeAt q i.toNat).1) (Gf (Sp.nodeAt q i.toNat).2.1.toNat q (Sp.nodeAt q i.toNat).2.1) (Gf (Sp.nodeAt q i.toNat).2.2.1.toNat q (Sp.nodeAt q i.toNat).2.2.1);rw[← e2]at hT ⊢;have hk:(ay q=true/\0<=(Sp.nodeAt q i.toNat).2.1/\(Sp.nodeAt q i.toNat).2.1<(q.length:Int))/\(Sp.nodeAt q i.toNat).2.1.toNat<lD:=⟨⟨ho,k0,by omega⟩,by omega⟩;have hm:(ay q=true/\0<=(Sp.nodeAt q i.toNat).2.2.1/\(Sp.nodeAt q i.toNat).2.2.1<(q.length:Int))/\(Sp.nodeAt q i.toNat).2.2.1.toNat<lD:=⟨⟨ho,m0,by omega⟩,by omega⟩;rcases c with c|c<;>rw[c]at hT ⊢
  .exact gB ((false,()),()) ⟨rfl,rfl⟩ ⟨hk,hm,Ja rfl,⟨CS rfl,hT⟩,rfl⟩
  .exact gB ((false,()),()) ⟨rfl,rfl⟩ ⟨hk,hm,Ja rfl,⟨CS rfl,hT⟩,rfl⟩
theorem Uw:gu prog G AQ Eh:=
 ahp (λn=>@A7 ⟨n⟩) (λn=>@zJ ⟨n⟩) (by rintro⟨q,at',⟨⟩⟩ h;exact apP _ h.2) (by rintro _ ⟨q,at',⟨⟩⟩;rfl) (by rintro⟨q,at',⟨⟩⟩ h;exact⟨_,h,aqM _⟩) (by rintro _ ⟨q,at',⟨⟩⟩;rfl) λn h=>@Io ⟨n⟩ h
theorem Lu[xK](NR:gu prog G qX uX):gu prog G CP zL:=by
 refine LC (aO [(qX,.pure uX),mD.e,qA.e] ⟨⟨NR,KW⟩,Dv,Ut,trivial⟩) ?_;intro q i hin hp;obtain⟨⟨ho,h0,hl⟩,hf⟩:=hp;have hT:=adg ho h0 hl;have hlen:=(Sp.fG ho).2;have hn:=(jg ho (show i.toNat<q.length by omega)).1;refine⟨⟨h0,hl⟩,trivial,?_⟩;have eN:q.getD i.toNat (0,0,0,[],0,0,[],())=Sp.nodeAt q i.toNat:=rfl;dsimp only;rw[eN];rcases Jb hn with c|c|c
 .have e:=ae5 (q:=q) (i:=i) i.toNat c;rw[e]at hT ⊢;generalize Sp.nodeAt q i.toNat=n at c hT;obtain⟨op,l,r,s,v⟩:=n;dsimp only at c hT ⊢;rcases c with rfl|rfl|rfl|rfl|rfl|rfl
  .exact gB ((false,()),()) ⟨rfl,rfl⟩ rfl
  .have e2:Lib.join (jK (2,l,r,s,v)) [32]=fH 2++[32]++s:=NQ _ _;rw[e2]at hT ⊢;simp only[aoK]at hT;exact gB ((true,()),()) ⟨rfl,rfl⟩ ⟨aX (by omega),aX (by rw[aoK];omega),rfl⟩
  .have e2:Lib.join (jK (3,l,r,s,v)) [32]=fH 3++[32]++s++[32]++bF v:=Yh _ _ _;rw[e2]at hT ⊢;simp only[aoK]at hT;exact gB ((false,()),()) ⟨rfl,rfl⟩ ⟨aX (by omega),aX (by simp only[aoK];omega),aX (by simp only[aoK];omega),trivial,aX (by simp only[aoK];omega),rfl⟩
  .have e2:Lib.join (jK (4,l,r,s,v)) [32]=fH 4++[32]++s++[32]++bF v:=Yh _ _ _;rw[e2]at hT ⊢;simp only[aoK]at hT;exact gB ((false,()),()) ⟨rfl,rfl⟩ ⟨aX (by omega),aX (by simp only[aoK];omega),aX (by simp only[aoK];omega),trivial,aX (by simp only[aoK];omega),rfl⟩
  .have e2:Lib.join (jK (8,l,r,s,v)) [32]=fH 8++[32]++s:=NQ _ _;rw[e2]at hT ⊢;simp only[aoK]at hT;exact gB ((true,()),()) ⟨rfl,rfl⟩ ⟨aX (by omega),aX (by rw[aoK];omega),rfl⟩
  .have e2:Lib.join (jK (9,l,r,s,v)) [32]=fH 9++[32]++s:=NQ _ _;rw[e2]at hT ⊢;simp only[aoK]at hT;exact gB ((true,()),()) ⟨rfl,rfl⟩ ⟨aX (by omega),aX (by rw[aoK];omega),rfl⟩
 .obtain⟨e,k0,k1⟩:=ahR ho h0 hl c;rw[e]at hT ⊢;have e2:=Yi (fH 5) (Gf (Sp.nodeAt q i.toNat).2.1.toNat q (Sp.nodeAt q i.toNat).2.1);rw[NQ]at e2;rw[← e2]at hT ⊢;simp only[aoK]at hT;have hk:(ay q=true/\0<=(Sp.nodeAt q i.toNat).2.1/\(Sp.nodeAt q i.toNat).2.1<(q.length:Int))/\(Sp.nodeAt q i.toNat).2.1.toNat<lD:=⟨⟨ho,k0,by omega⟩,by omega⟩;rw[c];exact gB ((false,()),()) ⟨rfl,rfl⟩ ⟨aX (by omega),hk,aX (by simp only[aoK];omega),rfl⟩
 .obtain⟨e,⟨k0,k1⟩,m0,m1⟩:=ahS ho h0 hl c;rw[e]at hT ⊢;have e2:=Yj (fH (Sp.nodeAt q i.toNat).1) (Gf (Sp.nodeAt q i.toNat).2.1.toNat q (Sp.nodeAt q i.toNat).2.1) (Gf (Sp.nodeAt q i.toNat).2.2.1.toNat q (Sp.nodeAt q i.toNat).2.2.1);rw[Yh]at e2;rw[← e2]at hT ⊢;simp only[aoK]at hT;have hk:(ay q=true/\0<=(Sp.nodeAt q i.toNat).2.1/\(Sp.nodeAt q i.toNat).2.1<(q.length:Int))/\(Sp.nodeAt q i.toNat).2.1.toNat<lD:=⟨⟨ho,k0,by omega⟩,by omega⟩;have hm:(ay q=true/\0<=(Sp.nodeAt q i.toNat).2.2.1/\(Sp.nodeAt q i.toNat).2.2.1<(q.length:Int))/\(Sp.nodeAt q i.toNat).2.2.1.toNat<lD:=⟨⟨ho,m0,by omega⟩,by omega⟩;rcases c with c|c<;>rw[c]at hT ⊢
  .exact gB ((false,()),()) ⟨rfl,rfl⟩ ⟨aX (by omega),hk,aX (by simp only[aoK];omega),aX (by simp only[aoK];omega),hm,aX (by simp only[aoK];omega),rfl⟩
  .exact gB ((false,()),()) ⟨rfl,rfl⟩ ⟨aX (by omega),hk,aX (by simp only[aoK];omega),aX (by simp only[aoK];omega),hm,aX (by simp only[aoK];omega),rfl⟩
theorem Yk:gu prog G DI Gp:=
 ahp (λn=>@Di ⟨n⟩) (λn=>@BL ⟨n⟩) (by rintro⟨q,at',⟨⟩⟩ h;exact apP _ h.2) (by rintro _ ⟨q,at',⟨⟩⟩;rfl) (by rintro⟨q,at',⟨⟩⟩ h;exact⟨_,h,aqM _⟩) (by rintro _ ⟨q,at',⟨⟩⟩;rfl) λn h=>@Lu ⟨n⟩ h
theorem adh{q:List ax}(h:ay q=true):bJ (((q.length:Int)-1).toNat+1) q ((q.length:Int)-1)=bJ 9 q ((q.length:Int)-1):=by have hl:=Sp.fG h;exact yP h _ _ _ (by omega) (by omega) (by omega) (by omega)
theorem PO:OK sJ.e:=by
 refine PA.ok mixed (aO [(AQ,.pure Eh),iG.e] ⟨⟨Uw,QV⟩,qh,trivial⟩) H0 (by kernel_rfl) (show∀q,sJ.goal (PS q) (q,())from ?_);intro q hin hp;dsimp only[sJ]at hp ⊢;have hp:q.length<=2000000:=hp;refine⟨hp,?_⟩;unfold Sp.textOf;cases h:ay q with
 |false=>exact rfl
 |true=>have hl:=Sp.fG h;have hw:IntKind.i64.wrap ((q.length:Int)-1)=(q.length:Int)-1:=fJ _ (by omega);rw[hw];dsimp only;rw[adh h];exact⟨⟨rfl,by omega,by omega⟩,rfl⟩
theorem PU:OK sK.e:=by
 refine PA.ok mixed (aO [(DI,.pure Gp),lC.e] ⟨⟨Yk,VO⟩,wQ,trivial⟩) H0 (by kernel_rfl) (show∀q,sK.goal (PV q) (q,())from ?_);intro q hin hp;dsimp only[sK]at hp ⊢;have hp:q.length<=2000000:=hp;refine⟨hp,?_⟩;unfold Sp.textOf;cases h:ay q with
 |false=>exact rfl
 |true=>have hl:=Sp.fG h;have hw:IntKind.i64.wrap ((q.length:Int)-1)=(q.length:Int)-1:=fJ _ (by omega);rw[hw];dsimp only;rw[adh h];exact⟨⟨rfl,by omega,by omega⟩,rfl⟩
end Go.Proofs.Tryz
