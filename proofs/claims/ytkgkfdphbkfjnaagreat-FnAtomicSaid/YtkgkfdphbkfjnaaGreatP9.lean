import Derived.Test.YtkgkfdphbkfjnaaGreatP8
namespace Go.Proofs.Tryz
open Go Go.Fw Go.IntWalk Sp
theorem aim{d:List aF}{i:Nat}(hi:i<d.length){neg:Bool}{r:Sp.LS}(hr:dP r (fK (bH d i).2.1 neg)){p:Nat}(hp:p<r.length)(h0:0<=aJ d (r.getD p ([],())).1):
 (i,(aJ d (r.getD p ([],())).1).toNat,if neg then 1 else 0)∈eH d:=by
 have hm:=getD_mem (d:=(([]:List UInt8),())) hp;have:=(hr.2 (r.getD p ([],())).1).1 hm;cases neg with
 |false=>exact zC.2 ⟨hi,_,.inl ⟨rfl,this⟩,h0,rfl⟩
 |true=>exact zC.2 ⟨hi,_,.inr ⟨rfl,this⟩,h0,rfl⟩
theorem Qx{d:List aF}{i j m:Nat}{neg:Bool}{r:Sp.LS}(hr:dP r (fK (bH d i).2.1 neg))(he:(i,j,m)∈eH d)(hm:m=if neg then 1 else 0):
 ∃p,p<r.length/\0<=aJ d (r.getD p ([],())).1/\j=(aJ d (r.getD p ([],())).1).toNat:=by
 obtain⟨_,s,h2,h3,h4⟩:=zC.1 he;have hs:s∈fK (bH d i).2.1 neg:=by
  cases neg with
  |false=>rcases h2 with⟨_,h⟩|⟨h,_⟩;exact h;simp at hm;omega
  |true=>rcases h2 with⟨h,_⟩|⟨_,h⟩;simp at hm;omega;exact h
 have hm:=(hr.2 s).2 hs;obtain⟨p,hp,e⟩:=au6 hm;have e2:r.getD p ([],())=(s,()):=by rw[aur,auw hp,e];rfl
 exact⟨p,hp,by rw[e2];exact h3,by rw[e2];exact h4⟩
theorem aoA:∀x,(uJ.F x).1->∃t,(uJ.F x).2 t:=by rintro⟨d,aH,_⟩ hp;obtain⟨_,_,h3,h4⟩:aC d/\d.length<=5/\aH.length=d.length/\∀x∈aH,0<=x.1/\x.1<=1000000:=hp;obtain⟨r,hr⟩:=als d aH h3 λi hi=>(h4 _ (Yq (by omega))).1;exact⟨((r,()),()),hr⟩
theorem acN:OK uJ.e:=by
 refine XA.ok mixed (au [xK.e,yO.e,xJ.e] ⟨VA,Pq,Vy,trivial⟩) af7 (aoA) (by kernel_rfl) (show∀d aH,uJ.goal (adM d aH) (d,aH,())from ?_);intro d aH hin hp;dsimp only[uJ]at hp ⊢;obtain⟨h1,h2,h3,h4⟩:aC d/\d.length<=5/\aH.length=d.length/\∀x∈aH,0<=x.1/\x.1<=1000000:=hp;have h0:∀i,i<d.length->0<=Sp.lv aH i/\Sp.lv aH i<=1000000:=λi hi=>h4 _ (Yq (by omega));have hB:∀i,i<d.length->Sp.lv aH i<=1000000:=λi hi=>(h0 i hi).2;refine⟨by rw[bY];omega,?_⟩;refine dM (λi(x:List (Int×Unit))=>((i,()),x,())) (λy=>y.1.1) (λ_ _=>rfl) d.length (by omega) (λi cur=>JY d aH cur (1000*i) λe=>e∈eH d/\e.1<i) ((JY.start h3).weaken (by omega) λe he=>by have:=he.2;omega) (λI μ i cur hi hJ next=>?_) λI μ cur hJ=>?_
 .dsimp only;rw[auA];refine dn (by omega) ⟨⟨by omega,by omega⟩,mZ h1 hi,?_⟩;rintro⟨⟨r,⟨⟩⟩,⟨⟩⟩ hr;have hr:dP r (fK (bH d i).2.1 false):=hr;have hrl:r.length<=1000:=hr.1;refine dM (λi(x:List (Int×Unit))=>((i,()),x,())) (λy=>y.1.1) (λ_ _=>rfl) r.length (by omega) (λp cur=>JY d aH cur (1000*i) λe=>e∈eH d/\(e.1<i\/(e.1=i/\e.2.2=0/\∃p',p'<p/\e.2.1=(aJ d (r.getD p' ([],())).1).toNat/\0<=aJ d (r.getD p' ([],())).1))) (hJ.weaken (au7 _) λe he=>⟨he.1,by rcases he.2 with h|⟨_,_,_,h,_⟩;exact h;omega⟩) (λI1 μ1 p cur hp hJ anh=>?_) λI1 μ1 cur hJ=>?_
  .dsimp only;rw[auA];have hl:=hJ.len;have hP:∀e:Nat×Nat×Nat,(e∈eH d/\(e.1<i\/(e.1=i/\e.2.2=0/\∃p',p'<p+1/\e.2.1=(aJ d (r.getD p' ([],())).1).toNat/\0<=aJ d (r.getD p' ([],())).1)))->
    (e∈eH d/\(e.1<i\/(e.1=i/\e.2.2=0/\∃p',p'<p/\e.2.1=(aJ d (r.getD p' ([],())).1).toNat/\0<=aJ d (r.getD p' ([],())).1)))\/(e=(i,(aJ d (r.getD p ([],())).1).toNat,0)/\0<=aJ d (r.getD p ([],())).1):=by
    rintro⟨a,b,c⟩ ⟨he,h|⟨h,h5,p',h6,h7,h8⟩⟩
    .exact .inl ⟨he,.inl h⟩
    .by_cases hpp:p'=p
     .subst hpp;have h:a=i:=h;have h5:c=0:=h5;have h7:b=(aJ d (r.getD p' ([],())).1).toNat:=h7;exact .inr ⟨by rw[h,h5,h7],h8⟩
     .exact .inl ⟨he,.inr ⟨h,h5,p',by omega,h7,h8⟩⟩
   refine dn (by omega) ⟨⟨by omega,by omega⟩,trivial,af (λh=>?_) λh=>⟨rfl,anh _ (hJ.weaken (au7 _) λe he=>?_)⟩⟩
   .have h:0<=aJ d (r.getD p ([],())).1:=fG h;have hlt:=G5 h;have he:=aim hi hr hp h;refine⟨⟨h,by omega⟩,by omega,⟨by omega,by omega⟩,by omega,af (λhc=>⟨⟨h,by omega⟩,by omega,⟨by omega,by omega⟩,by omega,rfl,anh _ ?_⟩) λhc=>⟨rfl,anh _ ?_⟩⟩
    .have hc:Sp.lv cur i<Sp.lv cur (aJ d (r.getD p ([],())).1).toNat:=fG hc;have:=hJ.set he (by show _<_+((0:Nat):Int);omega);have e0:Sp.lv cur (aJ d (r.getD p ([],())).1).toNat+((if false=true then 1 else 0:Nat):Int)=Sp.lv cur (aJ d (r.getD p ([],())).1).toNat:=by show _+((0:Nat):Int)=_;omega
     rw[e0]at this;exact this.weaken (by show 1000*(i:Int)+((0:Nat):Int)<=_;omega) λe he=>(hP e he).imp_right λh=>h.1
    .have hc:¬Sp.lv cur i<Sp.lv cur (aJ d (r.getD p ([],())).1).toNat:=fZ hc;have:=hJ.still he (by show _+((0:Nat):Int)<=_;omega);exact this.weaken (au7 _) λe he=>(hP e he).imp_right λh=>h.1
   .have h:¬0<=aJ d (r.getD p ([],())).1:=fZ h;rcases hP e he with h'|h'
    .exact h'
    .exact(h h'.2).elim
  .dsimp only;have hJ2:JY d aH cur (1000*i) λe=>e∈eH d/\(e.1<i\/(e.1=i/\e.2.2=0)):=hJ.weaken (au7 _) λe he=>⟨he.1,he.2.imp_right λh=>⟨h.1,h.2,by obtain⟨a,b,c⟩:=e;obtain⟨he,_⟩:=he;obtain⟨h,h5⟩:=h;have h:a=i:=h;have h5:c=0:=h5;subst h h5;obtain⟨p,q1,q2,q3⟩:=Qx hr he rfl;exact⟨p,q1,q3,q2⟩⟩⟩;clear hJ;refine dw (by omega) ⟨⟨by omega,by omega⟩,mZ h1 hi,?_⟩;rintro⟨⟨r2,⟨⟩⟩,⟨⟩⟩ hr2;have hr2:dP r2 (fK (bH d i).2.1 true):=hr2;have hrl2:r2.length<=1000:=hr2.1;refine dM (λi(x:List (Int×Unit))=>((i,()),x,())) (λy=>y.1.1) (λ_ _=>rfl) r2.length (by omega) (λp cur=>JY d aH cur (1000*i+p) λe=>e∈eH d/\(e.1<i\/(e.1=i/\e.2.2=0)\/(e.1=i/\e.2.2=1/\∃p',p'<p/\e.2.1=(aJ d (r2.getD p' ([],())).1).toNat/\0<=aJ d (r2.getD p' ([],())).1))) (hJ2.weaken (by omega) λe he=>⟨he.1,by rcases he.2 with h|h|⟨_,_,_,h,_⟩;exact .inl h;exact .inr h;omega⟩) (λI2 μ2 p cur hp hJ NI=>?_) λI2 μ2 cur hJ=>?_
   .dsimp only;rw[auA];have hl:=hJ.len;have hP:∀e:Nat×Nat×Nat,(e∈eH d/\(e.1<i\/(e.1=i/\e.2.2=0)\/(e.1=i/\e.2.2=1/\∃p',p'<p+1/\e.2.1=(aJ d (r2.getD p' ([],())).1).toNat/\0<=aJ d (r2.getD p' ([],())).1)))->
     (e∈eH d/\(e.1<i\/(e.1=i/\e.2.2=0)\/(e.1=i/\e.2.2=1/\∃p',p'<p/\e.2.1=(aJ d (r2.getD p' ([],())).1).toNat/\0<=aJ d (r2.getD p' ([],())).1)))\/(e=(i,(aJ d (r2.getD p ([],())).1).toNat,1)/\0<=aJ d (r2.getD p ([],())).1):=by
     rintro⟨a,b,c⟩ ⟨he,h|h|⟨h,h5,p',h6,h7,h8⟩⟩
     .exact .inl ⟨he,.inl h⟩
     .exact .inl ⟨he,.inr (.inl h)⟩
     .by_cases hpp:p'=p
      .subst hpp;have h:a=i:=h;have h5:c=1:=h5;have h7:b=(aJ d (r2.getD p' ([],())).1).toNat:=h7;exact .inr ⟨by rw[h,h5,h7],h8⟩
      .exact .inl ⟨he,.inr (.inr ⟨h,h5,p',by omega,h7,h8⟩)⟩
    refine dn (by omega) ⟨⟨by omega,by omega⟩,trivial,af (λh=>?_) λh=>⟨rfl,NI _ (hJ.weaken (by omega) λe he=>?_)⟩⟩
    .have h:0<=aJ d (r2.getD p ([],())).1:=fG h;have hlt:=G5 h;have he:=aim hi hr2 hp h;have hg:=hJ.grow 1000000 hB (aJ d (r2.getD p ([],())).1).toNat (by omega);have hu:=hJ.up (aJ d (r2.getD p ([],())).1).toNat (by omega);have hz:=(h0 (aJ d (r2.getD p ([],())).1).toNat (by omega)).1;have hw:IntKind.i64.wrap (Sp.lv cur (aJ d (r2.getD p ([],())).1).toNat+1)=Sp.lv cur (aJ d (r2.getD p ([],())).1).toNat+1:=eP _ (by omega);have e2:(cur.getD (aJ d (r2.getD p ([],())).1).toNat (0,())).1=Sp.lv cur (aJ d (r2.getD p ([],())).1).toNat:=rfl;rw[e2,hw];refine⟨⟨h,by omega⟩,by omega,⟨by omega,by omega⟩,by omega,af (λhc=>⟨⟨h,by omega⟩,by omega,⟨by omega,by omega⟩,by omega,rfl,NI _ ?_⟩) λhc=>⟨rfl,NI _ ?_⟩⟩
     .have hc:Sp.lv cur i<Sp.lv cur (aJ d (r2.getD p ([],())).1).toNat+1:=fG hc;have:=hJ.set he (by show _<_+((1:Nat):Int);omega);exact this.weaken (by show 1000*(i:Int)+p+((1:Nat):Int)<=_;omega) λe he=>(hP e he).imp_right λh=>h.1
     .have hc:¬Sp.lv cur i<Sp.lv cur (aJ d (r2.getD p ([],())).1).toNat+1:=fZ hc;have:=hJ.still he (by show _+((1:Nat):Int)<=_;omega);exact this.weaken (by omega) λe he=>(hP e he).imp_right λh=>h.1
    .have h:¬0<=aJ d (r2.getD p ([],())).1:=fZ h;rcases hP e he with h'|h'
     .exact h'
     .exact(h h'.2).elim
   .dsimp only;refine dw (by omega) ⟨rfl,next _ (hJ.weaken (by omega) λe he=>⟨he.1,?_⟩)⟩;obtain⟨a,b,c⟩:=e;obtain⟨he,h⟩:=he;have h:a<i+1:=h;rcases auJ a i with h'|h'
    .exact .inl h'
    .have:a=i:=by omega
     subst this;obtain⟨_,_,hc⟩:=lG d _ he;have hc:c<=1:=hc;rcases awh c with hc0|hc0
     .exact .inr (.inl ⟨rfl,hc0⟩)
     .have hc1:c=1:=by omega
      subst hc1;obtain⟨p,q1,q2,q3⟩:=Qx hr2 he rfl;exact .inr (.inr ⟨rfl,rfl,p,q1,q3,q2⟩)
 .dsimp only;refine dw (by omega) ?_;exact hJ.raised (by omega) (λe he=>⟨he,(lG d e he).1⟩) λi hi=>(h0 i hi).1
end Go.Proofs.Tryz
