import Derived.Test.YtkgkfdphbkfjnaaGreatP8
namespace Go.Proofs.Tryz
open Go Go.Fw Go.IntWalk Sp
theorem ahC {d:List aC} {i:Nat} (hi:i<d.length) {neg:Bool} {r:Sp.LS} (hr:dK r (fB (bG d i).2.1 neg)) {p:Nat} (hp:p<r.length) (h0:0≤aJ d (r.getD p ([],())).1):
 (i,(aJ d (r.getD p ([],())).1).toNat,if neg then 1 else 0)∈dX d:=by
 have hm:=getD_mem (d:=(([]:List UInt8),())) hp
 have:=(hr.2 (r.getD p ([],())).1).1 hm
 cases neg with
 |false=>exact zo.2 ⟨hi,_, .inl ⟨rfl,this⟩,h0,rfl⟩
 |true=>exact zo.2 ⟨hi,_, .inr ⟨rfl,this⟩,h0,rfl⟩
theorem PZ {d:List aC} {i j m:Nat} {neg:Bool} {r:Sp.LS} (hr:dK r (fB (bG d i).2.1 neg)) (he:(i,j,m)∈dX d) (hm:m=if neg then 1 else 0):
 ∃ p,p<r.length∧0≤aJ d (r.getD p ([],())).1∧j=(aJ d (r.getD p ([],())).1).toNat:=by
 obtain ⟨_,s,h2,h3,h4⟩:=zo.1 he
 have hs:s∈fB (bG d i).2.1 neg:=by
  cases neg with
  |false=>rcases h2 with ⟨_,h⟩|⟨h,_⟩;exact h;simp at hm;omega
  |true=>rcases h2 with ⟨h,_⟩|⟨_,h⟩;simp at hm;omega;exact h
 have hm:=(hr.2 s).2 hs
 obtain ⟨p,hp,e⟩:=List.getElem_of_mem hm
 have e2:r.getD p ([],())=(s,()):=by rw [List.getD_eq_getElem?_getD,List.getElem?_eq_getElem hp,e];rfl
 exact ⟨p,hp,by rw [e2];exact h3,by rw [e2];exact h4⟩
theorem anH:∀ x,(um.F x).1→∃ t,(um.F x).2 t:=by
 rintro ⟨d,aI,_⟩ hp
 obtain ⟨_,_,h3,h4⟩:aA d∧d.length≤5∧aI.length=d.length∧∀ x∈aI,0≤x.1∧x.1≤1000000:=hp
 obtain ⟨r,hr⟩:=akB d aI h3 fun i hi=>(h4 _ (XV (by omega))).1
 exact ⟨((r,()),()),hr⟩
theorem acj:OK um.e:=by
 refine XA.ok mixed (au [xu.e,yF.e,xq.e] ⟨U2,OU,U0,trivial⟩) afr (anH) (by kernel_rfl) (show ∀ d aI,um.goal (ac7 d aI) (d,aI,()) from ?_)
 intro d aI hin hp
 dsimp only [um] at hp ⊢
 obtain ⟨h1,h2,h3,h4⟩:aA d∧d.length≤5∧aI.length=d.length∧∀ x∈aI,0≤x.1∧x.1≤1000000:=hp
 have h0:∀ i,i<d.length→0≤Sp.lv aI i∧Sp.lv aI i≤1000000:=fun i hi=>h4 _ (XV (by omega))
 have hB:∀ i,i<d.length→Sp.lv aI i≤1000000:=fun i hi=>(h0 i hi).2
 refine ⟨by rw [bW];omega,?_⟩
 refine dN (fun i (x:List (Int×Unit))=>((i,()),x,())) (fun y=>y.1.1) (fun _ _=>rfl) d.length (by omega) (fun i cur=>JF d aI cur (1000*i) fun e=>e∈dX d∧e.1<i) ((JF.start h3).weaken (by omega) fun e he=>by have:=he.2;omega) (fun I μ i cur hi hJ next=>?_) fun I μ cur hJ=>?_
 · dsimp only
   rw [Int.toNat_natCast]
   refine dH (by omega) ⟨⟨by omega,by omega⟩,mV h1 hi,?_⟩
   rintro ⟨⟨r,⟨⟩⟩,⟨⟩⟩ hr
   have hr:dK r (fB (bG d i).2.1 false):=hr
   have hrl:r.length≤1000:=hr.1
   refine dN (fun i (x:List (Int×Unit))=>((i,()),x,())) (fun y=>y.1.1) (fun _ _=>rfl) r.length (by omega) (fun p cur=>JF d aI cur (1000*i) fun e=>e∈dX d∧(e.1<i∨(e.1=i∧e.2.2=0∧∃ p',p'<p∧e.2.1=(aJ d (r.getD p' ([],())).1).toNat∧0≤aJ d (r.getD p' ([],())).1))) (hJ.weaken (Int.le_refl _) fun e he=>⟨he.1,by rcases he.2 with h|⟨_,_,_,h,_⟩;exact h;omega⟩) (fun I1 μ1 p cur hp hJ amo=>?_) fun I1 μ1 cur hJ=>?_
   · dsimp only
     rw [Int.toNat_natCast]
     have hl:=hJ.len
     have hP:∀ e:Nat×Nat×Nat,(e∈dX d∧(e.1<i∨(e.1=i∧e.2.2=0∧∃ p',p'<p+1∧e.2.1=(aJ d (r.getD p' ([],())).1).toNat∧0≤aJ d (r.getD p' ([],())).1)))→
      (e∈dX d∧(e.1<i∨(e.1=i∧e.2.2=0∧∃ p',p'<p∧e.2.1=(aJ d (r.getD p' ([],())).1).toNat∧0≤aJ d (r.getD p' ([],())).1)))∨(e=(i,(aJ d (r.getD p ([],())).1).toNat,0)∧0≤aJ d (r.getD p ([],())).1):=by
      rintro ⟨a,b,c⟩ ⟨he,h|⟨h,h5,p',h6,h7,h8⟩⟩
      · exact .inl ⟨he, .inl h⟩
      · by_cases hpp:p'=p
        · subst hpp
          have h:a=i:=h
          have h5:c=0:=h5
          have h7:b=(aJ d (r.getD p' ([],())).1).toNat:=h7
          exact .inr ⟨by rw [h,h5,h7],h8⟩
        · exact .inl ⟨he, .inr ⟨h,h5,p',by omega,h7,h8⟩⟩
     refine dH (by omega) ⟨⟨by omega,by omega⟩,trivial,af (fun h=>?_) fun h=>⟨rfl,amo _ (hJ.weaken (Int.le_refl _) fun e he=>?_)⟩⟩
     · have h:0≤aJ d (r.getD p ([],())).1:=fJ h
       have hlt:=Gy h
       have he:=ahC hi hr hp h
       refine ⟨⟨h,by omega⟩,by omega,⟨by omega,by omega⟩,by omega,af (fun hc=>⟨⟨h,by omega⟩,by omega,⟨by omega,by omega⟩,by omega,rfl,amo _ ?_⟩) fun hc=>⟨rfl,amo _ ?_⟩⟩
       · have hc:Sp.lv cur i<Sp.lv cur (aJ d (r.getD p ([],())).1).toNat:=fJ hc
         have:=hJ.set he (by show _<_+((0:Nat):Int);omega)
         have e0:Sp.lv cur (aJ d (r.getD p ([],())).1).toNat+((if false=true then 1 else 0:Nat):Int)=Sp.lv cur (aJ d (r.getD p ([],())).1).toNat:=by show _+((0:Nat):Int)=_;omega
         rw [e0] at this
         exact this.weaken (by show 1000*(i:Int)+((0:Nat):Int)≤_;omega) fun e he=>(hP e he).imp_right fun h=>h.1
       · have hc:¬ Sp.lv cur i<Sp.lv cur (aJ d (r.getD p ([],())).1).toNat:=fZ hc
         have:=hJ.still he (by show _+((0:Nat):Int)≤_;omega)
         exact this.weaken (Int.le_refl _) fun e he=>(hP e he).imp_right fun h=>h.1
     · have h:¬ 0≤aJ d (r.getD p ([],())).1:=fZ h
       rcases hP e he with h'|h'
       · exact h'
       · exact (h h'.2).elim
   · dsimp only
     have hJ2:JF d aI cur (1000*i) fun e=>e∈dX d∧(e.1<i∨(e.1=i∧e.2.2=0)):=hJ.weaken (Int.le_refl _) fun e he=>⟨he.1,he.2.imp_right fun h=>⟨h.1,h.2,by
      obtain ⟨a,b,c⟩:=e
      obtain ⟨he,_⟩:=he
      obtain ⟨h,h5⟩:=h
      have h:a=i:=h
      have h5:c=0:=h5
      subst h h5
      obtain ⟨p,q1,q2,q3⟩:=PZ hr he rfl
      exact ⟨p,q1,q3,q2⟩⟩⟩
     clear hJ
     refine dI (by omega) ⟨⟨by omega,by omega⟩,mV h1 hi,?_⟩
     rintro ⟨⟨r2,⟨⟩⟩,⟨⟩⟩ hr2
     have hr2:dK r2 (fB (bG d i).2.1 true):=hr2
     have hrl2:r2.length≤1000:=hr2.1
     refine dN (fun i (x:List (Int×Unit))=>((i,()),x,())) (fun y=>y.1.1) (fun _ _=>rfl) r2.length (by omega) (fun p cur=>JF d aI cur (1000*i+p) fun e=>e∈dX d∧(e.1<i∨(e.1=i∧e.2.2=0)∨(e.1=i∧e.2.2=1∧∃ p',p'<p∧e.2.1=(aJ d (r2.getD p' ([],())).1).toNat∧0≤aJ d (r2.getD p' ([],())).1))) (hJ2.weaken (by omega) fun e he=>⟨he.1,by rcases he.2 with h|h|⟨_,_,_,h,_⟩;exact .inl h;exact .inr h;omega⟩) (fun I2 μ2 p cur hp hJ Nb=>?_) fun I2 μ2 cur hJ=>?_
     · dsimp only
       rw [Int.toNat_natCast]
       have hl:=hJ.len
       have hP:∀ e:Nat×Nat×Nat,(e∈dX d∧(e.1<i∨(e.1=i∧e.2.2=0)∨(e.1=i∧e.2.2=1∧∃ p',p'<p+1∧e.2.1=(aJ d (r2.getD p' ([],())).1).toNat∧0≤aJ d (r2.getD p' ([],())).1)))→
        (e∈dX d∧(e.1<i∨(e.1=i∧e.2.2=0)∨(e.1=i∧e.2.2=1∧∃ p',p'<p∧e.2.1=(aJ d (r2.getD p' ([],())).1).toNat∧0≤aJ d (r2.getD p' ([],())).1)))∨(e=(i,(aJ d (r2.getD p ([],())).1).toNat,1)∧0≤aJ d (r2.getD p ([],())).1):=by
        rintro ⟨a,b,c⟩ ⟨he,h|h|⟨h,h5,p',h6,h7,h8⟩⟩
        · exact .inl ⟨he, .inl h⟩
        · exact .inl ⟨he, .inr (.inl h)⟩
        · by_cases hpp:p'=p
          · subst hpp
            have h:a=i:=h
            have h5:c=1:=h5
            have h7:b=(aJ d (r2.getD p' ([],())).1).toNat:=h7
            exact .inr ⟨by rw [h,h5,h7],h8⟩
          · exact .inl ⟨he, .inr (.inr ⟨h,h5,p',by omega,h7,h8⟩)⟩
       refine dH (by omega) ⟨⟨by omega,by omega⟩,trivial,af (fun h=>?_) fun h=>⟨rfl,Nb _ (hJ.weaken (by omega) fun e he=>?_)⟩⟩
       · have h:0≤aJ d (r2.getD p ([],())).1:=fJ h
         have hlt:=Gy h
         have he:=ahC hi hr2 hp h
         have hg:=hJ.grow 1000000 hB (aJ d (r2.getD p ([],())).1).toNat (by omega)
         have hu:=hJ.up (aJ d (r2.getD p ([],())).1).toNat (by omega)
         have hz:=(h0 (aJ d (r2.getD p ([],())).1).toNat (by omega)).1
         have hw:IntKind.i64.wrap (Sp.lv cur (aJ d (r2.getD p ([],())).1).toNat+1)=Sp.lv cur (aJ d (r2.getD p ([],())).1).toNat+1:=fF _ (by omega)
         have e2:(cur.getD (aJ d (r2.getD p ([],())).1).toNat (0,())).1=Sp.lv cur (aJ d (r2.getD p ([],())).1).toNat:=rfl
         rw [e2,hw]
         refine ⟨⟨h,by omega⟩,by omega,⟨by omega,by omega⟩,by omega,af (fun hc=>⟨⟨h,by omega⟩,by omega,⟨by omega,by omega⟩,by omega,rfl,Nb _ ?_⟩) fun hc=>⟨rfl,Nb _ ?_⟩⟩
         · have hc:Sp.lv cur i<Sp.lv cur (aJ d (r2.getD p ([],())).1).toNat+1:=fJ hc
           have:=hJ.set he (by show _<_+((1:Nat):Int);omega)
           exact this.weaken (by show 1000*(i:Int)+p+((1:Nat):Int)≤_;omega) fun e he=>(hP e he).imp_right fun h=>h.1
         · have hc:¬ Sp.lv cur i<Sp.lv cur (aJ d (r2.getD p ([],())).1).toNat+1:=fZ hc
           have:=hJ.still he (by show _+((1:Nat):Int)≤_;omega)
           exact this.weaken (by omega) fun e he=>(hP e he).imp_right fun h=>h.1
       · have h:¬ 0≤aJ d (r2.getD p ([],())).1:=fZ h
         rcases hP e he with h'|h'
         · exact h'
         · exact (h h'.2).elim
     · dsimp only
       refine dI (by omega) ⟨rfl,next _ (hJ.weaken (by omega) fun e he=>⟨he.1,?_⟩)⟩
       obtain ⟨a,b,c⟩:=e
       obtain ⟨he,h⟩:=he
       have h:a<i+1:=h
       rcases Nat.lt_or_ge a i with h'|h'
       · exact .inl h'
       · have:a=i:=by omega
         subst this
         obtain ⟨_,_,hc⟩:=lq d _ he
         have hc:c≤1:=hc
         rcases Nat.eq_zero_or_pos c with hc0|hc0
         · exact .inr (.inl ⟨rfl,hc0⟩)
         · have hc1:c=1:=by omega
           subst hc1
           obtain ⟨p,q1,q2,q3⟩:=PZ hr2 he rfl
           exact .inr (.inr ⟨rfl,rfl,p,q1,q3,q2⟩)
 · dsimp only
   refine dI (by omega) ?_
   exact hJ.raised (by omega) (fun e he=>⟨he,(lq d e he).1⟩) fun i hi=>(h0 i hi).1
end Go.Proofs.Tryz
