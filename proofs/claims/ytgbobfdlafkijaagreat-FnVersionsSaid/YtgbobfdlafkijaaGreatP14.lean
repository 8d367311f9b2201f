import Derived.Test.YtgbobfdlafkijaaGreatP13
namespace Go.Proofs.Tryz
open Go Go.Fw Go.IntWalk
theorem ap3 {α:Type} {d:α} {v:List α} {n:Nat} (h:n+1=v.length):v.drop n=[v.getD n d]:=by
 rw [List.drop_eq_getElem_cons (by omega),List.drop_of_length_le (by omega),List.getD_eq_getElem?_getD,List.getElem?_eq_getElem (by omega)];rfl
theorem asq {v:List Sp.gX} {n:Nat} {x:Sp.gX} (h:x∈Sp.pO v n):x∈v:=List.take_subset _ _ (List.mem_filter.1 h).1
theorem WQ (v:List Sp.gX) (n:Nat):(Sp.pO v n).length≤n:=by
 have:=List.length_filter_le (fun x=>!Sp.unpinned x) (v.take n)
 rw [List.length_take] at this
 show (List.filter _ _).length≤n
 omega
theorem ado {v:List Sp.gX} (h:Sp.aH v):Sp.aH (Sp.collect v)∧Sp.aH (Sp.pO v (v.length-1)++v.drop (v.length-1)):=by
 have g:Sp.aH (Sp.pO v (v.length-1)++v.drop (v.length-1)):=by
  refine ⟨?_,fun x hx=>?_⟩
  · have:=WQ v (v.length-1)
    have:=h.1
    rw [List.length_append,List.length_drop];omega
  · rcases List.mem_append.1 hx with hx|hx
    · exact h.2 x (asq hx)
    · exact h.2 x (List.mem_of_mem_drop hx)
 refine ⟨?_,g⟩
 unfold Sp.collect
 cases Sp.fZ v with
 |true=>exact g
 |false=>exact h
theorem UU {v:List Sp.gX} (h:Sp.fZ v=true):Sp.collect v=Sp.pO v (v.length-1)++v.drop (v.length-1):=by
 unfold Sp.collect;rw [h];rfl
theorem ab9 {v:List Sp.gX} (h:Sp.fZ v=false):Sp.collect v=v:=by
 unfold Sp.collect;rw [h];rfl
theorem avW {v:List Sp.gX} (h:Sp.fZ v=true) {n:Nat} (hn:n<v.length) {m:Int} (h1:-1≤m) (h2:m≤1):IntKind.i64.wrap (Sp.jk (Sp.bM v n)+m)=Sp.jk (Sp.bM v n)+m:=by
 have:=aaA h hn
 exact iI _ (by omega)
theorem acd:aC prog G wX zO:=by
 refine ace (aF (l:=[(dY, .pure dV),(nV, .pure nC),(jV, .eff (ai iQ) jy)]) (ay ah) (by simp only [List.forall_mem_cons];exact ⟨⟨pK,nZ⟩,⟨MN,KX⟩,⟨Es,Dc⟩,fun x hx=>by cases hx⟩)) (fun ⟨v,n,_⟩ hp=>⟨((((Sp.dJ v n (-1)).1,(Sp.dJ v n (-1)).2,()),())),⟨rfl,rfl⟩⟩) ?_
 intro v n hin hp
 obtain ⟨h1,h2⟩:Sp.aH v∧v.length≤100:=hp
 refine ⟨h1,?_⟩
 rintro ⟨⟨r,⟨⟩⟩,⟨⟩⟩ e
 have e:r=v:=e
 subst e
 refine ⟨trivial,h1,af (fun g=>?_) fun g=>af (fun g2=>?_) fun g2=>?_⟩
 · dsimp only;rw [zq (.inl (jE g))];exact ⟨rfl,rfl⟩
 · dsimp only;rw [zq (.inr (agz (by have:=iO g2;omega)))];exact ⟨rfl,rfl⟩
 have g2:0≤Sp.aB r n:=by have:=ji g2;omega
 have hlt:=EM g2
 have hp:=aaA (fJ g) (n:=(Sp.aB r n).toNat) (by omega)
 refine ⟨⟨g2,hlt⟩,af (fun g3=>?_) fun g3=>⟨⟨g2,hlt⟩,by dsimp only;omega,⟨g2,hlt⟩,by dsimp only;omega,?_⟩⟩
 · have g3:Sp.jk (Sp.bM r (Sp.aB r n).toNat)≤0:=iO g3
   have hm:Sp.uO r n (-1)=false:=by
    unfold Sp.uO
    rw [decide_eq_false (p:=0≤Sp.jk (Sp.bM r (Sp.aB r n).toNat)+-1) (by omega)];simp
   dsimp only;rw [zq (.inr hm)];exact ⟨rfl,rfl⟩
 · have g3:¬ Sp.jk (Sp.bM r (Sp.aB r n).toNat)≤0:=ji g3
   have hm:Sp.uO r n (-1)=true:=by
    unfold Sp.uO
    rw [decide_eq_true g2,decide_eq_true (p:=0≤Sp.jk (Sp.bM r (Sp.aB r n).toNat)+-1) (by omega),decide_eq_true (p:=Sp.jk (Sp.bM r (Sp.aB r n).toNat)+-1≤99) (by omega)];rfl
   have hw:IntKind.i64.wrap (Sp.jk (Sp.bM r (Sp.aB r n).toNat)-1)=Sp.jk (Sp.bM r (Sp.aB r n).toNat)+-1:=iI _ (by omega)
   unfold Sp.jk Sp.bM at hw
   dsimp only;rw [hw,Pv (fJ g) hm];exact ⟨rfl,rfl⟩
theorem aaE:aC prog G Ae zQ:=by
 refine aoJ (aF (l:=[(fO, .pure eF),(gu, .pure gG),(tJ, .pure uy),(jZ, .eff (ai jc) kD)]) (ay ah) (by simp only [List.forall_mem_cons];exact ⟨⟨qx,nY⟩,⟨vU,uU⟩,⟨Ui,RD⟩,⟨Hy,F6⟩,fun x hx=>by cases hx⟩)) (fun ⟨v,n,m,_⟩ hp=>⟨((((Sp.dJ v n m).1,(Sp.dJ v n m).2,()),())),⟨rfl,rfl⟩⟩) ?_
 intro v n m hin hp
 obtain ⟨h1,h2,m1,m2⟩:Sp.aH v∧v.length≤100∧-1≤m∧m≤1:=hp
 refine ⟨h1,?_⟩
 rintro ⟨⟨r,⟨⟩⟩,⟨⟩⟩ e
 have e:r=v:=e
 subst e
 refine ⟨trivial,h1,af (fun g=>?_) fun g=>af (fun g2=>?_) fun g2=>?_⟩
 · dsimp only;rw [zq (.inl (jE g))];exact ⟨rfl,rfl⟩
 · dsimp only;rw [zq (.inr (agz (by have:=iO g2;omega)))];exact ⟨rfl,rfl⟩
 have g2:0≤Sp.aB r n:=by have:=ji g2;omega
 have hlt:=EM g2
 have hw:=avW (fJ g) (n:=(Sp.aB r n).toNat) (by omega) m1 m2
 have hm:Sp.uO r n m=(decide (0≤Sp.jk (Sp.bM r (Sp.aB r n).toNat)+m)&&decide (Sp.jk (Sp.bM r (Sp.aB r n).toNat)+m≤99)):=by
  unfold Sp.uO;rw [decide_eq_true g2];rfl
 unfold Sp.jk Sp.bM at hw
 dsimp only
 rw [hw]
 refine ⟨⟨g2,hlt⟩,trivial,af (fun g3=>?_) fun g3=>⟨⟨g2,hlt⟩,by omega,⟨g2,hlt⟩,by omega,?_⟩⟩
 · rw [zq (.inr (hm.trans (jE g3)))];exact ⟨rfl,rfl⟩
 · rw [Pv (fJ g) (hm.trans (fJ g3))];exact ⟨rfl,rfl⟩
theorem agF:aC prog G Aq Dq:=by
 refine agG (aF (l:=[(Ae, .eff (ai uz) zQ)]) (ay ah) (by simp only [List.forall_mem_cons];exact ⟨⟨aaE,Yp⟩,fun x hx=>by cases hx⟩)) (fun ⟨v,n,_⟩ hp=>⟨((((Sp.dJ v n 1).1,(Sp.dJ v n 1).2,()),())),⟨rfl,rfl⟩⟩) ?_
 intro v n hin hp
 exact ⟨⟨hp.1,hp.2,by omega,by omega⟩,fun r e=>e⟩
theorem acf:aC prog G wY zS:=by
 refine acg (aF (l:=[(Ae, .eff (ai uz) zQ)]) (ay ah) (by simp only [List.forall_mem_cons];exact ⟨⟨aaE,Yp⟩,fun x hx=>by cases hx⟩)) (fun ⟨v,n,_⟩ hp=>⟨((((Sp.dJ v n (-1)).1,(Sp.dJ v n (-1)).2,()),())),⟨rfl,rfl⟩⟩) ?_
 intro v n hin hp
 exact ⟨⟨hp.1,hp.2,by omega,by omega⟩,fun r e=>e⟩
theorem Xt:aC prog G sD vw:=by
 refine Xu (aF (l:=[(iE, .pure iH),(dO, .eff (ai bZ) fH),(gu, .pure gG),(jZ, .eff (ai jc) kD)]) (ay ah) (by simp only [List.forall_mem_cons];exact ⟨⟨BB,Ah⟩,⟨xu,wG⟩,⟨vU,uU⟩,⟨Hy,F6⟩,fun x hx=>by cases hx⟩)) (fun ⟨v,_⟩ hp=>⟨((Sp.collect v,()),()),rfl⟩) ?_
 intro v hin hp
 have hp:Sp.aH v:=hp
 refine ⟨hp,?_⟩
 rintro ⟨⟨r,⟨⟩⟩,⟨⟩⟩ e
 have e:r=v:=e
 subst e
 refine ⟨hp,af (fun g=>(ab9 (jE g)).symm) fun g=>af (fun g2=>?_) fun g2=>?_⟩
 · have g2:r.length=0:=by simpa using g2
   have g2:=List.length_eq_zero_iff.1 g2
   subst g2
   rw [UU (fJ g)];rfl
 have g2:0<r.length:=by have g2:¬ (r.length:Int)=0:=by simpa using g2
                        omega
 have hl:=hp.1
 dsimp only
 rw [wz g2 (by omega),Int.toNat_natCast]
 refine ⟨⟨by omega,by omega⟩,by omega,⟨by omega,by omega⟩,by rw [List.length_take];omega,?_⟩
 rintro ⟨⟨q,⟨⟩⟩,⟨⟩⟩ e
 have e:q=Sp.pO r (r.length-1):=e
 subst e
 have:=WQ r (r.length-1)
 refine ⟨by rw [gy];simp only [List.length_cons,List.length_nil];omega,?_⟩
 rw [UU (fJ g),ap3 (d:=V0) (by omega)]
theorem Xv:aC prog G su vz:=by
 refine Xw (aF (l:=[(jV, .eff (ai iQ) jy),(dY, .pure dV)]) (ay ah) (by simp only [List.forall_mem_cons];exact ⟨⟨Es,Dc⟩,⟨pK,nZ⟩,fun x hx=>by cases hx⟩)) (fun ⟨v,_⟩ hp=>⟨((Sp.collect v,()),()),rfl⟩) ?_
 intro v hin hp
 have hp:Sp.aH v:=hp
 refine ⟨hp,af (fun g=>⟨hp,fun r e=>e.trans (ab9 (jE g)).symm⟩) fun g=>?_⟩
 have hlen:v.length≤1000:=hp.1
 have g:=fJ g
 refine nR (fun i (x:List Sp.gX)=>(((),i,()),x,())) (fun y=>y.1.2.1) (fun _ _=>rfl) v.length (by omega) (fun n l=>l=if n<v.length then Sp.pO v n else Sp.pO v (v.length-1)++v.drop (v.length-1)) ?_ (fun I μ n l hn hJ next=>?_) fun I μ l hJ=>?_
 · by_cases h:0<v.length
   · rw [if_pos h];rfl
   · rw [List.length_eq_zero_iff.1 (show v.length=0 by omega)];rfl
 · rw [if_pos hn] at hJ
   subst hJ
   have hl:=WQ v n
   have awP:0≤Sp.jk (v.getD n V0)∧Sp.jk (v.getD n V0)≤99:=aaA g hn
   have small:(Sp.pO v n).length+1≤big:=by rw [gy];omega
   have step:Sp.unpinned (v.getD n V0)=false∨n+1=v.length→Sp.pO v n++[v.getD n V0]=if n+1<v.length then Sp.pO v (n+1) else Sp.pO v (v.length-1)++v.drop (v.length-1):=fun h=>by
    by_cases hk:n+1<v.length
    · rw [if_pos hk]
      rcases h with h|h
      · unfold Sp.pO
        rw [Sp.take_succ' v n V0 hn,List.filter_append,List.filter_cons,h];rfl
      · omega
    · rw [if_neg hk,show v.length-1=n by omega,ap3 (d:=V0) (by omega)]
   dsimp only
   rw [wz (by omega) (by omega)]
   refine iK (by omega) ⟨⟨by omega,by omega⟩,af (fun h=>⟨⟨by omega,by omega⟩,small,rfl,next _ (step (.inl ?_))⟩) fun h=>af (fun h2=>⟨⟨by omega,by omega⟩,small,rfl,next _ (step (.inr ?_))⟩) fun h2=>⟨rfl,next _ ?_⟩⟩
   · have h:Sp.jk (v.getD n V0)>0:=iO h
     exact beq_eq_false_iff_ne.2 (by omega)
   · have h2:(n:Int)=((v.length-1:Nat):Int):=beq_iff_eq.1 h2
     omega
   · have h2:¬ (n:Int)=((v.length-1:Nat):Int):=beq_eq_false_iff_ne.1 h2
     have h:¬ Sp.jk (v.getD n V0)>0:=ji h
     rw [if_pos (by omega)]
     unfold Sp.pO
     have h0:Sp.unpinned (v.getD n V0)=true:=beq_iff_eq.2 (by omega)
     rw [Sp.take_succ' v n V0 hn,List.filter_append,List.filter_cons,h0];simp
 · rw [if_neg (Nat.lt_irrefl _)] at hJ
   subst hJ
   dsimp only
   refine iL (by omega) ⟨(ado hp).2,fun r e=>e.trans (UU g).symm⟩
theorem RN:aC prog G mM qj:=by
 refine RP (aF (l:=[(mG, .eff (ai kL) lS),(mJ, .eff (ai lg) lM)]) (ay ah) (by simp only [List.forall_mem_cons];exact ⟨⟨Kr,Jt⟩,⟨Ko,Js⟩,fun x hx=>by cases hx⟩)) (fun _ _=>⟨(([],()),()),⟨by decide,yL⟩⟩) ?_
 intro code hin hp
 exact ⟨hp,fun r0 hr0=>⟨by rw [hr0];exact Int.le_refl _,fun r1 hr1=>⟨hr1.2.1,hr1.2.2⟩⟩⟩
theorem Zg:aC prog G uG wJ:=by
 refine Zh (aF (l:=[(kT, .eff (ai jB) lD)]) (ay ah) (by simp only [List.forall_mem_cons];exact ⟨⟨Kz,JX⟩,fun x hx=>by cases hx⟩)) (fun _ _=>⟨((([],0,()),())),⟨by decide,yL⟩⟩) ?_
 intro code hin hp
 exact ⟨hp,fun r0 hr0=>hr0⟩
theorem WR:aC prog G qy uT:=by
 refine WS (aF (l:=[(kT, .eff (ai jB) lD)]) (ay ah) (by simp only [List.forall_mem_cons];exact ⟨⟨Kz,JX⟩,fun x hx=>by cases hx⟩)) (fun _ _=>⟨((([],0,()),())),⟨by decide,yL⟩⟩) ?_
 intro code hin hp
 exact ⟨hp,fun r0 hr0=>hr0⟩
theorem UW:aC prog G pq sS:=by
 refine UX (aF (l:=[(jU, .eff (ai iP) jw),(jV, .eff (ai iQ) jy),(mG, .eff (ai kL) lS),(mJ, .eff (ai lg) lM)]) (ay ah) (by simp only [List.forall_mem_cons];exact ⟨⟨Eo,C9⟩,⟨Es,Dc⟩,⟨Kr,Jt⟩,⟨Ko,Js⟩,fun x hx=>by cases hx⟩)) (fun _ _=>⟨((([],[],()),())),⟨by decide,yL,by decide,yL⟩⟩) ?_
 intro code hin hp
 refine ⟨hp,fun r0 hr0=>⟨by rw [hr0];exact Int.le_refl _,fun r1 hr1=>⟨hr1.2.2,?_⟩⟩⟩
 rintro ⟨⟨r,⟨⟩⟩,⟨⟩⟩ e
 have e:r=r1.1.1:=e
 subst e
 have hl:=hr1.2.1
 refine af (fun g=>⟨hr1.1,fun r3 _=>af (fun _=>?_) fun _=>⟨hl,hr1.2.2,hl,hr1.2.2⟩⟩) fun g=>⟨hl,hr1.2.2,hl,hr1.2.2⟩
 have g:0<r1.1.1.length:=by have g:=iO g;dsimp only at g;omega
 exact ⟨⟨by omega,by dsimp only;omega⟩,g,⟨by omega,by dsimp only;omega⟩,g,hl,hr1.2.2,by dsimp only;rw [List.length_set];exact hl,Pq 0 hr1.2.2 (BI hr1.2.2 g)⟩
theorem auA (v:List Sp.gX) (k:Int):v.find? (fun x=>x.1==k)=if 0≤Sp.aB v k then some (Sp.bM v (Sp.aB v k).toNat) else none:=by
 rcases F9 v k with ⟨h1,h2⟩|⟨n,h1,h2,h3,h4⟩
 · rw [if_neg (by omega),List.find?_eq_none]
   exact fun x hx=>by simpa using h2 x hx
 · rw [if_pos (by omega),h2,Int.toNat_natCast,List.find?_eq_some_iff_getElem]
   have hg:∀ i (hi:i<v.length),v[i]=Sp.bM v i:=fun i hi=>by unfold Sp.bM;rw [List.getD_eq_getElem?_getD,List.getElem?_eq_getElem hi];rfl
   refine ⟨beq_iff_eq.2 h3,n,h1,hg n h1,fun j hj=>?_⟩
   rw [hg j (by omega)]
   simpa using h4 j hj
theorem asr (v:List Sp.gX) (k:Int):Sp.jg v k=match v.find? (fun x=>x.1==k) with|some x=>(Sp.uN x,true)|none=>(([],[],0,[],()),false):=by
 rw [auA]
 by_cases h:0≤Sp.aB v k
 · rw [if_pos h,QU h]
 · rw [if_neg h,ab5 h]
theorem ajb {α:Type} {p q:α→Bool} {x:α}:∀ {l:List α},l.find? p=some x→q x=true→(l.filter q).find? p=some x
 |[],h,_=>by cases h
 |y::r,h,hq=>by
  cases hy:p y with
  |true=>
   rw [List.find?_cons_of_pos hy] at h
   cases h
   rw [List.filter_cons_of_pos hq,List.find?_cons_of_pos hy]
  |false=>
   rw [List.find?_cons_of_neg (by simp [hy])] at h
   have ih:=ajb (q:=q) h hq
   cases hqy:q y with
   |true=>rw [List.filter_cons_of_pos hqy,List.find?_cons_of_neg (by simp [hy])];exact ih
   |false=>rw [List.filter_cons_of_neg (by simp [hqy])];exact ih
theorem ast {v:List Sp.gX} {k:Int} {x:Sp.gX} (h:v.find? (fun x=>x.1==k)=some x) (hx:Sp.unpinned x=false):(Sp.collect v).find? (fun x=>x.1==k)=some x:=by
 cases hv:Sp.fZ v with
 |false=>rw [ab9 hv];exact h
 |true=>
  rw [UU hv,List.find?_append]
  have h0:=h
  rw [← List.take_append_drop (v.length-1) v,List.find?_append] at h
  cases h1:(v.take (v.length-1)).find? (fun x=>x.1==k) with
  |some y=>
   rw [h1] at h
   cases h
   have:(Sp.pO v (v.length-1)).find? (fun x=>x.1==k)=some x:=ajb h1 (by rw [hx];rfl)
   rw [this];rfl
  |none=>
   rw [h1] at h
   have:(Sp.pO v (v.length-1)).find? (fun x=>x.1==k)=none:=by
    rw [List.find?_eq_none] at h1 ⊢
    exact fun y hy=>h1 y (List.mem_filter.1 hy).1
   rw [this];exact h
theorem as6 {v:List Sp.gX} {k:Int} (h:(Sp.dJ v k 1).2=true):Sp.jg (Sp.collect (Sp.dJ v k 1).1) k=Sp.jg v k∧(Sp.jg v k).2=true:=by
 cases h1:Sp.fZ v&&Sp.uO v k 1 with
 |false=>
  rw [Bool.and_eq_false_iff] at h1
  rw [zq h1] at h;cases h
 |true=>
  rw [Bool.and_eq_true] at h1
  rw [Pv h1.1 h1.2]
  have hg:0≤Sp.aB v k:=by
   have:=h1.2
   unfold Sp.uO at this
   simp only [Bool.and_eq_true,decide_eq_true_eq] at this
   exact this.1
  have hlt:=EM hg
  rcases F9 v k with ⟨h5,_⟩|⟨n,h5,h6,h7,h8⟩
  · omega
  have hp:=aaA h1.1 h5
  rw [h6,Int.toNat_natCast]
  have hfind:(v.set n (Sp.ab4 (Sp.bM v n) (Sp.jk (Sp.bM v n)+1))).find? (fun x=>x.1==k)=some (Sp.ab4 (Sp.bM v n) (Sp.jk (Sp.bM v n)+1)):=by
   rw [List.find?_eq_some_iff_getElem]
   refine ⟨beq_iff_eq.2 h7,n,by rw [List.length_set];exact h5,by rw [List.getElem_set_self],fun j hj=>?_⟩
   rw [List.getElem_set_ne (by omega)]
   have:=h8 j hj
   unfold Sp.bM at this
   rw [List.getD_eq_getElem?_getD,List.getElem?_eq_getElem (by omega)] at this
   simpa using this
  have hc:=ast hfind (beq_eq_false_iff_ne.2 (show Sp.jk (Sp.bM v n)+1≠0 by omega))
  rw [asr,hc,QU hg,h6,Int.toNat_natCast]
  exact ⟨rfl,rfl⟩
theorem agH:aG prog G Uh P5:=by
 refine agI (aF (l:=[(nM, .pure oJ),(zh, .eff (ai rM) A7),(zi, .eff (ai rJ) AZ),(dY, .pure dV),(gu, .pure gG),(vK, .pure yH),(pq, .eff (ai kV) sS),(wW, .pure zN),(su, .eff (ai l7) vz),(wX, .eff (ai qg) zO),(wY, .eff (ai qh) zS),(qy, .eff (ai lI) uT),(qE, .eff (ai lV) rH),(Aq, .eff (ai uD) Dq),(uG, .eff (ai mX) wJ),(mD, .eff (ai kE) mW),(vM, .eff (ai oI) yE),(pz, .eff (ai kU) sK),(sD, .eff (ai lZ) vw),(mM, .eff (ai kF) qj),(OO, .pure Oj)]) (ay ah) (by simp only [List.forall_mem_cons];exact ⟨⟨Px,NR⟩,⟨aeg,abM⟩,⟨aee,abL⟩,⟨pK,nZ⟩,⟨vU,uU⟩,⟨aaC,Za⟩,⟨UW,SS⟩,⟨ach,aah⟩,⟨Xv,WE⟩,⟨acd,aai⟩,⟨acf,aaj⟩,⟨WR,UG⟩,⟨RI,Qa⟩,⟨agF,ad5⟩,⟨Zg,Xj⟩,⟨NY,LM⟩,⟨aax,Y9⟩,⟨UK,SK⟩,⟨Xt,WC⟩,⟨RN,QF⟩,⟨as3,asa⟩,fun x hx=>by cases hx⟩)) ?_
 intro code hin hp
 refine ⟨trivial,af (fun _=>rfl) fun hb=>?_⟩
 have hc:code.length≤1048576:=by have:=ji hb;omega
 refine ⟨hc,fun r1 hr1=>⟨hr1.2,fun r2 hr2=>⟨hc,fun r3 hr3=>⟨⟨hr3.2.1,Nat.le_trans hr3.1 (by decide),hr3.2.2⟩,fun r4 hr4=>⟨⟨hr3.2.1,Nat.le_trans hr3.1 (by decide),hr3.2.2⟩,fun r5 hr5=>⟨hc,fun r6 hr6=>?_⟩⟩⟩⟩⟩⟩
 have w6:Sp.aH r6.1.1∧r6.1.1.length≤100:=⟨hr6.2,Nat.le_trans hr6.1 (by decide)⟩
 refine ⟨w6,fun r7 hr7=>⟨w6,fun r8 hr8=>⟨hc,fun r9 hr9=>?_⟩⟩⟩
 have w9:Sp.aH r9.1.1∧r9.1.1.length≤100:=⟨hr9.2,Nat.le_trans hr9.1 (by decide)⟩
 refine ⟨w9,fun r10 axf=>⟨w9,fun r11 axg=>⟨fun _=>True,⟨hr1.2,fun r13 ayK=>⟨trivial,?_⟩⟩,fun y18 _=>⟨hc,fun Uj azr=>⟨trivial,trivial,?_⟩⟩⟩⟩⟩
 · refine af (fun h=>(ji (jE h) (hr2.trans ayK.symm)).elim) fun _=>af (fun h=>?_) fun _=>⟨trivial,af (fun h=>(ji (jE h) (hr4.1.trans hr5.1.symm)).elim) fun _=>af (fun h=>?_) fun _=>⟨trivial,af (fun h=>(ji (jE h) (hr7.1.trans hr8.1.symm)).elim) fun _=>af (fun h=>?_) fun _=>⟨trivial,af (fun h=>(ji (jE h) (axf.1.trans axg.1.symm)).elim) fun _=>⟨rfl,trivial⟩⟩⟩⟩
   · rw [show r4.1.2.1=r5.1.2.1 from hr4.2.trans hr5.2.symm] at h;simp at h
   · rw [show r7.1.2.1=r8.1.2.1 from hr7.2.trans hr8.2.symm] at h;simp at h
   · rw [show r10.1.2.1=r11.1.2.1 from axf.2.trans axg.2.symm] at h;simp at h
 · refine af (fun h=>by simp at h) fun _=>⟨hr1.2,hr1.2,af (fun h=>by simp at h) fun _=>af (fun h=>⟨trivial,?_⟩) fun h=>?_⟩
   · have h:r7.1.2.1=false:=jE h
     have e:(Sp.dJ r6.1.1 r6.1.2.1 1).2=false:=hr7.2.symm.trans h
     have e1:r7.1.1=r6.1.1:=by
      rw [hr7.1]
      unfold Sp.dJ at e ⊢
      cases g:Sp.fZ r6.1.1&&Sp.uO r6.1.1 r6.1.2.1 1 with
      |true=>rw [g] at e;cases e
      |false=>rfl
     rw [decide_eq_true e1]
   · have h:r7.1.2.1=true:=fJ h
     have e:(Sp.dJ r6.1.1 r6.1.2.1 1).2=true:=hr7.2.symm.trans h
     have hz:Sp.aH r7.1.1:=by rw [hr7.1];exact (agA w6.1).1
     have hf:=as6 e
     refine ⟨hz,fun r25 axh=>⟨by rw [axh];exact (ado hz).1,fun Yz axi=>⟨w6.1,fun r27 axj=>?_⟩⟩⟩
     have a1:Yz.1.1=r27.1.1∧Yz.1.2.1=true∧r27.1.2.1=true:=by
      rw [axi.1,axi.2,axj.1,axj.2,axh,hr7.1,hf.1]
      exact ⟨rfl,hf.2,hf.2⟩
     rw [a1.2.1,a1.2.2]
     exact ⟨trivial,by dsimp only;rw [decide_eq_true a1.1]⟩
end Go.Proofs.Tryz
