import Derived.Test.YtkgkfdphbkfjnaaGreatP9
namespace Go.Proofs.Tryz
open Go Go.Fw Go.IntWalk Sp
theorem XI {d:List aC} {aI r:List (Int×Unit)} (h:Sp.raised d aI r) (h0:∀ i,i<d.length→0≤Sp.lv aI i) (hp:iV (dX d) fun i=>(Sp.lv aI i).toNat):∀ i,i<d.length→Sp.lv r i=Sp.lv aI i:=by
 obtain ⟨_,h2,_,_,h5⟩:=h
 intro i hi
 have a:Sp.lv aI i≤Sp.lv r i:=h2 i hi
 have b:Sp.lv r i≤((Sp.lv aI i).toNat:Int):=h5 _ hp (fun j hj=>by have:=h0 j hj;show Sp.lv aI j≤((Sp.lv aI j).toNat:Int);omega) i hi
 have:=h0 i hi
 omega
theorem aju {d:List aC} {aI r:List (Int×Unit)} (h:Sp.raised d aI r) (hp:¬ iV (dX d) fun i=>(Sp.lv aI i).toNat):∃ i,i<d.length∧Sp.lv aI i<Sp.lv r i:=by
 obtain ⟨_,h2,_,h4,_⟩:=h
 refine Classical.byContradiction fun hno=>hp (h4 fun i hi=>?_)
 have a:Sp.lv aI i≤Sp.lv r i:=h2 i hi
 have b:¬ Sp.lv aI i<Sp.lv r i:=fun h=>hno ⟨i,hi,h⟩
 show Sp.lv r i=Sp.lv aI i
 omega
theorem ahv {d:List aC} (h1:bF d=true) {L:Nat→Nat} (h2:iV (dX d) L):ai d=true:=jX.2 ⟨h1,L,h2⟩
theorem ajv {d:List aC} (h:∀ M,iV (dX d) M→(∀ i,i<d.length→M i<d.length)→False):ai d=false:=by
 rw [Bool.eq_false_iff]
 intro h1
 obtain ⟨_,h2⟩:=jX.1 h1
 obtain ⟨M,h3,h4⟩:=Ol (lq d) h2
 exact h M h3 h4
theorem ahw {d:List aC} (h:bF d=false):ai d=false:=by
 rw [Bool.eq_false_iff]
 intro h1
 rw [(jX.1 h1).1] at h;cases h
theorem RX (n i:Nat):Sp.lv (List.replicate n (0,())) i=0:=by
 unfold Sp.lv
 rw [List.getD_eq_getElem?_getD]
 by_cases h:i<n
 · rw [List.getElem?_replicate,if_pos h];rfl
 · rw [List.getElem?_eq_none (by simp;omega)];rfl
theorem Om {d:List aC} (h:ai d=true):∃ s,ku d s:=by
 obtain ⟨hok,h2⟩:=jX.1 h
 exact amd (Ol (lq d) h2)
theorem aej {d:List aC}:∃ s:List (Int×Unit),(ai d=true→ku d s)∧(ai d=false→s=[]):=by
 cases h:ai d with
 |true=>obtain ⟨s,hs⟩:=Om h;exact ⟨s,fun _=>hs,fun h=>by cases h⟩
 |false=>exact ⟨[],fun h=>(by cases h),fun _=>rfl⟩
theorem FH:OK uN.e:=by
 refine XA.ok mixed (au [rO.e,um.e,oO.e] ⟨Eo,acj,D8,trivial⟩) ahX (fun ⟨d,_⟩ hp=>by obtain ⟨s,h1,h2⟩:=aej (d:=d);exact ⟨(((s,ai d,()),())),⟨rfl,h1,h2⟩⟩) (by kernel_rfl) (show ∀ d,uN.goal (agh d) (d,()) from ?_)
 intro d hin hp
 dsimp only [uN] at hp ⊢
 have hp:aA d:=hp
 refine ⟨hp,af (fun h=>⟨(ahw (dS h)).symm,fun h=>(by cases h),fun _=>rfl⟩) fun h=>?_⟩
 have hok:=bU h
 have hlen:=Ue hok
 refine ⟨⟨by omega,by omega,by rw [bW];omega⟩,?_⟩
 have hnn:d.length*d.length≤25:=Nat.mul_le_mul hlen hlen
 have e1:(d.length:Int)*(d.length:Int)=((d.length*d.length:Nat):Int):=by simp
 have w:IntKind.i64.wrap (IntKind.i64.wrap ((d.length:Int)*(d.length:Int))+1)=((d.length*d.length:Nat):Int)+1:=by
  rw [e1,fF ((d.length*d.length:Nat):Int) (by omega)]
  exact fF _ (by omega)
 rw [w]
 have hmem:∀ aI:List (Int×Unit),aI.length=d.length→∀ k:Nat,k≤27→(∀ i,i<d.length→0≤Sp.lv aI i∧Sp.lv aI i≤5000*k)→∀ x∈aI,0≤x.1∧x.1≤1000000:=fun aI hl k hk h=>
  ajw (p:=fun z=>0≤z∧z≤1000000) fun i hi=>by have:=h i (by omega);omega
 refine dN (fun i (x:List (Int×Unit))=>((x,i,()),())) (fun y=>y.1.2.1) (fun _ _=>rfl) (d.length*d.length+2) (by omega)
  (fun k aI=>aI.length=d.length∧(∀ i,i<d.length→0≤Sp.lv aI i∧Sp.lv aI i≤5000*k)∧(∀ M,iV (dX d) M→∀ i,i<d.length→Sp.lv aI i≤M i)∧((iV (dX d) fun i=>(Sp.lv aI i).toNat)∨(k:Int)≤zn aI d.length))
  ⟨by simp,fun i hi=>by rw [Int.toNat_natCast,RX];omega,fun M hM i hi=>by rw [Int.toNat_natCast,RX];omega, .inr (XJ _ fun i hi=>by rw [Int.toNat_natCast,RX];omega)⟩ (fun I μ k aI hk hJ next=>?_) fun I μ aI hJ=>?_
 · obtain ⟨g1,g2,g3,g4⟩:=hJ
   dsimp only
   refine dH (by omega) ⟨⟨hp,hlen,g1,hmem aI g1 k (by omega) g2⟩,?_⟩
   rintro ⟨⟨r,⟨⟩⟩,⟨⟩⟩ hr
   have hr:Sp.raised d aI r:=hr
   have hr':=hr
   obtain ⟨q1,q2,q3,q4,q5⟩:=hr'
   have hup:∀ i,i<d.length→Sp.lv aI i≤Sp.lv r i:=q2
   refine ⟨rfl,next r ⟨q1,fun i hi=>?_,fun M hM i hi=>q5 M hM (g3 M hM) i hi,?_⟩⟩
   · have a:=hup i hi
     have b:=q3 (5000*k) (fun j hj=>(g2 j hj).2) i hi
     have b:Sp.lv r i≤5000*k+5000:=b
     have c:=g2 i hi
     omega
   · by_cases hpf:iV (dX d) fun i=>(Sp.lv aI i).toNat
     · left
       have hs:=XI hr (fun i hi=>(g2 i hi).1) hpf
       intro e he
       have:=hpf e he
       obtain ⟨a,b,_⟩:=lq d e he
       dsimp only at this ⊢
       rw [hs _ a,hs _ b]
       exact this
     · right
       have hm:=ack d.length hup (aju hr hpf)
       rcases g4 with g4|g4
       · exact (hpf g4).elim
       · omega
 · obtain ⟨g1,g2,g3,g4⟩:=hJ
   dsimp only
   refine dI (by omega) ⟨⟨hp,hlen,g1,hmem aI g1 _ (by omega) g2⟩,?_⟩
   rintro ⟨⟨r,⟨⟩⟩,⟨⟩⟩ hr
   have hr:Sp.raised d aI r:=hr
   refine ⟨trivial,af (fun hne=>?_) fun he=>?_⟩
   · have hne:¬ r=aI:=fZ (dS hne)
     refine ⟨(ajv fun M hM hb=>?_).symm,fun h=>(by cases h),fun _=>rfl⟩
     rcases g4 with g4|g4
     · exact hne (ano (by rw [hr.1,g1]) fun i hi=>XI hr (fun i hi=>(g2 i hi).1) g4 i (by rw [← hr.1];exact hi))
     · have:=Qp (a:=aI) (b:=d.length) d.length fun i hi=>by have a:=g3 M hM i hi;have b:=hb i hi;omega
       omega
   · have he:r=aI:=fJ (bU he)
     subst he
     have hpf:=hr.2.2.2.1 fun i hi=>rfl
     obtain ⟨M,hM,hb⟩:=Ol (lq d) ⟨_,hpf⟩
     exact ⟨(ahv hok hpf).symm,fun _=>⟨g1,fun i hi=>⟨(g2 i hi).1,by have a:=g3 M hM i hi;have b:=hb i hi;omega⟩,hpf,g3⟩,fun h=>by cases h⟩
theorem JV:OK xY.e:=by
 refine XA.ok mixed (au [xk.e,yG.e,xg.e,oP.e] ⟨Uf,Vz,Ug,D9,trivial⟩) ahY (fun ⟨d,_⟩ hp=>by obtain ⟨s,h1,h2⟩:=aej (d:=d);exact ⟨(((s,ai d,()),())),⟨rfl,h1⟩⟩) (by kernel_rfl) (show ∀ d,xY.goal (agi d) (d,()) from ?_)
 intro d hin hp
 dsimp only [xY] at hp ⊢
 have hp:aA d:=hp
 refine ⟨hp,af (fun h=>⟨(ahw (dS h)).symm,fun h=>by cases h⟩) fun h=>?_⟩
 have hok:=bU h
 have hlen:=Ue hok
 refine ⟨⟨by omega,by omega,by rw [bW];omega⟩,?_⟩
 have hmem:∀ aI:List (Int×Unit),aI.length=d.length→(∀ i,i<d.length→0≤Sp.lv aI i∧Sp.lv aI i≤d.length)→∀ x∈aI,0≤x.1∧x.1≤1000000:=fun aI hl h=>
  ajw (p:=fun z=>0≤z∧z≤1000000) fun i hi=>by have:=h i (by omega);omega
 refine ⟨fun y=>y.2.1.length=d.length∧(∀ i,i<d.length→0≤Sp.lv y.2.1 i∧Sp.lv y.2.1 i≤d.length)∧(∀ M,iV (dX d) M→∀ i,i<d.length→Sp.lv y.2.1 i≤M i)∧(y.1.1=false→iV (dX d) fun i=>(Sp.lv y.2.1 i).toNat),
  fun y=>(((d.length*d.length:Nat):Int)-zn y.2.1 d.length).toNat*2+(if y.1.1=true then 1 else 0),⟨by simp,fun i hi=>by rw [Int.toNat_natCast,RX];omega,fun M hM i hi=>by rw [Int.toNat_natCast,RX];omega,fun h=>by cases h⟩,?_⟩
 rintro ⟨⟨ch,⟨⟩⟩,aI,⟨⟩⟩ ⟨g1,g2,g3,g4⟩
 dsimp only at g1 g2 g3 g4 ⊢
 refine af (fun hch=>?_) fun hch=>⟨(ahv hok (g4 hch)).symm,fun _=>⟨g1,g2,g4 hch,g3⟩⟩
 subst hch
 refine dN (fun i (x:Bool×List (Int×Unit))=>((x.1,i,()),x.2,())) (fun y=>y.1.2.1) (fun _ _=>rfl) d.length (by omega)
  (fun i (x:Bool×List (Int×Unit))=>x.2.length=d.length∧(∀ i,i<d.length→Sp.lv aI i≤Sp.lv x.2 i∧Sp.lv x.2 i≤d.length)∧(∀ M,iV (dX d) M→∀ i,i<d.length→Sp.lv x.2 i≤M i)∧
    (x.1=true→zn aI d.length<zn x.2 d.length)∧(x.1=false→x.2=aI∧∀ e∈dX d,e.1<i→Sp.lv aI e.2.1+e.2.2≤Sp.lv aI e.1))
  (s0:=(false,aI)) ⟨g1,fun i hi=>⟨Int.le_refl _,(g2 i hi).2⟩,g3,fun h=>(by cases h),fun _=>⟨rfl,fun e _ h=>by omega⟩⟩ (fun I μ i x hi hJ next=>?_) fun I μ x hJ=>?_
 · obtain ⟨c,cur⟩:=x
   obtain ⟨q1,q2,q3,q4,q5⟩:=hJ
   have q1:cur.length=d.length:=q1
   have hcur:∀ i,i<d.length→0≤Sp.lv cur i∧Sp.lv cur i≤d.length:=fun i hi=>⟨Int.le_trans (g2 i hi).1 (q2 i hi).1,(q2 i hi).2⟩
   have hm:=hmem cur q1 hcur
   dsimp only
   rw [Int.toNat_natCast]
   refine dH (by omega) ⟨⟨by omega,by omega⟩,mV hp hi,?_⟩
   rintro ⟨⟨r4,⟨⟩⟩,⟨⟩⟩ hr4
   have hr4:dK r4 (fB (bG d i).2.1 false):=hr4
   refine ⟨⟨by omega,hr4.1,by omega,by omega,hm⟩,mV hp hi,?_⟩
   rintro ⟨⟨r6,⟨⟩⟩,⟨⟩⟩ LV
   have LV:dK r6 (fB (bG d i).2.1 true):=LV
   refine ⟨⟨by omega,LV.1,by omega,by omega,hm⟩,?_⟩
   dsimp only
   have hle:∀ M,iV (dX d) M→yH d cur 0 r4≤M i∧yH d cur 1 r6≤M i:=by
    intro M hM
    refine ⟨(Io r4 _).2 ⟨by omega,fun x hx h0=>?_⟩,(Io r6 _).2 ⟨by omega,fun x hx h0=>?_⟩⟩
    · have he:=zo.2 ⟨hi,x.1, .inl ⟨rfl,(hr4.2 x.1).1 hx⟩,h0,rfl⟩
      have a:=hM _ he
      have a:M (aJ d x.1).toNat+0≤M i:=a
      have b:=q3 M hM _ (lq d _ he).2.1
      have b:Sp.lv cur (aJ d x.1).toNat≤M (aJ d x.1).toNat:=b
      omega
    · have he:=zo.2 ⟨hi,x.1, .inr ⟨rfl,(LV.2 x.1).1 hx⟩,h0,rfl⟩
      have a:=hM _ he
      have a:M (aJ d x.1).toNat+1≤M i:=a
      have b:=q3 M hM _ (lq d _ he).2.1
      have b:Sp.lv cur (aJ d x.1).toNat≤M (aJ d x.1).toNat:=b
      omega
   have hge:∀ e∈dX d,e.1=i→Sp.lv cur e.2.1+e.2.2≤yH d cur 0 r4∨Sp.lv cur e.2.1+e.2.2≤yH d cur 1 r6:=by
    rintro ⟨a,b,m⟩ he ha
    have ha:a=i:=ha
    subst ha
    have hm1:m≤1:=(lq d _ he).2.2
    rcases Nat.eq_zero_or_pos m with h|h
    · subst h
      obtain ⟨p,p1,p2,p3⟩:=PZ hr4 he rfl
      left
      have:=((Io (d:=d) (aI:=cur) (more:=0) r4 _).1 (Int.le_refl _)).2 _ (getD_mem (d:=(([]:List UInt8),())) p1) p2
      show Sp.lv cur b+((0:Nat):Int)≤_
      rw [p3];omega
    · have:m=1:=by omega
      subst this
      obtain ⟨p,p1,p2,p3⟩:=PZ LV he rfl
      right
      have:=((Io (d:=d) (aI:=cur) (more:=1) r6 _).1 (Int.le_refl _)).2 _ (getD_mem (d:=(([]:List UInt8),())) p1) p2
      show Sp.lv cur b+((1:Nat):Int)≤_
      rw [p3];omega
   generalize yH d cur 0 r4=u at hle hge ⊢
   generalize yH d cur 1 r6=v at hle hge ⊢
   have hv:∃ z,(if v>u then v else u)=z∧u≤z∧v≤z∧(z=u∨z=v):=by
    refine ⟨_,rfl,?_,?_,?_⟩<;>split<;>omega
   obtain ⟨z,ez,hz1,hz2,hz3⟩:=hv
   rw [ez]
   have e2:(cur.getD i (0,())).1=Sp.lv cur i:=rfl
   rw [e2]
   refine af (fun hbig=>?_) fun hbig=>⟨⟨by omega,by omega⟩,by omega,af (fun hup=>⟨⟨by omega,by omega⟩,by omega,rfl,next (true,cur.set i (z,())) ?_⟩) fun hup=>⟨rfl,next (c,cur) ?_⟩⟩
   · have hbig:z>(d.length:Int):=fJ hbig
     refine ⟨(ajv fun M hM hb=>?_).symm,fun h=>by cases h⟩
     have a:=hle M hM
     have b:=hb i hi
     omega
   · have hbig:¬ z>(d.length:Int):=fZ hbig
     have hup:z>Sp.lv cur i:=fJ hup
     have hs:=fun k=>ajx (l:=cur) (i:=i) (by omega) z k
     refine ⟨by simp;omega,fun k hk=>?_,fun M hM k hk=>?_,fun _=>?_,fun h=>by cases h⟩
     · dsimp only
       rw [hs]
       have:=q2 k hk
       dsimp only at this
       split
       · next e=>subst e;omega
       · exact this
     · dsimp only
       rw [hs]
       split
       · next e=>subst e;have:=hle M hM;omega
       · exact q3 M hM k hk
     · have a:=acn (a:=aI) (b:=cur) d.length fun k hk=>(q2 k hk).1
       have hsk:∀ k,k<d.length→Sp.lv cur k≤Sp.lv (cur.set i (z,())) k:=fun k hk=>by
        rw [hs]
        split
        · next e=>subst e;omega
        · exact Int.le_refl _
       have b:=ack (a:=cur) (b:=cur.set i (z,())) d.length hsk ⟨i,hi,by rw [hs,if_pos rfl];omega⟩
       show zn aI d.length<zn (cur.set i (z,())) d.length
       omega
   · have hup:¬ z>Sp.lv cur i:=fZ hup
     refine ⟨q1,q2,q3,q4,fun h=>?_⟩
     obtain ⟨a,b⟩:=q5 h
     have a:cur=aI:=a
     subst a
     refine ⟨rfl,fun e he hlt=>?_⟩
     rcases Nat.lt_or_ge e.1 i with h'|h'
     · exact b e he h'
     · have Rx:e.1=i:=by omega
       have:=hge e he Rx
       rw [Rx]
       omega
 · obtain ⟨c,cur⟩:=x
   obtain ⟨q1,q2,q3,q4,q5⟩:=hJ
   dsimp only at q1 q2 q3 q4 q5 ⊢
   have hcur:∀ i,i<d.length→0≤Sp.lv cur i∧Sp.lv cur i≤d.length:=fun i hi=>⟨Int.le_trans (g2 i hi).1 (q2 i hi).1,(q2 i hi).2⟩
   have hsum:=Qp (a:=cur) (b:=d.length) d.length fun i hi=>(q2 i hi).2
   refine dI (by omega) ⟨rfl,⟨q1,hcur,q3,fun hc e he=>?_⟩,?_⟩
   · obtain ⟨a,b⟩:=q5 hc
     subst a
     obtain ⟨x1,x2,_⟩:=lq d e he
     have:=b e he x1
     have y1:=(hcur _ x1).1
     have y2:=(hcur _ x2).1
     dsimp only
     omega
   · cases c with
     |true=>
      have:=q4 rfl
      simp only [if_true]
      omega
     |false=>
      obtain ⟨a,_⟩:=q5 rfl
      subst a
      simp
theorem Uh:OK xw.e:=by
 refine PA.ok mixed (au [xY.e] ⟨JV,trivial⟩) H0 (by kernel_rfl) (show ∀ d,xw.goal (Ui d) (d,()) from ?_)
 intro d hin hp
 dsimp only [xw] at hp ⊢
 refine ⟨hp,fun r hr=>?_⟩
 exact Prod.ext hr.1 rfl
theorem Je:OK rC.e:=by
 refine PA.ok mixed (au [uN.e] ⟨FH,trivial⟩) H0 (by kernel_rfl) (show ∀ d,rC.goal (Uj d) (d,()) from ?_)
 intro d hin hp
 dsimp only [rC] at hp ⊢
 refine ⟨hp,fun r hr=>?_⟩
 exact Prod.ext hr.1 rfl
end Go.Proofs.Tryz
