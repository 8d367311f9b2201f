import Derived.Test.YtlbkigkbmeckbaaGreatP9
namespace Go.Proofs.Tryz
open Go Go.Fw Go.IntWalk
theorem XH {d:List Sp.aH} {aC r:List (Int×Unit)} (h:Sp.raised d aC r) (h0:∀ i,i<d.length→0≤Sp.lv aC i) (hp:Sp.iL (Sp.dI d) fun i=>(Sp.lv aC i).toNat):∀ i,i<d.length→Sp.lv r i=Sp.lv aC i:=by
 obtain ⟨_,h2,_,_,h5⟩:=h
 intro i hi
 have a:Sp.lv aC i≤Sp.lv r i:=h2 i hi
 have b:Sp.lv r i≤((Sp.lv aC i).toNat:Int):=h5 _ hp (fun j hj=>by have:=h0 j hj;show Sp.lv aC j≤((Sp.lv aC j).toNat:Int);omega) i hi
 have:=h0 i hi
 omega
theorem al7 {d:List Sp.aH} {aC r:List (Int×Unit)} (h:Sp.raised d aC r) (hp:¬ Sp.iL (Sp.dI d) fun i=>(Sp.lv aC i).toNat):∃ i,i<d.length∧Sp.lv aC i<Sp.lv r i:=by
 obtain ⟨_,h2,_,h4,_⟩:=h
 refine Classical.byContradiction fun hno=>hp (h4 fun i hi=>?_)
 have a:Sp.lv aC i≤Sp.lv r i:=h2 i hi
 have b:¬ Sp.lv aC i<Sp.lv r i:=fun h=>hno ⟨i,hi,h⟩
 show Sp.lv r i=Sp.lv aC i
 omega
theorem ajJ {d:List Sp.aH} (h1:Sp.bJ d=true) {L:Nat→Nat} (h2:Sp.iL (Sp.dI d) L):Sp.ax d=true:=Sp.mF.2 ⟨h1,L,h2⟩
theorem al8 {d:List Sp.aH} (h:∀ M,Sp.iL (Sp.dI d) M→(∀ i,i<d.length→M i<d.length)→False):Sp.ax d=false:=by
 rw [Bool.eq_false_iff]
 intro h1
 obtain ⟨_,h2⟩:=Sp.mF.1 h1
 obtain ⟨M,h3,h4⟩:=Sp.Lp (Sp.kS d) h2
 exact h M h3 h4
theorem ajK {d:List Sp.aH} (h:Sp.bJ d=false):Sp.ax d=false:=by
 rw [Bool.eq_false_iff]
 intro h1
 rw [(Sp.mF.1 h1).1] at h;cases h
theorem P5 (n i:Nat):Sp.lv (List.replicate n (0,())) i=0:=by
 unfold Sp.lv
 rw [List.getD_eq_getElem?_getD]
 by_cases h:i<n
 · rw [List.getElem?_replicate,if_pos h];rfl
 · rw [List.getElem?_eq_none (by simp;omega)];rfl
theorem RV {d:List Sp.aH} (h:Sp.ax d=true):∃ s,Sp.jE d s:=by
 obtain ⟨hok,h2⟩:=Sp.mF.1 h
 exact Sp.aoI (Sp.Lp (Sp.kS d) h2)
theorem afq {d:List Sp.aH}:∃ s:List (Int×Unit),(Sp.ax d=true→Sp.jE d s)∧(Sp.ax d=false→s=[]):=by
 cases h:Sp.ax d with
 |true=>obtain ⟨s,hs⟩:=RV h;exact ⟨s,fun _=>hs,fun h=>by cases h⟩
 |false=>exact ⟨[],fun h=>(by cases h),fun _=>rfl⟩
theorem Dh:ai prog G lT.e:=by
 refine aif (ak ah ⟨BU,ac2,Gm,trivial⟩) (fun ⟨d,_⟩ hp=>by obtain ⟨s,h1,h2⟩:=afq (d:=d);exact ⟨(((s,Sp.ax d,()),())),⟨rfl,h1,h2⟩⟩) ?_
 intro d hin hp
 dsimp only [lT] at hp ⊢
 have hp:Sp.aB d:=hp
 refine ⟨hp,af (fun h=>⟨(ajK (fQ h)).symm,fun h=>(by cases h),fun _=>rfl⟩) fun h=>?_⟩
 have hok:=dH h
 have hlen:=Sp.RX hok
 refine ⟨⟨by omega,by omega,by rw [bV];omega⟩,?_⟩
 have hnn:d.length*d.length≤25:=Nat.mul_le_mul hlen hlen
 have e1:(d.length:Int)*(d.length:Int)=((d.length*d.length:Nat):Int):=by simp
 have w:IntKind.i64.wrap (IntKind.i64.wrap ((d.length:Int)*(d.length:Int))+1)=((d.length*d.length:Nat):Int)+1:=by
  rw [e1,fC ((d.length*d.length:Nat):Int) (by omega)]
  exact fC _ (by omega)
 rw [w]
 have hmem:∀ aC:List (Int×Unit),aC.length=d.length→∀ k:Nat,k≤27→(∀ i,i<d.length→0≤Sp.lv aC i∧Sp.lv aC i≤5000*k)→∀ x∈aC,0≤x.1∧x.1≤1000000:=fun aC hl k hk h=>
  Sp.al9 (p:=fun z=>0≤z∧z≤1000000) fun i hi=>by have:=h i (by omega);omega
 refine dR (fun i (x:List (Int×Unit))=>((x,i,()),())) (fun y=>y.1.2.1) (fun _ _=>rfl) (d.length*d.length+2) (by omega)
  (fun k aC=>aC.length=d.length∧(∀ i,i<d.length→0≤Sp.lv aC i∧Sp.lv aC i≤5000*k)∧(∀ M,Sp.iL (Sp.dI d) M→∀ i,i<d.length→Sp.lv aC i≤M i)∧((Sp.iL (Sp.dI d) fun i=>(Sp.lv aC i).toNat)∨(k:Int)≤Sp.yV aC d.length))
  ⟨by simp,fun i hi=>by rw [Int.toNat_natCast,P5];omega,fun M hM i hi=>by rw [Int.toNat_natCast,P5];omega, .inr (Sp.XI _ fun i hi=>by rw [Int.toNat_natCast,P5];omega)⟩ (fun I μ k aC hk hJ next=>?_) fun I μ aC hJ=>?_
 · obtain ⟨g1,g2,g3,g4⟩:=hJ
   dsimp only
   refine dB (by omega) ⟨⟨hp,hlen,g1,hmem aC g1 k (by omega) g2⟩,?_⟩
   rintro ⟨⟨r,⟨⟩⟩,⟨⟩⟩ hr
   have hr:Sp.raised d aC r:=hr
   have hr':=hr
   obtain ⟨q1,q2,q3,q4,q5⟩:=hr'
   have hup:∀ i,i<d.length→Sp.lv aC i≤Sp.lv r i:=q2
   refine ⟨rfl,next r ⟨q1,fun i hi=>?_,fun M hM i hi=>q5 M hM (g3 M hM) i hi,?_⟩⟩
   · have a:=hup i hi
     have b:=q3 (5000*k) (fun j hj=>(g2 j hj).2) i hi
     have b:Sp.lv r i≤5000*k+5000:=b
     have c:=g2 i hi
     omega
   · by_cases hpf:Sp.iL (Sp.dI d) fun i=>(Sp.lv aC i).toNat
     · left
       have hs:=XH hr (fun i hi=>(g2 i hi).1) hpf
       intro e he
       have:=hpf e he
       obtain ⟨a,b,_⟩:=Sp.kS d e he
       dsimp only at this ⊢
       rw [hs _ a,hs _ b]
       exact this
     · right
       have hm:=Sp.ac3 d.length hup (al7 hr hpf)
       rcases g4 with g4|g4
       · exact (hpf g4).elim
       · omega
 · obtain ⟨g1,g2,g3,g4⟩:=hJ
   dsimp only
   refine dD (by omega) ⟨⟨hp,hlen,g1,hmem aC g1 _ (by omega) g2⟩,?_⟩
   rintro ⟨⟨r,⟨⟩⟩,⟨⟩⟩ hr
   have hr:Sp.raised d aC r:=hr
   refine ⟨trivial,af (fun hne=>?_) fun he=>?_⟩
   · have hne:¬ r=aC:=fP (fQ hne)
     refine ⟨(al8 fun M hM hb=>?_).symm,fun h=>(by cases h),fun _=>rfl⟩
     rcases g4 with g4|g4
     · exact hne (Sp.apR (by rw [hr.1,g1]) fun i hi=>XH hr (fun i hi=>(g2 i hi).1) g4 i (by rw [← hr.1];exact hi))
     · have:=Sp.Ou (a:=aC) (b:=d.length) d.length fun i hi=>by have a:=g3 M hM i hi;have b:=hb i hi;omega
       omega
   · have he:r=aC:=fD (dH he)
     subst he
     have hpf:=hr.2.2.2.1 fun i hi=>rfl
     obtain ⟨M,hM,hb⟩:=Sp.Lp (Sp.kS d) ⟨_,hpf⟩
     exact ⟨(ajJ hok hpf).symm,fun _=>⟨g1,fun i hi=>⟨(g2 i hi).1,by have a:=g3 M hM i hi;have b:=hb i hi;omega⟩,hpf,g3⟩,fun h=>by cases h⟩
theorem GU:ai prog G oK.e:=by
 refine aii (ak ah ⟨RY,UU,RZ,Gn,trivial⟩) (fun ⟨d,_⟩ hp=>by obtain ⟨s,h1,h2⟩:=afq (d:=d);exact ⟨(((s,Sp.ax d,()),())),⟨rfl,h1⟩⟩) ?_
 intro d hin hp
 dsimp only [oK] at hp ⊢
 have hp:Sp.aB d:=hp
 refine ⟨hp,af (fun h=>⟨(ajK (fQ h)).symm,fun h=>by cases h⟩) fun h=>?_⟩
 have hok:=dH h
 have hlen:=Sp.RX hok
 refine ⟨⟨by omega,by omega,by rw [bV];omega⟩,?_⟩
 have hmem:∀ aC:List (Int×Unit),aC.length=d.length→(∀ i,i<d.length→0≤Sp.lv aC i∧Sp.lv aC i≤d.length)→∀ x∈aC,0≤x.1∧x.1≤1000000:=fun aC hl h=>
  Sp.al9 (p:=fun z=>0≤z∧z≤1000000) fun i hi=>by have:=h i (by omega);omega
 refine ⟨fun y=>y.2.1.length=d.length∧(∀ i,i<d.length→0≤Sp.lv y.2.1 i∧Sp.lv y.2.1 i≤d.length)∧(∀ M,Sp.iL (Sp.dI d) M→∀ i,i<d.length→Sp.lv y.2.1 i≤M i)∧(y.1.1=false→Sp.iL (Sp.dI d) fun i=>(Sp.lv y.2.1 i).toNat),
  fun y=>(((d.length*d.length:Nat):Int)-Sp.yV y.2.1 d.length).toNat*2+(if y.1.1=true then 1 else 0),⟨by simp,fun i hi=>by rw [Int.toNat_natCast,P5];omega,fun M hM i hi=>by rw [Int.toNat_natCast,P5];omega,fun h=>by cases h⟩,?_⟩
 rintro ⟨⟨ch,⟨⟩⟩,aC,⟨⟩⟩ ⟨g1,g2,g3,g4⟩
 dsimp only at g1 g2 g3 g4 ⊢
 refine af (fun hch=>?_) fun hch=>⟨(ajJ hok (g4 hch)).symm,fun _=>⟨g1,g2,g4 hch,g3⟩⟩
 subst hch
 refine dR (fun i (x:Bool×List (Int×Unit))=>((x.1,i,()),x.2,())) (fun y=>y.1.2.1) (fun _ _=>rfl) d.length (by omega)
  (fun i (x:Bool×List (Int×Unit))=>x.2.length=d.length∧(∀ i,i<d.length→Sp.lv aC i≤Sp.lv x.2 i∧Sp.lv x.2 i≤d.length)∧(∀ M,Sp.iL (Sp.dI d) M→∀ i,i<d.length→Sp.lv x.2 i≤M i)∧
    (x.1=true→Sp.yV aC d.length<Sp.yV x.2 d.length)∧(x.1=false→x.2=aC∧∀ e∈Sp.dI d,e.1<i→Sp.lv aC e.2.1+e.2.2≤Sp.lv aC e.1))
  (s0:=(false,aC)) ⟨g1,fun i hi=>⟨Int.le_refl _,(g2 i hi).2⟩,g3,fun h=>(by cases h),fun _=>⟨rfl,fun e _ h=>by omega⟩⟩ (fun I μ i x hi hJ next=>?_) fun I μ x hJ=>?_
 · obtain ⟨c,cur⟩:=x
   obtain ⟨q1,q2,q3,q4,q5⟩:=hJ
   have q1:cur.length=d.length:=q1
   have hcur:∀ i,i<d.length→0≤Sp.lv cur i∧Sp.lv cur i≤d.length:=fun i hi=>⟨Int.le_trans (g2 i hi).1 (q2 i hi).1,(q2 i hi).2⟩
   have hm:=hmem cur q1 hcur
   dsimp only
   rw [Int.toNat_natCast]
   refine dB (by omega) ⟨⟨by omega,by omega⟩,rD hp hi,?_⟩
   rintro ⟨⟨r4,⟨⟩⟩,⟨⟩⟩ hr4
   have hr4:Sp.fB r4 (Sp.dZ (Sp.bI d i).2.1 false):=hr4
   refine ⟨⟨by omega,hr4.1,by omega,by omega,hm⟩,rD hp hi,?_⟩
   rintro ⟨⟨r6,⟨⟩⟩,⟨⟩⟩ P6
   have P6:Sp.fB r6 (Sp.dZ (Sp.bI d i).2.1 true):=P6
   refine ⟨⟨by omega,P6.1,by omega,by omega,hm⟩,?_⟩
   dsimp only
   have hle:∀ M,Sp.iL (Sp.dI d) M→Sp.yL d cur 0 r4≤M i∧Sp.yL d cur 1 r6≤M i:=by
    intro M hM
    refine ⟨(Sp.EN r4 _).2 ⟨by omega,fun x hx h0=>?_⟩,(Sp.EN r6 _).2 ⟨by omega,fun x hx h0=>?_⟩⟩
    · have he:=Sp.CJ.2 ⟨hi,x.1, .inl ⟨rfl,(hr4.2 x.1).1 hx⟩,h0,rfl⟩
      have a:=hM _ he
      have a:M (Sp.aQ d x.1).toNat+0≤M i:=a
      have b:=q3 M hM _ (Sp.kS d _ he).2.1
      have b:Sp.lv cur (Sp.aQ d x.1).toNat≤M (Sp.aQ d x.1).toNat:=b
      omega
    · have he:=Sp.CJ.2 ⟨hi,x.1, .inr ⟨rfl,(P6.2 x.1).1 hx⟩,h0,rfl⟩
      have a:=hM _ he
      have a:M (Sp.aQ d x.1).toNat+1≤M i:=a
      have b:=q3 M hM _ (Sp.kS d _ he).2.1
      have b:Sp.lv cur (Sp.aQ d x.1).toNat≤M (Sp.aQ d x.1).toNat:=b
      omega
   have hge:∀ e∈Sp.dI d,e.1=i→Sp.lv cur e.2.1+e.2.2≤Sp.yL d cur 0 r4∨Sp.lv cur e.2.1+e.2.2≤Sp.yL d cur 1 r6:=by
    rintro ⟨a,b,m⟩ he ha
    have ha:a=i:=ha
    subst ha
    have hm1:m≤1:=(Sp.kS d _ he).2.2
    rcases Nat.eq_zero_or_pos m with h|h
    · subst h
      obtain ⟨p,p1,p2,p3⟩:=NK hr4 he rfl
      left
      have:=((Sp.EN (d:=d) (aC:=cur) (more:=0) r4 _).1 (Int.le_refl _)).2 _ (getD_mem (d:=(([]:List UInt8),())) p1) p2
      show Sp.lv cur b+((0:Nat):Int)≤_
      rw [p3];omega
    · have:m=1:=by omega
      subst this
      obtain ⟨p,p1,p2,p3⟩:=NK P6 he rfl
      right
      have:=((Sp.EN (d:=d) (aC:=cur) (more:=1) r6 _).1 (Int.le_refl _)).2 _ (getD_mem (d:=(([]:List UInt8),())) p1) p2
      show Sp.lv cur b+((1:Nat):Int)≤_
      rw [p3];omega
   generalize Sp.yL d cur 0 r4=u at hle hge ⊢
   generalize Sp.yL d cur 1 r6=v at hle hge ⊢
   have hv:∃ z,(if v>u then v else u)=z∧u≤z∧v≤z∧(z=u∨z=v):=by
    refine ⟨_,rfl,?_,?_,?_⟩<;>split<;>omega
   obtain ⟨z,ez,hz1,hz2,hz3⟩:=hv
   rw [ez]
   have e2:(cur.getD i (0,())).1=Sp.lv cur i:=rfl
   rw [e2]
   refine af (fun hbig=>?_) fun hbig=>⟨⟨by omega,by omega⟩,by omega,af (fun hup=>⟨⟨by omega,by omega⟩,by omega,rfl,next (true,cur.set i (z,())) ?_⟩) fun hup=>⟨rfl,next (c,cur) ?_⟩⟩
   · have hbig:z>(d.length:Int):=fD hbig
     refine ⟨(al8 fun M hM hb=>?_).symm,fun h=>by cases h⟩
     have a:=hle M hM
     have b:=hb i hi
     omega
   · have hbig:¬ z>(d.length:Int):=fP hbig
     have hup:z>Sp.lv cur i:=fD hup
     have hs:=fun k=>Sp.ama (l:=cur) (i:=i) (by omega) z k
     refine ⟨by simp;omega,fun k hk=>?_,fun M hM k hk=>?_,fun _=>?_,fun h=>by cases h⟩
     · dsimp only
       rw [hs]
       have:=q2 k hk
       dsimp only at this
       split
       · next e=>subst e;omega
       · exact this
     · dsimp only
       rw [hs]
       split
       · next e=>subst e;have:=hle M hM;omega
       · exact q3 M hM k hk
     · have a:=Sp.ac4 (a:=aC) (b:=cur) d.length fun k hk=>(q2 k hk).1
       have hsk:∀ k,k<d.length→Sp.lv cur k≤Sp.lv (cur.set i (z,())) k:=fun k hk=>by
        rw [hs]
        split
        · next e=>subst e;omega
        · exact Int.le_refl _
       have b:=Sp.ac3 (a:=cur) (b:=cur.set i (z,())) d.length hsk ⟨i,hi,by rw [hs,if_pos rfl];omega⟩
       show Sp.yV aC d.length<Sp.yV (cur.set i (z,())) d.length
       omega
   · have hup:¬ z>Sp.lv cur i:=fP hup
     refine ⟨q1,q2,q3,q4,fun h=>?_⟩
     obtain ⟨a,b⟩:=q5 h
     have a:cur=aC:=a
     subst a
     refine ⟨rfl,fun e he hlt=>?_⟩
     rcases Nat.lt_or_ge e.1 i with h'|h'
     · exact b e he h'
     · have PE:e.1=i:=by omega
       have:=hge e he PE
       rw [PE]
       omega
 · obtain ⟨c,cur⟩:=x
   obtain ⟨q1,q2,q3,q4,q5⟩:=hJ
   dsimp only at q1 q2 q3 q4 q5 ⊢
   have hcur:∀ i,i<d.length→0≤Sp.lv cur i∧Sp.lv cur i≤d.length:=fun i hi=>⟨Int.le_trans (g2 i hi).1 (q2 i hi).1,(q2 i hi).2⟩
   have hsum:=Sp.Ou (a:=cur) (b:=d.length) d.length fun i hi=>(q2 i hi).2
   refine dD (by omega) ⟨rfl,⟨q1,hcur,q3,fun hc e he=>?_⟩,?_⟩
   · obtain ⟨a,b⟩:=q5 hc
     subst a
     obtain ⟨x1,x2,_⟩:=Sp.kS d e he
     have:=b e he x1
     have y1:=(hcur _ x1).1
     have y2:=(hcur _ x2).1
     dsimp only
     omega
   · cases c with
     |true=>
      have:=q4 rfl
      simp only [if_true]
      omega
     |false=>
      obtain ⟨a,_⟩:=q5 rfl
      subst a
      simp
theorem Si:ai prog G sQ.e:=by
 refine Sj (ak ah ⟨GU,trivial⟩) ?_
 intro d hin hp
 dsimp only [sQ] at hp ⊢
 refine ⟨hp,fun r hr=>?_⟩
 rw [hr.1]
theorem AB:ai prog G kN.e:=by
 refine Sl (ak ah ⟨Dh,trivial⟩) ?_
 intro d hin hp
 dsimp only [kN] at hp ⊢
 refine ⟨hp,fun r hr=>?_⟩
 rw [hr.1]
end Go.Proofs.Tryz
