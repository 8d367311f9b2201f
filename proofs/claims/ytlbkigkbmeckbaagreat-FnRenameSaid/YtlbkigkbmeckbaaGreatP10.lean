import Derived.Test.YtlbkigkbmeckbaaGreatP9
namespace Go.Proofs.Tryz
open Go Go.Fw Go.IntWalk
theorem aaj {d:List Sp.aT} {aG r:List (Int×Unit)} (h:Sp.raised d aG r) (h0:∀ i,i<d.length→0≤Sp.lv aG i) (hp:Sp.jo (Sp.dV d) fun i=>(Sp.lv aG i).toNat):∀ i,i<d.length→Sp.lv r i=Sp.lv aG i:=by
 obtain ⟨_,h2,_,_,h5⟩:=h
 intro i hi
 have a:Sp.lv aG i≤Sp.lv r i:=h2 i hi
 have b:Sp.lv r i≤((Sp.lv aG i).toNat:Int):=h5 _ hp (fun j hj=>by have:=h0 j hj;show Sp.lv aG j≤((Sp.lv aG j).toNat:Int);omega) i hi
 have:=h0 i hi
 omega
theorem apB {d:List Sp.aT} {aG r:List (Int×Unit)} (h:Sp.raised d aG r) (hp:¬ Sp.jo (Sp.dV d) fun i=>(Sp.lv aG i).toNat):∃ i,i<d.length∧Sp.lv aG i<Sp.lv r i:=by
 obtain ⟨_,h2,_,h4,_⟩:=h
 refine Classical.byContradiction fun hno=>hp (h4 fun i hi=>?_)
 have a:Sp.lv aG i≤Sp.lv r i:=h2 i hi
 have b:¬ Sp.lv aG i<Sp.lv r i:=fun h=>hno ⟨i,hi,h⟩
 show Sp.lv r i=Sp.lv aG i
 omega
theorem ana {d:List Sp.aT} (h1:Sp.gV d=true) {L:Nat→Nat} (h2:Sp.jo (Sp.dV d) L):Sp.aF d=true:=Sp.oH.2 ⟨h1,L,h2⟩
theorem apC {d:List Sp.aT} (h:∀ M,Sp.jo (Sp.dV d) M→(∀ i,i<d.length→M i<d.length)→False):Sp.aF d=false:=by
 rw [Bool.eq_false_iff]
 intro h1
 obtain ⟨_,h2⟩:=Sp.oH.1 h1
 obtain ⟨M,h3,h4⟩:=Sp.Oj (Sp.mQ d) h2
 exact h M h3 h4
theorem anb {d:List Sp.aT} (h:Sp.gV d=false):Sp.aF d=false:=by
 rw [Bool.eq_false_iff]
 intro h1
 rw [(Sp.oH.1 h1).1] at h;cases h
theorem TG (n i:Nat):Sp.lv (List.replicate n (0,())) i=0:=by
 unfold Sp.lv
 rw [List.getD_eq_getElem?_getD]
 by_cases h:i<n
 · rw [List.getElem?_replicate,if_pos h];rfl
 · rw [List.getElem?_eq_none (by simp;omega)];rfl
theorem afI {d:List Sp.aT} (h:Sp.aF d=true):∃ s,Sp.lg d s:=by
 obtain ⟨hok,h2⟩:=Sp.oH.1 h
 exact Sp.asj (Sp.Oj (Sp.mQ d) h2)
theorem ais {d:List Sp.aT}:∃ s:List (Int×Unit),(Sp.aF d=true→Sp.lg d s)∧(Sp.aF d=false→s=[]):=by
 cases h:Sp.aF d with
 |true=>obtain ⟨s,hs⟩:=afI h;exact ⟨s,fun _=>hs,fun h=>by cases h⟩
 |false=>exact ⟨[],fun h=>(by cases h),fun _=>rfl⟩
theorem Fq:ai prog G nU.e:=by
 refine alx (aj ah ⟨EI,afJ,XC,trivial⟩) (fun ⟨d,_⟩ hp=>by obtain ⟨s,h1,h2⟩:=ais (d:=d);exact ⟨(((s,Sp.aF d,()),())),⟨rfl,h1,h2⟩⟩) ?_
 intro d hin hp
 dsimp only [nU] at hp ⊢
 have hp:Sp.aV d:=hp
 refine ⟨hp,af (fun h=>⟨(anb (fO h)).symm,fun h=>(by cases h),fun _=>rfl⟩) fun h=>?_⟩
 have hok:=dI h
 have hlen:=Sp.U8 hok
 refine ⟨⟨by omega,by omega,by rw [bU];omega⟩,?_⟩
 have hnn:d.length*d.length≤25:=Nat.mul_le_mul hlen hlen
 have e1:(d.length:Int)*(d.length:Int)=((d.length*d.length:Nat):Int):=by simp
 have w:IntKind.i64.wrap (IntKind.i64.wrap ((d.length:Int)*(d.length:Int))+1)=((d.length*d.length:Nat):Int)+1:=by
  rw [e1,gu ((d.length*d.length:Nat):Int) (by omega)]
  exact gu _ (by omega)
 rw [w]
 have hmem:∀ aG:List (Int×Unit),aG.length=d.length→∀ k:Nat,k≤27→(∀ i,i<d.length→0≤Sp.lv aG i∧Sp.lv aG i≤5000*k)→∀ x∈aG,0≤x.1∧x.1≤1000000:=fun aG hl k hk h=>
  Sp.apD (p:=fun z=>0≤z∧z≤1000000) fun i hi=>by have:=h i (by omega);omega
 refine dM (fun i (x:List (Int×Unit))=>((x,i,()),())) (fun y=>y.1.2.1) (fun _ _=>rfl) (d.length*d.length+2) (by omega)
  (fun k aG=>aG.length=d.length∧(∀ i,i<d.length→0≤Sp.lv aG i∧Sp.lv aG i≤5000*k)∧(∀ M,Sp.jo (Sp.dV d) M→∀ i,i<d.length→Sp.lv aG i≤M i)∧((Sp.jo (Sp.dV d) fun i=>(Sp.lv aG i).toNat)∨(k:Int)≤Sp.AO aG d.length))
  ⟨by simp,fun i hi=>by rw [Int.toNat_natCast,TG];omega,fun M hM i hi=>by rw [Int.toNat_natCast,TG];omega, .inr (Sp.aak _ fun i hi=>by rw [Int.toNat_natCast,TG];omega)⟩ (fun I μ k aG hk hJ next=>?_) fun I μ aG hJ=>?_
 · obtain ⟨g1,g2,g3,g4⟩:=hJ
   dsimp only
   refine dh (by omega) ⟨⟨hp,hlen,g1,hmem aG g1 k (by omega) g2⟩,?_⟩
   rintro ⟨⟨r,⟨⟩⟩,⟨⟩⟩ hr
   have hr:Sp.raised d aG r:=hr
   have hr':=hr
   obtain ⟨q1,q2,q3,q4,q5⟩:=hr'
   have hup:∀ i,i<d.length→Sp.lv aG i≤Sp.lv r i:=q2
   refine ⟨rfl,next r ⟨q1,fun i hi=>?_,fun M hM i hi=>q5 M hM (g3 M hM) i hi,?_⟩⟩
   · have a:=hup i hi
     have b:=q3 (5000*k) (fun j hj=>(g2 j hj).2) i hi
     have b:Sp.lv r i≤5000*k+5000:=b
     have c:=g2 i hi
     omega
   · by_cases hpf:Sp.jo (Sp.dV d) fun i=>(Sp.lv aG i).toNat
     · left
       have hs:=aaj hr (fun i hi=>(g2 i hi).1) hpf
       intro e he
       have:=hpf e he
       obtain ⟨a,b,_⟩:=Sp.mQ d e he
       dsimp only at this ⊢
       rw [hs _ a,hs _ b]
       exact this
     · right
       have hm:=Sp.afK d.length hup (apB hr hpf)
       rcases g4 with g4|g4
       · exact (hpf g4).elim
       · omega
 · obtain ⟨g1,g2,g3,g4⟩:=hJ
   dsimp only
   refine dm (by omega) ⟨⟨hp,hlen,g1,hmem aG g1 _ (by omega) g2⟩,?_⟩
   rintro ⟨⟨r,⟨⟩⟩,⟨⟩⟩ hr
   have hr:Sp.raised d aG r:=hr
   refine ⟨trivial,af (fun hne=>?_) fun he=>?_⟩
   · have hne:¬ r=aG:=iw (fO hne)
     refine ⟨(apC fun M hM hb=>?_).symm,fun h=>(by cases h),fun _=>rfl⟩
     rcases g4 with g4|g4
     · exact hne (Sp.atx (by rw [hr.1,g1]) fun i hi=>aaj hr (fun i hi=>(g2 i hi).1) g4 i (by rw [← hr.1];exact hi))
     · have:=Sp.QG (a:=aG) (b:=d.length) d.length fun i hi=>by have a:=g3 M hM i hi;have b:=hb i hi;omega
       omega
   · have he:r=aG:=gG (dI he)
     subst he
     have hpf:=hr.2.2.2.1 fun i hi=>rfl
     obtain ⟨M,hM,hb⟩:=Sp.Oj (Sp.mQ d) ⟨_,hpf⟩
     exact ⟨(ana hok hpf).symm,fun _=>⟨g1,fun i hi=>⟨(g2 i hi).1,by have a:=g3 M hM i hi;have b:=hb i hi;omega⟩,hpf,g3⟩,fun h=>by cases h⟩
theorem TJ:ai prog G um.e:=by
 refine aly (aj ah ⟨U9,XD,Va,XF,trivial⟩) (fun ⟨d,_⟩ hp=>by obtain ⟨s,h1,h2⟩:=ais (d:=d);exact ⟨(((s,Sp.aF d,()),())),⟨rfl,h1⟩⟩) ?_
 intro d hin hp
 dsimp only [um] at hp ⊢
 have hp:Sp.aV d:=hp
 refine ⟨hp,af (fun h=>⟨(anb (fO h)).symm,fun h=>by cases h⟩) fun h=>?_⟩
 have hok:=dI h
 have hlen:=Sp.U8 hok
 refine ⟨⟨by omega,by omega,by rw [bU];omega⟩,?_⟩
 have hmem:∀ aG:List (Int×Unit),aG.length=d.length→(∀ i,i<d.length→0≤Sp.lv aG i∧Sp.lv aG i≤d.length)→∀ x∈aG,0≤x.1∧x.1≤1000000:=fun aG hl h=>
  Sp.apD (p:=fun z=>0≤z∧z≤1000000) fun i hi=>by have:=h i (by omega);omega
 refine ⟨fun y=>y.2.1.length=d.length∧(∀ i,i<d.length→0≤Sp.lv y.2.1 i∧Sp.lv y.2.1 i≤d.length)∧(∀ M,Sp.jo (Sp.dV d) M→∀ i,i<d.length→Sp.lv y.2.1 i≤M i)∧(y.1.1=false→Sp.jo (Sp.dV d) fun i=>(Sp.lv y.2.1 i).toNat),
  fun y=>(((d.length*d.length:Nat):Int)-Sp.AO y.2.1 d.length).toNat*2+(if y.1.1=true then 1 else 0),⟨by simp,fun i hi=>by rw [Int.toNat_natCast,TG];omega,fun M hM i hi=>by rw [Int.toNat_natCast,TG];omega,fun h=>by cases h⟩,?_⟩
 rintro ⟨⟨ch,⟨⟩⟩,aG,⟨⟩⟩ ⟨g1,g2,g3,g4⟩
 dsimp only at g1 g2 g3 g4 ⊢
 refine af (fun hch=>?_) fun hch=>⟨(ana hok (g4 hch)).symm,fun _=>⟨g1,g2,g4 hch,g3⟩⟩
 subst hch
 refine dM (fun i (x:Bool×List (Int×Unit))=>((x.1,i,()),x.2,())) (fun y=>y.1.2.1) (fun _ _=>rfl) d.length (by omega)
  (fun i (x:Bool×List (Int×Unit))=>x.2.length=d.length∧(∀ i,i<d.length→Sp.lv aG i≤Sp.lv x.2 i∧Sp.lv x.2 i≤d.length)∧(∀ M,Sp.jo (Sp.dV d) M→∀ i,i<d.length→Sp.lv x.2 i≤M i)∧
    (x.1=true→Sp.AO aG d.length<Sp.AO x.2 d.length)∧(x.1=false→x.2=aG∧∀ e∈Sp.dV d,e.1<i→Sp.lv aG e.2.1+e.2.2≤Sp.lv aG e.1))
  (s0:=(false,aG)) ⟨g1,fun i hi=>⟨Int.le_refl _,(g2 i hi).2⟩,g3,fun h=>(by cases h),fun _=>⟨rfl,fun e _ h=>by omega⟩⟩ (fun I μ i x hi hJ next=>?_) fun I μ x hJ=>?_
 · obtain ⟨c,cur⟩:=x
   obtain ⟨q1,q2,q3,q4,q5⟩:=hJ
   have q1:cur.length=d.length:=q1
   have hcur:∀ i,i<d.length→0≤Sp.lv cur i∧Sp.lv cur i≤d.length:=fun i hi=>⟨Int.le_trans (g2 i hi).1 (q2 i hi).1,(q2 i hi).2⟩
   have hm:=hmem cur q1 hcur
   dsimp only
   rw [Int.toNat_natCast]
   refine dh (by omega) ⟨⟨by omega,by omega⟩,qW hp hi,?_⟩
   rintro ⟨⟨r4,⟨⟩⟩,⟨⟩⟩ hr4
   have hr4:Sp.dB r4 (Sp.fC (Sp.dX d i).2.1 false):=hr4
   refine ⟨⟨by omega,hr4.1,by omega,by omega,hm⟩,qW hp hi,?_⟩
   rintro ⟨⟨r6,⟨⟩⟩,⟨⟩⟩ Jm
   have Jm:Sp.dB r6 (Sp.fC (Sp.dX d i).2.1 true):=Jm
   refine ⟨⟨by omega,Jm.1,by omega,by omega,hm⟩,?_⟩
   dsimp only
   have hle:∀ M,Sp.jo (Sp.dV d) M→Sp.Aj d cur 0 r4≤M i∧Sp.Aj d cur 1 r6≤M i:=by
    intro M hM
    refine ⟨(Sp.Hy r4 _).2 ⟨by omega,fun x hx h0=>?_⟩,(Sp.Hy r6 _).2 ⟨by omega,fun x hx h0=>?_⟩⟩
    · have he:=Sp.EY.2 ⟨hi,x.1, .inl ⟨rfl,(hr4.2 x.1).1 hx⟩,h0,rfl⟩
      have a:=hM _ he
      have a:M (Sp.aU d x.1).toNat+0≤M i:=a
      have b:=q3 M hM _ (Sp.mQ d _ he).2.1
      have b:Sp.lv cur (Sp.aU d x.1).toNat≤M (Sp.aU d x.1).toNat:=b
      omega
    · have he:=Sp.EY.2 ⟨hi,x.1, .inr ⟨rfl,(Jm.2 x.1).1 hx⟩,h0,rfl⟩
      have a:=hM _ he
      have a:M (Sp.aU d x.1).toNat+1≤M i:=a
      have b:=q3 M hM _ (Sp.mQ d _ he).2.1
      have b:Sp.lv cur (Sp.aU d x.1).toNat≤M (Sp.aU d x.1).toNat:=b
      omega
   have hge:∀ e∈Sp.dV d,e.1=i→Sp.lv cur e.2.1+e.2.2≤Sp.Aj d cur 0 r4∨Sp.lv cur e.2.1+e.2.2≤Sp.Aj d cur 1 r6:=by
    rintro ⟨a,b,m⟩ he ha
    have ha:a=i:=ha
    subst ha
    have hm1:m≤1:=(Sp.mQ d _ he).2.2
    rcases Nat.eq_zero_or_pos m with h|h
    · subst h
      obtain ⟨p,p1,p2,p3⟩:=P9 hr4 he rfl
      left
      have:=((Sp.Hy (d:=d) (aG:=cur) (more:=0) r4 _).1 (Int.le_refl _)).2 _ (getD_mem (d:=(([]:List UInt8),())) p1) p2
      show Sp.lv cur b+((0:Nat):Int)≤_
      rw [p3];omega
    · have:m=1:=by omega
      subst this
      obtain ⟨p,p1,p2,p3⟩:=P9 Jm he rfl
      right
      have:=((Sp.Hy (d:=d) (aG:=cur) (more:=1) r6 _).1 (Int.le_refl _)).2 _ (getD_mem (d:=(([]:List UInt8),())) p1) p2
      show Sp.lv cur b+((1:Nat):Int)≤_
      rw [p3];omega
   generalize Sp.Aj d cur 0 r4=u at hle hge ⊢
   generalize Sp.Aj d cur 1 r6=v at hle hge ⊢
   have hv:∃ z,(if v>u then v else u)=z∧u≤z∧v≤z∧(z=u∨z=v):=by
    refine ⟨_,rfl,?_,?_,?_⟩<;>split<;>omega
   obtain ⟨z,ez,hz1,hz2,hz3⟩:=hv
   rw [ez]
   have e2:(cur.getD i (0,())).1=Sp.lv cur i:=rfl
   rw [e2]
   refine af (fun hbig=>?_) fun hbig=>⟨⟨by omega,by omega⟩,by omega,af (fun hup=>⟨⟨by omega,by omega⟩,by omega,rfl,next (true,cur.set i (z,())) ?_⟩) fun hup=>⟨rfl,next (c,cur) ?_⟩⟩
   · have hbig:z>(d.length:Int):=gG hbig
     refine ⟨(apC fun M hM hb=>?_).symm,fun h=>by cases h⟩
     have a:=hle M hM
     have b:=hb i hi
     omega
   · have hbig:¬ z>(d.length:Int):=iw hbig
     have hup:z>Sp.lv cur i:=gG hup
     have hs:=fun k=>Sp.apE (l:=cur) (i:=i) (by omega) z k
     refine ⟨by simp;omega,fun k hk=>?_,fun M hM k hk=>?_,fun _=>?_,fun h=>by cases h⟩
     · dsimp only
       rw [hs]
       have:=q2 k hk
       dsimp only at this
       split
       · next e=>subst e;omega
       · exact this
     · dsimp only
       rw [hs]
       split
       · next e=>subst e;have:=hle M hM;omega
       · exact q3 M hM k hk
     · have a:=Sp.afL (a:=aG) (b:=cur) d.length fun k hk=>(q2 k hk).1
       have hsk:∀ k,k<d.length→Sp.lv cur k≤Sp.lv (cur.set i (z,())) k:=fun k hk=>by
        rw [hs]
        split
        · next e=>subst e;omega
        · exact Int.le_refl _
       have b:=Sp.afK (a:=cur) (b:=cur.set i (z,())) d.length hsk ⟨i,hi,by rw [hs,if_pos rfl];omega⟩
       show Sp.AO aG d.length<Sp.AO (cur.set i (z,())) d.length
       omega
   · have hup:¬ z>Sp.lv cur i:=iw hup
     refine ⟨q1,q2,q3,q4,fun h=>?_⟩
     obtain ⟨a,b⟩:=q5 h
     have a:cur=aG:=a
     subst a
     refine ⟨rfl,fun e he hlt=>?_⟩
     rcases Nat.lt_or_ge e.1 i with h'|h'
     · exact b e he h'
     · have Tc:e.1=i:=by omega
       have:=hge e he Tc
       rw [Tc]
       omega
 · obtain ⟨c,cur⟩:=x
   obtain ⟨q1,q2,q3,q4,q5⟩:=hJ
   dsimp only at q1 q2 q3 q4 q5 ⊢
   have hcur:∀ i,i<d.length→0≤Sp.lv cur i∧Sp.lv cur i≤d.length:=fun i hi=>⟨Int.le_trans (g2 i hi).1 (q2 i hi).1,(q2 i hi).2⟩
   have hsum:=Sp.QG (a:=cur) (b:=d.length) d.length fun i hi=>(q2 i hi).2
   refine dm (by omega) ⟨rfl,⟨q1,hcur,q3,fun hc e he=>?_⟩,?_⟩
   · obtain ⟨a,b⟩:=q5 hc
     subst a
     obtain ⟨x1,x2,_⟩:=Sp.mQ d e he
     have:=b e he x1
     have y1:=(hcur _ x1).1
     have y2:=(hcur _ x2).1
     dsimp only
     omega
   · cases c with
     |true=>
      have:=q4 rfl
      simp only [if_true]
      omega
     |false=>
      obtain ⟨a,_⟩:=q5 rfl
      subst a
      simp
theorem Vb:ai prog G uM.e:=by
 refine Vd (aj ah ⟨Fq,trivial⟩) ?_
 intro d hin hp
 dsimp only [uM] at hp ⊢
 refine ⟨hp,fun r hr=>?_⟩
 rw [hr.1]
end Go.Proofs.Tryz
