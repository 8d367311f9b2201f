import Derived.Test.YtgbobfdlafkijaaGreatP9
namespace Go.Proofs.Tryz
open Go Go.Fw Go.IntWalk
theorem agw {d:List Sp.gK} {bC r:List (Int×Unit)} (h:Sp.raised d bC r) (h0:∀ i,i<d.length→0≤Sp.lv bC i) (hp:Sp.qA (Sp.gY d) fun i=>(Sp.lv bC i).toNat):∀ i,i<d.length→Sp.lv r i=Sp.lv bC i:=by
 obtain ⟨_,h2,_,_,h5⟩:=h
 intro i hi
 have a:Sp.lv bC i≤Sp.lv r i:=h2 i hi
 have b:Sp.lv r i≤((Sp.lv bC i).toNat:Int):=h5 _ hp (fun j hj=>by have:=h0 j hj;show Sp.lv bC j≤((Sp.lv bC j).toNat:Int);omega) i hi
 have:=h0 i hi
 omega
theorem asj {d:List Sp.gK} {bC r:List (Int×Unit)} (h:Sp.raised d bC r) (hp:¬ Sp.qA (Sp.gY d) fun i=>(Sp.lv bC i).toNat):∃ i,i<d.length∧Sp.lv bC i<Sp.lv r i:=by
 obtain ⟨_,h2,_,h4,_⟩:=h
 refine Classical.byContradiction fun hno=>hp (h4 fun i hi=>?_)
 have a:Sp.lv bC i≤Sp.lv r i:=h2 i hi
 have b:¬ Sp.lv bC i<Sp.lv r i:=fun h=>hno ⟨i,hi,h⟩
 show Sp.lv r i=Sp.lv bC i
 omega
theorem apZ {d:List Sp.gK} (h1:Sp.wK d=true) {L:Nat→Nat} (h2:Sp.qA (Sp.gY d) L):Sp.ja d=true:=Sp.QG.2 ⟨h1,L,h2⟩
theorem asl {d:List Sp.gK} (h:∀ M,Sp.qA (Sp.gY d) M→(∀ i,i<d.length→M i<d.length)→False):Sp.ja d=false:=by
 rw [Bool.eq_false_iff]
 intro h1
 obtain ⟨_,h2⟩:=Sp.QG.1 h1
 obtain ⟨M,h3,h4⟩:=Sp.asn (Sp.tN d) h2
 exact h M h3 h4
theorem ap0 {d:List Sp.gK} (h:Sp.wK d=false):Sp.ja d=false:=by
 rw [Bool.eq_false_iff]
 intro h1
 rw [(Sp.QG.1 h1).1] at h;cases h
theorem aav (n i:Nat):Sp.lv (List.replicate n (0,())) i=0:=by
 unfold Sp.lv
 rw [List.getD_eq_getElem?_getD]
 by_cases h:i<n
 · rw [List.getElem?_replicate,if_pos h];rfl
 · rw [List.getElem?_eq_none (by simp;omega)];rfl
theorem aoC:aC prog G Il Jm:=by
 refine aoD (aF (l:=[(FK, .pure GY),(Ed, .eff (ai xO) EY),(yZ, .pure AQ)]) (ay ah) (by simp only [List.forall_mem_cons];exact ⟨⟨amz,ajZ⟩,⟨akl,ah0⟩,⟨aea,abI⟩,fun x hx=>by cases hx⟩)) (fun ⟨d,_⟩ hp=>⟨((([],Sp.ja d,()),())),rfl⟩) ?_
 intro d hin hp
 have hp:Sp.bY d:=hp
 refine ⟨hp,af (fun h=>(ap0 (jE h)).symm) fun h=>?_⟩
 have hok:=fJ h
 have hlen:=Sp.amA hok
 refine ⟨⟨by omega,by omega,by rw [gy];omega⟩,?_⟩
 have hnn:d.length*d.length≤25:=Nat.mul_le_mul hlen hlen
 have e1:(d.length:Int)*(d.length:Int)=((d.length*d.length:Nat):Int):=by simp
 have w:IntKind.i64.wrap (IntKind.i64.wrap ((d.length:Int)*(d.length:Int))+1)=((d.length*d.length:Nat):Int)+1:=by
  rw [e1,iI ((d.length*d.length:Nat):Int) (by omega)]
  exact iI _ (by omega)
 rw [w]
 have hmem:∀ bC:List (Int×Unit),bC.length=d.length→∀ k:Nat,k≤27→(∀ i,i<d.length→0≤Sp.lv bC i∧Sp.lv bC i≤5000*k)→∀ x∈bC,0≤x.1∧x.1≤1000000:=fun bC hl k hk h=>
  Sp.avq (p:=fun z=>0≤z∧z≤1000000) fun i hi=>by have:=h i (by omega);omega
 refine nR (fun i (x:List (Int×Unit))=>((x,i,()),())) (fun y=>y.1.2.1) (fun _ _=>rfl) (d.length*d.length+2) (by omega)
  (fun k bC=>bC.length=d.length∧(∀ i,i<d.length→0≤Sp.lv bC i∧Sp.lv bC i≤5000*k)∧(∀ M,Sp.qA (Sp.gY d) M→∀ i,i<d.length→Sp.lv bC i≤M i)∧((Sp.qA (Sp.gY d) fun i=>(Sp.lv bC i).toNat)∨(k:Int)≤Sp.Ep bC d.length))
  ⟨by simp,fun i hi=>by rw [Int.toNat_natCast,aav];omega,fun M hM i hi=>by rw [Int.toNat_natCast,aav];omega, .inr (Sp.agx _ fun i hi=>by rw [Int.toNat_natCast,aav];omega)⟩ (fun I μ k bC hk hJ next=>?_) fun I μ bC hJ=>?_
 · obtain ⟨g1,g2,g3,g4⟩:=hJ
   dsimp only
   refine iK (by omega) ⟨⟨hp,hlen,g1,hmem bC g1 k (by omega) g2⟩,?_⟩
   rintro ⟨⟨r,⟨⟩⟩,⟨⟩⟩ hr
   have hr:Sp.raised d bC r:=hr
   have hr':=hr
   obtain ⟨q1,q2,q3,q4,q5⟩:=hr'
   have hup:∀ i,i<d.length→Sp.lv bC i≤Sp.lv r i:=q2
   refine ⟨rfl,next r ⟨q1,fun i hi=>?_,fun M hM i hi=>q5 M hM (g3 M hM) i hi,?_⟩⟩
   · have a:=hup i hi
     have b:=q3 (5000*k) (fun j hj=>(g2 j hj).2) i hi
     have b:Sp.lv r i≤5000*k+5000:=b
     have c:=g2 i hi
     omega
   · by_cases hpf:Sp.qA (Sp.gY d) fun i=>(Sp.lv bC i).toNat
     · left
       have hs:=agw hr (fun i hi=>(g2 i hi).1) hpf
       intro e he
       have:=hpf e he
       obtain ⟨a,b,_⟩:=Sp.tN d e he
       dsimp only at this ⊢
       rw [hs _ a,hs _ b]
       exact this
     · right
       have hm:=Sp.akm d.length hup (asj hr hpf)
       rcases g4 with g4|g4
       · exact (hpf g4).elim
       · omega
 · obtain ⟨g1,g2,g3,g4⟩:=hJ
   dsimp only
   refine iL (by omega) ⟨⟨hp,hlen,g1,hmem bC g1 _ (by omega) g2⟩,?_⟩
   rintro ⟨⟨r,⟨⟩⟩,⟨⟩⟩ hr
   have hr:Sp.raised d bC r:=hr
   refine ⟨trivial,af (fun hne=>?_) fun he=>?_⟩
   · have hne:¬ r=bC:=ji (jE hne)
     refine (asl fun M hM hb=>?_).symm
     rcases g4 with g4|g4
     · exact hne (Sp.axc (by rw [hr.1,g1]) fun i hi=>agw hr (fun i hi=>(g2 i hi).1) g4 i (by rw [← hr.1];exact hi))
     · have:=Sp.Zc (a:=bC) (b:=d.length) d.length fun i hi=>by have a:=g3 M hM i hi;have b:=hb i hi;omega
       omega
   · have he:r=bC:=iO (fJ he)
     subst he
     exact (apZ hok (hr.2.2.2.1 fun i hi=>rfl)).symm
theorem aoE:aC prog G Ik Jl:=by
 refine aoF (aF (l:=[(wO, .eff (ai pX) zJ),(yX, .pure AX),(wP, .eff (ai pW) zI),(yY, .pure AU)]) (ay ah) (by simp only [List.forall_mem_cons];exact ⟨⟨abV,aad⟩,⟨aeb,abK⟩,⟨abW,aac⟩,⟨aec,abJ⟩,fun x hx=>by cases hx⟩)) (fun ⟨d,_⟩ hp=>⟨((([],Sp.ja d,()),())),rfl⟩) ?_
 intro d hin hp
 have hp:Sp.bY d:=hp
 refine ⟨hp,af (fun h=>(ap0 (jE h)).symm) fun h=>?_⟩
 have hok:=fJ h
 have hlen:=Sp.amA hok
 refine ⟨⟨by omega,by omega,by rw [gy];omega⟩,?_⟩
 have hmem:∀ bC:List (Int×Unit),bC.length=d.length→(∀ i,i<d.length→0≤Sp.lv bC i∧Sp.lv bC i≤d.length)→∀ x∈bC,0≤x.1∧x.1≤1000000:=fun bC hl h=>
  Sp.avq (p:=fun z=>0≤z∧z≤1000000) fun i hi=>by have:=h i (by omega);omega
 refine ⟨fun y=>y.2.1.length=d.length∧(∀ i,i<d.length→0≤Sp.lv y.2.1 i∧Sp.lv y.2.1 i≤d.length)∧(∀ M,Sp.qA (Sp.gY d) M→∀ i,i<d.length→Sp.lv y.2.1 i≤M i)∧(y.1.1=false→Sp.qA (Sp.gY d) fun i=>(Sp.lv y.2.1 i).toNat),
  fun y=>(((d.length*d.length:Nat):Int)-Sp.Ep y.2.1 d.length).toNat*2+(if y.1.1=true then 1 else 0),⟨by simp,fun i hi=>by rw [Int.toNat_natCast,aav];omega,fun M hM i hi=>by rw [Int.toNat_natCast,aav];omega,fun h=>by cases h⟩,?_⟩
 rintro ⟨⟨ch,⟨⟩⟩,bC,⟨⟩⟩ ⟨g1,g2,g3,g4⟩
 dsimp only at g1 g2 g3 g4 ⊢
 refine af (fun hch=>?_) fun hch=>(apZ hok (g4 hch)).symm
 subst hch
 refine nR (fun i (x:Bool×List (Int×Unit))=>((x.1,i,()),x.2,())) (fun y=>y.1.2.1) (fun _ _=>rfl) d.length (by omega)
  (fun i (x:Bool×List (Int×Unit))=>x.2.length=d.length∧(∀ i,i<d.length→Sp.lv bC i≤Sp.lv x.2 i∧Sp.lv x.2 i≤d.length)∧(∀ M,Sp.qA (Sp.gY d) M→∀ i,i<d.length→Sp.lv x.2 i≤M i)∧
    (x.1=true→Sp.Ep bC d.length<Sp.Ep x.2 d.length)∧(x.1=false→x.2=bC∧∀ e∈Sp.gY d,e.1<i→Sp.lv bC e.2.1+e.2.2≤Sp.lv bC e.1))
  (s0:=(false,bC)) ⟨g1,fun i hi=>⟨Int.le_refl _,(g2 i hi).2⟩,g3,fun h=>(by cases h),fun _=>⟨rfl,fun e _ h=>by omega⟩⟩ (fun I μ i x hi hJ next=>?_) fun I μ x hJ=>?_
 · obtain ⟨c,cur⟩:=x
   obtain ⟨q1,q2,q3,q4,q5⟩:=hJ
   have q1:cur.length=d.length:=q1
   have hcur:∀ i,i<d.length→0≤Sp.lv cur i∧Sp.lv cur i≤d.length:=fun i hi=>⟨Int.le_trans (g2 i hi).1 (q2 i hi).1,(q2 i hi).2⟩
   have hm:=hmem cur q1 hcur
   dsimp only
   rw [Int.toNat_natCast]
   refine iK (by omega) ⟨⟨by omega,by omega⟩,JZ hp hi,?_⟩
   rintro ⟨⟨r4,⟨⟩⟩,⟨⟩⟩ hr4
   have hr4:Sp.iC r4 (Sp.gV (Sp.iF d i).2.1 false):=hr4
   refine ⟨⟨by omega,hr4.1,by omega,by omega,hm⟩,JZ hp hi,?_⟩
   rintro ⟨⟨r6,⟨⟩⟩,⟨⟩⟩ hr6
   have hr6:Sp.iC r6 (Sp.gV (Sp.iF d i).2.1 true):=hr6
   refine ⟨⟨by omega,hr6.1,by omega,by omega,hm⟩,?_⟩
   dsimp only
   have hle:∀ M,Sp.qA (Sp.gY d) M→Sp.Cc d cur 0 r4≤M i∧Sp.Cc d cur 1 r6≤M i:=by
    intro M hM
    refine ⟨(Sp.NU r4 _).2 ⟨by omega,fun x hx h0=>?_⟩,(Sp.NU r6 _).2 ⟨by omega,fun x hx h0=>?_⟩⟩
    · have he:=Sp.NV.2 ⟨hi,x.1, .inl ⟨rfl,(hr4.2 x.1).1 hx⟩,h0,rfl⟩
      have a:=hM _ he
      have a:M (Sp.aT d x.1).toNat+0≤M i:=a
      have b:=q3 M hM _ (Sp.tN d _ he).2.1
      have b:Sp.lv cur (Sp.aT d x.1).toNat≤M (Sp.aT d x.1).toNat:=b
      omega
    · have he:=Sp.NV.2 ⟨hi,x.1, .inr ⟨rfl,(hr6.2 x.1).1 hx⟩,h0,rfl⟩
      have a:=hM _ he
      have a:M (Sp.aT d x.1).toNat+1≤M i:=a
      have b:=q3 M hM _ (Sp.tN d _ he).2.1
      have b:Sp.lv cur (Sp.aT d x.1).toNat≤M (Sp.aT d x.1).toNat:=b
      omega
   have hge:∀ e∈Sp.gY d,e.1=i→Sp.lv cur e.2.1+e.2.2≤Sp.Cc d cur 0 r4∨Sp.lv cur e.2.1+e.2.2≤Sp.Cc d cur 1 r6:=by
    rintro ⟨a,b,m⟩ he ha
    have ha:a=i:=ha
    subst ha
    have hm1:m≤1:=(Sp.tN d _ he).2.2
    rcases Nat.eq_zero_or_pos m with h|h
    · subst h
      obtain ⟨p,p1,p2,p3⟩:=Yx hr4 he rfl
      left
      have:=((Sp.NU (d:=d) (bC:=cur) (more:=0) r4 _).1 (Int.le_refl _)).2 _ (getD_mem (d:=(([]:List UInt8),())) p1) p2
      show Sp.lv cur b+((0:Nat):Int)≤_
      rw [p3];omega
    · have:m=1:=by omega
      subst this
      obtain ⟨p,p1,p2,p3⟩:=Yx hr6 he rfl
      right
      have:=((Sp.NU (d:=d) (bC:=cur) (more:=1) r6 _).1 (Int.le_refl _)).2 _ (getD_mem (d:=(([]:List UInt8),())) p1) p2
      show Sp.lv cur b+((1:Nat):Int)≤_
      rw [p3];omega
   generalize Sp.Cc d cur 0 r4=u at hle hge ⊢
   generalize Sp.Cc d cur 1 r6=v at hle hge ⊢
   have hv:∃ z,(if v>u then v else u)=z∧u≤z∧v≤z∧(z=u∨z=v):=by
    refine ⟨_,rfl,?_,?_,?_⟩<;>split<;>omega
   obtain ⟨z,ez,hz1,hz2,hz3⟩:=hv
   rw [ez]
   have e2:(cur.getD i (0,())).1=Sp.lv cur i:=rfl
   rw [e2]
   refine af (fun hbig=>?_) fun hbig=>⟨⟨by omega,by omega⟩,by omega,af (fun hup=>⟨⟨by omega,by omega⟩,by omega,rfl,next (true,cur.set i (z,())) ?_⟩) fun hup=>⟨rfl,next (c,cur) ?_⟩⟩
   · have hbig:z>(d.length:Int):=iO hbig
     refine (asl fun M hM hb=>?_).symm
     have a:=hle M hM
     have b:=hb i hi
     omega
   · have hbig:¬ z>(d.length:Int):=ji hbig
     have hup:z>Sp.lv cur i:=iO hup
     have hs:=fun k=>Sp.aso (l:=cur) (i:=i) (by omega) z k
     refine ⟨by simp;omega,fun k hk=>?_,fun M hM k hk=>?_,fun _=>?_,fun h=>by cases h⟩
     · dsimp only
       rw [hs]
       have:=q2 k hk
       dsimp only at this
       split
       · next e=>subst e;omega
       · exact this
     · dsimp only
       rw [hs]
       split
       · next e=>subst e;have:=hle M hM;omega
       · exact q3 M hM k hk
     · have a:=Sp.akn (a:=bC) (b:=cur) d.length fun k hk=>(q2 k hk).1
       have hsk:∀ k,k<d.length→Sp.lv cur k≤Sp.lv (cur.set i (z,())) k:=fun k hk=>by
        rw [hs]
        split
        · next e=>subst e;omega
        · exact Int.le_refl _
       have b:=Sp.akm (a:=cur) (b:=cur.set i (z,())) d.length hsk ⟨i,hi,by rw [hs,if_pos rfl];omega⟩
       show Sp.Ep bC d.length<Sp.Ep (cur.set i (z,())) d.length
       omega
   · have hup:¬ z>Sp.lv cur i:=ji hup
     refine ⟨q1,q2,q3,q4,fun h=>?_⟩
     obtain ⟨a,b⟩:=q5 h
     have a:cur=bC:=a
     subst a
     refine ⟨rfl,fun e he hlt=>?_⟩
     rcases Nat.lt_or_ge e.1 i with h'|h'
     · exact b e he h'
     · have Z4:e.1=i:=by omega
       have:=hge e he Z4
       rw [Z4]
       omega
 · obtain ⟨c,cur⟩:=x
   obtain ⟨q1,q2,q3,q4,q5⟩:=hJ
   dsimp only at q1 q2 q3 q4 q5 ⊢
   have hcur:∀ i,i<d.length→0≤Sp.lv cur i∧Sp.lv cur i≤d.length:=fun i hi=>⟨Int.le_trans (g2 i hi).1 (q2 i hi).1,(q2 i hi).2⟩
   have hsum:=Sp.Zc (a:=cur) (b:=d.length) d.length fun i hi=>(q2 i hi).2
   refine iL (by omega) ⟨rfl,⟨q1,hcur,q3,fun hc e he=>?_⟩,?_⟩
   · obtain ⟨a,b⟩:=q5 hc
     subst a
     obtain ⟨x1,x2,_⟩:=Sp.tN d e he
     have:=b e he x1
     have y1:=(hcur _ x1).1
     have y2:=(hcur _ x2).1
     dsimp only
     omega
   · cases c with
     |true=>
      have:=q4 rfl
      simp only [if_true]
      omega
     |false=>
      obtain ⟨a,_⟩:=q5 rfl
      subst a
      simp
theorem abX:aG prog G wS zM:=by
 refine abY (aF (l:=[(Ik, .eff (ai BO) Jl)]) (ay ah) (by simp only [List.forall_mem_cons];exact ⟨⟨aoE,ame⟩,fun x hx=>by cases hx⟩)) ?_
 intro d hin hp
 refine ⟨hp,fun r hr=>?_⟩
 rw [hr]
theorem Po:aG prog G nI oH:=by
 refine abZ (aF (l:=[(Il, .eff (ai BP) Jm)]) (ay ah) (by simp only [List.forall_mem_cons];exact ⟨⟨aoC,amf⟩,fun x hx=>by cases hx⟩)) ?_
 intro d hin hp
 refine ⟨hp,fun r hr=>?_⟩
 rw [hr]
end Go.Proofs.Tryz
