import Derived.Test.YtlbkigkbmeckbaaGreatP6
import Derived.Test.YtlbkigkbmeckbaaGreatL1
import Derived.Test.YtlbkigkbmeckbaaGreatSp
namespace Go.Proofs.Tryz
open Go Go.Fw Go.IntWalk
def alS (q:List Sp.bJ) (neg:Bool) (i:Nat):Option Sp.Bytes:=bif Sp.jL (Sp.nodeAt q i)&&((Sp.negated q).getD i (false,())).1==neg then some (Sp.nodeAt q i).2.2.2.1 else none
def E5 (q:List Sp.bJ) (neg:Bool) (n:Nat):List Sp.Bytes:=(List.range n).filterMap (alS q neg)
theorem A8 (q:List Sp.bJ) (neg:Bool):E5 q neg (Sp.negated q).length=Sp.fC q neg:=rfl
theorem ajm {q:List Sp.bJ} {neg:Bool} {n:Nat} (h1:Sp.jL (Sp.nodeAt q n)=true) (h2:((Sp.negated q).getD n (false,())).1=neg):E5 q neg (n+1)=E5 q neg n++[(Sp.nodeAt q n).2.2.2.1]:=by
 unfold E5
 rw [List.range_succ,List.filterMap_append]
 congr 1
 show List.filterMap _ [n]=_
 rw [List.filterMap_cons]
 have:alS q neg n=some (Sp.nodeAt q n).2.2.2.1:=by unfold alS;rw [h1,h2];simp
 rw [this];rfl
theorem Qi {q:List Sp.bJ} {neg:Bool} {n:Nat} (h:¬ (Sp.jL (Sp.nodeAt q n)=true∧((Sp.negated q).getD n (false,())).1=neg)):E5 q neg (n+1)=E5 q neg n:=by
 unfold E5
 rw [List.range_succ,List.filterMap_append]
 have:alS q neg n=none:=by
  unfold alS
  have:(Sp.jL (Sp.nodeAt q n)&&((Sp.negated q).getD n (false,())).1==neg)=false:=by
   rw [Bool.eq_false_iff]
   intro h'
   rw [Bool.and_eq_true,beq_iff_eq] at h'
   exact h h'
  rw [this];rfl
 rw [List.filterMap_cons,this]
 simp
theorem Ba (q:List Sp.bJ) (neg:Bool) (n:Nat):(E5 q neg n).length≤n:=by
 have:=List.length_filterMap_le (alS q neg) (List.range n)
 rw [List.length_range] at this
 exact this
theorem Bc (q:List Sp.bJ):(Sp.negated q).length≤q.length:=by
 cases h:Sp.bQ q with
 |true=>rw [aqx h];exact Nat.le_refl _
 |false=>unfold Sp.negated;rw [h];exact Nat.zero_le _
theorem LW:ai prog G nD.e:=by
 refine adt (aj ah ⟨⟨wO,uS⟩,Oy,VL,trivial⟩) (fun ⟨q,neg,_⟩ hp=>⟨((((Sp.fC q neg).map fun s=>(s,()),()),())),⟨by show ((Sp.fC q neg).map _).length≤1000;rw [List.length_map];have:=Ba q neg (Sp.negated q).length;have:=Bc q;have hp:q.length≤1000:=hp;rw [A8] at*;omega,fun s=>by show (s,())∈(Sp.fC q neg).map _↔_;simp⟩⟩) ?_
 intro q neg hin hp
 dsimp only [nD] at hp ⊢
 have hp:q.length≤1000:=hp
 have hnl:=Bc q
 refine ⟨hp,?_⟩
 refine dM (fun i (x:Sp.LS)=>(((),i,()),x,())) (fun y=>y.1.2.1) (fun _ _=>rfl) (Sp.negated q).length (by omega) (fun n l=>l=(E5 q neg n).map fun s=>(s,())) rfl (fun I μ n l hn hJ next=>?_) fun I μ l hJ=>?_
 · subst hJ
   have hl:=Ba q neg n
   dsimp only
   refine dh (by omega) ⟨⟨by omega,by omega⟩,⟨by omega,by omega⟩,trivial,af (fun h1=>af (fun h2=>⟨⟨by omega,by omega⟩,?_,rfl,next _ ?_⟩) fun h2=>⟨rfl,next _ ?_⟩) fun h1=>⟨rfl,next _ ?_⟩⟩
   · rw [bU];simp only [List.length_cons,List.length_nil,List.length_map];omega
   · rw [ajm (show Sp.jL (Sp.nodeAt q n)=true from h1) (beq_iff_eq.1 h2),List.map_append];rfl
   · rw [Qi fun h=>by have h2:=beq_eq_false_iff_ne.1 h2;exact h2 h.2]
   · rw [Qi fun h=>by have h1:Sp.jL (Sp.nodeAt q n)=false:=h1;rw [h1] at h;cases h.1]
 · subst hJ
   have hl:=Ba q neg (Sp.negated q).length
   rw [A8] at hl ⊢
   dsimp only
   refine dm (by omega) ⟨by rw [List.length_map];omega,?_⟩
   rintro ⟨⟨r,⟨⟩⟩,⟨⟩⟩ ⟨h1,h2⟩
   have h1:r.length≤((Sp.fC q neg).map fun s=>(s,())).length:=h1
   rw [List.length_map] at h1
   refine ⟨by show r.length≤1000;omega,fun s=>?_⟩
   have:=h2 (s,())
   show (s,())∈r↔_
   rw [this];simp
theorem Va:ai prog G l7.e:=by
 refine VQ (aj ah ⟨LW,trivial⟩) (fun ⟨q,_⟩ hp=>⟨((((Sp.fC q false).map fun s=>(s,()),()),())),⟨by show ((Sp.fC q false).map _).length≤1000;rw [List.length_map];have:=Ba q false (Sp.negated q).length;have:=Bc q;have hp:q.length≤1000:=hp;rw [A8] at*;omega,fun s=>by show (s,())∈(Sp.fC q false).map _↔_;simp⟩⟩) ?_
 intro q hin hp
 dsimp only [l7] at hp ⊢
 exact ⟨hp,fun r hr=>hr⟩
theorem U9:ai prog G l9.e:=by
 refine VR (aj ah ⟨LW,trivial⟩) (fun ⟨q,_⟩ hp=>⟨((((Sp.fC q true).map fun s=>(s,()),()),())),⟨by show ((Sp.fC q true).map _).length≤1000;rw [List.length_map];have:=Ba q true (Sp.negated q).length;have:=Bc q;have hp:q.length≤1000:=hp;rw [A8] at*;omega,fun s=>by show (s,())∈(Sp.fC q true).map _↔_;simp⟩⟩) ?_
 intro q hin hp
 dsimp only [l9] at hp ⊢
 exact ⟨hp,fun r hr=>hr⟩
theorem arh {l:Sp.LS} {s:Sp.Bytes} {m:Nat} (hm:m≤l.length) (h1:∀ i,i<m→Op.bytesLess (l.getD i ([],())).1 s=true) (h2:m<l.length→Op.bytesLess (l.getD m ([],())).1 s=false):
 Sp.BR l s=bif decide (m<l.length)&&(l.getD m ([],())).1==s then l else l.take m++[(s,())]++l.drop m:=by
 obtain ⟨e1,_⟩:=Sp.Og (d:=(([]:List UInt8),())) l m hm (p:=fun x=>Op.bytesLess x.1 s) h1 h2
 unfold Sp.BR
 rw [e1]
 have:(l.take m).length=m:=by rw [List.length_take];omega
 rw [this]
theorem yg {l:Sp.LS} {s:Sp.Bytes} (x:Sp.Bytes×Unit):x∈Sp.BR l s↔x=(s,())∨x∈l:=by
 unfold Sp.BR
 dsimp only
 generalize (l.takeWhile fun x=>Op.bytesLess x.1 s).length=n
 cases h:decide (n<l.length)&&(l.getD n ([],())).1==s with
 |true=>
  rw [Bool.and_eq_true,beq_iff_eq] at h
  refine ⟨.inr,fun hx=>?_⟩
  rcases hx with rfl|hx
  · have:=getD_mem (d:=(([]:List UInt8),())) (gG h.1)
    rw [show l.getD n ([],())=(s,()) from Prod.ext h.2 rfl] at this
    exact this
  · exact hx
 |false=>
  show x∈l.take n++[(s,())]++l.drop n↔_
  rw [List.mem_append,List.mem_append,List.mem_singleton]
  conv=>rhs;rw [← List.take_append_drop n l,List.mem_append]
  constructor
  · rintro ((h|h)|h)
    · exact .inr (.inl h)
    · exact .inl h
    · exact .inr (.inr h)
  · rintro (h|h|h)
    · exact .inl (.inr h)
    · exact .inl (.inl h)
    · exact .inr h
theorem Vo (l:Sp.LS) (s:Sp.Bytes):(Sp.BR l s).length≤l.length+1:=by
 unfold Sp.BR
 dsimp only
 generalize (l.takeWhile fun x=>Op.bytesLess x.1 s).length=n
 cases decide (n<l.length)&&(l.getD n ([],())).1==s with
 |true=>exact Nat.le_succ _
 |false=>show (l.take n++[(s,())]++l.drop n).length≤_;simp;omega
theorem CZ:ai prog G qy.e:=by
 refine alT (aj ah trivial) ?_
 intro l s hin hp
 dsimp only [qy] at hp ⊢
 have hp:l.length≤1000:=hp
 have fin:∀ m:Nat,m≤l.length→Sp.BR l s=l.take m++[(s,())]++l.drop m→((0:Int)≤m∧(m:Int)≤l.length)∧0+(List.drop 0 (List.take m l)).length≤big∧(List.drop 0 (List.take m l)).length+[(s,())].length≤big∧((0:Int)≤m∧(m:Int)≤l.length)∧
  (List.drop 0 (List.take m l)++[(s,())]).length+(List.drop m (List.take l.length l)).length≤big∧(List.drop 0 (List.take m l)++[(s,())]++List.drop m (List.take l.length l),())=(Sp.BR l s,()):=by
  intro m hm h
  refine ⟨⟨by omega,by omega⟩,?_,?_,⟨by omega,by omega⟩,?_,?_⟩
  · rw [bU];simp only [List.length_drop,List.length_take];omega
  · rw [bU];simp only [List.length_drop,List.length_take,List.length_cons,List.length_nil];omega
  · rw [bU];simp only [List.length_append,List.length_drop,List.length_take,List.length_cons,List.length_nil];omega
  · rw [h,List.take_length,List.drop_zero]
 refine jd l.length (by omega) (fun n=>∀ i,i<n→Op.bytesLess (l.getD i ([],())).1 s=true) (fun i hi=>by omega) (fun I μ n hn hJ next=>?_) fun I μ hJ=>?_
 · dsimp only
   refine dh (by omega) ⟨⟨by omega,by omega⟩,af (fun h=>⟨rfl,next (eY (f:=fun i=>Op.bytesLess (l.getD i ([],())).1 s) hJ h)⟩) fun h=>dh (by omega) ⟨⟨by omega,by omega⟩,?_⟩⟩
   have e:=arh (Nat.le_of_lt hn) hJ fun _=>h
   rw [decide_eq_true hn,Bool.true_and] at e
   refine af (fun h2=>?_) fun h2=>fin n (Nat.le_of_lt hn) ?_
   · rw [show ((l.getD n ([],())).1==s)=true from h2] at e
     rw [e];rfl
   · rw [show ((l.getD n ([],())).1==s)=false from h2] at e
     exact e
 · dsimp only
   refine dm (by omega) (dm (by omega) (fin l.length (Nat.le_refl _) ?_))
   have e:=arh (Nat.le_refl _) hJ fun h=>by omega
   rw [decide_eq_false (by omega)] at e
   exact e
theorem atJ (x:Sp.bJ):Sp.jL x=(decide (8≤x.1)&&decide (x.1≤9)):=by
 unfold Sp.jL
 rw [Bool.eq_iff_iff]
 simp
 omega
theorem OQ:ai prog G pG.e:=by
 refine agh (aj ah ⟨CZ,jX,VO,trivial⟩) (fun ⟨q,neg,_⟩ hp=>⟨((((Sp.fC q neg).map fun s=>(s,()),()),())),⟨by show ((Sp.fC q neg).map _).length≤1000;rw [List.length_map];have:=Ba q neg (Sp.negated q).length;have:=Bc q;have hp:q.length≤1000:=hp;rw [A8] at*;omega,fun s=>by show (s,())∈(Sp.fC q neg).map _↔_;simp⟩⟩) ?_
 intro q neg hin hp
 dsimp only [pG] at hp ⊢
 have hp:q.length≤1000:=hp
 have hnl:=Bc q
 refine ⟨hp,?_⟩
 refine dM (fun i (x:Sp.LS)=>((x,i,()),())) (fun y=>y.1.2.1) (fun _ _=>rfl) (Sp.negated q).length (by omega) (fun n l=>l.length≤n∧∀ s,(s,())∈l↔s∈E5 q neg n) ⟨Nat.le_refl _,fun s=>by simp [E5]⟩ (fun I μ n l hn hJ next=>?_) fun I μ l hJ=>?_
 · obtain ⟨hl,hJ⟩:=hJ
   dsimp only
   have hnm:=atJ (Sp.nodeAt q n)
   refine dh (by omega) ⟨⟨by omega,by omega⟩,trivial,af (fun h1=>⟨⟨by omega,by omega⟩,af (fun h2=>⟨⟨by omega,by omega⟩,by omega,rfl,next _ ?_⟩) fun h2=>⟨rfl,next _ ⟨by omega,?_⟩⟩⟩) fun h1=>⟨rfl,next _ ⟨by omega,?_⟩⟩⟩
   · have h1:(decide (8≤(Sp.nodeAt q n).1)&&decide ((Sp.nodeAt q n).1≤9))=true:=h1
     rw [ajm (hnm.trans h1) (beq_iff_eq.1 h2)]
     refine ⟨Nat.le_trans (Vo _ _) (by omega),fun s=>?_⟩
     rw [yg,List.mem_append,List.mem_singleton,hJ,Prod.mk.injEq]
     constructor
     · rintro (⟨h,_⟩|h)
       · exact .inr h
       · exact .inl h
     · rintro (h|h)
       · exact .inr h
       · exact .inl ⟨h,rfl⟩
   · rw [Qi fun h=>by have h2:=beq_eq_false_iff_ne.1 h2;exact h2 h.2];exact hJ
   · rw [Qi fun h=>by have h1:(decide (8≤(Sp.nodeAt q n).1)&&decide ((Sp.nodeAt q n).1≤9))=false:=h1;rw [hnm,h1] at h;cases h.1];exact hJ
 · obtain ⟨hl,hJ⟩:=hJ
   rw [A8] at hJ
   dsimp only
   exact dm (by omega) ⟨by rw [bU];omega,by show l.length≤1000;omega,hJ⟩
theorem VS:ai prog G mg.e:=by
 refine VT (aj ah ⟨OQ,trivial⟩) (fun ⟨q,_⟩ hp=>⟨((((Sp.fC q false).map fun s=>(s,()),()),())),⟨by show ((Sp.fC q false).map _).length≤1000;rw [List.length_map];have:=Ba q false (Sp.negated q).length;have:=Bc q;have hp:q.length≤1000:=hp;rw [A8] at*;omega,fun s=>by show (s,())∈(Sp.fC q false).map _↔_;simp⟩⟩) ?_
 intro q hin hp
 dsimp only [mg] at hp ⊢
 exact ⟨hp,fun r hr=>hr⟩
theorem VU:ai prog G mr.e:=by
 refine VW (aj ah ⟨OQ,trivial⟩) (fun ⟨q,_⟩ hp=>⟨((((Sp.fC q true).map fun s=>(s,()),()),())),⟨by show ((Sp.fC q true).map _).length≤1000;rw [List.length_map];have:=Ba q true (Sp.negated q).length;have:=Bc q;have hp:q.length≤1000:=hp;rw [A8] at*;omega,fun s=>by show (s,())∈(Sp.fC q true).map _↔_;simp⟩⟩) ?_
 intro q hin hp
 dsimp only [mr] at hp ⊢
 exact ⟨hp,fun r hr=>hr⟩
end Go.Proofs.Tryz
