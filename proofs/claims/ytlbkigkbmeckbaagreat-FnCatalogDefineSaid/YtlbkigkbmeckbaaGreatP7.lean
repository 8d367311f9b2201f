import Derived.Test.YtlbkigkbmeckbaaGreatP6
import Derived.Test.YtlbkigkbmeckbaaGreatL1
import Derived.Test.YtlbkigkbmeckbaaGreatSp
namespace Go.Proofs.Tryz
open Go Go.Fw Go.IntWalk
def aix (q:List Sp.bD) (neg:Bool) (i:Nat):Option Sp.Bytes:=bif Sp.jh (Sp.nodeAt q i)&&((Sp.negated q).getD i (false,())).1==neg then some (Sp.nodeAt q i).2.2.2.1 else none
def CS (q:List Sp.bD) (neg:Bool) (n:Nat):List Sp.Bytes:=(List.range n).filterMap (aix q neg)
theorem yZ (q:List Sp.bD) (neg:Bool):CS q neg (Sp.negated q).length=Sp.dZ q neg:=rfl
theorem agj {q:List Sp.bD} {neg:Bool} {n:Nat} (h1:Sp.jh (Sp.nodeAt q n)=true) (h2:((Sp.negated q).getD n (false,())).1=neg):CS q neg (n+1)=CS q neg n++[(Sp.nodeAt q n).2.2.2.1]:=by
 unfold CS
 rw [List.range_succ,List.filterMap_append]
 congr 1
 show List.filterMap _ [n]=_
 rw [List.filterMap_cons]
 have:aix q neg n=some (Sp.nodeAt q n).2.2.2.1:=by unfold aix;rw [h1,h2];simp
 rw [this];rfl
theorem NT {q:List Sp.bD} {neg:Bool} {n:Nat} (h:¬ (Sp.jh (Sp.nodeAt q n)=true∧((Sp.negated q).getD n (false,())).1=neg)):CS q neg (n+1)=CS q neg n:=by
 unfold CS
 rw [List.range_succ,List.filterMap_append]
 have:aix q neg n=none:=by
  unfold aix
  have:(Sp.jh (Sp.nodeAt q n)&&((Sp.negated q).getD n (false,())).1==neg)=false:=by
   rw [Bool.eq_false_iff]
   intro h'
   rw [Bool.and_eq_true,beq_iff_eq] at h'
   exact h h'
  rw [this];rfl
 rw [List.filterMap_cons,this]
 simp
theorem zf (q:List Sp.bD) (neg:Bool) (n:Nat):(CS q neg n).length≤n:=by
 have:=List.length_filterMap_le (aix q neg) (List.range n)
 rw [List.length_range] at this
 exact this
theorem zh (q:List Sp.bD):(Sp.negated q).length≤q.length:=by
 cases h:Sp.bF q with
 |true=>rw [am4 h];exact Nat.le_refl _
 |false=>unfold Sp.negated;rw [h];exact Nat.zero_le _
theorem Jc:ai prog G lD.e:=by
 refine aaC (ak ah ⟨⟨yT,yu⟩,LJ,SQ,trivial⟩) (fun ⟨q,neg,_⟩ hp=>⟨((((Sp.dZ q neg).map fun s=>(s,()),()),())),⟨by show ((Sp.dZ q neg).map _).length≤1000;rw [List.length_map];have:=zf q neg (Sp.negated q).length;have:=zh q;have hp:q.length≤1000:=hp;rw [yZ] at*;omega,fun s=>by show (s,())∈(Sp.dZ q neg).map _↔_;simp⟩⟩) ?_
 intro q neg hin hp
 dsimp only [lD] at hp ⊢
 have hp:q.length≤1000:=hp
 have hnl:=zh q
 refine ⟨hp,?_⟩
 refine dR (fun i (x:Sp.LS)=>(((),i,()),x,())) (fun y=>y.1.2.1) (fun _ _=>rfl) (Sp.negated q).length (by omega) (fun n l=>l=(CS q neg n).map fun s=>(s,())) rfl (fun I μ n l hn hJ next=>?_) fun I μ l hJ=>?_
 · subst hJ
   have hl:=zf q neg n
   dsimp only
   refine dB (by omega) ⟨⟨by omega,by omega⟩,⟨by omega,by omega⟩,trivial,af (fun h1=>af (fun h2=>⟨⟨by omega,by omega⟩,?_,rfl,next _ ?_⟩) fun h2=>⟨rfl,next _ ?_⟩) fun h1=>⟨rfl,next _ ?_⟩⟩
   · rw [bV];simp only [List.length_cons,List.length_nil,List.length_map];omega
   · rw [agj (show Sp.jh (Sp.nodeAt q n)=true from h1) (beq_iff_eq.1 h2),List.map_append];rfl
   · rw [NT fun h=>by have h2:=beq_eq_false_iff_ne.1 h2;exact h2 h.2]
   · rw [NT fun h=>by have h1:Sp.jh (Sp.nodeAt q n)=false:=h1;rw [h1] at h;cases h.1]
 · subst hJ
   have hl:=zf q neg (Sp.negated q).length
   rw [yZ] at hl ⊢
   dsimp only
   refine dD (by omega) ⟨by rw [List.length_map];omega,?_⟩
   rintro ⟨⟨r,⟨⟩⟩,⟨⟩⟩ ⟨h1,h2⟩
   have h1:r.length≤((Sp.dZ q neg).map fun s=>(s,())).length:=h1
   rw [List.length_map] at h1
   refine ⟨by show r.length≤1000;omega,fun s=>?_⟩
   have:=h2 (s,())
   show (s,())∈r↔_
   rw [this];simp
theorem RZ:ai prog G kJ.e:=by
 refine S9 (ak ah ⟨Jc,trivial⟩) (fun ⟨q,_⟩ hp=>⟨((((Sp.dZ q false).map fun s=>(s,()),()),())),⟨by show ((Sp.dZ q false).map _).length≤1000;rw [List.length_map];have:=zf q false (Sp.negated q).length;have:=zh q;have hp:q.length≤1000:=hp;rw [yZ] at*;omega,fun s=>by show (s,())∈(Sp.dZ q false).map _↔_;simp⟩⟩) ?_
 intro q hin hp
 dsimp only [kJ] at hp ⊢
 exact ⟨hp,fun r hr=>hr⟩
theorem RY:ai prog G kK.e:=by
 refine Tc (ak ah ⟨Jc,trivial⟩) (fun ⟨q,_⟩ hp=>⟨((((Sp.dZ q true).map fun s=>(s,()),()),())),⟨by show ((Sp.dZ q true).map _).length≤1000;rw [List.length_map];have:=zf q true (Sp.negated q).length;have:=zh q;have hp:q.length≤1000:=hp;rw [yZ] at*;omega,fun s=>by show (s,())∈(Sp.dZ q true).map _↔_;simp⟩⟩) ?_
 intro q hin hp
 dsimp only [kK] at hp ⊢
 exact ⟨hp,fun r hr=>hr⟩
theorem anM {l:Sp.LS} {s:Sp.Bytes} {m:Nat} (hm:m≤l.length) (h1:∀ i,i<m→Op.bytesLess (l.getD i ([],())).1 s=true) (h2:m<l.length→Op.bytesLess (l.getD m ([],())).1 s=false):
 Sp.Aq l s=bif decide (m<l.length)&&(l.getD m ([],())).1==s then l else l.take m++[(s,())]++l.drop m:=by
 obtain ⟨e1,_⟩:=Sp.Ll (d:=(([]:List UInt8),())) l m hm (p:=fun x=>Op.bytesLess x.1 s) h1 h2
 unfold Sp.Aq
 rw [e1]
 have:(l.take m).length=m:=by rw [List.length_take];omega
 rw [this]
theorem yh {l:Sp.LS} {s:Sp.Bytes} (x:Sp.Bytes×Unit):x∈Sp.Aq l s↔x=(s,())∨x∈l:=by
 unfold Sp.Aq
 dsimp only
 generalize (l.takeWhile fun x=>Op.bytesLess x.1 s).length=n
 cases h:decide (n<l.length)&&(l.getD n ([],())).1==s with
 |true=>
  rw [Bool.and_eq_true,beq_iff_eq] at h
  refine ⟨.inr,fun hx=>?_⟩
  rcases hx with rfl|hx
  · have:=getD_mem (d:=(([]:List UInt8),())) (fD h.1)
    rw [show l.getD n ([],())=(s,()) from Prod.ext h.2 rfl] at this
    exact this
  · exact hx
 |false=>
  show x∈l.take n++[(s,())]++l.drop n↔_
  rw [List.mem_append,List.mem_append,List.mem_singleton]
  conv=>rhs;rw [← List.take_append_drop n l,List.mem_append]
  constructor
  · rintro ((h|h)|h)
    · exact .inr (.inl h)
    · exact .inl h
    · exact .inr (.inr h)
  · rintro (h|h|h)
    · exact .inl (.inr h)
    · exact .inl (.inl h)
    · exact .inr h
theorem adf (l:Sp.LS) (s:Sp.Bytes):(Sp.Aq l s).length≤l.length+1:=by
 unfold Sp.Aq
 dsimp only
 generalize (l.takeWhile fun x=>Op.bytesLess x.1 s).length=n
 cases decide (n<l.length)&&(l.getD n ([],())).1==s with
 |true=>exact Nat.le_succ _
 |false=>show (l.take n++[(s,())]++l.drop n).length≤_;simp;omega
theorem Di:ai prog G rW.e:=by
 refine aiy (ak ah trivial) ?_
 intro l s hin hp
 dsimp only [rW] at hp ⊢
 have hp:l.length≤1000:=hp
 have fin:∀ m:Nat,m≤l.length→Sp.Aq l s=l.take m++[(s,())]++l.drop m→((0:Int)≤m∧(m:Int)≤l.length)∧0+(List.drop 0 (List.take m l)).length≤big∧(List.drop 0 (List.take m l)).length+[(s,())].length≤big∧((0:Int)≤m∧(m:Int)≤l.length)∧
  (List.drop 0 (List.take m l)++[(s,())]).length+(List.drop m (List.take l.length l)).length≤big∧(List.drop 0 (List.take m l)++[(s,())]++List.drop m (List.take l.length l),())=(Sp.Aq l s,()):=by
  intro m hm h
  refine ⟨⟨by omega,by omega⟩,?_,?_,⟨by omega,by omega⟩,?_,?_⟩
  · rw [bV];simp only [List.length_drop,List.length_take];omega
  · rw [bV];simp only [List.length_drop,List.length_take,List.length_cons,List.length_nil];omega
  · rw [bV];simp only [List.length_append,List.length_drop,List.length_take,List.length_cons,List.length_nil];omega
  · rw [h,List.take_length,List.drop_zero]
 refine iV l.length (by omega) (fun n=>∀ i,i<n→Op.bytesLess (l.getD i ([],())).1 s=true) (fun i hi=>by omega) (fun I μ n hn hJ next=>?_) fun I μ hJ=>?_
 · dsimp only
   refine dB (by omega) ⟨⟨by omega,by omega⟩,af (fun h=>⟨rfl,next (dX (f:=fun i=>Op.bytesLess (l.getD i ([],())).1 s) hJ h)⟩) fun h=>dB (by omega) ⟨⟨by omega,by omega⟩,?_⟩⟩
   have e:=anM (Nat.le_of_lt hn) hJ fun _=>h
   rw [decide_eq_true hn,Bool.true_and] at e
   refine af (fun h2=>?_) fun h2=>fin n (Nat.le_of_lt hn) ?_
   · rw [show ((l.getD n ([],())).1==s)=true from h2] at e
     rw [e];rfl
   · rw [show ((l.getD n ([],())).1==s)=false from h2] at e
     exact e
 · dsimp only
   refine dD (by omega) (dD (by omega) (fin l.length (Nat.le_refl _) ?_))
   have e:=anM (Nat.le_refl _) hJ fun h=>by omega
   rw [decide_eq_false (by omega)] at e
   exact e
theorem ap4 (x:Sp.bD):Sp.jh x=(decide (8≤x.1)&&decide (x.1≤9)):=by
 unfold Sp.jh
 rw [Bool.eq_iff_iff]
 simp
 omega
theorem LY:ai prog G nI.e:=by
 refine adr (ak ah ⟨Di,lV,SX,trivial⟩) (fun ⟨q,neg,_⟩ hp=>⟨((((Sp.dZ q neg).map fun s=>(s,()),()),())),⟨by show ((Sp.dZ q neg).map _).length≤1000;rw [List.length_map];have:=zf q neg (Sp.negated q).length;have:=zh q;have hp:q.length≤1000:=hp;rw [yZ] at*;omega,fun s=>by show (s,())∈(Sp.dZ q neg).map _↔_;simp⟩⟩) ?_
 intro q neg hin hp
 dsimp only [nI] at hp ⊢
 have hp:q.length≤1000:=hp
 have hnl:=zh q
 refine ⟨hp,?_⟩
 refine dR (fun i (x:Sp.LS)=>((x,i,()),())) (fun y=>y.1.2.1) (fun _ _=>rfl) (Sp.negated q).length (by omega) (fun n l=>l.length≤n∧∀ s,(s,())∈l↔s∈CS q neg n) ⟨Nat.le_refl _,fun s=>by simp [CS]⟩ (fun I μ n l hn hJ next=>?_) fun I μ l hJ=>?_
 · obtain ⟨hl,hJ⟩:=hJ
   dsimp only
   have hnm:=ap4 (Sp.nodeAt q n)
   refine dB (by omega) ⟨⟨by omega,by omega⟩,trivial,af (fun h1=>⟨⟨by omega,by omega⟩,af (fun h2=>⟨⟨by omega,by omega⟩,by omega,rfl,next _ ?_⟩) fun h2=>⟨rfl,next _ ⟨by omega,?_⟩⟩⟩) fun h1=>⟨rfl,next _ ⟨by omega,?_⟩⟩⟩
   · have h1:(decide (8≤(Sp.nodeAt q n).1)&&decide ((Sp.nodeAt q n).1≤9))=true:=h1
     rw [agj (hnm.trans h1) (beq_iff_eq.1 h2)]
     refine ⟨Nat.le_trans (adf _ _) (by omega),fun s=>?_⟩
     rw [yh,List.mem_append,List.mem_singleton,hJ,Prod.mk.injEq]
     constructor
     · rintro (⟨h,_⟩|h)
       · exact .inr h
       · exact .inl h
     · rintro (h|h)
       · exact .inr h
       · exact .inl ⟨h,rfl⟩
   · rw [NT fun h=>by have h2:=beq_eq_false_iff_ne.1 h2;exact h2 h.2];exact hJ
   · rw [NT fun h=>by have h1:(decide (8≤(Sp.nodeAt q n).1)&&decide ((Sp.nodeAt q n).1≤9))=false:=h1;rw [hnm,h1] at h;cases h.1];exact hJ
 · obtain ⟨hl,hJ⟩:=hJ
   rw [yZ] at hJ
   dsimp only
   exact dD (by omega) ⟨by rw [bV];omega,by show l.length≤1000;omega,hJ⟩
theorem Td:ai prog G kL.e:=by
 refine Tf (ak ah ⟨LY,trivial⟩) (fun ⟨q,_⟩ hp=>⟨((((Sp.dZ q false).map fun s=>(s,()),()),())),⟨by show ((Sp.dZ q false).map _).length≤1000;rw [List.length_map];have:=zf q false (Sp.negated q).length;have:=zh q;have hp:q.length≤1000:=hp;rw [yZ] at*;omega,fun s=>by show (s,())∈(Sp.dZ q false).map _↔_;simp⟩⟩) ?_
 intro q hin hp
 dsimp only [kL] at hp ⊢
 exact ⟨hp,fun r hr=>hr⟩
theorem Ti:ai prog G kM.e:=by
 refine Tj (ak ah ⟨LY,trivial⟩) (fun ⟨q,_⟩ hp=>⟨((((Sp.dZ q true).map fun s=>(s,()),()),())),⟨by show ((Sp.dZ q true).map _).length≤1000;rw [List.length_map];have:=zf q true (Sp.negated q).length;have:=zh q;have hp:q.length≤1000:=hp;rw [yZ] at*;omega,fun s=>by show (s,())∈(Sp.dZ q true).map _↔_;simp⟩⟩) ?_
 intro q hin hp
 dsimp only [kM] at hp ⊢
 exact ⟨hp,fun r hr=>hr⟩
end Go.Proofs.Tryz
