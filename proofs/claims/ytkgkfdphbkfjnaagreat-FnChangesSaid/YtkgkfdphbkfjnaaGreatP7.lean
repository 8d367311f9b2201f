import Derived.Test.YtkgkfdphbkfjnaaGreatP6
import Derived.Test.YtkgkfdphbkfjnaaGreatL1
import Derived.Test.YtkgkfdphbkfjnaaGreatSp
namespace Go.Proofs.Tryz
open Go Go.Fw Go.IntWalk Sp
def agS (q:List bK) (neg:Bool) (i:Nat):Option Sp.Bytes:=bif jA (Sp.nodeAt q i)&&((Sp.negated q).getD i (false,())).1==neg then some (Sp.nodeAt q i).2.2.2.1 else none
def ER (q:List bK) (neg:Bool) (n:Nat):List Sp.Bytes:=(List.range n).filterMap (agS q neg)
theorem zD (q:List bK) (neg:Bool):ER q neg (Sp.negated q).length=fB q neg:=rfl
theorem afn {q:List bK} {neg:Bool} {n:Nat} (h1:jA (Sp.nodeAt q n)=true) (h2:((Sp.negated q).getD n (false,())).1=neg):ER q neg (n+1)=ER q neg n++[(Sp.nodeAt q n).2.2.2.1]:=by
 unfold ER
 rw [List.range_succ,List.filterMap_append]
 congr 1
 show List.filterMap _ [n]=_
 rw [List.filterMap_cons]
 have:agS q neg n=some (Sp.nodeAt q n).2.2.2.1:=by unfold agS;rw [h1,h2];simp
 rw [this];rfl
theorem Qa {q:List bK} {neg:Bool} {n:Nat} (h:¬ (jA (Sp.nodeAt q n)=true∧((Sp.negated q).getD n (false,())).1=neg)):ER q neg (n+1)=ER q neg n:=by
 unfold ER
 rw [List.range_succ,List.filterMap_append]
 have:agS q neg n=none:=by
  unfold agS
  have:(jA (Sp.nodeAt q n)&&((Sp.negated q).getD n (false,())).1==neg)=false:=by
   rw [Bool.eq_false_iff]
   intro h'
   rw [Bool.and_eq_true,beq_iff_eq] at h'
   exact h h'
  rw [this];rfl
 rw [List.filterMap_cons,this]
 simp
theorem zF (q:List bK) (neg:Bool) (n:Nat):(ER q neg n).length≤n:=by
 have:=List.length_filterMap_le (agS q neg) (List.range n)
 rw [List.length_range] at this
 exact this
theorem zG (q:List bK):(Sp.negated q).length≤q.length:=by
 cases h:bQ q with
 |true=>rw [akA h];exact Nat.le_refl _
 |false=>unfold Sp.negated;rw [h];exact Nat.zero_le _
theorem LX:OK wM.e:=by
 refine XA.ok mixed (au [(mQ, .eff (Dt jr) kX),yD.e,wZ.e] ⟨⟨tC,rE⟩,OA,UR,trivial⟩) ac4 (fun ⟨q,neg,_⟩ hp=>⟨((((fB q neg).map fun s=>(s,()),()),())),⟨by show ((fB q neg).map _).length≤1000;rw [List.length_map];have:=zF q neg (Sp.negated q).length;have:=zG q;have hp:q.length≤1000:=hp;rw [zD] at*;omega,fun s=>by show (s,())∈(fB q neg).map _↔_;simp⟩⟩) (by kernel_rfl) (show ∀ q negated,wM.goal (aaL q negated) (q,negated,()) from ?_)
 intro q neg hin hp
 dsimp only [wM] at hp ⊢
 have hp:q.length≤1000:=hp
 have hnl:=zG q
 refine ⟨hp,?_⟩
 refine dN (fun i (x:Sp.LS)=>(((),i,()),x,())) (fun y=>y.1.2.1) (fun _ _=>rfl) (Sp.negated q).length (by omega) (fun n l=>l=(ER q neg n).map fun s=>(s,())) rfl (fun I μ n l hn hJ next=>?_) fun I μ l hJ=>?_
 · subst hJ
   have hl:=zF q neg n
   dsimp only
   refine dH (by omega) ⟨⟨by omega,by omega⟩,⟨by omega,by omega⟩,trivial,af (fun h1=>af (fun h2=>⟨⟨by omega,by omega⟩,?_,rfl,next _ ?_⟩) fun h2=>⟨rfl,next _ ?_⟩) fun h1=>⟨rfl,next _ ?_⟩⟩
   · rw [bW];simp only [List.length_cons,List.length_nil,List.length_map];omega
   · rw [afn (show jA (Sp.nodeAt q n)=true from h1) (beq_iff_eq.1 h2),List.map_append];rfl
   · rw [Qa fun h=>by have h2:=beq_eq_false_iff_ne.1 h2;exact h2 h.2]
   · rw [Qa fun h=>by have h1:jA (Sp.nodeAt q n)=false:=h1;rw [h1] at h;cases h.1]
 · subst hJ
   have hl:=zF q neg (Sp.negated q).length
   rw [zD] at hl ⊢
   dsimp only
   refine dI (by omega) ⟨by rw [List.length_map];omega,?_⟩
   rintro ⟨⟨r,⟨⟩⟩,⟨⟩⟩ ⟨h1,h2⟩
   have h1:r.length≤((fB q neg).map fun s=>(s,())).length:=h1
   rw [List.length_map] at h1
   refine ⟨by show r.length≤1000;omega,fun s=>?_⟩
   have:=h2 (s,())
   show (s,())∈r↔_
   rw [this];simp
theorem Ug:OK xg.e:=by
 refine XA.ok mixed (au [wM.e] ⟨LX,trivial⟩) H0 (fun ⟨q,_⟩ hp=>⟨((((fB q false).map fun s=>(s,()),()),())),⟨by show ((fB q false).map _).length≤1000;rw [List.length_map];have:=zF q false (Sp.negated q).length;have:=zG q;have hp:q.length≤1000:=hp;rw [zD] at*;omega,fun s=>by show (s,())∈(fB q false).map _↔_;simp⟩⟩) (by kernel_rfl) (show ∀ q,xg.goal (UY q) (q,()) from ?_)
 intro q hin hp
 dsimp only [xg] at hp ⊢
 exact ⟨hp,fun r hr=>hr⟩
theorem Uf:OK xk.e:=by
 refine XA.ok mixed (au [wM.e] ⟨LX,trivial⟩) H0 (fun ⟨q,_⟩ hp=>⟨((((fB q true).map fun s=>(s,()),()),())),⟨by show ((fB q true).map _).length≤1000;rw [List.length_map];have:=zF q true (Sp.negated q).length;have:=zG q;have hp:q.length≤1000:=hp;rw [zD] at*;omega,fun s=>by show (s,())∈(fB q true).map _↔_;simp⟩⟩) (by kernel_rfl) (show ∀ q,xk.goal (UZ q) (q,()) from ?_)
 intro q hin hp
 dsimp only [xk] at hp ⊢
 exact ⟨hp,fun r hr=>hr⟩
theorem alg {l:Sp.LS} {s:Sp.Bytes} {m:Nat} (hm:m≤l.length) (h1:∀ i,i<m→Op.bytesLess (l.getD i ([],())).1 s=true) (h2:m<l.length→Op.bytesLess (l.getD m ([],())).1 s=false):
 AB l s=bif decide (m<l.length)&&(l.getD m ([],())).1==s then l else l.take m++[(s,())]++l.drop m:=by
 obtain ⟨e1,_⟩:=Oi (d:=(([]:List UInt8),())) l m hm (p:=fun x=>Op.bytesLess x.1 s) h1 h2
 unfold AB
 rw [e1]
 have:(l.take m).length=m:=by rw [List.length_take];omega
 rw [this]
theorem uQ {l:Sp.LS} {s:Sp.Bytes} (x:Sp.Bytes×Unit):x∈AB l s↔x=(s,())∨x∈l:=by
 unfold AB
 dsimp only
 generalize (l.takeWhile fun x=>Op.bytesLess x.1 s).length=n
 cases h:decide (n<l.length)&&(l.getD n ([],())).1==s with
 |true=>
  rw [Bool.and_eq_true,beq_iff_eq] at h
  refine ⟨.inr,fun hx=>?_⟩
  rcases hx with rfl|hx
  · have:=getD_mem (d:=(([]:List UInt8),())) (fJ h.1)
    rw [show l.getD n ([],())=(s,()) from Prod.ext h.2 rfl] at this
    exact this
  · exact hx
 |false=>
  show x∈l.take n++[(s,())]++l.drop n↔_
  rw [List.mem_append,List.mem_append,List.mem_singleton]
  conv=>rhs;rw [← List.take_append_drop n l,List.mem_append]
  constructor
  · rintro ((h|h)|h)
    · exact .inr (.inl h)
    · exact .inl h
    · exact .inr (.inr h)
  · rintro (h|h|h)
    · exact .inl (.inr h)
    · exact .inl (.inl h)
    · exact .inr h
theorem Uu (l:Sp.LS) (s:Sp.Bytes):(AB l s).length≤l.length+1:=by
 unfold AB
 dsimp only
 generalize (l.takeWhile fun x=>Op.bytesLess x.1 s).length=n
 cases decide (n<l.length)&&(l.getD n ([],())).1==s with
 |true=>exact Nat.le_succ _
 |false=>show (l.take n++[(s,())]++l.drop n).length≤_;simp;omega
theorem Bq:OK qL.e:=by
 refine PA.ok mixed (au [] trivial) aic (by kernel_rfl) (show ∀ list s,qL.goal (agT list s) (list,s,()) from ?_)
 intro l s hin hp
 dsimp only [qL] at hp ⊢
 have hp:l.length≤1000:=hp
 have fin:∀ m:Nat,m≤l.length→AB l s=l.take m++[(s,())]++l.drop m→((0:Int)≤m∧(m:Int)≤l.length)∧0+(List.drop 0 (List.take m l)).length≤big∧(List.drop 0 (List.take m l)).length+[(s,())].length≤big∧((0:Int)≤m∧(m:Int)≤l.length)∧
  (List.drop 0 (List.take m l)++[(s,())]).length+(List.drop m (List.take l.length l)).length≤big∧(List.drop 0 (List.take m l)++[(s,())]++List.drop m (List.take l.length l),())=(AB l s,()):=by
  intro m hm h
  refine ⟨⟨by omega,by omega⟩,?_,?_,⟨by omega,by omega⟩,?_,?_⟩
  · rw [bW];simp only [List.length_drop,List.length_take];omega
  · rw [bW];simp only [List.length_drop,List.length_take,List.length_cons,List.length_nil];omega
  · rw [bW];simp only [List.length_append,List.length_drop,List.length_take,List.length_cons,List.length_nil];omega
  · rw [h,List.take_length,List.drop_zero]
 refine iM l.length (by omega) (fun n=>∀ i,i<n→Op.bytesLess (l.getD i ([],())).1 s=true) (fun i hi=>by omega) (fun I μ n hn hJ next=>?_) fun I μ hJ=>?_
 · dsimp only
   refine dH (by omega) ⟨⟨by omega,by omega⟩,af (fun h=>⟨rfl,next (fA (f:=fun i=>Op.bytesLess (l.getD i ([],())).1 s) hJ h)⟩) fun h=>dH (by omega) ⟨⟨by omega,by omega⟩,?_⟩⟩
   have e:=alg (Nat.le_of_lt hn) hJ fun _=>h
   rw [decide_eq_true hn,Bool.true_and] at e
   refine af (fun h2=>?_) fun h2=>fin n (Nat.le_of_lt hn) ?_
   · rw [show ((l.getD n ([],())).1==s)=true from h2] at e
     rw [e];rfl
   · rw [show ((l.getD n ([],())).1==s)=false from h2] at e
     exact e
 · dsimp only
   refine dI (by omega) (dI (by omega) (fin l.length (Nat.le_refl _) ?_))
   have e:=alg (Nat.le_refl _) hJ fun h=>by omega
   rw [decide_eq_false (by omega)] at e
   exact e
theorem anG (x:bK):jA x=(decide (8≤x.1)&&decide (x.1≤9)):=by
 unfold jA
 rw [Bool.eq_iff_iff]
 simp
 omega
theorem OW:OK yE.e:=by
 refine XA.ok mixed (au [qL.e,iL.e,wY.e] ⟨Bq,jq,UW,trivial⟩) afo (fun ⟨q,neg,_⟩ hp=>⟨((((fB q neg).map fun s=>(s,()),()),())),⟨by show ((fB q neg).map _).length≤1000;rw [List.length_map];have:=zF q neg (Sp.negated q).length;have:=zG q;have hp:q.length≤1000:=hp;rw [zD] at*;omega,fun s=>by show (s,())∈(fB q neg).map _↔_;simp⟩⟩) (by kernel_rfl) (show ∀ q under,yE.goal (ac5 q under) (q,under,()) from ?_)
 intro q neg hin hp
 dsimp only [yE] at hp ⊢
 have hp:q.length≤1000:=hp
 have hnl:=zG q
 refine ⟨hp,?_⟩
 refine dN (fun i (x:Sp.LS)=>((x,i,()),())) (fun y=>y.1.2.1) (fun _ _=>rfl) (Sp.negated q).length (by omega) (fun n l=>l.length≤n∧∀ s,(s,())∈l↔s∈ER q neg n) ⟨Nat.le_refl _,fun s=>by simp [ER]⟩ (fun I μ n l hn hJ next=>?_) fun I μ l hJ=>?_
 · obtain ⟨hl,hJ⟩:=hJ
   dsimp only
   have hnm:=anG (Sp.nodeAt q n)
   refine dH (by omega) ⟨⟨by omega,by omega⟩,trivial,af (fun h1=>⟨⟨by omega,by omega⟩,af (fun h2=>⟨⟨by omega,by omega⟩,by omega,rfl,next _ ?_⟩) fun h2=>⟨rfl,next _ ⟨by omega,?_⟩⟩⟩) fun h1=>⟨rfl,next _ ⟨by omega,?_⟩⟩⟩
   · have h1:(decide (8≤(Sp.nodeAt q n).1)&&decide ((Sp.nodeAt q n).1≤9))=true:=h1
     rw [afn (hnm.trans h1) (beq_iff_eq.1 h2)]
     refine ⟨Nat.le_trans (Uu _ _) (by omega),fun s=>?_⟩
     rw [uQ,List.mem_append,List.mem_singleton,hJ,Prod.mk.injEq]
     constructor
     · rintro (⟨h,_⟩|h)
       · exact .inr h
       · exact .inl h
     · rintro (h|h)
       · exact .inr h
       · exact .inl ⟨h,rfl⟩
   · rw [Qa fun h=>by have h2:=beq_eq_false_iff_ne.1 h2;exact h2 h.2];exact hJ
   · rw [Qa fun h=>by have h1:(decide (8≤(Sp.nodeAt q n).1)&&decide ((Sp.nodeAt q n).1≤9))=false:=h1;rw [hnm,h1] at h;cases h.1];exact hJ
 · obtain ⟨hl,hJ⟩:=hJ
   rw [zD] at hJ
   dsimp only
   exact dI (by omega) ⟨by rw [bW];omega,by show l.length≤1000;omega,hJ⟩
theorem U0:OK xq.e:=by
 refine XA.ok mixed (au [yE.e] ⟨OW,trivial⟩) H0 (fun ⟨q,_⟩ hp=>⟨((((fB q false).map fun s=>(s,()),()),())),⟨by show ((fB q false).map _).length≤1000;rw [List.length_map];have:=zF q false (Sp.negated q).length;have:=zG q;have hp:q.length≤1000:=hp;rw [zD] at*;omega,fun s=>by show (s,())∈(fB q false).map _↔_;simp⟩⟩) (by kernel_rfl) (show ∀ q,xq.goal (U1 q) (q,()) from ?_)
 intro q hin hp
 dsimp only [xq] at hp ⊢
 exact ⟨hp,fun r hr=>hr⟩
theorem U2:OK xu.e:=by
 refine XA.ok mixed (au [yE.e] ⟨OW,trivial⟩) H0 (fun ⟨q,_⟩ hp=>⟨((((fB q true).map fun s=>(s,()),()),())),⟨by show ((fB q true).map _).length≤1000;rw [List.length_map];have:=zF q true (Sp.negated q).length;have:=zG q;have hp:q.length≤1000:=hp;rw [zD] at*;omega,fun s=>by show (s,())∈(fB q true).map _↔_;simp⟩⟩) (by kernel_rfl) (show ∀ q,xu.goal (U3 q) (q,()) from ?_)
 intro q hin hp
 dsimp only [xu] at hp ⊢
 exact ⟨hp,fun r hr=>hr⟩
end Go.Proofs.Tryz
