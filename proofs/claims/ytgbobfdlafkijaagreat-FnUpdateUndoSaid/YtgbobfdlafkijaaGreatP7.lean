import Derived.Test.YtgbobfdlafkijaaGreatP6
import Derived.Test.YtgbobfdlafkijaaGreatL1
import Derived.Test.YtgbobfdlafkijaaGreatSp
namespace Go.Proofs.Tryz
open Go Go.Fw Go.IntWalk
def auI (q:List Sp.bM) (neg:Bool) (i:Nat):Option Sp.Bytes:=bif Sp.qX (Sp.nodeAt q i)&&((Sp.negated q).getD i (false,())).1==neg then some (Sp.nodeAt q i).2.2.2.1 else none
def ML (q:List Sp.bM) (neg:Bool) (n:Nat):List Sp.Bytes:=(List.range n).filterMap (auI q neg)
theorem FT (q:List Sp.bM) (neg:Bool):ML q neg (Sp.negated q).length=Sp.eX q neg:=rfl
theorem asr {q:List Sp.bM} {neg:Bool} {n:Nat} (h1:Sp.qX (Sp.nodeAt q n)=true) (h2:((Sp.negated q).getD n (false,())).1=neg):ML q neg (n+1)=ML q neg n++[(Sp.nodeAt q n).2.2.2.1]:=by
 unfold ML
 rw [List.range_succ,List.filterMap_append]
 congr 1
 show List.filterMap _ [n]=_
 rw [List.filterMap_cons]
 have:auI q neg n=some (Sp.nodeAt q n).2.2.2.1:=by unfold auI;rw [h1,h2];simp
 rw [this];rfl
theorem aa1 {q:List Sp.bM} {neg:Bool} {n:Nat} (h:¬ (Sp.qX (Sp.nodeAt q n)=true∧((Sp.negated q).getD n (false,())).1=neg)):ML q neg (n+1)=ML q neg n:=by
 unfold ML
 rw [List.range_succ,List.filterMap_append]
 have:auI q neg n=none:=by
  unfold auI
  have:(Sp.qX (Sp.nodeAt q n)&&((Sp.negated q).getD n (false,())).1==neg)=false:=by
   rw [Bool.eq_false_iff]
   intro h'
   rw [Bool.and_eq_true,beq_iff_eq] at h'
   exact h h'
  rw [this];rfl
 rw [List.filterMap_cons,this]
 simp
theorem FU (q:List Sp.bM) (neg:Bool) (n:Nat):(ML q neg n).length≤n:=by
 have:=List.length_filterMap_le (auI q neg) (List.range n)
 rw [List.length_range] at this
 exact this
theorem FV (q:List Sp.bM):(Sp.negated q).length≤q.length:=by
 cases h:Sp.bT q with
 |true=>rw [ay3 h];exact Nat.le_refl _
 |false=>unfold Sp.negated;rw [h];exact Nat.zero_le _
theorem XH:aG prog G tX uD:=by
 refine aml (aC (l:=[(jl, .eff (ay gU) iK),(vY, .pure wK),(xI, .pure Ag)]) (au ah) (by simp only [List.forall_mem_cons];exact ⟨⟨zD,xY⟩,⟨ZH,Xz⟩,⟨aeW,acR⟩,fun x hx=>by cases hx⟩)) (fun ⟨q,neg,_⟩ hp=>⟨((((Sp.eX q neg).map fun s=>(s,()),()),())),⟨by show ((Sp.eX q neg).map _).length≤1000;rw [List.length_map];have:=FU q neg (Sp.negated q).length;have:=FV q;have hp:q.length≤1000:=hp;rw [FT] at*;omega,fun s=>by show (s,())∈(Sp.eX q neg).map _↔_;simp⟩⟩) ?_
 intro q neg hin hp
 have hp:q.length≤1000:=hp
 have hnl:=FV q
 refine ⟨hp,?_⟩
 refine gQ (fun i (x:Sp.LS)=>(((),i,()),x,())) (fun y=>y.1.2.1) (fun _ _=>rfl) (Sp.negated q).length (by omega) (fun n l=>l=(ML q neg n).map fun s=>(s,())) rfl (fun I μ n l hn hJ next=>?_) fun I μ l hJ=>?_
 · subst hJ
   have hl:=FU q neg n
   dsimp only
   refine eF (by omega) ⟨⟨by omega,by omega⟩,⟨by omega,by omega⟩,trivial,af (fun h1=>af (fun h2=>⟨⟨by omega,by omega⟩,?_,rfl,next _ ?_⟩) fun h2=>⟨rfl,next _ ?_⟩) fun h1=>⟨rfl,next _ ?_⟩⟩
   · rw [dU];simp only [List.length_cons,List.length_nil,List.length_map];omega
   · rw [asr (show Sp.qX (Sp.nodeAt q n)=true from h1) (beq_iff_eq.1 h2),List.map_append];rfl
   · rw [aa1 fun h=>by have h2:=beq_eq_false_iff_ne.1 h2;exact h2 h.2]
   · rw [aa1 fun h=>by have h1:Sp.qX (Sp.nodeAt q n)=false:=h1;rw [h1] at h;cases h.1]
 · subst hJ
   have hl:=FU q neg (Sp.negated q).length
   rw [FT] at hl ⊢
   dsimp only
   refine eG (by omega) ⟨by rw [List.length_map];omega,?_⟩
   rintro ⟨⟨r,⟨⟩⟩,⟨⟩⟩ ⟨h1,h2⟩
   have h1:r.length≤((Sp.eX q neg).map fun s=>(s,())).length:=h1
   rw [List.length_map] at h1
   refine ⟨by show r.length≤1000;omega,fun s=>?_⟩
   have:=h2 (s,())
   show (s,())∈r↔_
   rw [this];simp
theorem aeC:aG prog G xM Ah:=by
 refine ae0 (aC (l:=[(tX, .eff (ay oz) uD)]) (au ah) (by simp only [List.forall_mem_cons];exact ⟨⟨XH,V4⟩,fun x hx=>by cases hx⟩)) (fun ⟨q,_⟩ hp=>⟨((((Sp.eX q false).map fun s=>(s,()),()),())),⟨by show ((Sp.eX q false).map _).length≤1000;rw [List.length_map];have:=FU q false (Sp.negated q).length;have:=FV q;have hp:q.length≤1000:=hp;rw [FT] at*;omega,fun s=>by show (s,())∈(Sp.eX q false).map _↔_;simp⟩⟩) ?_
 intro q hin hp
 exact ⟨hp,fun r hr=>hr⟩
theorem aeB:aG prog G xK Ai:=by
 refine ae1 (aC (l:=[(tX, .eff (ay oz) uD)]) (au ah) (by simp only [List.forall_mem_cons];exact ⟨⟨XH,V4⟩,fun x hx=>by cases hx⟩)) (fun ⟨q,_⟩ hp=>⟨((((Sp.eX q true).map fun s=>(s,()),()),())),⟨by show ((Sp.eX q true).map _).length≤1000;rw [List.length_map];have:=FU q true (Sp.negated q).length;have:=FV q;have hp:q.length≤1000:=hp;rw [FT] at*;omega,fun s=>by show (s,())∈(Sp.eX q true).map _↔_;simp⟩⟩) ?_
 intro q hin hp
 exact ⟨hp,fun r hr=>hr⟩
theorem azF {l:Sp.LS} {s:Sp.Bytes} {m:Nat} (hm:m≤l.length) (h1:∀ i,i<m→Op.bytesLess (l.getD i ([],())).1 s=true) (h2:m<l.length→Op.bytesLess (l.getD m ([],())).1 s=false):
 Sp.YL l s=bif decide (m<l.length)&&(l.getD m ([],())).1==s then l else l.take m++[(s,())]++l.drop m:=by
 obtain ⟨e1,_⟩:=Sp.Tf (d:=(([]:List UInt8),())) l m hm (p:=fun x=>Op.bytesLess x.1 s) h1 h2
 unfold Sp.YL
 rw [e1]
 have:(l.take m).length=m:=by rw [List.length_take];omega
 rw [this]
theorem aCx {l:Sp.LS} {s:Sp.Bytes} (x:Sp.Bytes×Unit):x∈Sp.YL l s↔x=(s,())∨x∈l:=by
 unfold Sp.YL
 dsimp only
 generalize (l.takeWhile fun x=>Op.bytesLess x.1 s).length=n
 cases h:decide (n<l.length)&&(l.getD n ([],())).1==s with
 |true=>
  rw [Bool.and_eq_true,beq_iff_eq] at h
  refine ⟨.inr,fun hx=>?_⟩
  rcases hx with rfl|hx
  · have:=getD_mem (d:=(([]:List UInt8),())) (jw h.1)
    rw [show l.getD n ([],())=(s,()) from Prod.ext h.2 rfl] at this
    exact this
  · exact hx
 |false=>
  show x∈l.take n++[(s,())]++l.drop n↔_
  rw [List.mem_append,List.mem_append,List.mem_singleton]
  conv=>rhs;rw [← List.take_append_drop n l,List.mem_append]
  constructor
  · rintro ((h|h)|h)
    · exact .inr (.inl h)
    · exact .inl h
    · exact .inr (.inr h)
  · rintro (h|h|h)
    · exact .inl (.inr h)
    · exact .inl (.inl h)
    · exact .inr h
theorem aCy (l:Sp.LS) (s:Sp.Bytes):(Sp.YL l s).length≤l.length+1:=by
 unfold Sp.YL
 dsimp only
 generalize (l.takeWhile fun x=>Op.bytesLess x.1 s).length=n
 cases decide (n<l.length)&&(l.getD n ([],())).1==s with
 |true=>exact Nat.le_succ _
 |false=>show (l.take n++[(s,())]++l.drop n).length≤_;simp;omega
theorem auJ:aA prog G JX Lj:=by
 refine auK (aC (l:=[]) (au ah) (fun x hx=>by cases hx)) ?_
 intro l s hin hp
 have hp:l.length≤1000:=hp
 have fin:∀ m:Nat,m≤l.length→Sp.YL l s=l.take m++[(s,())]++l.drop m→((0:Int)≤m∧(m:Int)≤l.length)∧0+(List.drop 0 (List.take m l)).length≤big∧(List.drop 0 (List.take m l)).length+[(s,())].length≤big∧((0:Int)≤m∧(m:Int)≤l.length)∧
  (List.drop 0 (List.take m l)++[(s,())]).length+(List.drop m (List.take l.length l)).length≤big∧(List.drop 0 (List.take m l)++[(s,())]++List.drop m (List.take l.length l),())=(Sp.YL l s,()):=by
  intro m hm h
  refine ⟨⟨by omega,by omega⟩,?_,?_,⟨by omega,by omega⟩,?_,?_⟩
  · rw [dU];simp only [List.length_drop,List.length_take];omega
  · rw [dU];simp only [List.length_drop,List.length_take,List.length_cons,List.length_nil];omega
  · rw [dU];simp only [List.length_append,List.length_drop,List.length_take,List.length_cons,List.length_nil];omega
  · rw [h,List.take_length,List.drop_zero]
 refine jH l.length (by omega) (fun n=>∀ i,i<n→Op.bytesLess (l.getD i ([],())).1 s=true) (fun i hi=>by omega) (fun I μ n hn hJ next=>?_) fun I μ hJ=>?_
 · dsimp only
   refine eF (by omega) ⟨⟨by omega,by omega⟩,af (fun h=>⟨rfl,next (fA (f:=fun i=>Op.bytesLess (l.getD i ([],())).1 s) hJ h)⟩) fun h=>eF (by omega) ⟨⟨by omega,by omega⟩,?_⟩⟩
   have e:=azF (Nat.le_of_lt hn) hJ fun _=>h
   rw [decide_eq_true hn,Bool.true_and] at e
   refine af (fun h2=>?_) fun h2=>fin n (Nat.le_of_lt hn) ?_
   · rw [show ((l.getD n ([],())).1==s)=true from h2] at e
     rw [e];rfl
   · rw [show ((l.getD n ([],())).1==s)=false from h2] at e
     exact e
 · dsimp only
   refine eG (by omega) (eG (by omega) (fin l.length (Nat.le_refl _) ?_))
   have e:=azF (Nat.le_refl _) hJ fun h=>by omega
   rw [decide_eq_false (by omega)] at e
   exact e
theorem aBO (x:Sp.bM):Sp.qX x=(decide (8≤x.1)&&decide (x.1≤9)):=by
 unfold Sp.qX
 rw [Bool.eq_iff_iff]
 simp
 omega
theorem ZO:aG prog G vZ wL:=by
 refine apj (aC (l:=[(JX, .pure Lj),(iU, .pure gX),(xJ, .pure Af)]) (au ah) (by simp only [List.forall_mem_cons];exact ⟨⟨auJ,ari⟩,⟨xk,vF⟩,⟨aeY,acQ⟩,fun x hx=>by cases hx⟩)) (fun ⟨q,neg,_⟩ hp=>⟨((((Sp.eX q neg).map fun s=>(s,()),()),())),⟨by show ((Sp.eX q neg).map _).length≤1000;rw [List.length_map];have:=FU q neg (Sp.negated q).length;have:=FV q;have hp:q.length≤1000:=hp;rw [FT] at*;omega,fun s=>by show (s,())∈(Sp.eX q neg).map _↔_;simp⟩⟩) ?_
 intro q neg hin hp
 have hp:q.length≤1000:=hp
 have hnl:=FV q
 refine ⟨hp,?_⟩
 refine gQ (fun i (x:Sp.LS)=>((x,i,()),())) (fun y=>y.1.2.1) (fun _ _=>rfl) (Sp.negated q).length (by omega) (fun n l=>l.length≤n∧∀ s,(s,())∈l↔s∈ML q neg n) ⟨Nat.le_refl _,fun s=>by simp [ML]⟩ (fun I μ n l hn hJ next=>?_) fun I μ l hJ=>?_
 · obtain ⟨hl,hJ⟩:=hJ
   dsimp only
   have hnm:=aBO (Sp.nodeAt q n)
   refine eF (by omega) ⟨⟨by omega,by omega⟩,trivial,af (fun h1=>⟨⟨by omega,by omega⟩,af (fun h2=>⟨⟨by omega,by omega⟩,by omega,rfl,next _ ?_⟩) fun h2=>⟨rfl,next _ ⟨by omega,?_⟩⟩⟩) fun h1=>⟨rfl,next _ ⟨by omega,?_⟩⟩⟩
   · have h1:(decide (8≤(Sp.nodeAt q n).1)&&decide ((Sp.nodeAt q n).1≤9))=true:=h1
     rw [asr (hnm.trans h1) (beq_iff_eq.1 h2)]
     refine ⟨Nat.le_trans (aCy _ _) (by omega),fun s=>?_⟩
     rw [aCx,List.mem_append,List.mem_singleton,hJ,Prod.mk.injEq]
     constructor
     · rintro (⟨h,_⟩|h)
       · exact .inr h
       · exact .inl h
     · rintro (h|h)
       · exact .inr h
       · exact .inl ⟨h,rfl⟩
   · rw [aa1 fun h=>by have h2:=beq_eq_false_iff_ne.1 h2;exact h2 h.2];exact hJ
   · rw [aa1 fun h=>by have h1:(decide (8≤(Sp.nodeAt q n).1)&&decide ((Sp.nodeAt q n).1≤9))=false:=h1;rw [hnm,h1] at h;cases h.1];exact hJ
 · obtain ⟨hl,hJ⟩:=hJ
   rw [FT] at hJ
   dsimp only
   exact eG (by omega) ⟨by rw [dU];omega,by show l.length≤1000;omega,hJ⟩
theorem ae2:aG prog G xP Aj:=by
 refine ae3 (aC (l:=[(vZ, .eff (ay pF) wL)]) (au ah) (by simp only [List.forall_mem_cons];exact ⟨⟨ZO,XA⟩,fun x hx=>by cases hx⟩)) (fun ⟨q,_⟩ hp=>⟨((((Sp.eX q false).map fun s=>(s,()),()),())),⟨by show ((Sp.eX q false).map _).length≤1000;rw [List.length_map];have:=FU q false (Sp.negated q).length;have:=FV q;have hp:q.length≤1000:=hp;rw [FT] at*;omega,fun s=>by show (s,())∈(Sp.eX q false).map _↔_;simp⟩⟩) ?_
 intro q hin hp
 exact ⟨hp,fun r hr=>hr⟩
theorem ae4:aG prog G xO Ak:=by
 refine ae5 (aC (l:=[(vZ, .eff (ay pF) wL)]) (au ah) (by simp only [List.forall_mem_cons];exact ⟨⟨ZO,XA⟩,fun x hx=>by cases hx⟩)) (fun ⟨q,_⟩ hp=>⟨((((Sp.eX q true).map fun s=>(s,()),()),())),⟨by show ((Sp.eX q true).map _).length≤1000;rw [List.length_map];have:=FU q true (Sp.negated q).length;have:=FV q;have hp:q.length≤1000:=hp;rw [FT] at*;omega,fun s=>by show (s,())∈(Sp.eX q true).map _↔_;simp⟩⟩) ?_
 intro q hin hp
 exact ⟨hp,fun r hr=>hr⟩
end Go.Proofs.Tryz
