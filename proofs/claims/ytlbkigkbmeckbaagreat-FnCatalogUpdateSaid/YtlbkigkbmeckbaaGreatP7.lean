import Derived.Test.YtlbkigkbmeckbaaGreatP6
import Derived.Test.YtlbkigkbmeckbaaGreatL1
import Derived.Test.YtlbkigkbmeckbaaGreatSp
namespace Go.Proofs.Tryz
open Go Go.Fw Go.IntWalk
def akk (q:List Sp.bH) (neg:Bool) (i:Nat):Option Sp.Bytes:=bif Sp.jG (Sp.nodeAt q i)&&((Sp.negated q).getD i (false,())).1==neg then some (Sp.nodeAt q i).2.2.2.1 else none
def Ei (q:List Sp.bH) (neg:Bool) (n:Nat):List Sp.Bytes:=(List.range n).filterMap (akk q neg)
theorem Ae (q:List Sp.bH) (neg:Bool):Ei q neg (Sp.negated q).length=Sp.fE q neg:=rfl
theorem ah6 {q:List Sp.bH} {neg:Bool} {n:Nat} (h1:Sp.jG (Sp.nodeAt q n)=true) (h2:((Sp.negated q).getD n (false,())).1=neg):Ei q neg (n+1)=Ei q neg n++[(Sp.nodeAt q n).2.2.2.1]:=by
 unfold Ei
 rw [List.range_succ,List.filterMap_append]
 congr 1
 show List.filterMap _ [n]=_
 rw [List.filterMap_cons]
 have:akk q neg n=some (Sp.nodeAt q n).2.2.2.1:=by unfold akk;rw [h1,h2];simp
 rw [this];rfl
theorem O0 {q:List Sp.bH} {neg:Bool} {n:Nat} (h:¬ (Sp.jG (Sp.nodeAt q n)=true∧((Sp.negated q).getD n (false,())).1=neg)):Ei q neg (n+1)=Ei q neg n:=by
 unfold Ei
 rw [List.range_succ,List.filterMap_append]
 have:akk q neg n=none:=by
  unfold akk
  have:(Sp.jG (Sp.nodeAt q n)&&((Sp.negated q).getD n (false,())).1==neg)=false:=by
   rw [Bool.eq_false_iff]
   intro h'
   rw [Bool.and_eq_true,beq_iff_eq] at h'
   exact h h'
  rw [this];rfl
 rw [List.filterMap_cons,this]
 simp
theorem Af (q:List Sp.bH) (neg:Bool) (n:Nat):(Ei q neg n).length≤n:=by
 have:=List.length_filterMap_le (akk q neg) (List.range n)
 rw [List.length_range] at this
 exact this
theorem Ag (q:List Sp.bH):(Sp.negated q).length≤q.length:=by
 cases h:Sp.bQ q with
 |true=>rw [aoL h];exact Nat.le_refl _
 |false=>unfold Sp.negated;rw [h];exact Nat.zero_le _
theorem Kt:ai prog G mX.e:=by
 refine acg (aj ah ⟨⟨wo,uJ⟩,Nk,UE,trivial⟩) (fun ⟨q,neg,_⟩ hp=>⟨((((Sp.fE q neg).map fun s=>(s,()),()),())),⟨by show ((Sp.fE q neg).map _).length≤1000;rw [List.length_map];have:=Af q neg (Sp.negated q).length;have:=Ag q;have hp:q.length≤1000:=hp;rw [Ae] at*;omega,fun s=>by show (s,())∈(Sp.fE q neg).map _↔_;simp⟩⟩) ?_
 intro q neg hin hp
 dsimp only [mX] at hp ⊢
 have hp:q.length≤1000:=hp
 have hnl:=Ag q
 refine ⟨hp,?_⟩
 refine dI (fun i (x:Sp.LS)=>(((),i,()),x,())) (fun y=>y.1.2.1) (fun _ _=>rfl) (Sp.negated q).length (by omega) (fun n l=>l=(Ei q neg n).map fun s=>(s,())) rfl (fun I μ n l hn hJ next=>?_) fun I μ l hJ=>?_
 · subst hJ
   have hl:=Af q neg n
   dsimp only
   refine dh (by omega) ⟨⟨by omega,by omega⟩,⟨by omega,by omega⟩,trivial,af (fun h1=>af (fun h2=>⟨⟨by omega,by omega⟩,?_,rfl,next _ ?_⟩) fun h2=>⟨rfl,next _ ?_⟩) fun h1=>⟨rfl,next _ ?_⟩⟩
   · rw [bT];simp only [List.length_cons,List.length_nil,List.length_map];omega
   · rw [ah6 (show Sp.jG (Sp.nodeAt q n)=true from h1) (beq_iff_eq.1 h2),List.map_append];rfl
   · rw [O0 fun h=>by have h2:=beq_eq_false_iff_ne.1 h2;exact h2 h.2]
   · rw [O0 fun h=>by have h1:Sp.jG (Sp.nodeAt q n)=false:=h1;rw [h1] at h;cases h.1]
 · subst hJ
   have hl:=Af q neg (Sp.negated q).length
   rw [Ae] at hl ⊢
   dsimp only
   refine dm (by omega) ⟨by rw [List.length_map];omega,?_⟩
   rintro ⟨⟨r,⟨⟩⟩,⟨⟩⟩ ⟨h1,h2⟩
   have h1:r.length≤((Sp.fE q neg).map fun s=>(s,())).length:=h1
   rw [List.length_map] at h1
   refine ⟨by show r.length≤1000;omega,fun s=>?_⟩
   have:=h2 (s,())
   show (s,())∈r↔_
   rw [this];simp
theorem TY:ai prog G lT.e:=by
 refine UI (aj ah ⟨Kt,trivial⟩) (fun ⟨q,_⟩ hp=>⟨((((Sp.fE q false).map fun s=>(s,()),()),())),⟨by show ((Sp.fE q false).map _).length≤1000;rw [List.length_map];have:=Af q false (Sp.negated q).length;have:=Ag q;have hp:q.length≤1000:=hp;rw [Ae] at*;omega,fun s=>by show (s,())∈(Sp.fE q false).map _↔_;simp⟩⟩) ?_
 intro q hin hp
 dsimp only [lT] at hp ⊢
 exact ⟨hp,fun r hr=>hr⟩
theorem TW:ai prog G lU.e:=by
 refine UJ (aj ah ⟨Kt,trivial⟩) (fun ⟨q,_⟩ hp=>⟨((((Sp.fE q true).map fun s=>(s,()),()),())),⟨by show ((Sp.fE q true).map _).length≤1000;rw [List.length_map];have:=Af q true (Sp.negated q).length;have:=Ag q;have hp:q.length≤1000:=hp;rw [Ae] at*;omega,fun s=>by show (s,())∈(Sp.fE q true).map _↔_;simp⟩⟩) ?_
 intro q hin hp
 dsimp only [lU] at hp ⊢
 exact ⟨hp,fun r hr=>hr⟩
theorem apu {l:Sp.LS} {s:Sp.Bytes} {m:Nat} (hm:m≤l.length) (h1:∀ i,i<m→Op.bytesLess (l.getD i ([],())).1 s=true) (h2:m<l.length→Op.bytesLess (l.getD m ([],())).1 s=false):
 Sp.AU l s=bif decide (m<l.length)&&(l.getD m ([],())).1==s then l else l.take m++[(s,())]++l.drop m:=by
 obtain ⟨e1,_⟩:=Sp.Ho (d:=(([]:List UInt8),())) l m hm (p:=fun x=>Op.bytesLess x.1 s) h1 h2
 unfold Sp.AU
 rw [e1]
 have:(l.take m).length=m:=by rw [List.length_take];omega
 rw [this]
theorem xJ {l:Sp.LS} {s:Sp.Bytes} (x:Sp.Bytes×Unit):x∈Sp.AU l s↔x=(s,())∨x∈l:=by
 unfold Sp.AU
 dsimp only
 generalize (l.takeWhile fun x=>Op.bytesLess x.1 s).length=n
 cases h:decide (n<l.length)&&(l.getD n ([],())).1==s with
 |true=>
  rw [Bool.and_eq_true,beq_iff_eq] at h
  refine ⟨.inr,fun hx=>?_⟩
  rcases hx with rfl|hx
  · have:=getD_mem (d:=(([]:List UInt8),())) (gm h.1)
    rw [show l.getD n ([],())=(s,()) from Prod.ext h.2 rfl] at this
    exact this
  · exact hx
 |false=>
  show x∈l.take n++[(s,())]++l.drop n↔_
  rw [List.mem_append,List.mem_append,List.mem_singleton]
  conv=>rhs;rw [← List.take_append_drop n l,List.mem_append]
  constructor
  · rintro ((h|h)|h)
    · exact .inr (.inl h)
    · exact .inl h
    · exact .inr (.inr h)
  · rintro (h|h|h)
    · exact .inl (.inr h)
    · exact .inl (.inl h)
    · exact .inr h
theorem Uk (l:Sp.LS) (s:Sp.Bytes):(Sp.AU l s).length≤l.length+1:=by
 unfold Sp.AU
 dsimp only
 generalize (l.takeWhile fun x=>Op.bytesLess x.1 s).length=n
 cases decide (n<l.length)&&(l.getD n ([],())).1==s with
 |true=>exact Nat.le_succ _
 |false=>show (l.take n++[(s,())]++l.drop n).length≤_;simp;omega
theorem BD:ai prog G qy.e:=by
 refine akl (aj ah trivial) ?_
 intro l s hin hp
 dsimp only [qy] at hp ⊢
 have hp:l.length≤1000:=hp
 have fin:∀ m:Nat,m≤l.length→Sp.AU l s=l.take m++[(s,())]++l.drop m→((0:Int)≤m∧(m:Int)≤l.length)∧0+(List.drop 0 (List.take m l)).length≤big∧(List.drop 0 (List.take m l)).length+[(s,())].length≤big∧((0:Int)≤m∧(m:Int)≤l.length)∧
  (List.drop 0 (List.take m l)++[(s,())]).length+(List.drop m (List.take l.length l)).length≤big∧(List.drop 0 (List.take m l)++[(s,())]++List.drop m (List.take l.length l),())=(Sp.AU l s,()):=by
  intro m hm h
  refine ⟨⟨by omega,by omega⟩,?_,?_,⟨by omega,by omega⟩,?_,?_⟩
  · rw [bT];simp only [List.length_drop,List.length_take];omega
  · rw [bT];simp only [List.length_drop,List.length_take,List.length_cons,List.length_nil];omega
  · rw [bT];simp only [List.length_append,List.length_drop,List.length_take,List.length_cons,List.length_nil];omega
  · rw [h,List.take_length,List.drop_zero]
 refine iU l.length (by omega) (fun n=>∀ i,i<n→Op.bytesLess (l.getD i ([],())).1 s=true) (fun i hi=>by omega) (fun I μ n hn hJ next=>?_) fun I μ hJ=>?_
 · dsimp only
   refine dh (by omega) ⟨⟨by omega,by omega⟩,af (fun h=>⟨rfl,next (fB (f:=fun i=>Op.bytesLess (l.getD i ([],())).1 s) hJ h)⟩) fun h=>dh (by omega) ⟨⟨by omega,by omega⟩,?_⟩⟩
   have e:=apu (Nat.le_of_lt hn) hJ fun _=>h
   rw [decide_eq_true hn,Bool.true_and] at e
   refine af (fun h2=>?_) fun h2=>fin n (Nat.le_of_lt hn) ?_
   · rw [show ((l.getD n ([],())).1==s)=true from h2] at e
     rw [e];rfl
   · rw [show ((l.getD n ([],())).1==s)=false from h2] at e
     exact e
 · dsimp only
   refine dm (by omega) (dm (by omega) (fin l.length (Nat.le_refl _) ?_))
   have e:=apu (Nat.le_refl _) hJ fun h=>by omega
   rw [decide_eq_false (by omega)] at e
   exact e
theorem arI (x:Sp.bH):Sp.jG x=(decide (8≤x.1)&&decide (x.1≤9)):=by
 unfold Sp.jG
 rw [Bool.eq_iff_iff]
 simp
 omega
theorem ND:ai prog G pI.e:=by
 refine ae4 (aj ah ⟨BD,nP,UG,trivial⟩) (fun ⟨q,neg,_⟩ hp=>⟨((((Sp.fE q neg).map fun s=>(s,()),()),())),⟨by show ((Sp.fE q neg).map _).length≤1000;rw [List.length_map];have:=Af q neg (Sp.negated q).length;have:=Ag q;have hp:q.length≤1000:=hp;rw [Ae] at*;omega,fun s=>by show (s,())∈(Sp.fE q neg).map _↔_;simp⟩⟩) ?_
 intro q neg hin hp
 dsimp only [pI] at hp ⊢
 have hp:q.length≤1000:=hp
 have hnl:=Ag q
 refine ⟨hp,?_⟩
 refine dI (fun i (x:Sp.LS)=>((x,i,()),())) (fun y=>y.1.2.1) (fun _ _=>rfl) (Sp.negated q).length (by omega) (fun n l=>l.length≤n∧∀ s,(s,())∈l↔s∈Ei q neg n) ⟨Nat.le_refl _,fun s=>by simp [Ei]⟩ (fun I μ n l hn hJ next=>?_) fun I μ l hJ=>?_
 · obtain ⟨hl,hJ⟩:=hJ
   dsimp only
   have hnm:=arI (Sp.nodeAt q n)
   refine dh (by omega) ⟨⟨by omega,by omega⟩,trivial,af (fun h1=>⟨⟨by omega,by omega⟩,af (fun h2=>⟨⟨by omega,by omega⟩,by omega,rfl,next _ ?_⟩) fun h2=>⟨rfl,next _ ⟨by omega,?_⟩⟩⟩) fun h1=>⟨rfl,next _ ⟨by omega,?_⟩⟩⟩
   · have h1:(decide (8≤(Sp.nodeAt q n).1)&&decide ((Sp.nodeAt q n).1≤9))=true:=h1
     rw [ah6 (hnm.trans h1) (beq_iff_eq.1 h2)]
     refine ⟨Nat.le_trans (Uk _ _) (by omega),fun s=>?_⟩
     rw [xJ,List.mem_append,List.mem_singleton,hJ,Prod.mk.injEq]
     constructor
     · rintro (⟨h,_⟩|h)
       · exact .inr h
       · exact .inl h
     · rintro (h|h)
       · exact .inr h
       · exact .inl ⟨h,rfl⟩
   · rw [O0 fun h=>by have h2:=beq_eq_false_iff_ne.1 h2;exact h2 h.2];exact hJ
   · rw [O0 fun h=>by have h1:(decide (8≤(Sp.nodeAt q n).1)&&decide ((Sp.nodeAt q n).1≤9))=false:=h1;rw [hnm,h1] at h;cases h.1];exact hJ
 · obtain ⟨hl,hJ⟩:=hJ
   rw [Ae] at hJ
   dsimp only
   exact dm (by omega) ⟨by rw [bT];omega,by show l.length≤1000;omega,hJ⟩
theorem UK:ai prog G lV.e:=by
 refine UL (aj ah ⟨ND,trivial⟩) (fun ⟨q,_⟩ hp=>⟨((((Sp.fE q false).map fun s=>(s,()),()),())),⟨by show ((Sp.fE q false).map _).length≤1000;rw [List.length_map];have:=Af q false (Sp.negated q).length;have:=Ag q;have hp:q.length≤1000:=hp;rw [Ae] at*;omega,fun s=>by show (s,())∈(Sp.fE q false).map _↔_;simp⟩⟩) ?_
 intro q hin hp
 dsimp only [lV] at hp ⊢
 exact ⟨hp,fun r hr=>hr⟩
theorem UM:ai prog G lW.e:=by
 refine UN (aj ah ⟨ND,trivial⟩) (fun ⟨q,_⟩ hp=>⟨((((Sp.fE q true).map fun s=>(s,()),()),())),⟨by show ((Sp.fE q true).map _).length≤1000;rw [List.length_map];have:=Af q true (Sp.negated q).length;have:=Ag q;have hp:q.length≤1000:=hp;rw [Ae] at*;omega,fun s=>by show (s,())∈(Sp.fE q true).map _↔_;simp⟩⟩) ?_
 intro q hin hp
 dsimp only [lW] at hp ⊢
 exact ⟨hp,fun r hr=>hr⟩
end Go.Proofs.Tryz
