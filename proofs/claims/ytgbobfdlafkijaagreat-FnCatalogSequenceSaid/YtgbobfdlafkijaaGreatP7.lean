import Derived.Test.YtgbobfdlafkijaaGreatP6
import Derived.Test.YtgbobfdlafkijaaGreatL1
import Derived.Test.YtgbobfdlafkijaaGreatSp
namespace Go.Proofs.Tryz
open Go Go.Fw Go.IntWalk
def ax7 (q:List Sp.bY) (neg:Bool) (i:Nat):Option Sp.Bytes:=bif Sp.lN (Sp.nodeAt q i)&&((Sp.negated q).getD i (false,())).1==neg then some (Sp.nodeAt q i).2.2.2.1 else none
def OZ (q:List Sp.bY) (neg:Bool) (n:Nat):List Sp.Bytes:=(List.range n).filterMap (ax7 q neg)
theorem Ig (q:List Sp.bY) (neg:Bool):OZ q neg (Sp.negated q).length=Sp.fP q neg:=rfl
theorem avT {q:List Sp.bY} {neg:Bool} {n:Nat} (h1:Sp.lN (Sp.nodeAt q n)=true) (h2:((Sp.negated q).getD n (false,())).1=neg):OZ q neg (n+1)=OZ q neg n++[(Sp.nodeAt q n).2.2.2.1]:=by
 unfold OZ
 rw [List.range_succ,List.filterMap_append]
 congr 1
 show List.filterMap _ [n]=_
 rw [List.filterMap_cons]
 have:ax7 q neg n=some (Sp.nodeAt q n).2.2.2.1:=by unfold ax7;rw [h1,h2];simp
 rw [this];rfl
theorem adz {q:List Sp.bY} {neg:Bool} {n:Nat} (h:¬ (Sp.lN (Sp.nodeAt q n)=true∧((Sp.negated q).getD n (false,())).1=neg)):OZ q neg (n+1)=OZ q neg n:=by
 unfold OZ
 rw [List.range_succ,List.filterMap_append]
 have:ax7 q neg n=none:=by
  unfold ax7
  have:(Sp.lN (Sp.nodeAt q n)&&((Sp.negated q).getD n (false,())).1==neg)=false:=by
   rw [Bool.eq_false_iff]
   intro h'
   rw [Bool.and_eq_true,beq_iff_eq] at h'
   exact h h'
  rw [this];rfl
 rw [List.filterMap_cons,this]
 simp
theorem Ih (q:List Sp.bY) (neg:Bool) (n:Nat):(OZ q neg n).length≤n:=by
 have:=List.length_filterMap_le (ax7 q neg) (List.range n)
 rw [List.length_range] at this
 exact this
theorem Ii (q:List Sp.bY):(Sp.negated q).length≤q.length:=by
 cases h:Sp.dn q with
 |true=>rw [aCf h];exact Nat.le_refl _
 |false=>unfold Sp.negated;rw [h];exact Nat.zero_le _
theorem ZP:aG prog G vH vZ:=by
 refine apk (aB (l:=[(jJ, .eff (ax iK) jc),(xP, .pure yj),(yS, .pure BM)]) (au ah) (by simp only [List.forall_mem_cons];exact ⟨⟨AY,zq⟩,⟨ab4,ZI⟩,⟨ahs,afb⟩,fun x hx=>by cases hx⟩)) (fun ⟨q,neg,_⟩ hp=>⟨((((Sp.fP q neg).map fun s=>(s,()),()),())),⟨by show ((Sp.fP q neg).map _).length≤1000;rw [List.length_map];have:=Ih q neg (Sp.negated q).length;have:=Ii q;have hp:q.length≤1000:=hp;rw [Ig] at*;omega,fun s=>by show (s,())∈(Sp.fP q neg).map _↔_;simp⟩⟩) ?_
 intro q neg hin hp
 have hp:q.length≤1000:=hp
 have hnl:=Ii q
 refine ⟨hp,?_⟩
 refine eX (fun i (x:Sp.LS)=>(((),i,()),x,())) (fun y=>y.1.2.1) (fun _ _=>rfl) (Sp.negated q).length (by omega) (fun n l=>l=(OZ q neg n).map fun s=>(s,())) rfl (fun I μ n l hn hJ next=>?_) fun I μ l hJ=>?_
 · subst hJ
   have hl:=Ih q neg n
   dsimp only
   refine dW (by omega) ⟨⟨by omega,by omega⟩,⟨by omega,by omega⟩,trivial,af (fun h1=>af (fun h2=>⟨⟨by omega,by omega⟩,?_,rfl,next _ ?_⟩) fun h2=>⟨rfl,next _ ?_⟩) fun h1=>⟨rfl,next _ ?_⟩⟩
   · rw [dS];simp only [List.length_cons,List.length_nil,List.length_map];omega
   · rw [avT (show Sp.lN (Sp.nodeAt q n)=true from h1) (beq_iff_eq.1 h2),List.map_append];rfl
   · rw [adz fun h=>by have h2:=beq_eq_false_iff_ne.1 h2;exact h2 h.2]
   · rw [adz fun h=>by have h1:Sp.lN (Sp.nodeAt q n)=false:=h1;rw [h1] at h;cases h.1]
 · subst hJ
   have hl:=Ih q neg (Sp.negated q).length
   rw [Ig] at hl ⊢
   dsimp only
   refine dX (by omega) ⟨by rw [List.length_map];omega,?_⟩
   rintro ⟨⟨r,⟨⟩⟩,⟨⟩⟩ ⟨h1,h2⟩
   have h1:r.length≤((Sp.fP q neg).map fun s=>(s,())).length:=h1
   rw [List.length_map] at h1
   refine ⟨by show r.length≤1000;omega,fun s=>?_⟩
   have:=h2 (s,())
   show (s,())∈r↔_
   rw [this];simp
theorem agZ:aG prog G yV BN:=by
 refine ahw (aB (l:=[(vH, .eff (ax pO) vZ)]) (au ah) (by simp only [List.forall_mem_cons];exact ⟨⟨ZP,Yw⟩,fun x hx=>by cases hx⟩)) (fun ⟨q,_⟩ hp=>⟨((((Sp.fP q false).map fun s=>(s,()),()),())),⟨by show ((Sp.fP q false).map _).length≤1000;rw [List.length_map];have:=Ih q false (Sp.negated q).length;have:=Ii q;have hp:q.length≤1000:=hp;rw [Ig] at*;omega,fun s=>by show (s,())∈(Sp.fP q false).map _↔_;simp⟩⟩) ?_
 intro q hin hp
 exact ⟨hp,fun r hr=>hr⟩
theorem agY:aG prog G yU BO:=by
 refine ahx (aB (l:=[(vH, .eff (ax pO) vZ)]) (au ah) (by simp only [List.forall_mem_cons];exact ⟨⟨ZP,Yw⟩,fun x hx=>by cases hx⟩)) (fun ⟨q,_⟩ hp=>⟨((((Sp.fP q true).map fun s=>(s,()),()),())),⟨by show ((Sp.fP q true).map _).length≤1000;rw [List.length_map];have:=Ih q true (Sp.negated q).length;have:=Ii q;have hp:q.length≤1000:=hp;rw [Ig] at*;omega,fun s=>by show (s,())∈(Sp.fP q true).map _↔_;simp⟩⟩) ?_
 intro q hin hp
 exact ⟨hp,fun r hr=>hr⟩
theorem aCT {l:Sp.LS} {s:Sp.Bytes} {m:Nat} (hm:m≤l.length) (h1:∀ i,i<m→Op.bytesLess (l.getD i ([],())).1 s=true) (h2:m<l.length→Op.bytesLess (l.getD m ([],())).1 s=false):
 Sp.Il l s=bif decide (m<l.length)&&(l.getD m ([],())).1==s then l else l.take m++[(s,())]++l.drop m:=by
 obtain ⟨e1,_⟩:=Sp.abT (d:=(([]:List UInt8),())) l m hm (p:=fun x=>Op.bytesLess x.1 s) h1 h2
 unfold Sp.Il
 rw [e1]
 have:(l.take m).length=m:=by rw [List.length_take];omega
 rw [this]
theorem Dk {l:Sp.LS} {s:Sp.Bytes} (x:Sp.Bytes×Unit):x∈Sp.Il l s↔x=(s,())∨x∈l:=by
 unfold Sp.Il
 dsimp only
 generalize (l.takeWhile fun x=>Op.bytesLess x.1 s).length=n
 cases h:decide (n<l.length)&&(l.getD n ([],())).1==s with
 |true=>
  rw [Bool.and_eq_true,beq_iff_eq] at h
  refine ⟨.inr,fun hx=>?_⟩
  rcases hx with rfl|hx
  · have:=getD_mem (d:=(([]:List UInt8),())) (ji h.1)
    rw [show l.getD n ([],())=(s,()) from Prod.ext h.2 rfl] at this
    exact this
  · exact hx
 |false=>
  show x∈l.take n++[(s,())]++l.drop n↔_
  rw [List.mem_append,List.mem_append,List.mem_singleton]
  conv=>rhs;rw [← List.take_append_drop n l,List.mem_append]
  constructor
  · rintro ((h|h)|h)
    · exact .inr (.inl h)
    · exact .inl h
    · exact .inr (.inr h)
  · rintro (h|h|h)
    · exact .inl (.inr h)
    · exact .inl (.inl h)
    · exact .inr h
theorem ahb (l:Sp.LS) (s:Sp.Bytes):(Sp.Il l s).length≤l.length+1:=by
 unfold Sp.Il
 dsimp only
 generalize (l.takeWhile fun x=>Op.bytesLess x.1 s).length=n
 cases decide (n<l.length)&&(l.getD n ([],())).1==s with
 |true=>exact Nat.le_succ _
 |false=>show (l.take n++[(s,())]++l.drop n).length≤_;simp;omega
theorem J4:aA prog G lI kS:=by
 refine ax8 (aB (l:=[]) (au ah) (fun x hx=>by cases hx)) ?_
 intro l s hin hp
 have hp:l.length≤1000:=hp
 have fin:∀ m:Nat,m≤l.length→Sp.Il l s=l.take m++[(s,())]++l.drop m→((0:Int)≤m∧(m:Int)≤l.length)∧0+(List.drop 0 (List.take m l)).length≤big∧(List.drop 0 (List.take m l)).length+[(s,())].length≤big∧((0:Int)≤m∧(m:Int)≤l.length)∧
  (List.drop 0 (List.take m l)++[(s,())]).length+(List.drop m (List.take l.length l)).length≤big∧(List.drop 0 (List.take m l)++[(s,())]++List.drop m (List.take l.length l),())=(Sp.Il l s,()):=by
  intro m hm h
  refine ⟨⟨by omega,by omega⟩,?_,?_,⟨by omega,by omega⟩,?_,?_⟩
  · rw [dS];simp only [List.length_drop,List.length_take];omega
  · rw [dS];simp only [List.length_drop,List.length_take,List.length_cons,List.length_nil];omega
  · rw [dS];simp only [List.length_append,List.length_drop,List.length_take,List.length_cons,List.length_nil];omega
  · rw [h,List.take_length,List.drop_zero]
 refine ku l.length (by omega) (fun n=>∀ i,i<n→Op.bytesLess (l.getD i ([],())).1 s=true) (fun i hi=>by omega) (fun I μ n hn hJ next=>?_) fun I μ hJ=>?_
 · dsimp only
   refine dW (by omega) ⟨⟨by omega,by omega⟩,af (fun h=>⟨rfl,next (gI (f:=fun i=>Op.bytesLess (l.getD i ([],())).1 s) hJ h)⟩) fun h=>dW (by omega) ⟨⟨by omega,by omega⟩,?_⟩⟩
   have e:=aCT (Nat.le_of_lt hn) hJ fun _=>h
   rw [decide_eq_true hn,Bool.true_and] at e
   refine af (fun h2=>?_) fun h2=>fin n (Nat.le_of_lt hn) ?_
   · rw [show ((l.getD n ([],())).1==s)=true from h2] at e
     rw [e];rfl
   · rw [show ((l.getD n ([],())).1==s)=false from h2] at e
     exact e
 · dsimp only
   refine dX (by omega) (dX (by omega) (fin l.length (Nat.le_refl _) ?_))
   have e:=aCT (Nat.le_refl _) hJ fun h=>by omega
   rw [decide_eq_false (by omega)] at e
   exact e
theorem aE2 (x:Sp.bY):Sp.lN x=(decide (8≤x.1)&&decide (x.1≤9)):=by
 unfold Sp.lN
 rw [Bool.eq_iff_iff]
 simp
 omega
theorem ach:aG prog G xQ yt:=by
 refine asE (aB (l:=[(lI, .pure kS),(iq, .pure fU),(yT, .pure BL)]) (au ah) (by simp only [List.forall_mem_cons];exact ⟨⟨J4,H7⟩,⟨rC,pF⟩,⟨ahu,afa⟩,fun x hx=>by cases hx⟩)) (fun ⟨q,neg,_⟩ hp=>⟨((((Sp.fP q neg).map fun s=>(s,()),()),())),⟨by show ((Sp.fP q neg).map _).length≤1000;rw [List.length_map];have:=Ih q neg (Sp.negated q).length;have:=Ii q;have hp:q.length≤1000:=hp;rw [Ig] at*;omega,fun s=>by show (s,())∈(Sp.fP q neg).map _↔_;simp⟩⟩) ?_
 intro q neg hin hp
 have hp:q.length≤1000:=hp
 have hnl:=Ii q
 refine ⟨hp,?_⟩
 refine eX (fun i (x:Sp.LS)=>((x,i,()),())) (fun y=>y.1.2.1) (fun _ _=>rfl) (Sp.negated q).length (by omega) (fun n l=>l.length≤n∧∀ s,(s,())∈l↔s∈OZ q neg n) ⟨Nat.le_refl _,fun s=>by simp [OZ]⟩ (fun I μ n l hn hJ next=>?_) fun I μ l hJ=>?_
 · obtain ⟨hl,hJ⟩:=hJ
   dsimp only
   have hnm:=aE2 (Sp.nodeAt q n)
   refine dW (by omega) ⟨⟨by omega,by omega⟩,trivial,af (fun h1=>⟨⟨by omega,by omega⟩,af (fun h2=>⟨⟨by omega,by omega⟩,by omega,rfl,next _ ?_⟩) fun h2=>⟨rfl,next _ ⟨by omega,?_⟩⟩⟩) fun h1=>⟨rfl,next _ ⟨by omega,?_⟩⟩⟩
   · have h1:(decide (8≤(Sp.nodeAt q n).1)&&decide ((Sp.nodeAt q n).1≤9))=true:=h1
     rw [avT (hnm.trans h1) (beq_iff_eq.1 h2)]
     refine ⟨Nat.le_trans (ahb _ _) (by omega),fun s=>?_⟩
     rw [Dk,List.mem_append,List.mem_singleton,hJ,Prod.mk.injEq]
     constructor
     · rintro (⟨h,_⟩|h)
       · exact .inr h
       · exact .inl h
     · rintro (h|h)
       · exact .inr h
       · exact .inl ⟨h,rfl⟩
   · rw [adz fun h=>by have h2:=beq_eq_false_iff_ne.1 h2;exact h2 h.2];exact hJ
   · rw [adz fun h=>by have h1:(decide (8≤(Sp.nodeAt q n).1)&&decide ((Sp.nodeAt q n).1≤9))=false:=h1;rw [hnm,h1] at h;cases h.1];exact hJ
 · obtain ⟨hl,hJ⟩:=hJ
   rw [Ig] at hJ
   dsimp only
   exact dX (by omega) ⟨by rw [dS];omega,by show l.length≤1000;omega,hJ⟩
theorem ahy:aG prog G yY BP:=by
 refine ahz (aB (l:=[(xQ, .eff (ax qH) yt)]) (au ah) (by simp only [List.forall_mem_cons];exact ⟨⟨ach,ZJ⟩,fun x hx=>by cases hx⟩)) (fun ⟨q,_⟩ hp=>⟨((((Sp.fP q false).map fun s=>(s,()),()),())),⟨by show ((Sp.fP q false).map _).length≤1000;rw [List.length_map];have:=Ih q false (Sp.negated q).length;have:=Ii q;have hp:q.length≤1000:=hp;rw [Ig] at*;omega,fun s=>by show (s,())∈(Sp.fP q false).map _↔_;simp⟩⟩) ?_
 intro q hin hp
 exact ⟨hp,fun r hr=>hr⟩
theorem ahA:aG prog G yX BQ:=by
 refine ahB (aB (l:=[(xQ, .eff (ax qH) yt)]) (au ah) (by simp only [List.forall_mem_cons];exact ⟨⟨ach,ZJ⟩,fun x hx=>by cases hx⟩)) (fun ⟨q,_⟩ hp=>⟨((((Sp.fP q true).map fun s=>(s,()),()),())),⟨by show ((Sp.fP q true).map _).length≤1000;rw [List.length_map];have:=Ih q true (Sp.negated q).length;have:=Ii q;have hp:q.length≤1000:=hp;rw [Ig] at*;omega,fun s=>by show (s,())∈(Sp.fP q true).map _↔_;simp⟩⟩) ?_
 intro q hin hp
 exact ⟨hp,fun r hr=>hr⟩
end Go.Proofs.Tryz
