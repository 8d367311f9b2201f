import Derived.Test.YtgbobfdlafkijaaGreatP6
import Derived.Test.YtgbobfdlafkijaaGreatL1
import Derived.Test.YtgbobfdlafkijaaGreatSp
namespace Go.Proofs.Tryz
open Go Go.Fw Go.IntWalk
def ajE (q:List Sp.iC) (neg:Bool) (i:Nat):Option Sp.Bytes:=bif Sp.KA (Sp.nodeAt q i)&&((Sp.negated q).getD i (false,())).1==neg then some (Sp.nodeAt q i).2.2.2.1 else none
def FK (q:List Sp.iC) (neg:Bool) (n:Nat):List Sp.Bytes:=(List.range n).filterMap (ajE q neg)
theorem Aa (q:List Sp.iC) (neg:Bool):FK q neg (Sp.negated q).length=Sp.fE q neg:=rfl
theorem ahP {q:List Sp.iC} {neg:Bool} {n:Nat} (h1:Sp.KA (Sp.nodeAt q n)=true) (h2:((Sp.negated q).getD n (false,())).1=neg):FK q neg (n+1)=FK q neg n++[(Sp.nodeAt q n).2.2.2.1]:=by
 unfold FK
 rw [List.range_succ,List.filterMap_append]
 congr 1
 show List.filterMap _ [n]=_
 rw [List.filterMap_cons]
 have:ajE q neg n=some (Sp.nodeAt q n).2.2.2.1:=by unfold ajE;rw [h1,h2];simp
 rw [this];rfl
theorem TQ {q:List Sp.iC} {neg:Bool} {n:Nat} (h:¬ (Sp.KA (Sp.nodeAt q n)=true∧((Sp.negated q).getD n (false,())).1=neg)):FK q neg (n+1)=FK q neg n:=by
 unfold FK
 rw [List.range_succ,List.filterMap_append]
 have:ajE q neg n=none:=by
  unfold ajE
  have:(Sp.KA (Sp.nodeAt q n)&&((Sp.negated q).getD n (false,())).1==neg)=false:=by
   rw [Bool.eq_false_iff]
   intro h'
   rw [Bool.and_eq_true,beq_iff_eq] at h'
   exact h h'
  rw [this];rfl
 rw [List.filterMap_cons,this]
 simp
theorem Ac (q:List Sp.iC) (neg:Bool) (n:Nat):(FK q neg n).length≤n:=by
 have:=List.length_filterMap_le (ajE q neg) (List.range n)
 rw [List.length_range] at this
 exact this
theorem Ad (q:List Sp.iC):(Sp.negated q).length≤q.length:=by
 cases h:Sp.iG q with
 |true=>rw [anJ h];exact Nat.le_refl _
 |false=>unfold Sp.negated;rw [h];exact Nat.zero_le _
theorem OH:aC prog G pF qf:=by
 refine adq (aF (l:=[(AX, .eff (aj qc) yR),(zJ, .pure AL),(rW, .pure vF)]) (aA ah) (by simp only [List.forall_mem_cons];exact ⟨⟨abk,Zf⟩,⟨afn,acZ⟩,⟨XK,Vo⟩,fun x hx=>by cases hx⟩)) (fun ⟨q,neg,_⟩ hp=>⟨((((Sp.fE q neg).map fun s=>(s,()),()),())),⟨by show ((Sp.fE q neg).map _).length≤1000;rw [List.length_map];have:=Ac q neg (Sp.negated q).length;have:=Ad q;have hp:q.length≤1000:=hp;rw [Aa] at*;omega,fun s=>by show (s,())∈(Sp.fE q neg).map _↔_;simp⟩⟩) ?_
 intro q neg hin hp
 have hp:q.length≤1000:=hp
 have hnl:=Ad q
 refine ⟨hp,?_⟩
 refine mM (fun i (x:Sp.LS)=>(((),i,()),x,())) (fun y=>y.1.2.1) (fun _ _=>rfl) (Sp.negated q).length (by omega) (fun n l=>l=(FK q neg n).map fun s=>(s,())) rfl (fun I μ n l hn hJ next=>?_) fun I μ l hJ=>?_
 · subst hJ
   have hl:=Ac q neg n
   dsimp only
   refine gW (by omega) ⟨⟨by omega,by omega⟩,⟨by omega,by omega⟩,trivial,af (fun h1=>af (fun h2=>⟨⟨by omega,by omega⟩,?_,rfl,next _ ?_⟩) fun h2=>⟨rfl,next _ ?_⟩) fun h1=>⟨rfl,next _ ?_⟩⟩
   · rw [fD];simp only [List.length_cons,List.length_nil,List.length_map];omega
   · rw [ahP (show Sp.KA (Sp.nodeAt q n)=true from h1) (beq_iff_eq.1 h2),List.map_append];rfl
   · rw [TQ fun h=>by have h2:=beq_eq_false_iff_ne.1 h2;exact h2 h.2]
   · rw [TQ fun h=>by have h1:Sp.KA (Sp.nodeAt q n)=false:=h1;rw [h1] at h;cases h.1]
 · subst hJ
   have hl:=Ac q neg (Sp.negated q).length
   rw [Aa] at hl ⊢
   dsimp only
   refine gX (by omega) ⟨by rw [List.length_map];omega,?_⟩
   rintro ⟨⟨r,⟨⟩⟩,⟨⟩⟩ ⟨h1,h2⟩
   have h1:r.length≤((Sp.fE q neg).map fun s=>(s,())).length:=h1
   rw [List.length_map] at h1
   refine ⟨by show r.length≤1000;omega,fun s=>?_⟩
   have:=h2 (s,())
   show (s,())∈r↔_
   rw [this];simp
theorem Xr:aC prog G rZ vG:=by
 refine XP (aF (l:=[(pF, .eff (aj kL) qf)]) (aA ah) (by simp only [List.forall_mem_cons];exact ⟨⟨OH,Nh⟩,fun x hx=>by cases hx⟩)) (fun ⟨q,_⟩ hp=>⟨((((Sp.fE q false).map fun s=>(s,()),()),())),⟨by show ((Sp.fE q false).map _).length≤1000;rw [List.length_map];have:=Ac q false (Sp.negated q).length;have:=Ad q;have hp:q.length≤1000:=hp;rw [Aa] at*;omega,fun s=>by show (s,())∈(Sp.fE q false).map _↔_;simp⟩⟩) ?_
 intro q hin hp
 exact ⟨hp,fun r hr=>hr⟩
theorem Xq:aC prog G rY vH:=by
 refine XQ (aF (l:=[(pF, .eff (aj kL) qf)]) (aA ah) (by simp only [List.forall_mem_cons];exact ⟨⟨OH,Nh⟩,fun x hx=>by cases hx⟩)) (fun ⟨q,_⟩ hp=>⟨((((Sp.fE q true).map fun s=>(s,()),()),())),⟨by show ((Sp.fE q true).map _).length≤1000;rw [List.length_map];have:=Ac q true (Sp.negated q).length;have:=Ad q;have hp:q.length≤1000:=hp;rw [Aa] at*;omega,fun s=>by show (s,())∈(Sp.fE q true).map _↔_;simp⟩⟩) ?_
 intro q hin hp
 exact ⟨hp,fun r hr=>hr⟩
theorem aoc {l:Sp.LS} {s:Sp.Bytes} {m:Nat} (hm:m≤l.length) (h1:∀ i,i<m→Op.bytesLess (l.getD i ([],())).1 s=true) (h2:m<l.length→Op.bytesLess (l.getD m ([],())).1 s=false):
 Sp.PZ l s=bif decide (m<l.length)&&(l.getD m ([],())).1==s then l else l.take m++[(s,())]++l.drop m:=by
 obtain ⟨e1,_⟩:=Sp.QU (d:=(([]:List UInt8),())) l m hm (p:=fun x=>Op.bytesLess x.1 s) h1 h2
 unfold Sp.PZ
 rw [e1]
 have:(l.take m).length=m:=by rw [List.length_take];omega
 rw [this]
theorem aqr {l:Sp.LS} {s:Sp.Bytes} (x:Sp.Bytes×Unit):x∈Sp.PZ l s↔x=(s,())∨x∈l:=by
 unfold Sp.PZ
 dsimp only
 generalize (l.takeWhile fun x=>Op.bytesLess x.1 s).length=n
 cases h:decide (n<l.length)&&(l.getD n ([],())).1==s with
 |true=>
  rw [Bool.and_eq_true,beq_iff_eq] at h
  refine ⟨.inr,fun hx=>?_⟩
  rcases hx with rfl|hx
  · have:=getD_mem (d:=(([]:List UInt8),())) (iV h.1)
    rw [show l.getD n ([],())=(s,()) from Prod.ext h.2 rfl] at this
    exact this
  · exact hx
 |false=>
  show x∈l.take n++[(s,())]++l.drop n↔_
  rw [List.mem_append,List.mem_append,List.mem_singleton]
  conv=>rhs;rw [← List.take_append_drop n l,List.mem_append]
  constructor
  · rintro ((h|h)|h)
    · exact .inr (.inl h)
    · exact .inl h
    · exact .inr (.inr h)
  · rintro (h|h|h)
    · exact .inl (.inr h)
    · exact .inl (.inl h)
    · exact .inr h
theorem aqs (l:Sp.LS) (s:Sp.Bytes):(Sp.PZ l s).length≤l.length+1:=by
 unfold Sp.PZ
 dsimp only
 generalize (l.takeWhile fun x=>Op.bytesLess x.1 s).length=n
 cases decide (n<l.length)&&(l.getD n ([],())).1==s with
 |true=>exact Nat.le_succ _
 |false=>show (l.take n++[(s,())]++l.drop n).length≤_;simp;omega
theorem ajF:aG prog G DR EI:=by
 refine ajG (aF (l:=[]) (aA ah) (fun x hx=>by cases hx)) ?_
 intro l s hin hp
 have hp:l.length≤1000:=hp
 have fin:∀ m:Nat,m≤l.length→Sp.PZ l s=l.take m++[(s,())]++l.drop m→((0:Int)≤m∧(m:Int)≤l.length)∧0+(List.drop 0 (List.take m l)).length≤big∧(List.drop 0 (List.take m l)).length+[(s,())].length≤big∧((0:Int)≤m∧(m:Int)≤l.length)∧
  (List.drop 0 (List.take m l)++[(s,())]).length+(List.drop m (List.take l.length l)).length≤big∧(List.drop 0 (List.take m l)++[(s,())]++List.drop m (List.take l.length l),())=(Sp.PZ l s,()):=by
  intro m hm h
  refine ⟨⟨by omega,by omega⟩,?_,?_,⟨by omega,by omega⟩,?_,?_⟩
  · rw [fD];simp only [List.length_drop,List.length_take];omega
  · rw [fD];simp only [List.length_drop,List.length_take,List.length_cons,List.length_nil];omega
  · rw [fD];simp only [List.length_append,List.length_drop,List.length_take,List.length_cons,List.length_nil];omega
  · rw [h,List.take_length,List.drop_zero]
 refine jL l.length (by omega) (fun n=>∀ i,i<n→Op.bytesLess (l.getD i ([],())).1 s=true) (fun i hi=>by omega) (fun I μ n hn hJ next=>?_) fun I μ hJ=>?_
 · dsimp only
   refine gW (by omega) ⟨⟨by omega,by omega⟩,af (fun h=>⟨rfl,next (cZ (f:=fun i=>Op.bytesLess (l.getD i ([],())).1 s) hJ h)⟩) fun h=>gW (by omega) ⟨⟨by omega,by omega⟩,?_⟩⟩
   have e:=aoc (Nat.le_of_lt hn) hJ fun _=>h
   rw [decide_eq_true hn,Bool.true_and] at e
   refine af (fun h2=>?_) fun h2=>fin n (Nat.le_of_lt hn) ?_
   · rw [show ((l.getD n ([],())).1==s)=true from h2] at e
     rw [e];rfl
   · rw [show ((l.getD n ([],())).1==s)=false from h2] at e
     exact e
 · dsimp only
   refine gX (by omega) (gX (by omega) (fin l.length (Nat.le_refl _) ?_))
   have e:=aoc (Nat.le_refl _) hJ fun h=>by omega
   rw [decide_eq_false (by omega)] at e
   exact e
theorem apZ (x:Sp.iC):Sp.KA x=(decide (8≤x.1)&&decide (x.1≤9)):=by
 unfold Sp.KA
 rw [Bool.eq_iff_iff]
 simp
 omega
theorem Q5:aC prog G qP rF:=by
 refine afq (aF (l:=[(DR, .pure EI),(fC, .pure dV),(rX, .pure vC)]) (aA ah) (by simp only [List.forall_mem_cons];exact ⟨⟨ajF,ag7⟩,⟨o9,nG⟩,⟨XM,Vm⟩,fun x hx=>by cases hx⟩)) (fun ⟨q,neg,_⟩ hp=>⟨((((Sp.fE q neg).map fun s=>(s,()),()),())),⟨by show ((Sp.fE q neg).map _).length≤1000;rw [List.length_map];have:=Ac q neg (Sp.negated q).length;have:=Ad q;have hp:q.length≤1000:=hp;rw [Aa] at*;omega,fun s=>by show (s,())∈(Sp.fE q neg).map _↔_;simp⟩⟩) ?_
 intro q neg hin hp
 have hp:q.length≤1000:=hp
 have hnl:=Ad q
 refine ⟨hp,?_⟩
 refine mM (fun i (x:Sp.LS)=>((x,i,()),())) (fun y=>y.1.2.1) (fun _ _=>rfl) (Sp.negated q).length (by omega) (fun n l=>l.length≤n∧∀ s,(s,())∈l↔s∈FK q neg n) ⟨Nat.le_refl _,fun s=>by simp [FK]⟩ (fun I μ n l hn hJ next=>?_) fun I μ l hJ=>?_
 · obtain ⟨hl,hJ⟩:=hJ
   dsimp only
   have hnm:=apZ (Sp.nodeAt q n)
   refine gW (by omega) ⟨⟨by omega,by omega⟩,trivial,af (fun h1=>⟨⟨by omega,by omega⟩,af (fun h2=>⟨⟨by omega,by omega⟩,by omega,rfl,next _ ?_⟩) fun h2=>⟨rfl,next _ ⟨by omega,?_⟩⟩⟩) fun h1=>⟨rfl,next _ ⟨by omega,?_⟩⟩⟩
   · have h1:(decide (8≤(Sp.nodeAt q n).1)&&decide ((Sp.nodeAt q n).1≤9))=true:=h1
     rw [ahP (hnm.trans h1) (beq_iff_eq.1 h2)]
     refine ⟨Nat.le_trans (aqs _ _) (by omega),fun s=>?_⟩
     rw [aqr,List.mem_append,List.mem_singleton,hJ,Prod.mk.injEq]
     constructor
     · rintro (⟨h,_⟩|h)
       · exact .inr h
       · exact .inl h
     · rintro (h|h)
       · exact .inr h
       · exact .inl ⟨h,rfl⟩
   · rw [TQ fun h=>by have h2:=beq_eq_false_iff_ne.1 h2;exact h2 h.2];exact hJ
   · rw [TQ fun h=>by have h1:(decide (8≤(Sp.nodeAt q n).1)&&decide ((Sp.nodeAt q n).1≤9))=false:=h1;rw [hnm,h1] at h;cases h.1];exact hJ
 · obtain ⟨hl,hJ⟩:=hJ
   rw [Aa] at hJ
   dsimp only
   exact gX (by omega) ⟨by rw [fD];omega,by show l.length≤1000;omega,hJ⟩
theorem XR:aC prog G sD vI:=by
 refine XT (aF (l:=[(qP, .eff (aj lX) rF)]) (aA ah) (by simp only [List.forall_mem_cons];exact ⟨⟨Q5,OE⟩,fun x hx=>by cases hx⟩)) (fun ⟨q,_⟩ hp=>⟨((((Sp.fE q false).map fun s=>(s,()),()),())),⟨by show ((Sp.fE q false).map _).length≤1000;rw [List.length_map];have:=Ac q false (Sp.negated q).length;have:=Ad q;have hp:q.length≤1000:=hp;rw [Aa] at*;omega,fun s=>by show (s,())∈(Sp.fE q false).map _↔_;simp⟩⟩) ?_
 intro q hin hp
 exact ⟨hp,fun r hr=>hr⟩
theorem XU:aC prog G su vJ:=by
 refine XV (aF (l:=[(qP, .eff (aj lX) rF)]) (aA ah) (by simp only [List.forall_mem_cons];exact ⟨⟨Q5,OE⟩,fun x hx=>by cases hx⟩)) (fun ⟨q,_⟩ hp=>⟨((((Sp.fE q true).map fun s=>(s,()),()),())),⟨by show ((Sp.fE q true).map _).length≤1000;rw [List.length_map];have:=Ac q true (Sp.negated q).length;have:=Ad q;have hp:q.length≤1000:=hp;rw [Aa] at*;omega,fun s=>by show (s,())∈(Sp.fE q true).map _↔_;simp⟩⟩) ?_
 intro q hin hp
 exact ⟨hp,fun r hr=>hr⟩
end Go.Proofs.Tryz
