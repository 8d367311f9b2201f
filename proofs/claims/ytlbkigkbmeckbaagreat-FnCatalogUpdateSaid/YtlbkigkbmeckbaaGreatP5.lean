import Derived.Test.YtlbkigkbmeckbaaGreatP4
namespace Go.Proofs.Tryz
open Go Go.Fw Go.IntWalk
theorem UB (a:Int) (x:Sp.bH):(Sp.refsOf a x:Int)=(if (x.1=6∨x.1=7∨x.1=5)∧x.2.1=a then 1 else 0)+(if (x.1=6∨x.1=7)∧x.2.2.1=a then 1 else 0):=by
 unfold Sp.refsOf Sp.jP
 by_cases h6:x.1=6<;>by_cases h7:x.1=7<;>by_cases h5:x.1=5<;>by_cases hl:x.2.1=a<;>by_cases hr:x.2.2.1=a<;>simp [cond_eq_ite,h6,h7,h5,hl,hr]
theorem atG (a:Int) (x:Sp.bH):Sp.refsOf a x≤2:=by
 have:=UB a x
 split at this<;>split at this<;>omega
def qo (q:List Sp.bH) (a:Int) (n:Nat):Nat:=((q.take n).map (Sp.refsOf a)).sum
theorem Qd (q:List Sp.bH) (a:Int) {n:Nat} (hn:n<q.length):qo q a (n+1)=qo q a n+Sp.refsOf a (Sp.nodeAt q n):=by
 unfold qo
 rw [Sp.take_succ' q n (0,0,0,[],0,0,[],()) hn]
 simp only [List.map_append,List.sum_append,List.map_cons,List.map_nil,List.sum_cons,List.sum_nil,Nat.add_zero]
 rfl
theorem ZN (q:List Sp.bH) (a:Int):∀ n,n≤q.length→qo q a n≤2*n
 |0,_=>by simp [qo]
 |n+1,h=>by
  rw [Qd q a (by omega)]
  have:=ZN q a n (by omega)
  have:=atG a (Sp.nodeAt q n)
  omega
theorem ah3 (q:List Sp.bH) (a:Int):qo q a q.length=Sp.pG q a:=by unfold qo Sp.pG;rw [List.take_length]
theorem N8:ai prog G qi.e:=by
 refine N9 (aj ah trivial) ?_
 intro q a hin hp
 dsimp only [qi] at hp ⊢
 have hp:q.length≤1000000:=hp
 refine dI (fun i (c:Int)=>((c,i,()),())) (fun y=>y.1.2.1) (fun _ _=>rfl) q.length (by omega) (fun n c=>c=(qo q a n:Int)) rfl (fun I μ n c hn hJ next=>?_) fun I μ c hJ=>?_
 · subst hJ
   have hs:=Qd q a hn
   have hb:=ZN q a n (by omega)
   have hr:=UB a (Sp.nodeAt q n)
   dsimp only
   rw [Int.toNat_natCast]
   have e:q.getD n (0,0,0,[],0,0,[],())=Sp.nodeAt q n:=rfl
   rw [e]
   have w1:IntKind.i64.wrap ((qo q a n:Int)+1)=(qo q a n:Int)+1:=fO _ (by omega)
   have w2:IntKind.i64.wrap ((qo q a n:Int)+1+1)=(qo q a n:Int)+1+1:=fO _ (by omega)
   refine dh (by omega) ⟨⟨by omega,by omega⟩,af (fun h6=>⟨fun y=>y=(((qo q a n:Int)+(if (Sp.nodeAt q n).2.1=a then 1 else 0),()),()),⟨⟨by omega,by omega⟩,af (fun hl=>⟨rfl,?_⟩) fun hl=>⟨rfl,?_⟩⟩,?_⟩) fun h6=>⟨⟨by omega,by omega⟩,fun y=>y=(((qo q a n:Int)+(if ((Sp.nodeAt q n).1=7∨(Sp.nodeAt q n).1=5)∧(Sp.nodeAt q n).2.1=a then 1 else 0),()),()),?_,?_⟩⟩
   · simp only [beq_iff_eq] at hl;rw [w1,if_pos hl]
   · simp only [beq_eq_false_iff_ne] at hl;rw [if_neg hl,Int.add_zero]
   · rintro _ rfl
     simp only [beq_iff_eq] at h6
     refine ⟨⟨by omega,by omega⟩,af (fun hrr=>⟨rfl,next _ ?_⟩) fun hrr=>⟨rfl,next _ ?_⟩⟩
     all_goals
      dsimp only
      simp only [beq_iff_eq,beq_eq_false_iff_ne,ne_eq] at hrr
      by_cases hl:(Sp.nodeAt q n).2.1=a<;>simp [h6,hl,hrr] at hr<;>simp only [hl,if_true,if_false,Int.add_zero,w1,w2]<;>omega
   · simp only [beq_eq_false_iff_ne,ne_eq] at h6
     refine af (fun h7=>⟨⟨by omega,by omega⟩,af (fun hl=>⟨rfl,?_⟩) fun hl=>⟨rfl,?_⟩⟩) fun h7=>⟨⟨by omega,by omega⟩,af (fun h5=>⟨⟨by omega,by omega⟩,af (fun hl=>⟨rfl,?_⟩) fun hl=>⟨rfl,?_⟩⟩) fun h5=>⟨rfl,?_⟩⟩
     all_goals simp_all
   · rintro _ rfl
     simp only [beq_eq_false_iff_ne,ne_eq] at h6
     refine af (fun h7=>⟨⟨by omega,by omega⟩,af (fun hrr=>⟨rfl,next _ ?_⟩) fun hrr=>⟨rfl,next _ ?_⟩⟩) fun h7=>⟨rfl,next _ ?_⟩
     · simp only [beq_iff_eq] at h7 hrr
       by_cases hl:(Sp.nodeAt q n).2.1=a<;>simp [h6,h7,hl,hrr] at hr<;>simp only [h7,hl,true_or,and_self,and_false,if_true,if_false,Int.add_zero,w1,w2]<;>omega
     · simp only [beq_iff_eq,beq_eq_false_iff_ne,ne_eq] at h7 hrr
       by_cases hl:(Sp.nodeAt q n).2.1=a<;>simp [h6,h7,hl,hrr] at hr<;>simp only [h7,hl,true_or,and_self,and_false,if_true,if_false,Int.add_zero,w1,w2]<;>omega
     · simp only [beq_eq_false_iff_ne,ne_eq] at h7
       dsimp only
       by_cases h5:(Sp.nodeAt q n).1=5<;>by_cases hl:(Sp.nodeAt q n).2.1=a<;>simp [h6,h7,h5,hl] at hr<;>simp [h7,h5,hl]<;>omega
 · dsimp only
   refine dm (by omega) ?_
   rw [hJ,ah3]
theorem Oa:ai prog G qj.e:=by
 refine Ob (aj ah trivial) ?_
 intro q a hin hp
 dsimp only [qj] at hp ⊢
 have hp:q.length≤1000000:=hp
 refine dI (fun i (c:Int)=>((c,i,()),())) (fun y=>y.1.2.1) (fun _ _=>rfl) q.length (by omega) (fun n c=>c=(qo q a n:Int)) rfl (fun I μ n c hn hJ next=>?_) fun I μ c hJ=>?_
 · subst hJ
   have hs:=Qd q a hn
   have hb:=ZN q a n (by omega)
   have hr:=UB a (Sp.nodeAt q n)
   dsimp only
   rw [Int.toNat_natCast]
   have e:q.getD n (0,0,0,[],0,0,[],())=Sp.nodeAt q n:=rfl
   rw [e]
   have w1:IntKind.i64.wrap ((qo q a n:Int)+1)=(qo q a n:Int)+1:=fO _ (by omega)
   have w2:IntKind.i64.wrap ((qo q a n:Int)+1+1)=(qo q a n:Int)+1+1:=fO _ (by omega)
   refine dh (by omega) ⟨⟨by omega,by omega⟩,af (fun h6=>⟨fun y=>y=(((qo q a n:Int)+(if (Sp.nodeAt q n).2.1=a then 1 else 0),()),()),af (fun hl=>⟨rfl,?_⟩) fun hl=>⟨rfl,?_⟩,?_⟩) fun h6=>⟨fun y=>y=(((qo q a n:Int)+(if ((Sp.nodeAt q n).1=7∨(Sp.nodeAt q n).1=5)∧(Sp.nodeAt q n).2.1=a then 1 else 0),()),()),?_,?_⟩⟩
   · simp only [beq_iff_eq] at hl;rw [w1,if_pos hl]
   · simp only [beq_eq_false_iff_ne] at hl;rw [if_neg hl,Int.add_zero]
   · rintro _ rfl
     simp only [beq_iff_eq] at h6
     refine af (fun hrr=>⟨rfl,next _ ?_⟩) fun hrr=>⟨rfl,next _ ?_⟩
     all_goals
      dsimp only
      simp only [beq_iff_eq,beq_eq_false_iff_ne,ne_eq] at hrr
      by_cases hl:(Sp.nodeAt q n).2.1=a<;>simp [h6,hl,hrr] at hr<;>simp only [hl,if_true,if_false,Int.add_zero,w1,w2]<;>omega
   · simp only [beq_eq_false_iff_ne,ne_eq] at h6
     refine af (fun hl=>af (fun h7=>⟨rfl,?_⟩) fun h7=>af (fun h5=>⟨rfl,?_⟩) fun h5=>⟨rfl,?_⟩) fun hl=>⟨rfl,?_⟩
     all_goals simp_all
   · rintro _ rfl
     simp only [beq_eq_false_iff_ne,ne_eq] at h6
     refine af (fun hrr=>af (fun h7=>⟨rfl,next _ ?_⟩) fun h7=>⟨rfl,next _ ?_⟩) fun hrr=>⟨rfl,next _ ?_⟩
     · simp only [beq_iff_eq] at h7 hrr
       by_cases hl:(Sp.nodeAt q n).2.1=a<;>simp [h6,h7,hl,hrr] at hr<;>simp only [h7,hl,true_or,and_self,and_false,if_true,if_false,Int.add_zero,w1,w2]<;>omega
     · simp only [beq_eq_false_iff_ne,ne_eq] at h7
       dsimp only
       by_cases h5:(Sp.nodeAt q n).1=5<;>by_cases hl:(Sp.nodeAt q n).2.1=a<;>simp [h6,h7,h5,hl] at hr<;>simp [h7,h5,hl]<;>omega
     · simp only [beq_eq_false_iff_ne,ne_eq] at hrr
       dsimp only
       by_cases h7:(Sp.nodeAt q n).1=7<;>by_cases h5:(Sp.nodeAt q n).1=5<;>by_cases hl:(Sp.nodeAt q n).2.1=a<;>simp [h6,h7,h5,hl,hrr] at hr<;>simp [h7,h5,hl]<;>omega
 · dsimp only
   refine dm (by omega) ?_
   rw [hJ,ah3]
theorem ah4 {q:List Sp.bH} {n:Nat} (hn:n<q.length) (h:Sp.nM q n=false):Sp.bQ q=false:=by
 unfold Sp.bQ;rw [Di hn h];rfl
theorem CG:ai prog G lN.e:=by
 refine UC (aj ah ⟨nP,N8,WQ,trivial⟩) ?_
 intro q hin hp
 dsimp only [lN] at hp ⊢
 have hp:q.length≤1000000:=hp
 refine iU q.length (by omega) (fun n=>∀ i,i<n→Sp.nM q i=true) (fun i hi=>by omega) (fun I μ n hn hJ next=>?_) fun I μ hJ=>?_
 · dsimp only
   have no:Sp.nM q n=false→(false,())=(Sp.bQ q,()):=fun h=>by rw [ah4 hn h]
   rw [yO (show 0<q.length by omega) (by omega)]
   refine dh (by omega) ⟨⟨by omega,by omega⟩,trivial,af (fun h2=>no ?_) fun h2=>af (fun h3=>⟨hp,af (fun h4=>no ?_) fun h4=>⟨rfl,next (fB hJ ?_)⟩⟩) fun h3=>⟨rfl,next (fB hJ ?_)⟩⟩
   · have h2:Sp.kJ (Sp.nodeAt q n) n=false:=fV h2
     unfold Sp.nM;rw [h2];rfl
   · have h2:Sp.kJ (Sp.nodeAt q n) n=true:=dO h2
     have h4:(Sp.pG q n:Int)≠1:=by simpa using h4
     have h3:(n:Int)<(q.length:Int)-1:=by have:=gm h3;omega
     unfold Sp.nM
     simp only [h3,h2]
     simp;omega
   · have h2:Sp.kJ (Sp.nodeAt q n) n=true:=dO h2
     have h4:(Sp.pG q n:Int)=1:=by simpa using h4
     have h4:Sp.pG q n=1:=by omega
     unfold Sp.nM
     simp [h2,h4]
   · have h2:Sp.kJ (Sp.nodeAt q n) n=true:=dO h2
     have h3:¬ (n:Int)<(q.length:Int)-1:=by have:=gU h3;omega
     unfold Sp.nM
     simp [h2,h3]
 · dsimp only
   refine dm (by omega) ⟨trivial,congrArg (·,()) ?_⟩
   unfold Sp.bQ
   rw [qm hJ];rfl
theorem CB:ai prog G lQ.e:=by
 refine UD (aj ah ⟨vg,Oa,WN,trivial⟩) ?_
 intro q hin hp
 dsimp only [lQ] at hp ⊢
 have hp:q.length≤1000000:=hp
 refine iU q.length (by omega) (fun n=>∀ i,i<n→Sp.nM q i=true) (fun i hi=>by omega) (fun I μ n hn hJ next=>?_) fun I μ hJ=>?_
 · dsimp only
   have no:Sp.nM q n=false→(false,())=(Sp.bQ q,()):=fun h=>by rw [ah4 hn h]
   rw [yO (show 0<q.length by omega) (by omega)]
   refine dh (by omega) ⟨⟨by omega,by omega⟩,trivial,af (fun h2=>no ?_) fun h2=>af (fun h3=>⟨hp,af (fun h4=>no ?_) fun h4=>⟨rfl,next (fB hJ ?_)⟩⟩) fun h3=>⟨rfl,next (fB hJ ?_)⟩⟩
   · have h2:Sp.kJ (Sp.nodeAt q n) n=false:=fV h2
     unfold Sp.nM;rw [h2];rfl
   · have h2:Sp.kJ (Sp.nodeAt q n) n=true:=dO h2
     have h4:(Sp.pG q n:Int)≠1:=by simpa using h4
     have h3:(n:Int)<(q.length:Int)-1:=by have:=gm h3;omega
     unfold Sp.nM
     simp only [h3,h2]
     simp;omega
   · have h2:Sp.kJ (Sp.nodeAt q n) n=true:=dO h2
     have h4:(Sp.pG q n:Int)=1:=by simpa using h4
     have h4:Sp.pG q n=1:=by omega
     unfold Sp.nM
     simp [h2,h4]
   · have h2:Sp.kJ (Sp.nodeAt q n) n=true:=dO h2
     have h3:¬ (n:Int)<(q.length:Int)-1:=by have:=gU h3;omega
     unfold Sp.nM
     simp [h2,h3]
 · dsimp only
   refine dm (by omega) ⟨trivial,congrArg (·,()) ?_⟩
   unfold Sp.bQ
   rw [qm hJ];rfl
theorem alD {d:List Sp.aQ} {n:Nat} (hn:n<d.length) (h:Sp.oq d n=false):Sp.gB d=false:=by
 unfold Sp.gB;rw [Di hn h];rfl
theorem V4:ai prog G vN.e:=by
 refine WS (aj ah ⟨CG,Bz,trivial⟩) ?_
 intro d hin hp
 dsimp only [vN] at hp ⊢
 have hp:Sp.aS d:=hp
 have hlen:d.length≤1000:=hp.1
 refine iU d.length (by omega) (fun n=>∀ i,i<n→Sp.oq d i=true) (fun i hi=>by omega) (fun I μ n hn hJ next=>?_) fun I μ hJ=>?_
 · dsimp only
   have no:Sp.oq d n=false→(false,())=(Sp.gB d,()):=fun h=>by rw [alD hn h]
   have hq:(Sp.dV d n).2.1.length≤1000000:=Nat.le_trans (qR hp hn) (by omega)
   refine dh (by omega) ⟨⟨by omega,by omega⟩,trivial,af (fun h2=>no ?_) fun h2=>⟨⟨by omega,by omega⟩,hq,af (fun h3=>no ?_) fun h3=>af (fun h4=>?_) fun h4=>⟨rfl,next (fB hJ ?_)⟩⟩⟩
   · have h2:Sp.iL (Sp.dV d n).1=false:=fV h2
     unfold Sp.oq;rw [h2];rfl
   · have h3:Sp.bQ (Sp.dV d n).2.1=false:=fV h3
     unfold Sp.oq;rw [h3];simp
   · have h2:Sp.iL (Sp.dV d n).1=true:=dO h2
     have h3:Sp.bQ (Sp.dV d n).2.1=true:=dO h3
     have h4:0<n:=by have:=gm h4;omega
     rw [yO h4 (by omega)]
     refine ⟨⟨by omega,by omega⟩,⟨by omega,by omega⟩,af (fun h5=>no ?_) fun h5=>⟨rfl,next (fB hJ ?_)⟩⟩
     · have h5:Op.bytesLess (Sp.dV d (n-1)).1 (Sp.dV d n).1=false:=fV h5
       unfold Sp.oq;rw [h2,h3,h5,decide_eq_true h4];rfl
     · have h5:Op.bytesLess (Sp.dV d (n-1)).1 (Sp.dV d n).1=true:=dO h5
       unfold Sp.oq;rw [h2,h3,h5,decide_eq_true h4];rfl
   · have h2:Sp.iL (Sp.dV d n).1=true:=dO h2
     have h3:Sp.bQ (Sp.dV d n).2.1=true:=dO h3
     have h4:¬ 0<n:=by have:=gU h4;omega
     unfold Sp.oq;rw [h2,h3,decide_eq_false h4];rfl
 · dsimp only
   refine dm (by omega) (congrArg (·,()) ?_)
   unfold Sp.gB
   rw [qm hJ];rfl
theorem V6:ai prog G vO.e:=by
 refine WT (aj ah ⟨CB,BA,trivial⟩) ?_
 intro d hin hp
 dsimp only [vO] at hp ⊢
 have hp:Sp.aS d:=hp
 have hlen:d.length≤1000:=hp.1
 refine iU d.length (by omega) (fun n=>∀ i,i<n→Sp.oq d i=true) (fun i hi=>by omega) (fun I μ n hn hJ next=>?_) fun I μ hJ=>?_
 · dsimp only
   have no:Sp.oq d n=false→(false,())=(Sp.gB d,()):=fun h=>by rw [alD hn h]
   have hq:(Sp.dV d n).2.1.length≤1000000:=Nat.le_trans (qR hp hn) (by omega)
   refine dh (by omega) ⟨⟨by omega,by omega⟩,trivial,af (fun h2=>no ?_) fun h2=>af (fun h4=>?_) fun h4=>⟨hq,af (fun h3=>no ?_) fun h3=>⟨rfl,next (fB hJ ?_)⟩⟩⟩
   · have h2:Sp.iL (Sp.dV d n).1=false:=fV h2
     unfold Sp.oq;rw [h2];rfl
   · have h2:Sp.iL (Sp.dV d n).1=true:=dO h2
     have h4:0<n:=by have:=gm h4;omega
     rw [yO h4 (by omega)]
     refine ⟨⟨by omega,by omega⟩,af (fun h5=>no ?_) fun h5=>⟨hq,af (fun h3=>no ?_) fun h3=>⟨rfl,next (fB hJ ?_)⟩⟩⟩
     · have h5:Op.bytesLess (Sp.dV d (n-1)).1 (Sp.dV d n).1=false:=fV h5
       unfold Sp.oq;rw [h5,decide_eq_true h4];simp
     · have h3:Sp.bQ (Sp.dV d n).2.1=false:=fV h3
       unfold Sp.oq;rw [h3];simp
     · have h3:Sp.bQ (Sp.dV d n).2.1=true:=dO h3
       have h5:Op.bytesLess (Sp.dV d (n-1)).1 (Sp.dV d n).1=true:=dO h5
       unfold Sp.oq;rw [h2,h3,h5,decide_eq_true h4];rfl
   · have h3:Sp.bQ (Sp.dV d n).2.1=false:=fV h3
     unfold Sp.oq;rw [h3];simp
   · have h2:Sp.iL (Sp.dV d n).1=true:=dO h2
     have h3:Sp.bQ (Sp.dV d n).2.1=true:=dO h3
     have h4:¬ 0<n:=by have:=gU h4;omega
     unfold Sp.oq;rw [h2,h3,decide_eq_false h4];rfl
 · dsimp only
   refine dm (by omega) (congrArg (·,()) ?_)
   unfold Sp.gB
   rw [qm hJ];rfl
end Go.Proofs.Tryz
