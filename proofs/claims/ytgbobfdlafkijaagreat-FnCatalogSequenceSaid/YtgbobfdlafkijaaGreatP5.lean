import Derived.Test.YtgbobfdlafkijaaGreatP4
namespace Go.Proofs.Tryz
open Go Go.Fw Go.IntWalk
theorem ahp (a:Int) (x:Sp.bY):(Sp.refsOf a x:Int)=(if (x.1=6∨x.1=7∨x.1=5)∧x.2.1=a then 1 else 0)+(if (x.1=6∨x.1=7)∧x.2.2.1=a then 1 else 0):=by
 unfold Sp.refsOf Sp.mg
 by_cases h6:x.1=6<;>by_cases h7:x.1=7<;>by_cases h5:x.1=5<;>by_cases hl:x.2.1=a<;>by_cases hr:x.2.2.1=a<;>simp [cond_eq_ite,h6,h7,h5,hl,hr]
theorem aGE (a:Int) (x:Sp.bY):Sp.refsOf a x≤2:=by
 have:=ahp a x
 split at this<;>split at this<;>omega
def uS (q:List Sp.bY) (a:Int) (n:Nat):Nat:=((q.take n).map (Sp.refsOf a)).sum
theorem aej (q:List Sp.bY) (a:Int) {n:Nat} (hn:n<q.length):uS q a (n+1)=uS q a n+Sp.refsOf a (Sp.nodeAt q n):=by
 unfold uS
 rw [Sp.take_succ' q n (0,0,0,[],0,0,[],()) hn]
 simp only [List.map_append,List.sum_append,List.map_cons,List.map_nil,List.sum_cons,List.sum_nil,Nat.add_zero]
 rfl
theorem amP (q:List Sp.bY) (a:Int):∀ n,n≤q.length→uS q a n≤2*n
 |0,_=>by simp [uS]
 |n+1,h=>by
  rw [aej q a (by omega)]
  have:=amP q a n (by omega)
  have:=aGE a (Sp.nodeAt q n)
  omega
theorem avQ (q:List Sp.bY) (a:Int):uS q a q.length=Sp.pK q a:=by unfold uS Sp.pK;rw [List.take_length]
theorem acI:aA prog G uN xI:=by
 refine acJ (aB (l:=[]) (au ah) (fun x hx=>by cases hx)) ?_
 intro q a hin hp
 have hp:q.length≤1000000:=hp
 refine eX (fun i (c:Int)=>((c,i,()),())) (fun y=>y.1.2.1) (fun _ _=>rfl) q.length (by omega) (fun n c=>c=(uS q a n:Int)) rfl (fun I μ n c hn hJ next=>?_) fun I μ c hJ=>?_
 · subst hJ
   have hs:=aej q a hn
   have hb:=amP q a n (by omega)
   have hr:=ahp a (Sp.nodeAt q n)
   dsimp only
   rw [Int.toNat_natCast]
   have e:q.getD n (0,0,0,[],0,0,[],())=Sp.nodeAt q n:=rfl
   rw [e]
   have w1:IntKind.i64.wrap ((uS q a n:Int)+1)=(uS q a n:Int)+1:=iL _ (by omega)
   have w2:IntKind.i64.wrap ((uS q a n:Int)+1+1)=(uS q a n:Int)+1+1:=iL _ (by omega)
   refine dW (by omega) ⟨⟨by omega,by omega⟩,af (fun h6=>⟨fun y=>y=(((uS q a n:Int)+(if (Sp.nodeAt q n).2.1=a then 1 else 0),()),()),⟨⟨by omega,by omega⟩,af (fun hl=>⟨rfl,?_⟩) fun hl=>⟨rfl,?_⟩⟩,?_⟩) fun h6=>⟨⟨by omega,by omega⟩,fun y=>y=(((uS q a n:Int)+(if ((Sp.nodeAt q n).1=7∨(Sp.nodeAt q n).1=5)∧(Sp.nodeAt q n).2.1=a then 1 else 0),()),()),?_,?_⟩⟩
   · simp only [beq_iff_eq] at hl;rw [w1,if_pos hl]
   · simp only [beq_eq_false_iff_ne] at hl;rw [if_neg hl,Int.add_zero]
   · rintro _ rfl
     simp only [beq_iff_eq] at h6
     refine ⟨⟨by omega,by omega⟩,af (fun hrr=>⟨rfl,next _ ?_⟩) fun hrr=>⟨rfl,next _ ?_⟩⟩
     all_goals
      dsimp only
      simp only [beq_iff_eq,beq_eq_false_iff_ne,ne_eq] at hrr
      by_cases hl:(Sp.nodeAt q n).2.1=a<;>simp [h6,hl,hrr] at hr<;>simp only [hl,if_true,if_false,Int.add_zero,w1,w2]<;>omega
   · simp only [beq_eq_false_iff_ne,ne_eq] at h6
     refine af (fun h7=>⟨⟨by omega,by omega⟩,af (fun hl=>⟨rfl,?_⟩) fun hl=>⟨rfl,?_⟩⟩) fun h7=>⟨⟨by omega,by omega⟩,af (fun h5=>⟨⟨by omega,by omega⟩,af (fun hl=>⟨rfl,?_⟩) fun hl=>⟨rfl,?_⟩⟩) fun h5=>⟨rfl,?_⟩⟩
     all_goals simp_all
   · rintro _ rfl
     simp only [beq_eq_false_iff_ne,ne_eq] at h6
     refine af (fun h7=>⟨⟨by omega,by omega⟩,af (fun hrr=>⟨rfl,next _ ?_⟩) fun hrr=>⟨rfl,next _ ?_⟩⟩) fun h7=>⟨rfl,next _ ?_⟩
     · simp only [beq_iff_eq] at h7 hrr
       by_cases hl:(Sp.nodeAt q n).2.1=a<;>simp [h6,h7,hl,hrr] at hr<;>simp only [h7,hl,true_or,and_self,and_false,if_true,if_false,Int.add_zero,w1,w2]<;>omega
     · simp only [beq_iff_eq,beq_eq_false_iff_ne,ne_eq] at h7 hrr
       by_cases hl:(Sp.nodeAt q n).2.1=a<;>simp [h6,h7,hl,hrr] at hr<;>simp only [h7,hl,true_or,and_self,and_false,if_true,if_false,Int.add_zero,w1,w2]<;>omega
     · simp only [beq_eq_false_iff_ne,ne_eq] at h7
       dsimp only
       by_cases h5:(Sp.nodeAt q n).1=5<;>by_cases hl:(Sp.nodeAt q n).2.1=a<;>simp [h6,h7,h5,hl] at hr<;>simp [h7,h5,hl]<;>omega
 · dsimp only
   refine dX (by omega) ?_
   rw [hJ,avQ]
theorem acK:aA prog G uO xJ:=by
 refine acL (aB (l:=[]) (au ah) (fun x hx=>by cases hx)) ?_
 intro q a hin hp
 have hp:q.length≤1000000:=hp
 refine eX (fun i (c:Int)=>((c,i,()),())) (fun y=>y.1.2.1) (fun _ _=>rfl) q.length (by omega) (fun n c=>c=(uS q a n:Int)) rfl (fun I μ n c hn hJ next=>?_) fun I μ c hJ=>?_
 · subst hJ
   have hs:=aej q a hn
   have hb:=amP q a n (by omega)
   have hr:=ahp a (Sp.nodeAt q n)
   dsimp only
   rw [Int.toNat_natCast]
   have e:q.getD n (0,0,0,[],0,0,[],())=Sp.nodeAt q n:=rfl
   rw [e]
   have w1:IntKind.i64.wrap ((uS q a n:Int)+1)=(uS q a n:Int)+1:=iL _ (by omega)
   have w2:IntKind.i64.wrap ((uS q a n:Int)+1+1)=(uS q a n:Int)+1+1:=iL _ (by omega)
   refine dW (by omega) ⟨⟨by omega,by omega⟩,af (fun h6=>⟨fun y=>y=(((uS q a n:Int)+(if (Sp.nodeAt q n).2.1=a then 1 else 0),()),()),af (fun hl=>⟨rfl,?_⟩) fun hl=>⟨rfl,?_⟩,?_⟩) fun h6=>⟨fun y=>y=(((uS q a n:Int)+(if ((Sp.nodeAt q n).1=7∨(Sp.nodeAt q n).1=5)∧(Sp.nodeAt q n).2.1=a then 1 else 0),()),()),?_,?_⟩⟩
   · simp only [beq_iff_eq] at hl;rw [w1,if_pos hl]
   · simp only [beq_eq_false_iff_ne] at hl;rw [if_neg hl,Int.add_zero]
   · rintro _ rfl
     simp only [beq_iff_eq] at h6
     refine af (fun hrr=>⟨rfl,next _ ?_⟩) fun hrr=>⟨rfl,next _ ?_⟩
     all_goals
      dsimp only
      simp only [beq_iff_eq,beq_eq_false_iff_ne,ne_eq] at hrr
      by_cases hl:(Sp.nodeAt q n).2.1=a<;>simp [h6,hl,hrr] at hr<;>simp only [hl,if_true,if_false,Int.add_zero,w1,w2]<;>omega
   · simp only [beq_eq_false_iff_ne,ne_eq] at h6
     refine af (fun hl=>af (fun h7=>⟨rfl,?_⟩) fun h7=>af (fun h5=>⟨rfl,?_⟩) fun h5=>⟨rfl,?_⟩) fun hl=>⟨rfl,?_⟩
     all_goals simp_all
   · rintro _ rfl
     simp only [beq_eq_false_iff_ne,ne_eq] at h6
     refine af (fun hrr=>af (fun h7=>⟨rfl,next _ ?_⟩) fun h7=>⟨rfl,next _ ?_⟩) fun hrr=>⟨rfl,next _ ?_⟩
     · simp only [beq_iff_eq] at h7 hrr
       by_cases hl:(Sp.nodeAt q n).2.1=a<;>simp [h6,h7,hl,hrr] at hr<;>simp only [h7,hl,true_or,and_self,and_false,if_true,if_false,Int.add_zero,w1,w2]<;>omega
     · simp only [beq_eq_false_iff_ne,ne_eq] at h7
       dsimp only
       by_cases h5:(Sp.nodeAt q n).1=5<;>by_cases hl:(Sp.nodeAt q n).2.1=a<;>simp [h6,h7,h5,hl] at hr<;>simp [h7,h5,hl]<;>omega
     · simp only [beq_eq_false_iff_ne,ne_eq] at hrr
       dsimp only
       by_cases h7:(Sp.nodeAt q n).1=7<;>by_cases h5:(Sp.nodeAt q n).1=5<;>by_cases hl:(Sp.nodeAt q n).2.1=a<;>simp [h6,h7,h5,hl,hrr] at hr<;>simp [h7,h5,hl]<;>omega
 · dsimp only
   refine dX (by omega) ?_
   rw [hJ,avQ]
theorem avR {q:List Sp.bY} {n:Nat} (hn:n<q.length) (h:Sp.qY q n=false):Sp.dn q=false:=by
 unfold Sp.dn;rw [ML hn h];rfl
theorem LQ:aA prog G kW kZ:=by
 refine ahq (aB (l:=[(iq, .pure fU),(uN, .pure xI),(Ai, .pure D9)]) (au ah) (by simp only [List.forall_mem_cons];exact ⟨⟨rC,pF⟩,⟨acI,abN⟩,⟨ajE,agD⟩,fun x hx=>by cases hx⟩)) ?_
 intro q hin hp
 have hp:q.length≤1000000:=hp
 refine ku q.length (by omega) (fun n=>∀ i,i<n→Sp.qY q i=true) (fun i hi=>by omega) (fun I μ n hn hJ next=>?_) fun I μ hJ=>?_
 · dsimp only
   have no:Sp.qY q n=false→(false,())=(Sp.dn q,()):=fun h=>by rw [avR hn h]
   rw [ES (show 0<q.length by omega) (by omega)]
   refine dW (by omega) ⟨⟨by omega,by omega⟩,trivial,af (fun h2=>no ?_) fun h2=>af (fun h3=>⟨hp,af (fun h4=>no ?_) fun h4=>⟨rfl,next (gI hJ ?_)⟩⟩) fun h3=>⟨rfl,next (gI hJ ?_)⟩⟩
   · have h2:Sp.mr (Sp.nodeAt q n) n=false:=jG h2
     unfold Sp.qY;rw [h2];rfl
   · have h2:Sp.mr (Sp.nodeAt q n) n=true:=gQ h2
     have h4:(Sp.pK q n:Int)≠1:=by simpa using h4
     have h3:(n:Int)<(q.length:Int)-1:=by have:=ji h3;omega
     unfold Sp.qY
     simp only [h3,h2]
     simp;omega
   · have h2:Sp.mr (Sp.nodeAt q n) n=true:=gQ h2
     have h4:(Sp.pK q n:Int)=1:=by simpa using h4
     have h4:Sp.pK q n=1:=by omega
     unfold Sp.qY
     simp [h2,h4]
   · have h2:Sp.mr (Sp.nodeAt q n) n=true:=gQ h2
     have h3:¬ (n:Int)<(q.length:Int)-1:=by have:=jl h3;omega
     unfold Sp.qY
     simp [h2,h3]
 · dsimp only
   refine dX (by omega) ⟨trivial,congrArg (·,()) ?_⟩
   unfold Sp.dn
   rw [uQ hJ];rfl
theorem LP:aA prog G kX lg:=by
 refine ahr (aB (l:=[(jm, .pure iV),(uO, .pure xJ),(Aj, .pure Ea)]) (au ah) (by simp only [List.forall_mem_cons];exact ⟨⟨zU,yc⟩,⟨acK,abO⟩,⟨ajC,agE⟩,fun x hx=>by cases hx⟩)) ?_
 intro q hin hp
 have hp:q.length≤1000000:=hp
 refine ku q.length (by omega) (fun n=>∀ i,i<n→Sp.qY q i=true) (fun i hi=>by omega) (fun I μ n hn hJ next=>?_) fun I μ hJ=>?_
 · dsimp only
   have no:Sp.qY q n=false→(false,())=(Sp.dn q,()):=fun h=>by rw [avR hn h]
   rw [ES (show 0<q.length by omega) (by omega)]
   refine dW (by omega) ⟨⟨by omega,by omega⟩,trivial,af (fun h2=>no ?_) fun h2=>af (fun h3=>⟨hp,af (fun h4=>no ?_) fun h4=>⟨rfl,next (gI hJ ?_)⟩⟩) fun h3=>⟨rfl,next (gI hJ ?_)⟩⟩
   · have h2:Sp.mr (Sp.nodeAt q n) n=false:=jG h2
     unfold Sp.qY;rw [h2];rfl
   · have h2:Sp.mr (Sp.nodeAt q n) n=true:=gQ h2
     have h4:(Sp.pK q n:Int)≠1:=by simpa using h4
     have h3:(n:Int)<(q.length:Int)-1:=by have:=ji h3;omega
     unfold Sp.qY
     simp only [h3,h2]
     simp;omega
   · have h2:Sp.mr (Sp.nodeAt q n) n=true:=gQ h2
     have h4:(Sp.pK q n:Int)=1:=by simpa using h4
     have h4:Sp.pK q n=1:=by omega
     unfold Sp.qY
     simp [h2,h4]
   · have h2:Sp.mr (Sp.nodeAt q n) n=true:=gQ h2
     have h3:¬ (n:Int)<(q.length:Int)-1:=by have:=jl h3;omega
     unfold Sp.qY
     simp [h2,h3]
 · dsimp only
   refine dX (by omega) ⟨trivial,congrArg (·,()) ?_⟩
   unfold Sp.dn
   rw [uQ hJ];rfl
theorem azv {d:List Sp.aY} {n:Nat} (hn:n<d.length) (h:Sp.sO d n=false):Sp.iY d=false:=by
 unfold Sp.iY;rw [ML hn h];rfl
theorem ajb:aA prog G Ap Eb:=by
 refine ajG (aB (l:=[(kW, .pure kZ),(kD, .pure kG)]) (au ah) (by simp only [List.forall_mem_cons];exact ⟨⟨LQ,JV⟩,⟨JX,Iw⟩,fun x hx=>by cases hx⟩)) ?_
 intro d hin hp
 have hp:Sp.aO d:=hp
 have hlen:d.length≤1000:=hp.1
 refine ku d.length (by omega) (fun n=>∀ i,i<n→Sp.sO d i=true) (fun i hi=>by omega) (fun I μ n hn hJ next=>?_) fun I μ hJ=>?_
 · dsimp only
   have no:Sp.sO d n=false→(false,())=(Sp.iY d,()):=fun h=>by rw [azv hn h]
   have hq:(Sp.fO d n).2.1.length≤1000000:=Nat.le_trans (vN hp hn) (by omega)
   refine dW (by omega) ⟨⟨by omega,by omega⟩,trivial,af (fun h2=>no ?_) fun h2=>⟨⟨by omega,by omega⟩,hq,af (fun h3=>no ?_) fun h3=>af (fun h4=>?_) fun h4=>⟨rfl,next (gI hJ ?_)⟩⟩⟩
   · have h2:Sp.jB (Sp.fO d n).1=false:=jG h2
     unfold Sp.sO;rw [h2];rfl
   · have h3:Sp.dn (Sp.fO d n).2.1=false:=jG h3
     unfold Sp.sO;rw [h3];simp
   · have h2:Sp.jB (Sp.fO d n).1=true:=gQ h2
     have h3:Sp.dn (Sp.fO d n).2.1=true:=gQ h3
     have h4:0<n:=by have:=ji h4;omega
     rw [ES h4 (by omega)]
     refine ⟨⟨by omega,by omega⟩,⟨by omega,by omega⟩,af (fun h5=>no ?_) fun h5=>⟨rfl,next (gI hJ ?_)⟩⟩
     · have h5:Op.bytesLess (Sp.fO d (n-1)).1 (Sp.fO d n).1=false:=jG h5
       unfold Sp.sO;rw [h2,h3,h5,decide_eq_true h4];rfl
     · have h5:Op.bytesLess (Sp.fO d (n-1)).1 (Sp.fO d n).1=true:=gQ h5
       unfold Sp.sO;rw [h2,h3,h5,decide_eq_true h4];rfl
   · have h2:Sp.jB (Sp.fO d n).1=true:=gQ h2
     have h3:Sp.dn (Sp.fO d n).2.1=true:=gQ h3
     have h4:¬ 0<n:=by have:=jl h4;omega
     unfold Sp.sO;rw [h2,h3,decide_eq_false h4];rfl
 · dsimp only
   refine dX (by omega) (congrArg (·,()) ?_)
   unfold Sp.iY
   rw [uQ hJ];rfl
theorem ajd:aA prog G Am Ec:=by
 refine ajH (aB (l:=[(kX, .pure lg),(kE, .pure kH)]) (au ah) (by simp only [List.forall_mem_cons];exact ⟨⟨LP,JW⟩,⟨JY,Iy⟩,fun x hx=>by cases hx⟩)) ?_
 intro d hin hp
 have hp:Sp.aO d:=hp
 have hlen:d.length≤1000:=hp.1
 refine ku d.length (by omega) (fun n=>∀ i,i<n→Sp.sO d i=true) (fun i hi=>by omega) (fun I μ n hn hJ next=>?_) fun I μ hJ=>?_
 · dsimp only
   have no:Sp.sO d n=false→(false,())=(Sp.iY d,()):=fun h=>by rw [azv hn h]
   have hq:(Sp.fO d n).2.1.length≤1000000:=Nat.le_trans (vN hp hn) (by omega)
   refine dW (by omega) ⟨⟨by omega,by omega⟩,trivial,af (fun h2=>no ?_) fun h2=>af (fun h4=>?_) fun h4=>⟨hq,af (fun h3=>no ?_) fun h3=>⟨rfl,next (gI hJ ?_)⟩⟩⟩
   · have h2:Sp.jB (Sp.fO d n).1=false:=jG h2
     unfold Sp.sO;rw [h2];rfl
   · have h2:Sp.jB (Sp.fO d n).1=true:=gQ h2
     have h4:0<n:=by have:=ji h4;omega
     rw [ES h4 (by omega)]
     refine ⟨⟨by omega,by omega⟩,af (fun h5=>no ?_) fun h5=>⟨hq,af (fun h3=>no ?_) fun h3=>⟨rfl,next (gI hJ ?_)⟩⟩⟩
     · have h5:Op.bytesLess (Sp.fO d (n-1)).1 (Sp.fO d n).1=false:=jG h5
       unfold Sp.sO;rw [h5,decide_eq_true h4];simp
     · have h3:Sp.dn (Sp.fO d n).2.1=false:=jG h3
       unfold Sp.sO;rw [h3];simp
     · have h3:Sp.dn (Sp.fO d n).2.1=true:=gQ h3
       have h5:Op.bytesLess (Sp.fO d (n-1)).1 (Sp.fO d n).1=true:=gQ h5
       unfold Sp.sO;rw [h2,h3,h5,decide_eq_true h4];rfl
   · have h3:Sp.dn (Sp.fO d n).2.1=false:=jG h3
     unfold Sp.sO;rw [h3];simp
   · have h2:Sp.jB (Sp.fO d n).1=true:=gQ h2
     have h3:Sp.dn (Sp.fO d n).2.1=true:=gQ h3
     have h4:¬ 0<n:=by have:=jl h4;omega
     unfold Sp.sO;rw [h2,h3,decide_eq_false h4];rfl
 · dsimp only
   refine dX (by omega) (congrArg (·,()) ?_)
   unfold Sp.iY
   rw [uQ hJ];rfl
end Go.Proofs.Tryz
