import Derived.Test.YtgbobfdlafkijaaGreatP4
namespace Go.Proofs.Tryz
open Go Go.Fw Go.IntWalk
theorem acn (a:Int) (x:Sp.jv):(Sp.refsOf a x:Int)=(if (x.1=6∨x.1=7∨x.1=5)∧x.2.1=a then 1 else 0)+(if (x.1=6∨x.1=7)∧x.2.2.1=a then 1 else 0):=by
 unfold Sp.refsOf Sp.ahC
 by_cases h6:x.1=6<;>by_cases h7:x.1=7<;>by_cases h5:x.1=5<;>by_cases hl:x.2.1=a<;>by_cases hr:x.2.2.1=a<;>simp [cond_eq_ite,h6,h7,h5,hl,hr]
theorem awN (a:Int) (x:Sp.jv):Sp.refsOf a x≤2:=by
 have:=acn a x
 split at this<;>split at this<;>omega
def sG (q:List Sp.jv) (a:Int) (n:Nat):Nat:=((q.take n).map (Sp.refsOf a)).sum
theorem Zi (q:List Sp.jv) (a:Int) {n:Nat} (hn:n<q.length):sG q a (n+1)=sG q a n+Sp.refsOf a (Sp.nodeAt q n):=by
 unfold sG
 rw [Sp.take_succ' q n (0,0,0,[],0,0,[],()) hn]
 simp only [List.map_append,List.sum_append,List.map_cons,List.map_nil,List.sum_cons,List.sum_nil,Nat.add_zero]
 rfl
theorem agL (q:List Sp.jv) (a:Int):∀ n,n≤q.length→sG q a n≤2*n
 |0,_=>by simp [sG]
 |n+1,h=>by
  rw [Zi q a (by omega)]
  have:=agL q a n (by omega)
  have:=awN a (Sp.nodeAt q n)
  omega
theorem amS (q:List Sp.jv) (a:Int):sG q a q.length=Sp.oU q a:=by unfold sG Sp.oU;rw [List.take_length]
theorem Xx:aG prog G rV uY:=by
 refine Xy (aF (l:=[]) (ay ah) (fun x hx=>by cases hx)) ?_
 intro q a hin hp
 have hp:q.length≤1000000:=hp
 refine nR (fun i (c:Int)=>((c,i,()),())) (fun y=>y.1.2.1) (fun _ _=>rfl) q.length (by omega) (fun n c=>c=(sG q a n:Int)) rfl (fun I μ n c hn hJ next=>?_) fun I μ c hJ=>?_
 · subst hJ
   have hs:=Zi q a hn
   have hb:=agL q a n (by omega)
   have hr:=acn a (Sp.nodeAt q n)
   dsimp only
   rw [Int.toNat_natCast]
   have e:q.getD n (0,0,0,[],0,0,[],())=Sp.nodeAt q n:=rfl
   rw [e]
   have w1:IntKind.i64.wrap ((sG q a n:Int)+1)=(sG q a n:Int)+1:=iI _ (by omega)
   have w2:IntKind.i64.wrap ((sG q a n:Int)+1+1)=(sG q a n:Int)+1+1:=iI _ (by omega)
   refine iK (by omega) ⟨⟨by omega,by omega⟩,af (fun h6=>⟨fun y=>y=(((sG q a n:Int)+(if (Sp.nodeAt q n).2.1=a then 1 else 0),()),()),⟨⟨by omega,by omega⟩,af (fun hl=>⟨rfl,?_⟩) fun hl=>⟨rfl,?_⟩⟩,?_⟩) fun h6=>⟨⟨by omega,by omega⟩,fun y=>y=(((sG q a n:Int)+(if ((Sp.nodeAt q n).1=7∨(Sp.nodeAt q n).1=5)∧(Sp.nodeAt q n).2.1=a then 1 else 0),()),()),?_,?_⟩⟩
   · simp only [beq_iff_eq] at hl;rw [w1,if_pos hl]
   · simp only [beq_eq_false_iff_ne] at hl;rw [if_neg hl,Int.add_zero]
   · rintro _ rfl
     simp only [beq_iff_eq] at h6
     refine ⟨⟨by omega,by omega⟩,af (fun hrr=>⟨rfl,next _ ?_⟩) fun hrr=>⟨rfl,next _ ?_⟩⟩
     all_goals
      dsimp only
      simp only [beq_iff_eq,beq_eq_false_iff_ne,ne_eq] at hrr
      by_cases hl:(Sp.nodeAt q n).2.1=a<;>simp [h6,hl,hrr] at hr<;>simp only [hl,if_true,if_false,Int.add_zero,w1,w2]<;>omega
   · simp only [beq_eq_false_iff_ne,ne_eq] at h6
     refine af (fun h7=>⟨⟨by omega,by omega⟩,af (fun hl=>⟨rfl,?_⟩) fun hl=>⟨rfl,?_⟩⟩) fun h7=>⟨⟨by omega,by omega⟩,af (fun h5=>⟨⟨by omega,by omega⟩,af (fun hl=>⟨rfl,?_⟩) fun hl=>⟨rfl,?_⟩⟩) fun h5=>⟨rfl,?_⟩⟩
     all_goals simp_all
   · rintro _ rfl
     simp only [beq_eq_false_iff_ne,ne_eq] at h6
     refine af (fun h7=>⟨⟨by omega,by omega⟩,af (fun hrr=>⟨rfl,next _ ?_⟩) fun hrr=>⟨rfl,next _ ?_⟩⟩) fun h7=>⟨rfl,next _ ?_⟩
     · simp only [beq_iff_eq] at h7 hrr
       by_cases hl:(Sp.nodeAt q n).2.1=a<;>simp [h6,h7,hl,hrr] at hr<;>simp only [h7,hl,true_or,and_self,and_false,if_true,if_false,Int.add_zero,w1,w2]<;>omega
     · simp only [beq_iff_eq,beq_eq_false_iff_ne,ne_eq] at h7 hrr
       by_cases hl:(Sp.nodeAt q n).2.1=a<;>simp [h6,h7,hl,hrr] at hr<;>simp only [h7,hl,true_or,and_self,and_false,if_true,if_false,Int.add_zero,w1,w2]<;>omega
     · simp only [beq_eq_false_iff_ne,ne_eq] at h7
       dsimp only
       by_cases h5:(Sp.nodeAt q n).1=5<;>by_cases hl:(Sp.nodeAt q n).2.1=a<;>simp [h6,h7,h5,hl] at hr<;>simp [h7,h5,hl]<;>omega
 · dsimp only
   refine iL (by omega) ?_
   rw [hJ,amS]
theorem Xz:aG prog G rW uZ:=by
 refine XA (aF (l:=[]) (ay ah) (fun x hx=>by cases hx)) ?_
 intro q a hin hp
 have hp:q.length≤1000000:=hp
 refine nR (fun i (c:Int)=>((c,i,()),())) (fun y=>y.1.2.1) (fun _ _=>rfl) q.length (by omega) (fun n c=>c=(sG q a n:Int)) rfl (fun I μ n c hn hJ next=>?_) fun I μ c hJ=>?_
 · subst hJ
   have hs:=Zi q a hn
   have hb:=agL q a n (by omega)
   have hr:=acn a (Sp.nodeAt q n)
   dsimp only
   rw [Int.toNat_natCast]
   have e:q.getD n (0,0,0,[],0,0,[],())=Sp.nodeAt q n:=rfl
   rw [e]
   have w1:IntKind.i64.wrap ((sG q a n:Int)+1)=(sG q a n:Int)+1:=iI _ (by omega)
   have w2:IntKind.i64.wrap ((sG q a n:Int)+1+1)=(sG q a n:Int)+1+1:=iI _ (by omega)
   refine iK (by omega) ⟨⟨by omega,by omega⟩,af (fun h6=>⟨fun y=>y=(((sG q a n:Int)+(if (Sp.nodeAt q n).2.1=a then 1 else 0),()),()),af (fun hl=>⟨rfl,?_⟩) fun hl=>⟨rfl,?_⟩,?_⟩) fun h6=>⟨fun y=>y=(((sG q a n:Int)+(if ((Sp.nodeAt q n).1=7∨(Sp.nodeAt q n).1=5)∧(Sp.nodeAt q n).2.1=a then 1 else 0),()),()),?_,?_⟩⟩
   · simp only [beq_iff_eq] at hl;rw [w1,if_pos hl]
   · simp only [beq_eq_false_iff_ne] at hl;rw [if_neg hl,Int.add_zero]
   · rintro _ rfl
     simp only [beq_iff_eq] at h6
     refine af (fun hrr=>⟨rfl,next _ ?_⟩) fun hrr=>⟨rfl,next _ ?_⟩
     all_goals
      dsimp only
      simp only [beq_iff_eq,beq_eq_false_iff_ne,ne_eq] at hrr
      by_cases hl:(Sp.nodeAt q n).2.1=a<;>simp [h6,hl,hrr] at hr<;>simp only [hl,if_true,if_false,Int.add_zero,w1,w2]<;>omega
   · simp only [beq_eq_false_iff_ne,ne_eq] at h6
     refine af (fun hl=>af (fun h7=>⟨rfl,?_⟩) fun h7=>af (fun h5=>⟨rfl,?_⟩) fun h5=>⟨rfl,?_⟩) fun hl=>⟨rfl,?_⟩
     all_goals simp_all
   · rintro _ rfl
     simp only [beq_eq_false_iff_ne,ne_eq] at h6
     refine af (fun hrr=>af (fun h7=>⟨rfl,next _ ?_⟩) fun h7=>⟨rfl,next _ ?_⟩) fun hrr=>⟨rfl,next _ ?_⟩
     · simp only [beq_iff_eq] at h7 hrr
       by_cases hl:(Sp.nodeAt q n).2.1=a<;>simp [h6,h7,hl,hrr] at hr<;>simp only [h7,hl,true_or,and_self,and_false,if_true,if_false,Int.add_zero,w1,w2]<;>omega
     · simp only [beq_eq_false_iff_ne,ne_eq] at h7
       dsimp only
       by_cases h5:(Sp.nodeAt q n).1=5<;>by_cases hl:(Sp.nodeAt q n).2.1=a<;>simp [h6,h7,h5,hl] at hr<;>simp [h7,h5,hl]<;>omega
     · simp only [beq_eq_false_iff_ne,ne_eq] at hrr
       dsimp only
       by_cases h7:(Sp.nodeAt q n).1=7<;>by_cases h5:(Sp.nodeAt q n).1=5<;>by_cases hl:(Sp.nodeAt q n).2.1=a<;>simp [h6,h7,h5,hl,hrr] at hr<;>simp [h7,h5,hl]<;>omega
 · dsimp only
   refine iL (by omega) ?_
   rw [hJ,amS]
theorem amT {q:List Sp.jv} {n:Nat} (hn:n<q.length) (h:Sp.tV q n=false):Sp.jF q=false:=by
 unfold Sp.jF;rw [DL hn h];rfl
theorem Pz:aG prog G nJ oD:=by
 refine aco (aF (l:=[(gU, .pure fD),(rV, .pure uY),(yU, .pure AO)]) (ay ah) (by simp only [List.forall_mem_cons];exact ⟨⟨tq,qw⟩,⟨Xx,Wv⟩,⟨aep,abG⟩,fun x hx=>by cases hx⟩)) ?_
 intro q hin hp
 have hp:q.length≤1000000:=hp
 refine kW q.length (by omega) (fun n=>∀ i,i<n→Sp.tV q i=true) (fun i hi=>by omega) (fun I μ n hn hJ next=>?_) fun I μ hJ=>?_
 · dsimp only
   have no:Sp.tV q n=false→(false,())=(Sp.jF q,()):=fun h=>by rw [amT hn h]
   rw [wz (show 0<q.length by omega) (by omega)]
   refine iK (by omega) ⟨⟨by omega,by omega⟩,trivial,af (fun h2=>no ?_) fun h2=>af (fun h3=>⟨hp,af (fun h4=>no ?_) fun h4=>⟨rfl,next (dD hJ ?_)⟩⟩) fun h3=>⟨rfl,next (dD hJ ?_)⟩⟩
   · have h2:Sp.rQ (Sp.nodeAt q n) n=false:=jE h2
     unfold Sp.tV;rw [h2];rfl
   · have h2:Sp.rQ (Sp.nodeAt q n) n=true:=fJ h2
     have h4:(Sp.oU q n:Int)≠1:=by simpa using h4
     have h3:(n:Int)<(q.length:Int)-1:=by have:=iO h3;omega
     unfold Sp.tV
     simp only [h3,h2]
     simp;omega
   · have h2:Sp.rQ (Sp.nodeAt q n) n=true:=fJ h2
     have h4:(Sp.oU q n:Int)=1:=by simpa using h4
     have h4:Sp.oU q n=1:=by omega
     unfold Sp.tV
     simp [h2,h4]
   · have h2:Sp.rQ (Sp.nodeAt q n) n=true:=fJ h2
     have h3:¬ (n:Int)<(q.length:Int)-1:=by have:=ji h3;omega
     unfold Sp.tV
     simp [h2,h3]
 · dsimp only
   refine iL (by omega) ⟨trivial,congrArg (·,()) ?_⟩
   unfold Sp.jF
   rw [mO hJ];rfl
theorem PD:aG prog G nK oG:=by
 refine acp (aF (l:=[(fO, .pure eF),(rW, .pure uZ),(yV, .pure AP)]) (ay ah) (by simp only [List.forall_mem_cons];exact ⟨⟨qx,nY⟩,⟨Xz,Wx⟩,⟨aen,abH⟩,fun x hx=>by cases hx⟩)) ?_
 intro q hin hp
 have hp:q.length≤1000000:=hp
 refine kW q.length (by omega) (fun n=>∀ i,i<n→Sp.tV q i=true) (fun i hi=>by omega) (fun I μ n hn hJ next=>?_) fun I μ hJ=>?_
 · dsimp only
   have no:Sp.tV q n=false→(false,())=(Sp.jF q,()):=fun h=>by rw [amT hn h]
   rw [wz (show 0<q.length by omega) (by omega)]
   refine iK (by omega) ⟨⟨by omega,by omega⟩,trivial,af (fun h2=>no ?_) fun h2=>af (fun h3=>⟨hp,af (fun h4=>no ?_) fun h4=>⟨rfl,next (dD hJ ?_)⟩⟩) fun h3=>⟨rfl,next (dD hJ ?_)⟩⟩
   · have h2:Sp.rQ (Sp.nodeAt q n) n=false:=jE h2
     unfold Sp.tV;rw [h2];rfl
   · have h2:Sp.rQ (Sp.nodeAt q n) n=true:=fJ h2
     have h4:(Sp.oU q n:Int)≠1:=by simpa using h4
     have h3:(n:Int)<(q.length:Int)-1:=by have:=iO h3;omega
     unfold Sp.tV
     simp only [h3,h2]
     simp;omega
   · have h2:Sp.rQ (Sp.nodeAt q n) n=true:=fJ h2
     have h4:(Sp.oU q n:Int)=1:=by simpa using h4
     have h4:Sp.oU q n=1:=by omega
     unfold Sp.tV
     simp [h2,h4]
   · have h2:Sp.rQ (Sp.nodeAt q n) n=true:=fJ h2
     have h3:¬ (n:Int)<(q.length:Int)-1:=by have:=ji h3;omega
     unfold Sp.tV
     simp [h2,h3]
 · dsimp only
   refine iL (by omega) ⟨trivial,congrArg (·,()) ?_⟩
   unfold Sp.jF
   rw [mO hJ];rfl
theorem ap4 {d:List Sp.gK} {n:Nat} (hn:n<d.length) (h:Sp.uP d n=false):Sp.wK d=false:=by
 unfold Sp.wK;rw [DL hn h];rfl
theorem aea:aG prog G yZ AQ:=by
 refine aev (aF (l:=[(nJ, .pure oD),(jI, .pure jM)]) (ay ah) (by simp only [List.forall_mem_cons];exact ⟨⟨Pz,NM⟩,⟨F7,EJ⟩,fun x hx=>by cases hx⟩)) ?_
 intro d hin hp
 have hp:Sp.bY d:=hp
 have hlen:d.length≤1000:=hp.1
 refine kW d.length (by omega) (fun n=>∀ i,i<n→Sp.uP d i=true) (fun i hi=>by omega) (fun I μ n hn hJ next=>?_) fun I μ hJ=>?_
 · dsimp only
   have no:Sp.uP d n=false→(false,())=(Sp.wK d,()):=fun h=>by rw [ap4 hn h]
   have hq:(Sp.iF d n).2.1.length≤1000000:=Nat.le_trans (JZ hp hn) (by omega)
   refine iK (by omega) ⟨⟨by omega,by omega⟩,trivial,af (fun h2=>no ?_) fun h2=>⟨⟨by omega,by omega⟩,hq,af (fun h3=>no ?_) fun h3=>af (fun h4=>?_) fun h4=>⟨rfl,next (dD hJ ?_)⟩⟩⟩
   · have h2:Sp.iR (Sp.iF d n).1=false:=jE h2
     unfold Sp.uP;rw [h2];rfl
   · have h3:Sp.jF (Sp.iF d n).2.1=false:=jE h3
     unfold Sp.uP;rw [h3];simp
   · have h2:Sp.iR (Sp.iF d n).1=true:=fJ h2
     have h3:Sp.jF (Sp.iF d n).2.1=true:=fJ h3
     have h4:0<n:=by have:=iO h4;omega
     rw [wz h4 (by omega)]
     refine ⟨⟨by omega,by omega⟩,⟨by omega,by omega⟩,af (fun h5=>no ?_) fun h5=>⟨rfl,next (dD hJ ?_)⟩⟩
     · have h5:Op.bytesLess (Sp.iF d (n-1)).1 (Sp.iF d n).1=false:=jE h5
       unfold Sp.uP;rw [h2,h3,h5,decide_eq_true h4];rfl
     · have h5:Op.bytesLess (Sp.iF d (n-1)).1 (Sp.iF d n).1=true:=fJ h5
       unfold Sp.uP;rw [h2,h3,h5,decide_eq_true h4];rfl
   · have h2:Sp.iR (Sp.iF d n).1=true:=fJ h2
     have h3:Sp.jF (Sp.iF d n).2.1=true:=fJ h3
     have h4:¬ 0<n:=by have:=ji h4;omega
     unfold Sp.uP;rw [h2,h3,decide_eq_false h4];rfl
 · dsimp only
   refine iL (by omega) (congrArg (·,()) ?_)
   unfold Sp.wK
   rw [mO hJ];rfl
theorem aec:aG prog G yY AU:=by
 refine aew (aF (l:=[(nK, .pure oG),(jJ, .pure jO)]) (ay ah) (by simp only [List.forall_mem_cons];exact ⟨⟨PD,NP⟩,⟨F8,EK⟩,fun x hx=>by cases hx⟩)) ?_
 intro d hin hp
 have hp:Sp.bY d:=hp
 have hlen:d.length≤1000:=hp.1
 refine kW d.length (by omega) (fun n=>∀ i,i<n→Sp.uP d i=true) (fun i hi=>by omega) (fun I μ n hn hJ next=>?_) fun I μ hJ=>?_
 · dsimp only
   have no:Sp.uP d n=false→(false,())=(Sp.wK d,()):=fun h=>by rw [ap4 hn h]
   have hq:(Sp.iF d n).2.1.length≤1000000:=Nat.le_trans (JZ hp hn) (by omega)
   refine iK (by omega) ⟨⟨by omega,by omega⟩,trivial,af (fun h2=>no ?_) fun h2=>af (fun h4=>?_) fun h4=>⟨hq,af (fun h3=>no ?_) fun h3=>⟨rfl,next (dD hJ ?_)⟩⟩⟩
   · have h2:Sp.iR (Sp.iF d n).1=false:=jE h2
     unfold Sp.uP;rw [h2];rfl
   · have h2:Sp.iR (Sp.iF d n).1=true:=fJ h2
     have h4:0<n:=by have:=iO h4;omega
     rw [wz h4 (by omega)]
     refine ⟨⟨by omega,by omega⟩,af (fun h5=>no ?_) fun h5=>⟨hq,af (fun h3=>no ?_) fun h3=>⟨rfl,next (dD hJ ?_)⟩⟩⟩
     · have h5:Op.bytesLess (Sp.iF d (n-1)).1 (Sp.iF d n).1=false:=jE h5
       unfold Sp.uP;rw [h5,decide_eq_true h4];simp
     · have h3:Sp.jF (Sp.iF d n).2.1=false:=jE h3
       unfold Sp.uP;rw [h3];simp
     · have h3:Sp.jF (Sp.iF d n).2.1=true:=fJ h3
       have h5:Op.bytesLess (Sp.iF d (n-1)).1 (Sp.iF d n).1=true:=fJ h5
       unfold Sp.uP;rw [h2,h3,h5,decide_eq_true h4];rfl
   · have h3:Sp.jF (Sp.iF d n).2.1=false:=jE h3
     unfold Sp.uP;rw [h3];simp
   · have h2:Sp.iR (Sp.iF d n).1=true:=fJ h2
     have h3:Sp.jF (Sp.iF d n).2.1=true:=fJ h3
     have h4:¬ 0<n:=by have:=ji h4;omega
     unfold Sp.uP;rw [h2,h3,decide_eq_false h4];rfl
 · dsimp only
   refine iL (by omega) (congrArg (·,()) ?_)
   unfold Sp.wK
   rw [mO hJ];rfl
end Go.Proofs.Tryz
