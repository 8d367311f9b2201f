import Derived.Test.YtgbobfdlafkijaaGreatP4
namespace Go.Proofs.Tryz
open Go Go.Fw Go.IntWalk
theorem XH (a:Int) (x:Sp.iC):(Sp.refsOf a x:Int)=(if (x.1=6∨x.1=7∨x.1=5)∧x.2.1=a then 1 else 0)+(if (x.1=6∨x.1=7)∧x.2.2.1=a then 1 else 0):=by
 unfold Sp.refsOf Sp.acI
 by_cases h6:x.1=6<;>by_cases h7:x.1=7<;>by_cases h5:x.1=5<;>by_cases hl:x.2.1=a<;>by_cases hr:x.2.2.1=a<;>simp [cond_eq_ite,h6,h7,h5,hl,hr]
theorem arb (a:Int) (x:Sp.iC):Sp.refsOf a x≤2:=by
 have:=XH a x
 split at this<;>split at this<;>omega
def oU (q:List Sp.iC) (a:Int) (n:Nat):Nat:=((q.take n).map (Sp.refsOf a)).sum
theorem UE (q:List Sp.iC) (a:Int) {n:Nat} (hn:n<q.length):oU q a (n+1)=oU q a n+Sp.refsOf a (Sp.nodeAt q n):=by
 unfold oU
 rw [Sp.take_succ' q n (0,0,0,[],0,0,[],()) hn]
 simp only [List.map_append,List.sum_append,List.map_cons,List.map_nil,List.sum_cons,List.sum_nil,Nat.add_zero]
 rfl
theorem abN (q:List Sp.iC) (a:Int):∀ n,n≤q.length→oU q a n≤2*n
 |0,_=>by simp [oU]
 |n+1,h=>by
  rw [UE q a (by omega)]
  have:=abN q a n (by omega)
  have:=arb a (Sp.nodeAt q n)
  omega
theorem ahL (q:List Sp.iC) (a:Int):oU q a q.length=Sp.lW q a:=by unfold oU Sp.lW;rw [List.take_length]
theorem RD:aG prog G oL qG:=by
 refine RG (aF (l:=[]) (aA ah) (fun x hx=>by cases hx)) ?_
 intro q a hin hp
 have hp:q.length≤1000000:=hp
 refine mM (fun i (c:Int)=>((c,i,()),())) (fun y=>y.1.2.1) (fun _ _=>rfl) q.length (by omega) (fun n c=>c=(oU q a n:Int)) rfl (fun I μ n c hn hJ next=>?_) fun I μ c hJ=>?_
 · subst hJ
   have hs:=UE q a hn
   have hb:=abN q a n (by omega)
   have hr:=XH a (Sp.nodeAt q n)
   dsimp only
   rw [Int.toNat_natCast]
   have e:q.getD n (0,0,0,[],0,0,[],())=Sp.nodeAt q n:=rfl
   rw [e]
   have w1:IntKind.i64.wrap ((oU q a n:Int)+1)=(oU q a n:Int)+1:=gK _ (by omega)
   have w2:IntKind.i64.wrap ((oU q a n:Int)+1+1)=(oU q a n:Int)+1+1:=gK _ (by omega)
   refine gW (by omega) ⟨⟨by omega,by omega⟩,af (fun h6=>⟨fun y=>y=(((oU q a n:Int)+(if (Sp.nodeAt q n).2.1=a then 1 else 0),()),()),⟨⟨by omega,by omega⟩,af (fun hl=>⟨rfl,?_⟩) fun hl=>⟨rfl,?_⟩⟩,?_⟩) fun h6=>⟨⟨by omega,by omega⟩,fun y=>y=(((oU q a n:Int)+(if ((Sp.nodeAt q n).1=7∨(Sp.nodeAt q n).1=5)∧(Sp.nodeAt q n).2.1=a then 1 else 0),()),()),?_,?_⟩⟩
   · simp only [beq_iff_eq] at hl;rw [w1,if_pos hl]
   · simp only [beq_eq_false_iff_ne] at hl;rw [if_neg hl,Int.add_zero]
   · rintro _ rfl
     simp only [beq_iff_eq] at h6
     refine ⟨⟨by omega,by omega⟩,af (fun hrr=>⟨rfl,next _ ?_⟩) fun hrr=>⟨rfl,next _ ?_⟩⟩
     all_goals
      dsimp only
      simp only [beq_iff_eq,beq_eq_false_iff_ne,ne_eq] at hrr
      by_cases hl:(Sp.nodeAt q n).2.1=a<;>simp [h6,hl,hrr] at hr<;>simp only [hl,if_true,if_false,Int.add_zero,w1,w2]<;>omega
   · simp only [beq_eq_false_iff_ne,ne_eq] at h6
     refine af (fun h7=>⟨⟨by omega,by omega⟩,af (fun hl=>⟨rfl,?_⟩) fun hl=>⟨rfl,?_⟩⟩) fun h7=>⟨⟨by omega,by omega⟩,af (fun h5=>⟨⟨by omega,by omega⟩,af (fun hl=>⟨rfl,?_⟩) fun hl=>⟨rfl,?_⟩⟩) fun h5=>⟨rfl,?_⟩⟩
     all_goals simp_all
   · rintro _ rfl
     simp only [beq_eq_false_iff_ne,ne_eq] at h6
     refine af (fun h7=>⟨⟨by omega,by omega⟩,af (fun hrr=>⟨rfl,next _ ?_⟩) fun hrr=>⟨rfl,next _ ?_⟩⟩) fun h7=>⟨rfl,next _ ?_⟩
     · simp only [beq_iff_eq] at h7 hrr
       by_cases hl:(Sp.nodeAt q n).2.1=a<;>simp [h6,h7,hl,hrr] at hr<;>simp only [h7,hl,true_or,and_self,and_false,if_true,if_false,Int.add_zero,w1,w2]<;>omega
     · simp only [beq_iff_eq,beq_eq_false_iff_ne,ne_eq] at h7 hrr
       by_cases hl:(Sp.nodeAt q n).2.1=a<;>simp [h6,h7,hl,hrr] at hr<;>simp only [h7,hl,true_or,and_self,and_false,if_true,if_false,Int.add_zero,w1,w2]<;>omega
     · simp only [beq_eq_false_iff_ne,ne_eq] at h7
       dsimp only
       by_cases h5:(Sp.nodeAt q n).1=5<;>by_cases hl:(Sp.nodeAt q n).2.1=a<;>simp [h6,h7,h5,hl] at hr<;>simp [h7,h5,hl]<;>omega
 · dsimp only
   refine gX (by omega) ?_
   rw [hJ,ahL]
theorem RH:aG prog G oM qH:=by
 refine RI (aF (l:=[]) (aA ah) (fun x hx=>by cases hx)) ?_
 intro q a hin hp
 have hp:q.length≤1000000:=hp
 refine mM (fun i (c:Int)=>((c,i,()),())) (fun y=>y.1.2.1) (fun _ _=>rfl) q.length (by omega) (fun n c=>c=(oU q a n:Int)) rfl (fun I μ n c hn hJ next=>?_) fun I μ c hJ=>?_
 · subst hJ
   have hs:=UE q a hn
   have hb:=abN q a n (by omega)
   have hr:=XH a (Sp.nodeAt q n)
   dsimp only
   rw [Int.toNat_natCast]
   have e:q.getD n (0,0,0,[],0,0,[],())=Sp.nodeAt q n:=rfl
   rw [e]
   have w1:IntKind.i64.wrap ((oU q a n:Int)+1)=(oU q a n:Int)+1:=gK _ (by omega)
   have w2:IntKind.i64.wrap ((oU q a n:Int)+1+1)=(oU q a n:Int)+1+1:=gK _ (by omega)
   refine gW (by omega) ⟨⟨by omega,by omega⟩,af (fun h6=>⟨fun y=>y=(((oU q a n:Int)+(if (Sp.nodeAt q n).2.1=a then 1 else 0),()),()),af (fun hl=>⟨rfl,?_⟩) fun hl=>⟨rfl,?_⟩,?_⟩) fun h6=>⟨fun y=>y=(((oU q a n:Int)+(if ((Sp.nodeAt q n).1=7∨(Sp.nodeAt q n).1=5)∧(Sp.nodeAt q n).2.1=a then 1 else 0),()),()),?_,?_⟩⟩
   · simp only [beq_iff_eq] at hl;rw [w1,if_pos hl]
   · simp only [beq_eq_false_iff_ne] at hl;rw [if_neg hl,Int.add_zero]
   · rintro _ rfl
     simp only [beq_iff_eq] at h6
     refine af (fun hrr=>⟨rfl,next _ ?_⟩) fun hrr=>⟨rfl,next _ ?_⟩
     all_goals
      dsimp only
      simp only [beq_iff_eq,beq_eq_false_iff_ne,ne_eq] at hrr
      by_cases hl:(Sp.nodeAt q n).2.1=a<;>simp [h6,hl,hrr] at hr<;>simp only [hl,if_true,if_false,Int.add_zero,w1,w2]<;>omega
   · simp only [beq_eq_false_iff_ne,ne_eq] at h6
     refine af (fun hl=>af (fun h7=>⟨rfl,?_⟩) fun h7=>af (fun h5=>⟨rfl,?_⟩) fun h5=>⟨rfl,?_⟩) fun hl=>⟨rfl,?_⟩
     all_goals simp_all
   · rintro _ rfl
     simp only [beq_eq_false_iff_ne,ne_eq] at h6
     refine af (fun hrr=>af (fun h7=>⟨rfl,next _ ?_⟩) fun h7=>⟨rfl,next _ ?_⟩) fun hrr=>⟨rfl,next _ ?_⟩
     · simp only [beq_iff_eq] at h7 hrr
       by_cases hl:(Sp.nodeAt q n).2.1=a<;>simp [h6,h7,hl,hrr] at hr<;>simp only [h7,hl,true_or,and_self,and_false,if_true,if_false,Int.add_zero,w1,w2]<;>omega
     · simp only [beq_eq_false_iff_ne,ne_eq] at h7
       dsimp only
       by_cases h5:(Sp.nodeAt q n).1=5<;>by_cases hl:(Sp.nodeAt q n).2.1=a<;>simp [h6,h7,h5,hl] at hr<;>simp [h7,h5,hl]<;>omega
     · simp only [beq_eq_false_iff_ne,ne_eq] at hrr
       dsimp only
       by_cases h7:(Sp.nodeAt q n).1=7<;>by_cases h5:(Sp.nodeAt q n).1=5<;>by_cases hl:(Sp.nodeAt q n).2.1=a<;>simp [h6,h7,h5,hl,hrr] at hr<;>simp [h7,h5,hl]<;>omega
 · dsimp only
   refine gX (by omega) ?_
   rw [hJ,ahL]
theorem ahM {q:List Sp.iC} {n:Nat} (hn:n<q.length) (h:Sp.pJ q n=false):Sp.iG q=false:=by
 unfold Sp.iG;rw [zk hn h];rfl
theorem Ky:aG prog G kU lH:=by
 refine XI (aF (l:=[(fC, .pure dV),(oL, .pure qG),(uF, .pure wP)]) (aA ah) (by simp only [List.forall_mem_cons];exact ⟨⟨o9,nG⟩,⟨RD,QI⟩,⟨Zy,Xd⟩,fun x hx=>by cases hx⟩)) ?_
 intro q hin hp
 have hp:q.length≤1000000:=hp
 refine jL q.length (by omega) (fun n=>∀ i,i<n→Sp.pJ q i=true) (fun i hi=>by omega) (fun I μ n hn hJ next=>?_) fun I μ hJ=>?_
 · dsimp only
   have no:Sp.pJ q n=false→(false,())=(Sp.iG q,()):=fun h=>by rw [ahM hn h]
   rw [vT (show 0<q.length by omega) (by omega)]
   refine gW (by omega) ⟨⟨by omega,by omega⟩,trivial,af (fun h2=>no ?_) fun h2=>af (fun h3=>⟨hp,af (fun h4=>no ?_) fun h4=>⟨rfl,next (cZ hJ ?_)⟩⟩) fun h3=>⟨rfl,next (cZ hJ ?_)⟩⟩
   · have h2:Sp.oK (Sp.nodeAt q n) n=false:=jB h2
     unfold Sp.pJ;rw [h2];rfl
   · have h2:Sp.oK (Sp.nodeAt q n) n=true:=fJ h2
     have h4:(Sp.lW q n:Int)≠1:=by simpa using h4
     have h3:(n:Int)<(q.length:Int)-1:=by have:=iV h3;omega
     unfold Sp.pJ
     simp only [h3,h2]
     simp;omega
   · have h2:Sp.oK (Sp.nodeAt q n) n=true:=fJ h2
     have h4:(Sp.lW q n:Int)=1:=by simpa using h4
     have h4:Sp.lW q n=1:=by omega
     unfold Sp.pJ
     simp [h2,h4]
   · have h2:Sp.oK (Sp.nodeAt q n) n=true:=fJ h2
     have h3:¬ (n:Int)<(q.length:Int)-1:=by have:=jh h3;omega
     unfold Sp.pJ
     simp [h2,h3]
 · dsimp only
   refine gX (by omega) ⟨trivial,congrArg (·,()) ?_⟩
   unfold Sp.iG
   rw [kC hJ];rfl
theorem Kz:aG prog G kV lI:=by
 refine XJ (aF (l:=[(fF, .pure eu),(oM, .pure qH),(uG, .pure wQ)]) (aA ah) (by simp only [List.forall_mem_cons];exact ⟨⟨qo,oC⟩,⟨RH,QJ⟩,⟨Zw,Xe⟩,fun x hx=>by cases hx⟩)) ?_
 intro q hin hp
 have hp:q.length≤1000000:=hp
 refine jL q.length (by omega) (fun n=>∀ i,i<n→Sp.pJ q i=true) (fun i hi=>by omega) (fun I μ n hn hJ next=>?_) fun I μ hJ=>?_
 · dsimp only
   have no:Sp.pJ q n=false→(false,())=(Sp.iG q,()):=fun h=>by rw [ahM hn h]
   rw [vT (show 0<q.length by omega) (by omega)]
   refine gW (by omega) ⟨⟨by omega,by omega⟩,trivial,af (fun h2=>no ?_) fun h2=>af (fun h3=>⟨hp,af (fun h4=>no ?_) fun h4=>⟨rfl,next (cZ hJ ?_)⟩⟩) fun h3=>⟨rfl,next (cZ hJ ?_)⟩⟩
   · have h2:Sp.oK (Sp.nodeAt q n) n=false:=jB h2
     unfold Sp.pJ;rw [h2];rfl
   · have h2:Sp.oK (Sp.nodeAt q n) n=true:=fJ h2
     have h4:(Sp.lW q n:Int)≠1:=by simpa using h4
     have h3:(n:Int)<(q.length:Int)-1:=by have:=iV h3;omega
     unfold Sp.pJ
     simp only [h3,h2]
     simp;omega
   · have h2:Sp.oK (Sp.nodeAt q n) n=true:=fJ h2
     have h4:(Sp.lW q n:Int)=1:=by simpa using h4
     have h4:Sp.lW q n=1:=by omega
     unfold Sp.pJ
     simp [h2,h4]
   · have h2:Sp.oK (Sp.nodeAt q n) n=true:=fJ h2
     have h3:¬ (n:Int)<(q.length:Int)-1:=by have:=jh h3;omega
     unfold Sp.pJ
     simp [h2,h3]
 · dsimp only
   refine gX (by omega) ⟨trivial,congrArg (·,()) ?_⟩
   unfold Sp.iG
   rw [kC hJ];rfl
theorem akU {d:List Sp.eY} {n:Nat} (hn:n<d.length) (h:Sp.qw d n=false):Sp.rV d=false:=by
 unfold Sp.rV;rw [zk hn h];rfl
theorem Zl:aG prog G uJ wR:=by
 refine ZC (aF (l:=[(kU, .pure lH),(iI, .pure iM)]) (aA ah) (by simp only [List.forall_mem_cons];exact ⟨⟨Ky,IW⟩,⟨BM,Ak⟩,fun x hx=>by cases hx⟩)) ?_
 intro d hin hp
 have hp:Sp.bJ d:=hp
 have hlen:d.length≤1000:=hp.1
 refine jL d.length (by omega) (fun n=>∀ i,i<n→Sp.qw d i=true) (fun i hi=>by omega) (fun I μ n hn hJ next=>?_) fun I μ hJ=>?_
 · dsimp only
   have no:Sp.qw d n=false→(false,())=(Sp.rV d,()):=fun h=>by rw [akU hn h]
   have hq:(Sp.gm d n).2.1.length≤1000000:=Nat.le_trans (FC hp hn) (by omega)
   refine gW (by omega) ⟨⟨by omega,by omega⟩,trivial,af (fun h2=>no ?_) fun h2=>⟨⟨by omega,by omega⟩,hq,af (fun h3=>no ?_) fun h3=>af (fun h4=>?_) fun h4=>⟨rfl,next (cZ hJ ?_)⟩⟩⟩
   · have h2:Sp.gG (Sp.gm d n).1=false:=jB h2
     unfold Sp.qw;rw [h2];rfl
   · have h3:Sp.iG (Sp.gm d n).2.1=false:=jB h3
     unfold Sp.qw;rw [h3];simp
   · have h2:Sp.gG (Sp.gm d n).1=true:=fJ h2
     have h3:Sp.iG (Sp.gm d n).2.1=true:=fJ h3
     have h4:0<n:=by have:=iV h4;omega
     rw [vT h4 (by omega)]
     refine ⟨⟨by omega,by omega⟩,⟨by omega,by omega⟩,af (fun h5=>no ?_) fun h5=>⟨rfl,next (cZ hJ ?_)⟩⟩
     · have h5:Op.bytesLess (Sp.gm d (n-1)).1 (Sp.gm d n).1=false:=jB h5
       unfold Sp.qw;rw [h2,h3,h5,decide_eq_true h4];rfl
     · have h5:Op.bytesLess (Sp.gm d (n-1)).1 (Sp.gm d n).1=true:=fJ h5
       unfold Sp.qw;rw [h2,h3,h5,decide_eq_true h4];rfl
   · have h2:Sp.gG (Sp.gm d n).1=true:=fJ h2
     have h3:Sp.iG (Sp.gm d n).2.1=true:=fJ h3
     have h4:¬ 0<n:=by have:=jh h4;omega
     unfold Sp.qw;rw [h2,h3,decide_eq_false h4];rfl
 · dsimp only
   refine gX (by omega) (congrArg (·,()) ?_)
   unfold Sp.rV
   rw [kC hJ];rfl
theorem Zn:aG prog G uI wS:=by
 refine ZE (aF (l:=[(kV, .pure lI),(iJ, .pure iO)]) (aA ah) (by simp only [List.forall_mem_cons];exact ⟨⟨Kz,IX⟩,⟨BN,Am⟩,fun x hx=>by cases hx⟩)) ?_
 intro d hin hp
 have hp:Sp.bJ d:=hp
 have hlen:d.length≤1000:=hp.1
 refine jL d.length (by omega) (fun n=>∀ i,i<n→Sp.qw d i=true) (fun i hi=>by omega) (fun I μ n hn hJ next=>?_) fun I μ hJ=>?_
 · dsimp only
   have no:Sp.qw d n=false→(false,())=(Sp.rV d,()):=fun h=>by rw [akU hn h]
   have hq:(Sp.gm d n).2.1.length≤1000000:=Nat.le_trans (FC hp hn) (by omega)
   refine gW (by omega) ⟨⟨by omega,by omega⟩,trivial,af (fun h2=>no ?_) fun h2=>af (fun h4=>?_) fun h4=>⟨hq,af (fun h3=>no ?_) fun h3=>⟨rfl,next (cZ hJ ?_)⟩⟩⟩
   · have h2:Sp.gG (Sp.gm d n).1=false:=jB h2
     unfold Sp.qw;rw [h2];rfl
   · have h2:Sp.gG (Sp.gm d n).1=true:=fJ h2
     have h4:0<n:=by have:=iV h4;omega
     rw [vT h4 (by omega)]
     refine ⟨⟨by omega,by omega⟩,af (fun h5=>no ?_) fun h5=>⟨hq,af (fun h3=>no ?_) fun h3=>⟨rfl,next (cZ hJ ?_)⟩⟩⟩
     · have h5:Op.bytesLess (Sp.gm d (n-1)).1 (Sp.gm d n).1=false:=jB h5
       unfold Sp.qw;rw [h5,decide_eq_true h4];simp
     · have h3:Sp.iG (Sp.gm d n).2.1=false:=jB h3
       unfold Sp.qw;rw [h3];simp
     · have h3:Sp.iG (Sp.gm d n).2.1=true:=fJ h3
       have h5:Op.bytesLess (Sp.gm d (n-1)).1 (Sp.gm d n).1=true:=fJ h5
       unfold Sp.qw;rw [h2,h3,h5,decide_eq_true h4];rfl
   · have h3:Sp.iG (Sp.gm d n).2.1=false:=jB h3
     unfold Sp.qw;rw [h3];simp
   · have h2:Sp.gG (Sp.gm d n).1=true:=fJ h2
     have h3:Sp.iG (Sp.gm d n).2.1=true:=fJ h3
     have h4:¬ 0<n:=by have:=jh h4;omega
     unfold Sp.qw;rw [h2,h3,decide_eq_false h4];rfl
 · dsimp only
   refine gX (by omega) (congrArg (·,()) ?_)
   unfold Sp.rV
   rw [kC hJ];rfl
end Go.Proofs.Tryz
