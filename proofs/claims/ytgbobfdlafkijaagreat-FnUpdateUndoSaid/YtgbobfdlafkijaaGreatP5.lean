import Derived.Test.YtgbobfdlafkijaaGreatP4
namespace Go.Proofs.Tryz
open Go Go.Fw Go.IntWalk
theorem aeT (a:Int) (x:Sp.bM):(Sp.refsOf a x:Int)=(if (x.1=6∨x.1=7∨x.1=5)∧x.2.1=a then 1 else 0)+(if (x.1=6∨x.1=7)∧x.2.2.1=a then 1 else 0):=by
 unfold Sp.refsOf Sp.lD
 by_cases h6:x.1=6<;>by_cases h7:x.1=7<;>by_cases h5:x.1=5<;>by_cases hl:x.2.1=a<;>by_cases hr:x.2.2.1=a<;>simp [cond_eq_ite,h6,h7,h5,hl,hr]
theorem aDu (a:Int) (x:Sp.bM):Sp.refsOf a x≤2:=by
 have:=aeT a x
 split at this<;>split at this<;>omega
def sS (q:List Sp.bM) (a:Int) (n:Nat):Nat:=((q.take n).map (Sp.refsOf a)).sum
theorem abN (q:List Sp.bM) (a:Int) {n:Nat} (hn:n<q.length):sS q a (n+1)=sS q a n+Sp.refsOf a (Sp.nodeAt q n):=by
 unfold sS
 rw [Sp.take_succ' q n (0,0,0,[],0,0,[],()) hn]
 simp only [List.map_append,List.sum_append,List.map_cons,List.map_nil,List.sum_cons,List.sum_nil,Nat.add_zero]
 rfl
theorem ajX (q:List Sp.bM) (a:Int):∀ n,n≤q.length→sS q a n≤2*n
 |0,_=>by simp [sS]
 |n+1,h=>by
  rw [abN q a (by omega)]
  have:=ajX q a n (by omega)
  have:=aDu a (Sp.nodeAt q n)
  omega
theorem asn (q:List Sp.bM) (a:Int):sS q a q.length=Sp.ou q a:=by unfold sS Sp.ou;rw [List.take_length]
theorem aah:aA prog G sK vT:=by
 refine aai (aC (l:=[]) (au ah) (fun x hx=>by cases hx)) ?_
 intro q a hin hp
 have hp:q.length≤1000000:=hp
 refine gQ (fun i (c:Int)=>((c,i,()),())) (fun y=>y.1.2.1) (fun _ _=>rfl) q.length (by omega) (fun n c=>c=(sS q a n:Int)) rfl (fun I μ n c hn hJ next=>?_) fun I μ c hJ=>?_
 · subst hJ
   have hs:=abN q a hn
   have hb:=ajX q a n (by omega)
   have hr:=aeT a (Sp.nodeAt q n)
   dsimp only
   rw [Int.toNat_natCast]
   have e:q.getD n (0,0,0,[],0,0,[],())=Sp.nodeAt q n:=rfl
   rw [e]
   have w1:IntKind.i64.wrap ((sS q a n:Int)+1)=(sS q a n:Int)+1:=iM _ (by omega)
   have w2:IntKind.i64.wrap ((sS q a n:Int)+1+1)=(sS q a n:Int)+1+1:=iM _ (by omega)
   refine eF (by omega) ⟨⟨by omega,by omega⟩,af (fun h6=>⟨fun y=>y=(((sS q a n:Int)+(if (Sp.nodeAt q n).2.1=a then 1 else 0),()),()),⟨⟨by omega,by omega⟩,af (fun hl=>⟨rfl,?_⟩) fun hl=>⟨rfl,?_⟩⟩,?_⟩) fun h6=>⟨⟨by omega,by omega⟩,fun y=>y=(((sS q a n:Int)+(if ((Sp.nodeAt q n).1=7∨(Sp.nodeAt q n).1=5)∧(Sp.nodeAt q n).2.1=a then 1 else 0),()),()),?_,?_⟩⟩
   · simp only [beq_iff_eq] at hl;rw [w1,if_pos hl]
   · simp only [beq_eq_false_iff_ne] at hl;rw [if_neg hl,Int.add_zero]
   · rintro _ rfl
     simp only [beq_iff_eq] at h6
     refine ⟨⟨by omega,by omega⟩,af (fun hrr=>⟨rfl,next _ ?_⟩) fun hrr=>⟨rfl,next _ ?_⟩⟩
     all_goals
      dsimp only
      simp only [beq_iff_eq,beq_eq_false_iff_ne,ne_eq] at hrr
      by_cases hl:(Sp.nodeAt q n).2.1=a<;>simp [h6,hl,hrr] at hr<;>simp only [hl,if_true,if_false,Int.add_zero,w1,w2]<;>omega
   · simp only [beq_eq_false_iff_ne,ne_eq] at h6
     refine af (fun h7=>⟨⟨by omega,by omega⟩,af (fun hl=>⟨rfl,?_⟩) fun hl=>⟨rfl,?_⟩⟩) fun h7=>⟨⟨by omega,by omega⟩,af (fun h5=>⟨⟨by omega,by omega⟩,af (fun hl=>⟨rfl,?_⟩) fun hl=>⟨rfl,?_⟩⟩) fun h5=>⟨rfl,?_⟩⟩
     all_goals simp_all
   · rintro _ rfl
     simp only [beq_eq_false_iff_ne,ne_eq] at h6
     refine af (fun h7=>⟨⟨by omega,by omega⟩,af (fun hrr=>⟨rfl,next _ ?_⟩) fun hrr=>⟨rfl,next _ ?_⟩⟩) fun h7=>⟨rfl,next _ ?_⟩
     · simp only [beq_iff_eq] at h7 hrr
       by_cases hl:(Sp.nodeAt q n).2.1=a<;>simp [h6,h7,hl,hrr] at hr<;>simp only [h7,hl,true_or,and_self,and_false,if_true,if_false,Int.add_zero,w1,w2]<;>omega
     · simp only [beq_iff_eq,beq_eq_false_iff_ne,ne_eq] at h7 hrr
       by_cases hl:(Sp.nodeAt q n).2.1=a<;>simp [h6,h7,hl,hrr] at hr<;>simp only [h7,hl,true_or,and_self,and_false,if_true,if_false,Int.add_zero,w1,w2]<;>omega
     · simp only [beq_eq_false_iff_ne,ne_eq] at h7
       dsimp only
       by_cases h5:(Sp.nodeAt q n).1=5<;>by_cases hl:(Sp.nodeAt q n).2.1=a<;>simp [h6,h7,h5,hl] at hr<;>simp [h7,h5,hl]<;>omega
 · dsimp only
   refine eG (by omega) ?_
   rw [hJ,asn]
theorem aaj:aA prog G sN vU:=by
 refine aak (aC (l:=[]) (au ah) (fun x hx=>by cases hx)) ?_
 intro q a hin hp
 have hp:q.length≤1000000:=hp
 refine gQ (fun i (c:Int)=>((c,i,()),())) (fun y=>y.1.2.1) (fun _ _=>rfl) q.length (by omega) (fun n c=>c=(sS q a n:Int)) rfl (fun I μ n c hn hJ next=>?_) fun I μ c hJ=>?_
 · subst hJ
   have hs:=abN q a hn
   have hb:=ajX q a n (by omega)
   have hr:=aeT a (Sp.nodeAt q n)
   dsimp only
   rw [Int.toNat_natCast]
   have e:q.getD n (0,0,0,[],0,0,[],())=Sp.nodeAt q n:=rfl
   rw [e]
   have w1:IntKind.i64.wrap ((sS q a n:Int)+1)=(sS q a n:Int)+1:=iM _ (by omega)
   have w2:IntKind.i64.wrap ((sS q a n:Int)+1+1)=(sS q a n:Int)+1+1:=iM _ (by omega)
   refine eF (by omega) ⟨⟨by omega,by omega⟩,af (fun h6=>⟨fun y=>y=(((sS q a n:Int)+(if (Sp.nodeAt q n).2.1=a then 1 else 0),()),()),af (fun hl=>⟨rfl,?_⟩) fun hl=>⟨rfl,?_⟩,?_⟩) fun h6=>⟨fun y=>y=(((sS q a n:Int)+(if ((Sp.nodeAt q n).1=7∨(Sp.nodeAt q n).1=5)∧(Sp.nodeAt q n).2.1=a then 1 else 0),()),()),?_,?_⟩⟩
   · simp only [beq_iff_eq] at hl;rw [w1,if_pos hl]
   · simp only [beq_eq_false_iff_ne] at hl;rw [if_neg hl,Int.add_zero]
   · rintro _ rfl
     simp only [beq_iff_eq] at h6
     refine af (fun hrr=>⟨rfl,next _ ?_⟩) fun hrr=>⟨rfl,next _ ?_⟩
     all_goals
      dsimp only
      simp only [beq_iff_eq,beq_eq_false_iff_ne,ne_eq] at hrr
      by_cases hl:(Sp.nodeAt q n).2.1=a<;>simp [h6,hl,hrr] at hr<;>simp only [hl,if_true,if_false,Int.add_zero,w1,w2]<;>omega
   · simp only [beq_eq_false_iff_ne,ne_eq] at h6
     refine af (fun hl=>af (fun h7=>⟨rfl,?_⟩) fun h7=>af (fun h5=>⟨rfl,?_⟩) fun h5=>⟨rfl,?_⟩) fun hl=>⟨rfl,?_⟩
     all_goals simp_all
   · rintro _ rfl
     simp only [beq_eq_false_iff_ne,ne_eq] at h6
     refine af (fun hrr=>af (fun h7=>⟨rfl,next _ ?_⟩) fun h7=>⟨rfl,next _ ?_⟩) fun hrr=>⟨rfl,next _ ?_⟩
     · simp only [beq_iff_eq] at h7 hrr
       by_cases hl:(Sp.nodeAt q n).2.1=a<;>simp [h6,h7,hl,hrr] at hr<;>simp only [h7,hl,true_or,and_self,and_false,if_true,if_false,Int.add_zero,w1,w2]<;>omega
     · simp only [beq_eq_false_iff_ne,ne_eq] at h7
       dsimp only
       by_cases h5:(Sp.nodeAt q n).1=5<;>by_cases hl:(Sp.nodeAt q n).2.1=a<;>simp [h6,h7,h5,hl] at hr<;>simp [h7,h5,hl]<;>omega
     · simp only [beq_eq_false_iff_ne,ne_eq] at hrr
       dsimp only
       by_cases h7:(Sp.nodeAt q n).1=7<;>by_cases h5:(Sp.nodeAt q n).1=5<;>by_cases hl:(Sp.nodeAt q n).2.1=a<;>simp [h6,h7,h5,hl,hrr] at hr<;>simp [h7,h5,hl]<;>omega
 · dsimp only
   refine eG (by omega) ?_
   rw [hJ,asn]
theorem aso {q:List Sp.bM} {n:Nat} (hn:n<q.length) (h:Sp.qg q n=false):Sp.bT q=false:=by
 unfold Sp.bT;rw [J9 hn h];rfl
theorem JJ:aA prog G kC kJ:=by
 refine aeU (aC (l:=[(iU, .pure gX),(sK, .pure vT),(yX, .pure Cb)]) (au ah) (by simp only [List.forall_mem_cons];exact ⟨⟨xk,vF⟩,⟨aah,Zt⟩,⟨ag4,aeg⟩,fun x hx=>by cases hx⟩)) ?_
 intro q hin hp
 have hp:q.length≤1000000:=hp
 refine jH q.length (by omega) (fun n=>∀ i,i<n→Sp.qg q i=true) (fun i hi=>by omega) (fun I μ n hn hJ next=>?_) fun I μ hJ=>?_
 · dsimp only
   have no:Sp.qg q n=false→(false,())=(Sp.bT q,()):=fun h=>by rw [aso hn h]
   rw [Dt (show 0<q.length by omega) (by omega)]
   refine eF (by omega) ⟨⟨by omega,by omega⟩,trivial,af (fun h2=>no ?_) fun h2=>af (fun h3=>⟨hp,af (fun h4=>no ?_) fun h4=>⟨rfl,next (fA hJ ?_)⟩⟩) fun h3=>⟨rfl,next (fA hJ ?_)⟩⟩
   · have h2:Sp.lG (Sp.nodeAt q n) n=false:=kQ h2
     unfold Sp.qg;rw [h2];rfl
   · have h2:Sp.lG (Sp.nodeAt q n) n=true:=ig h2
     have h4:(Sp.ou q n:Int)≠1:=by simpa using h4
     have h3:(n:Int)<(q.length:Int)-1:=by have:=jw h3;omega
     unfold Sp.qg
     simp only [h3,h2]
     simp;omega
   · have h2:Sp.lG (Sp.nodeAt q n) n=true:=ig h2
     have h4:(Sp.ou q n:Int)=1:=by simpa using h4
     have h4:Sp.ou q n=1:=by omega
     unfold Sp.qg
     simp [h2,h4]
   · have h2:Sp.lG (Sp.nodeAt q n) n=true:=ig h2
     have h3:¬ (n:Int)<(q.length:Int)-1:=by have:=jB h3;omega
     unfold Sp.qg
     simp [h2,h3]
 · dsimp only
   refine eG (by omega) ⟨trivial,congrArg (·,()) ?_⟩
   unfold Sp.bT
   rw [sQ hJ];rfl
theorem JI:aA prog G kD kK:=by
 refine aeV (aC (l:=[(iZ, .pure iF),(sN, .pure vU),(yY, .pure Cc)]) (au ah) (by simp only [List.forall_mem_cons];exact ⟨⟨yL,wG⟩,⟨aaj,Zu⟩,⟨ag2,aeh⟩,fun x hx=>by cases hx⟩)) ?_
 intro q hin hp
 have hp:q.length≤1000000:=hp
 refine jH q.length (by omega) (fun n=>∀ i,i<n→Sp.qg q i=true) (fun i hi=>by omega) (fun I μ n hn hJ next=>?_) fun I μ hJ=>?_
 · dsimp only
   have no:Sp.qg q n=false→(false,())=(Sp.bT q,()):=fun h=>by rw [aso hn h]
   rw [Dt (show 0<q.length by omega) (by omega)]
   refine eF (by omega) ⟨⟨by omega,by omega⟩,trivial,af (fun h2=>no ?_) fun h2=>af (fun h3=>⟨hp,af (fun h4=>no ?_) fun h4=>⟨rfl,next (fA hJ ?_)⟩⟩) fun h3=>⟨rfl,next (fA hJ ?_)⟩⟩
   · have h2:Sp.lG (Sp.nodeAt q n) n=false:=kQ h2
     unfold Sp.qg;rw [h2];rfl
   · have h2:Sp.lG (Sp.nodeAt q n) n=true:=ig h2
     have h4:(Sp.ou q n:Int)≠1:=by simpa using h4
     have h3:(n:Int)<(q.length:Int)-1:=by have:=jw h3;omega
     unfold Sp.qg
     simp only [h3,h2]
     simp;omega
   · have h2:Sp.lG (Sp.nodeAt q n) n=true:=ig h2
     have h4:(Sp.ou q n:Int)=1:=by simpa using h4
     have h4:Sp.ou q n=1:=by omega
     unfold Sp.qg
     simp [h2,h4]
   · have h2:Sp.lG (Sp.nodeAt q n) n=true:=ig h2
     have h3:¬ (n:Int)<(q.length:Int)-1:=by have:=jB h3;omega
     unfold Sp.qg
     simp [h2,h3]
 · dsimp only
   refine eG (by omega) ⟨trivial,congrArg (·,()) ?_⟩
   unfold Sp.bT
   rw [sQ hJ];rfl
theorem av9 {d:List Sp.aW} {n:Nat} (hn:n<d.length) (h:Sp.qR d n=false):Sp.gZ d=false:=by
 unfold Sp.gZ;rw [J9 hn h];rfl
theorem agE:aA prog G zh Ce:=by
 refine ag6 (aC (l:=[(kC, .pure kJ),(jK, .pure jO)]) (au ah) (by simp only [List.forall_mem_cons];exact ⟨⟨JJ,Iu⟩,⟨Iy,F9⟩,fun x hx=>by cases hx⟩)) ?_
 intro d hin hp
 have hp:Sp.aS d:=hp
 have hlen:d.length≤1000:=hp.1
 refine jH d.length (by omega) (fun n=>∀ i,i<n→Sp.qR d i=true) (fun i hi=>by omega) (fun I μ n hn hJ next=>?_) fun I μ hJ=>?_
 · dsimp only
   have no:Sp.qR d n=false→(false,())=(Sp.gZ d,()):=fun h=>by rw [av9 hn h]
   have hq:(Sp.eP d n).2.1.length≤1000000:=Nat.le_trans (Bh hp hn) (by omega)
   refine eF (by omega) ⟨⟨by omega,by omega⟩,trivial,af (fun h2=>no ?_) fun h2=>⟨⟨by omega,by omega⟩,hq,af (fun h3=>no ?_) fun h3=>af (fun h4=>?_) fun h4=>⟨rfl,next (fA hJ ?_)⟩⟩⟩
   · have h2:Sp.jf (Sp.eP d n).1=false:=kQ h2
     unfold Sp.qR;rw [h2];rfl
   · have h3:Sp.bT (Sp.eP d n).2.1=false:=kQ h3
     unfold Sp.qR;rw [h3];simp
   · have h2:Sp.jf (Sp.eP d n).1=true:=ig h2
     have h3:Sp.bT (Sp.eP d n).2.1=true:=ig h3
     have h4:0<n:=by have:=jw h4;omega
     rw [Dt h4 (by omega)]
     refine ⟨⟨by omega,by omega⟩,⟨by omega,by omega⟩,af (fun h5=>no ?_) fun h5=>⟨rfl,next (fA hJ ?_)⟩⟩
     · have h5:Op.bytesLess (Sp.eP d (n-1)).1 (Sp.eP d n).1=false:=kQ h5
       unfold Sp.qR;rw [h2,h3,h5,decide_eq_true h4];rfl
     · have h5:Op.bytesLess (Sp.eP d (n-1)).1 (Sp.eP d n).1=true:=ig h5
       unfold Sp.qR;rw [h2,h3,h5,decide_eq_true h4];rfl
   · have h2:Sp.jf (Sp.eP d n).1=true:=ig h2
     have h3:Sp.bT (Sp.eP d n).2.1=true:=ig h3
     have h4:¬ 0<n:=by have:=jB h4;omega
     unfold Sp.qR;rw [h2,h3,decide_eq_false h4];rfl
 · dsimp only
   refine eG (by omega) (congrArg (·,()) ?_)
   unfold Sp.gZ
   rw [sQ hJ];rfl
theorem agG:aA prog G zf Ci:=by
 refine ag7 (aC (l:=[(kD, .pure kK),(jL, .pure jP)]) (au ah) (by simp only [List.forall_mem_cons];exact ⟨⟨JI,Iw⟩,⟨Iz,Gf⟩,fun x hx=>by cases hx⟩)) ?_
 intro d hin hp
 have hp:Sp.aS d:=hp
 have hlen:d.length≤1000:=hp.1
 refine jH d.length (by omega) (fun n=>∀ i,i<n→Sp.qR d i=true) (fun i hi=>by omega) (fun I μ n hn hJ next=>?_) fun I μ hJ=>?_
 · dsimp only
   have no:Sp.qR d n=false→(false,())=(Sp.gZ d,()):=fun h=>by rw [av9 hn h]
   have hq:(Sp.eP d n).2.1.length≤1000000:=Nat.le_trans (Bh hp hn) (by omega)
   refine eF (by omega) ⟨⟨by omega,by omega⟩,trivial,af (fun h2=>no ?_) fun h2=>af (fun h4=>?_) fun h4=>⟨hq,af (fun h3=>no ?_) fun h3=>⟨rfl,next (fA hJ ?_)⟩⟩⟩
   · have h2:Sp.jf (Sp.eP d n).1=false:=kQ h2
     unfold Sp.qR;rw [h2];rfl
   · have h2:Sp.jf (Sp.eP d n).1=true:=ig h2
     have h4:0<n:=by have:=jw h4;omega
     rw [Dt h4 (by omega)]
     refine ⟨⟨by omega,by omega⟩,af (fun h5=>no ?_) fun h5=>⟨hq,af (fun h3=>no ?_) fun h3=>⟨rfl,next (fA hJ ?_)⟩⟩⟩
     · have h5:Op.bytesLess (Sp.eP d (n-1)).1 (Sp.eP d n).1=false:=kQ h5
       unfold Sp.qR;rw [h5,decide_eq_true h4];simp
     · have h3:Sp.bT (Sp.eP d n).2.1=false:=kQ h3
       unfold Sp.qR;rw [h3];simp
     · have h3:Sp.bT (Sp.eP d n).2.1=true:=ig h3
       have h5:Op.bytesLess (Sp.eP d (n-1)).1 (Sp.eP d n).1=true:=ig h5
       unfold Sp.qR;rw [h2,h3,h5,decide_eq_true h4];rfl
   · have h3:Sp.bT (Sp.eP d n).2.1=false:=kQ h3
     unfold Sp.qR;rw [h3];simp
   · have h2:Sp.jf (Sp.eP d n).1=true:=ig h2
     have h3:Sp.bT (Sp.eP d n).2.1=true:=ig h3
     have h4:¬ 0<n:=by have:=jB h4;omega
     unfold Sp.qR;rw [h2,h3,decide_eq_false h4];rfl
 · dsimp only
   refine eG (by omega) (congrArg (·,()) ?_)
   unfold Sp.gZ
   rw [sQ hJ];rfl
end Go.Proofs.Tryz
