import Derived.Test.YtkgkfdphbkfjnaaGreatP4
namespace Go.Proofs.Tryz
open Go Go.Fw Go.IntWalk Sp
theorem UN (a:Int) (x:bK):(Sp.refsOf a x:Int)=(if (x.1=6∨x.1=7∨x.1=5)∧x.2.1=a then 1 else 0)+(if (x.1=6∨x.1=7)∧x.2.2.1=a then 1 else 0):=by
 unfold Sp.refsOf jI
 by_cases h6:x.1=6<;>by_cases h7:x.1=7<;>by_cases h5:x.1=5<;>by_cases hl:x.2.1=a<;>by_cases hr:x.2.2.1=a<;>simp [cond_eq_ite,h6,h7,h5,hl,hr]
theorem apG (a:Int) (x:bK):Sp.refsOf a x≤2:=by
 have:=UN a x
 split at this<;>split at this<;>omega
def nX (q:List bK) (a:Int) (n:Nat):Nat:=((q.take n).map (Sp.refsOf a)).sum
theorem QL (q:List bK) (a:Int) {n:Nat} (hn:n<q.length):nX q a (n+1)=nX q a n+Sp.refsOf a (Sp.nodeAt q n):=by
 unfold nX
 rw [Sp.take_succ' q n (0,0,0,[],0,0,[],()) hn]
 simp only [List.map_append,List.sum_append,List.map_cons,List.map_nil,List.sum_cons,List.sum_nil,Nat.add_zero]
 rfl
theorem YS (q:List bK) (a:Int):∀ n,n≤q.length→nX q a n≤2*n
 |0,_=>by simp [nX]
 |n+1,h=>by
  rw [QL q a (by omega)]
  have:=YS q a n (by omega)
  have:=apG a (Sp.nodeAt q n)
  omega
theorem afk (q:List bK) (a:Int):nX q a q.length=mY q a:=by unfold nX mY;rw [List.take_length]
theorem O9:OK rZ.e:=by
 refine PA.ok mixed (au [] trivial) QM (by kernel_rfl) (show ∀ q at',rZ.goal (Pe q at') (q,at',()) from ?_)
 intro q a hin hp
 dsimp only [rZ] at hp ⊢
 have hp:q.length≤1000000:=hp
 refine dN (fun i (c:Int)=>((c,i,()),())) (fun y=>y.1.2.1) (fun _ _=>rfl) q.length (by omega) (fun n c=>c=(nX q a n:Int)) rfl (fun I μ n c hn hJ next=>?_) fun I μ c hJ=>?_
 · subst hJ
   have hs:=QL q a hn
   have hb:=YS q a n (by omega)
   have hr:=UN a (Sp.nodeAt q n)
   dsimp only
   rw [Int.toNat_natCast]
   have e:q.getD n (0,0,0,[],0,0,[],())=Sp.nodeAt q n:=rfl
   rw [e]
   have w1:IntKind.i64.wrap ((nX q a n:Int)+1)=(nX q a n:Int)+1:=fF _ (by omega)
   have w2:IntKind.i64.wrap ((nX q a n:Int)+1+1)=(nX q a n:Int)+1+1:=fF _ (by omega)
   refine dH (by omega) ⟨⟨by omega,by omega⟩,af (fun h6=>⟨fun y=>y=(((nX q a n:Int)+(if (Sp.nodeAt q n).2.1=a then 1 else 0),()),()),⟨⟨by omega,by omega⟩,af (fun hl=>⟨rfl,?_⟩) fun hl=>⟨rfl,?_⟩⟩,?_⟩) fun h6=>⟨⟨by omega,by omega⟩,fun y=>y=(((nX q a n:Int)+(if ((Sp.nodeAt q n).1=7∨(Sp.nodeAt q n).1=5)∧(Sp.nodeAt q n).2.1=a then 1 else 0),()),()),?_,?_⟩⟩
   · simp only [beq_iff_eq] at hl;rw [w1,if_pos hl]
   · simp only [beq_eq_false_iff_ne] at hl;rw [if_neg hl,Int.add_zero]
   · rintro _ rfl
     simp only [beq_iff_eq] at h6
     refine ⟨⟨by omega,by omega⟩,af (fun hrr=>⟨rfl,next _ ?_⟩) fun hrr=>⟨rfl,next _ ?_⟩⟩
     all_goals
      dsimp only
      simp only [beq_iff_eq,beq_eq_false_iff_ne,ne_eq] at hrr
      by_cases hl:(Sp.nodeAt q n).2.1=a<;>simp [h6,hl,hrr] at hr<;>simp only [hl,if_true,if_false,Int.add_zero,w1,w2]<;>omega
   · simp only [beq_eq_false_iff_ne,ne_eq] at h6
     refine af (fun h7=>⟨⟨by omega,by omega⟩,af (fun hl=>⟨rfl,?_⟩) fun hl=>⟨rfl,?_⟩⟩) fun h7=>⟨⟨by omega,by omega⟩,af (fun h5=>⟨⟨by omega,by omega⟩,af (fun hl=>⟨rfl,?_⟩) fun hl=>⟨rfl,?_⟩⟩) fun h5=>⟨rfl,?_⟩⟩
     all_goals simp_all
   · rintro _ rfl
     simp only [beq_eq_false_iff_ne,ne_eq] at h6
     refine af (fun h7=>⟨⟨by omega,by omega⟩,af (fun hrr=>⟨rfl,next _ ?_⟩) fun hrr=>⟨rfl,next _ ?_⟩⟩) fun h7=>⟨rfl,next _ ?_⟩
     · simp only [beq_iff_eq] at h7 hrr
       by_cases hl:(Sp.nodeAt q n).2.1=a<;>simp [h6,h7,hl,hrr] at hr<;>simp only [h7,hl,true_or,and_self,and_false,if_true,if_false,Int.add_zero,w1,w2]<;>omega
     · simp only [beq_iff_eq,beq_eq_false_iff_ne,ne_eq] at h7 hrr
       by_cases hl:(Sp.nodeAt q n).2.1=a<;>simp [h6,h7,hl,hrr] at hr<;>simp only [h7,hl,true_or,and_self,and_false,if_true,if_false,Int.add_zero,w1,w2]<;>omega
     · simp only [beq_eq_false_iff_ne,ne_eq] at h7
       dsimp only
       by_cases h5:(Sp.nodeAt q n).1=5<;>by_cases hl:(Sp.nodeAt q n).2.1=a<;>simp [h6,h7,h5,hl] at hr<;>simp [h7,h5,hl]<;>omega
 · dsimp only
   refine dI (by omega) ?_
   rw [hJ,afk]
theorem Pg:OK su.e:=by
 refine PA.ok mixed (au [] trivial) QN (by kernel_rfl) (show ∀ q at',su.goal (Ph q at') (q,at',()) from ?_)
 intro q a hin hp
 dsimp only [su] at hp ⊢
 have hp:q.length≤1000000:=hp
 refine dN (fun i (c:Int)=>((c,i,()),())) (fun y=>y.1.2.1) (fun _ _=>rfl) q.length (by omega) (fun n c=>c=(nX q a n:Int)) rfl (fun I μ n c hn hJ next=>?_) fun I μ c hJ=>?_
 · subst hJ
   have hs:=QL q a hn
   have hb:=YS q a n (by omega)
   have hr:=UN a (Sp.nodeAt q n)
   dsimp only
   rw [Int.toNat_natCast]
   have e:q.getD n (0,0,0,[],0,0,[],())=Sp.nodeAt q n:=rfl
   rw [e]
   have w1:IntKind.i64.wrap ((nX q a n:Int)+1)=(nX q a n:Int)+1:=fF _ (by omega)
   have w2:IntKind.i64.wrap ((nX q a n:Int)+1+1)=(nX q a n:Int)+1+1:=fF _ (by omega)
   refine dH (by omega) ⟨⟨by omega,by omega⟩,af (fun h6=>⟨fun y=>y=(((nX q a n:Int)+(if (Sp.nodeAt q n).2.1=a then 1 else 0),()),()),af (fun hl=>⟨rfl,?_⟩) fun hl=>⟨rfl,?_⟩,?_⟩) fun h6=>⟨fun y=>y=(((nX q a n:Int)+(if ((Sp.nodeAt q n).1=7∨(Sp.nodeAt q n).1=5)∧(Sp.nodeAt q n).2.1=a then 1 else 0),()),()),?_,?_⟩⟩
   · simp only [beq_iff_eq] at hl;rw [w1,if_pos hl]
   · simp only [beq_eq_false_iff_ne] at hl;rw [if_neg hl,Int.add_zero]
   · rintro _ rfl
     simp only [beq_iff_eq] at h6
     refine af (fun hrr=>⟨rfl,next _ ?_⟩) fun hrr=>⟨rfl,next _ ?_⟩
     all_goals
      dsimp only
      simp only [beq_iff_eq,beq_eq_false_iff_ne,ne_eq] at hrr
      by_cases hl:(Sp.nodeAt q n).2.1=a<;>simp [h6,hl,hrr] at hr<;>simp only [hl,if_true,if_false,Int.add_zero,w1,w2]<;>omega
   · simp only [beq_eq_false_iff_ne,ne_eq] at h6
     refine af (fun hl=>af (fun h7=>⟨rfl,?_⟩) fun h7=>af (fun h5=>⟨rfl,?_⟩) fun h5=>⟨rfl,?_⟩) fun hl=>⟨rfl,?_⟩
     all_goals simp_all
   · rintro _ rfl
     simp only [beq_eq_false_iff_ne,ne_eq] at h6
     refine af (fun hrr=>af (fun h7=>⟨rfl,next _ ?_⟩) fun h7=>⟨rfl,next _ ?_⟩) fun hrr=>⟨rfl,next _ ?_⟩
     · simp only [beq_iff_eq] at h7 hrr
       by_cases hl:(Sp.nodeAt q n).2.1=a<;>simp [h6,h7,hl,hrr] at hr<;>simp only [h7,hl,true_or,and_self,and_false,if_true,if_false,Int.add_zero,w1,w2]<;>omega
     · simp only [beq_eq_false_iff_ne,ne_eq] at h7
       dsimp only
       by_cases h5:(Sp.nodeAt q n).1=5<;>by_cases hl:(Sp.nodeAt q n).2.1=a<;>simp [h6,h7,h5,hl] at hr<;>simp [h7,h5,hl]<;>omega
     · simp only [beq_eq_false_iff_ne,ne_eq] at hrr
       dsimp only
       by_cases h7:(Sp.nodeAt q n).1=7<;>by_cases h5:(Sp.nodeAt q n).1=5<;>by_cases hl:(Sp.nodeAt q n).2.1=a<;>simp [h6,h7,h5,hl,hrr] at hr<;>simp [h7,h5,hl]<;>omega
 · dsimp only
   refine dI (by omega) ?_
   rw [hJ,afk]
theorem afl {q:List bK} {n:Nat} (hn:n<q.length) (h:lX q n=false):bQ q=false:=by
 unfold bQ;rw [DL hn h];rfl
theorem Dh:OK nI.e:=by
 refine PA.ok mixed (au [iL.e,rZ.e,yB.e] ⟨jq,O9,V8,trivial⟩) Wj (by kernel_rfl) (show ∀ q,nI.goal (UO q) (q,()) from ?_)
 intro q hin hp
 dsimp only [nI] at hp ⊢
 have hp:q.length≤1000000:=hp
 refine iM q.length (by omega) (fun n=>∀ i,i<n→lX q i=true) (fun i hi=>by omega) (fun I μ n hn hJ next=>?_) fun I μ hJ=>?_
 · dsimp only
   have no:lX q n=false→(false,())=(bQ q,()):=fun h=>by rw [afl hn h]
   rw [wJ (show 0<q.length by omega) (by omega)]
   refine dH (by omega) ⟨⟨by omega,by omega⟩,trivial,af (fun h2=>no ?_) fun h2=>af (fun h3=>⟨hp,af (fun h4=>no ?_) fun h4=>⟨rfl,next (fA hJ ?_)⟩⟩) fun h3=>⟨rfl,next (fA hJ ?_)⟩⟩
   · have h2:kD (Sp.nodeAt q n) n=false:=dS h2
     unfold lX;rw [h2];rfl
   · have h2:kD (Sp.nodeAt q n) n=true:=bU h2
     have h4:(mY q n:Int)≠1:=by simpa using h4
     have h3:(n:Int)<(q.length:Int)-1:=by have:=fJ h3;omega
     unfold lX
     simp only [h3,h2]
     simp;omega
   · have h2:kD (Sp.nodeAt q n) n=true:=bU h2
     have h4:(mY q n:Int)=1:=by simpa using h4
     have h4:mY q n=1:=by omega
     unfold lX
     simp [h2,h4]
   · have h2:kD (Sp.nodeAt q n) n=true:=bU h2
     have h3:¬ (n:Int)<(q.length:Int)-1:=by have:=fZ h3;omega
     unfold lX
     simp [h2,h3]
 · dsimp only
   refine dI (by omega) ⟨trivial,congrArg (·,()) ?_⟩
   unfold bQ
   rw [nV hJ];rfl
theorem Df:OK nJ.e:=by
 refine PA.ok mixed (au [kM.e,su.e,yC.e] ⟨pI,Pg,V7,trivial⟩) Wl (by kernel_rfl) (show ∀ q,nJ.goal (UQ q) (q,()) from ?_)
 intro q hin hp
 dsimp only [nJ] at hp ⊢
 have hp:q.length≤1000000:=hp
 refine iM q.length (by omega) (fun n=>∀ i,i<n→lX q i=true) (fun i hi=>by omega) (fun I μ n hn hJ next=>?_) fun I μ hJ=>?_
 · dsimp only
   have no:lX q n=false→(false,())=(bQ q,()):=fun h=>by rw [afl hn h]
   rw [wJ (show 0<q.length by omega) (by omega)]
   refine dH (by omega) ⟨⟨by omega,by omega⟩,trivial,af (fun h2=>no ?_) fun h2=>af (fun h3=>⟨hp,af (fun h4=>no ?_) fun h4=>⟨rfl,next (fA hJ ?_)⟩⟩) fun h3=>⟨rfl,next (fA hJ ?_)⟩⟩
   · have h2:kD (Sp.nodeAt q n) n=false:=dS h2
     unfold lX;rw [h2];rfl
   · have h2:kD (Sp.nodeAt q n) n=true:=bU h2
     have h4:(mY q n:Int)≠1:=by simpa using h4
     have h3:(n:Int)<(q.length:Int)-1:=by have:=fJ h3;omega
     unfold lX
     simp only [h3,h2]
     simp;omega
   · have h2:kD (Sp.nodeAt q n) n=true:=bU h2
     have h4:(mY q n:Int)=1:=by simpa using h4
     have h4:mY q n=1:=by omega
     unfold lX
     simp [h2,h4]
   · have h2:kD (Sp.nodeAt q n) n=true:=bU h2
     have h3:¬ (n:Int)<(q.length:Int)-1:=by have:=fZ h3;omega
     unfold lX
     simp [h2,h3]
 · dsimp only
   refine dI (by omega) ⟨trivial,congrArg (·,()) ?_⟩
   unfold bQ
   rw [nV hJ];rfl
theorem ahA {d:List aC} {n:Nat} (hn:n<d.length) (h:jZ d n=false):bF d=false:=by
 unfold bF;rw [DL hn h];rfl
theorem D8:OK oO.e:=by
 refine PA.ok mixed (au [nI.e,l9.e] ⟨Dh,Bg,trivial⟩) YT (by kernel_rfl) (show ∀ d,oO.goal (Wn d) (d,()) from ?_)
 intro d hin hp
 dsimp only [oO] at hp ⊢
 have hp:aA d:=hp
 have hlen:d.length≤1000:=hp.1
 refine iM d.length (by omega) (fun n=>∀ i,i<n→jZ d i=true) (fun i hi=>by omega) (fun I μ n hn hJ next=>?_) fun I μ hJ=>?_
 · dsimp only
   have no:jZ d n=false→(false,())=(bF d,()):=fun h=>by rw [ahA hn h]
   have hq:(bG d n).2.1.length≤1000000:=Nat.le_trans (mV hp hn) (by omega)
   refine dH (by omega) ⟨⟨by omega,by omega⟩,trivial,af (fun h2=>no ?_) fun h2=>⟨⟨by omega,by omega⟩,hq,af (fun h3=>no ?_) fun h3=>af (fun h4=>?_) fun h4=>⟨rfl,next (fA hJ ?_)⟩⟩⟩
   · have h2:iq (bG d n).1=false:=dS h2
     unfold jZ;rw [h2];rfl
   · have h3:bQ (bG d n).2.1=false:=dS h3
     unfold jZ;rw [h3];simp
   · have h2:iq (bG d n).1=true:=bU h2
     have h3:bQ (bG d n).2.1=true:=bU h3
     have h4:0<n:=by have:=fJ h4;omega
     rw [wJ h4 (by omega)]
     refine ⟨⟨by omega,by omega⟩,⟨by omega,by omega⟩,af (fun h5=>no ?_) fun h5=>⟨rfl,next (fA hJ ?_)⟩⟩
     · have h5:Op.bytesLess (bG d (n-1)).1 (bG d n).1=false:=dS h5
       unfold jZ;rw [h2,h3,h5,decide_eq_true h4];rfl
     · have h5:Op.bytesLess (bG d (n-1)).1 (bG d n).1=true:=bU h5
       unfold jZ;rw [h2,h3,h5,decide_eq_true h4];rfl
   · have h2:iq (bG d n).1=true:=bU h2
     have h3:bQ (bG d n).2.1=true:=bU h3
     have h4:¬ 0<n:=by have:=fZ h4;omega
     unfold jZ;rw [h2,h3,decide_eq_false h4];rfl
 · dsimp only
   refine dI (by omega) (congrArg (·,()) ?_)
   unfold bF
   rw [nV hJ];rfl
theorem D9:OK oP.e:=by
 refine PA.ok mixed (au [nJ.e,mg.e] ⟨Df,Bl,trivial⟩) YU (by kernel_rfl) (show ∀ d,oP.goal (Wp d) (d,()) from ?_)
 intro d hin hp
 dsimp only [oP] at hp ⊢
 have hp:aA d:=hp
 have hlen:d.length≤1000:=hp.1
 refine iM d.length (by omega) (fun n=>∀ i,i<n→jZ d i=true) (fun i hi=>by omega) (fun I μ n hn hJ next=>?_) fun I μ hJ=>?_
 · dsimp only
   have no:jZ d n=false→(false,())=(bF d,()):=fun h=>by rw [ahA hn h]
   have hq:(bG d n).2.1.length≤1000000:=Nat.le_trans (mV hp hn) (by omega)
   refine dH (by omega) ⟨⟨by omega,by omega⟩,trivial,af (fun h2=>no ?_) fun h2=>af (fun h4=>?_) fun h4=>⟨hq,af (fun h3=>no ?_) fun h3=>⟨rfl,next (fA hJ ?_)⟩⟩⟩
   · have h2:iq (bG d n).1=false:=dS h2
     unfold jZ;rw [h2];rfl
   · have h2:iq (bG d n).1=true:=bU h2
     have h4:0<n:=by have:=fJ h4;omega
     rw [wJ h4 (by omega)]
     refine ⟨⟨by omega,by omega⟩,af (fun h5=>no ?_) fun h5=>⟨hq,af (fun h3=>no ?_) fun h3=>⟨rfl,next (fA hJ ?_)⟩⟩⟩
     · have h5:Op.bytesLess (bG d (n-1)).1 (bG d n).1=false:=dS h5
       unfold jZ;rw [h5,decide_eq_true h4];simp
     · have h3:bQ (bG d n).2.1=false:=dS h3
       unfold jZ;rw [h3];simp
     · have h3:bQ (bG d n).2.1=true:=bU h3
       have h5:Op.bytesLess (bG d (n-1)).1 (bG d n).1=true:=bU h5
       unfold jZ;rw [h2,h3,h5,decide_eq_true h4];rfl
   · have h3:bQ (bG d n).2.1=false:=dS h3
     unfold jZ;rw [h3];simp
   · have h2:iq (bG d n).1=true:=bU h2
     have h3:bQ (bG d n).2.1=true:=bU h3
     have h4:¬ 0<n:=by have:=fZ h4;omega
     unfold jZ;rw [h2,h3,decide_eq_false h4];rfl
 · dsimp only
   refine dI (by omega) (congrArg (·,()) ?_)
   unfold bF
   rw [nV hJ];rfl
end Go.Proofs.Tryz
