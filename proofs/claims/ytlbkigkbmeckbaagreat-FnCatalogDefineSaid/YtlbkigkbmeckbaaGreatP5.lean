import Derived.Test.YtlbkigkbmeckbaaGreatP4
namespace Go.Proofs.Tryz
open Go Go.Fw Go.IntWalk
theorem SK (a:Int) (x:Sp.bD):(Sp.refsOf a x:Int)=(if (x.1=6∨x.1=7∨x.1=5)∧x.2.1=a then 1 else 0)+(if (x.1=6∨x.1=7)∧x.2.2.1=a then 1 else 0):=by
 unfold Sp.refsOf Sp.jl
 by_cases h6:x.1=6<;>by_cases h7:x.1=7<;>by_cases h5:x.1=5<;>by_cases hl:x.2.1=a<;>by_cases hr:x.2.2.1=a<;>simp [cond_eq_ite,h6,h7,h5,hl,hr]
theorem arP (a:Int) (x:Sp.bD):Sp.refsOf a x≤2:=by
 have:=SK a x
 split at this<;>split at this<;>omega
def oI (q:List Sp.bD) (a:Int) (n:Nat):Nat:=((q.take n).map (Sp.refsOf a)).sum
theorem OE (q:List Sp.bD) (a:Int) {n:Nat} (hn:n<q.length):oI q a (n+1)=oI q a n+Sp.refsOf a (Sp.nodeAt q n):=by
 unfold oI
 rw [Sp.take_succ' q n (0,0,0,[],0,0,[],()) hn]
 simp only [List.map_append,List.sum_append,List.map_cons,List.map_nil,List.sum_cons,List.sum_nil,Nat.add_zero]
 rfl
theorem Yk (q:List Sp.bD) (a:Int):∀ n,n≤q.length→oI q a n≤2*n
 |0,_=>by simp [oI]
 |n+1,h=>by
  rw [OE q a (by omega)]
  have:=Yk q a n (by omega)
  have:=arP a (Sp.nodeAt q n)
  omega
theorem agf (q:List Sp.bD) (a:Int):oI q a q.length=Sp.nH q a:=by unfold oI Sp.nH;rw [List.take_length]
theorem ML:ai prog G oz.e:=by
 refine MN (ak ah trivial) ?_
 intro q a hin hp
 dsimp only [oz] at hp ⊢
 have hp:q.length≤1000000:=hp
 refine dR (fun i (c:Int)=>((c,i,()),())) (fun y=>y.1.2.1) (fun _ _=>rfl) q.length (by omega) (fun n c=>c=(oI q a n:Int)) rfl (fun I μ n c hn hJ next=>?_) fun I μ c hJ=>?_
 · subst hJ
   have hs:=OE q a hn
   have hb:=Yk q a n (by omega)
   have hr:=SK a (Sp.nodeAt q n)
   dsimp only
   rw [Int.toNat_natCast]
   have e:q.getD n (0,0,0,[],0,0,[],())=Sp.nodeAt q n:=rfl
   rw [e]
   have w1:IntKind.i64.wrap ((oI q a n:Int)+1)=(oI q a n:Int)+1:=fC _ (by omega)
   have w2:IntKind.i64.wrap ((oI q a n:Int)+1+1)=(oI q a n:Int)+1+1:=fC _ (by omega)
   refine dB (by omega) ⟨⟨by omega,by omega⟩,af (fun h6=>⟨fun y=>y=(((oI q a n:Int)+(if (Sp.nodeAt q n).2.1=a then 1 else 0),()),()),⟨⟨by omega,by omega⟩,af (fun hl=>⟨rfl,?_⟩) fun hl=>⟨rfl,?_⟩⟩,?_⟩) fun h6=>⟨⟨by omega,by omega⟩,fun y=>y=(((oI q a n:Int)+(if ((Sp.nodeAt q n).1=7∨(Sp.nodeAt q n).1=5)∧(Sp.nodeAt q n).2.1=a then 1 else 0),()),()),?_,?_⟩⟩
   · simp only [beq_iff_eq] at hl;rw [w1,if_pos hl]
   · simp only [beq_eq_false_iff_ne] at hl;rw [if_neg hl,Int.add_zero]
   · rintro _ rfl
     simp only [beq_iff_eq] at h6
     refine ⟨⟨by omega,by omega⟩,af (fun hrr=>⟨rfl,next _ ?_⟩) fun hrr=>⟨rfl,next _ ?_⟩⟩
     all_goals
      dsimp only
      simp only [beq_iff_eq,beq_eq_false_iff_ne,ne_eq] at hrr
      by_cases hl:(Sp.nodeAt q n).2.1=a<;>simp [h6,hl,hrr] at hr<;>simp only [hl,if_true,if_false,Int.add_zero,w1,w2]<;>omega
   · simp only [beq_eq_false_iff_ne,ne_eq] at h6
     refine af (fun h7=>⟨⟨by omega,by omega⟩,af (fun hl=>⟨rfl,?_⟩) fun hl=>⟨rfl,?_⟩⟩) fun h7=>⟨⟨by omega,by omega⟩,af (fun h5=>⟨⟨by omega,by omega⟩,af (fun hl=>⟨rfl,?_⟩) fun hl=>⟨rfl,?_⟩⟩) fun h5=>⟨rfl,?_⟩⟩
     all_goals simp_all
   · rintro _ rfl
     simp only [beq_eq_false_iff_ne,ne_eq] at h6
     refine af (fun h7=>⟨⟨by omega,by omega⟩,af (fun hrr=>⟨rfl,next _ ?_⟩) fun hrr=>⟨rfl,next _ ?_⟩⟩) fun h7=>⟨rfl,next _ ?_⟩
     · simp only [beq_iff_eq] at h7 hrr
       by_cases hl:(Sp.nodeAt q n).2.1=a<;>simp [h6,h7,hl,hrr] at hr<;>simp only [h7,hl,true_or,and_self,and_false,if_true,if_false,Int.add_zero,w1,w2]<;>omega
     · simp only [beq_iff_eq,beq_eq_false_iff_ne,ne_eq] at h7 hrr
       by_cases hl:(Sp.nodeAt q n).2.1=a<;>simp [h6,h7,hl,hrr] at hr<;>simp only [h7,hl,true_or,and_self,and_false,if_true,if_false,Int.add_zero,w1,w2]<;>omega
     · simp only [beq_eq_false_iff_ne,ne_eq] at h7
       dsimp only
       by_cases h5:(Sp.nodeAt q n).1=5<;>by_cases hl:(Sp.nodeAt q n).2.1=a<;>simp [h6,h7,h5,hl] at hr<;>simp [h7,h5,hl]<;>omega
 · dsimp only
   refine dD (by omega) ?_
   rw [hJ,agf]
theorem MO:ai prog G oC.e:=by
 refine MP (ak ah trivial) ?_
 intro q a hin hp
 dsimp only [oC] at hp ⊢
 have hp:q.length≤1000000:=hp
 refine dR (fun i (c:Int)=>((c,i,()),())) (fun y=>y.1.2.1) (fun _ _=>rfl) q.length (by omega) (fun n c=>c=(oI q a n:Int)) rfl (fun I μ n c hn hJ next=>?_) fun I μ c hJ=>?_
 · subst hJ
   have hs:=OE q a hn
   have hb:=Yk q a n (by omega)
   have hr:=SK a (Sp.nodeAt q n)
   dsimp only
   rw [Int.toNat_natCast]
   have e:q.getD n (0,0,0,[],0,0,[],())=Sp.nodeAt q n:=rfl
   rw [e]
   have w1:IntKind.i64.wrap ((oI q a n:Int)+1)=(oI q a n:Int)+1:=fC _ (by omega)
   have w2:IntKind.i64.wrap ((oI q a n:Int)+1+1)=(oI q a n:Int)+1+1:=fC _ (by omega)
   refine dB (by omega) ⟨⟨by omega,by omega⟩,af (fun h6=>⟨fun y=>y=(((oI q a n:Int)+(if (Sp.nodeAt q n).2.1=a then 1 else 0),()),()),af (fun hl=>⟨rfl,?_⟩) fun hl=>⟨rfl,?_⟩,?_⟩) fun h6=>⟨fun y=>y=(((oI q a n:Int)+(if ((Sp.nodeAt q n).1=7∨(Sp.nodeAt q n).1=5)∧(Sp.nodeAt q n).2.1=a then 1 else 0),()),()),?_,?_⟩⟩
   · simp only [beq_iff_eq] at hl;rw [w1,if_pos hl]
   · simp only [beq_eq_false_iff_ne] at hl;rw [if_neg hl,Int.add_zero]
   · rintro _ rfl
     simp only [beq_iff_eq] at h6
     refine af (fun hrr=>⟨rfl,next _ ?_⟩) fun hrr=>⟨rfl,next _ ?_⟩
     all_goals
      dsimp only
      simp only [beq_iff_eq,beq_eq_false_iff_ne,ne_eq] at hrr
      by_cases hl:(Sp.nodeAt q n).2.1=a<;>simp [h6,hl,hrr] at hr<;>simp only [hl,if_true,if_false,Int.add_zero,w1,w2]<;>omega
   · simp only [beq_eq_false_iff_ne,ne_eq] at h6
     refine af (fun hl=>af (fun h7=>⟨rfl,?_⟩) fun h7=>af (fun h5=>⟨rfl,?_⟩) fun h5=>⟨rfl,?_⟩) fun hl=>⟨rfl,?_⟩
     all_goals simp_all
   · rintro _ rfl
     simp only [beq_eq_false_iff_ne,ne_eq] at h6
     refine af (fun hrr=>af (fun h7=>⟨rfl,next _ ?_⟩) fun h7=>⟨rfl,next _ ?_⟩) fun hrr=>⟨rfl,next _ ?_⟩
     · simp only [beq_iff_eq] at h7 hrr
       by_cases hl:(Sp.nodeAt q n).2.1=a<;>simp [h6,h7,hl,hrr] at hr<;>simp only [h7,hl,true_or,and_self,and_false,if_true,if_false,Int.add_zero,w1,w2]<;>omega
     · simp only [beq_eq_false_iff_ne,ne_eq] at h7
       dsimp only
       by_cases h5:(Sp.nodeAt q n).1=5<;>by_cases hl:(Sp.nodeAt q n).2.1=a<;>simp [h6,h7,h5,hl] at hr<;>simp [h7,h5,hl]<;>omega
     · simp only [beq_eq_false_iff_ne,ne_eq] at hrr
       dsimp only
       by_cases h7:(Sp.nodeAt q n).1=7<;>by_cases h5:(Sp.nodeAt q n).1=5<;>by_cases hl:(Sp.nodeAt q n).2.1=a<;>simp [h6,h7,h5,hl,hrr] at hr<;>simp [h7,h5,hl]<;>omega
 · dsimp only
   refine dD (by omega) ?_
   rw [hJ,agf]
theorem agh {q:List Sp.bD} {n:Nat} (hn:n<q.length) (h:Sp.lS q n=false):Sp.bF q=false:=by
 unfold Sp.bF;rw [Bo hn h];rfl
theorem AO:ai prog G kG.e:=by
 refine SL (ak ah ⟨lV,ML,Vm,trivial⟩) ?_
 intro q hin hp
 dsimp only [kG] at hp ⊢
 have hp:q.length≤1000000:=hp
 refine iV q.length (by omega) (fun n=>∀ i,i<n→Sp.lS q i=true) (fun i hi=>by omega) (fun I μ n hn hJ next=>?_) fun I μ hJ=>?_
 · dsimp only
   have no:Sp.lS q n=false→(false,())=(Sp.bF q,()):=fun h=>by rw [agh hn h]
   rw [xC (show 0<q.length by omega) (by omega)]
   refine dB (by omega) ⟨⟨by omega,by omega⟩,trivial,af (fun h2=>no ?_) fun h2=>af (fun h3=>⟨hp,af (fun h4=>no ?_) fun h4=>⟨rfl,next (dX hJ ?_)⟩⟩) fun h3=>⟨rfl,next (dX hJ ?_)⟩⟩
   · have h2:Sp.jI (Sp.nodeAt q n) n=false:=fQ h2
     unfold Sp.lS;rw [h2];rfl
   · have h2:Sp.jI (Sp.nodeAt q n) n=true:=dH h2
     have h4:(Sp.nH q n:Int)≠1:=by simpa using h4
     have h3:(n:Int)<(q.length:Int)-1:=by have:=fD h3;omega
     unfold Sp.lS
     simp only [h3,h2]
     simp;omega
   · have h2:Sp.jI (Sp.nodeAt q n) n=true:=dH h2
     have h4:(Sp.nH q n:Int)=1:=by simpa using h4
     have h4:Sp.nH q n=1:=by omega
     unfold Sp.lS
     simp [h2,h4]
   · have h2:Sp.jI (Sp.nodeAt q n) n=true:=dH h2
     have h3:¬ (n:Int)<(q.length:Int)-1:=by have:=fP h3;omega
     unfold Sp.lS
     simp [h2,h3]
 · dsimp only
   refine dD (by omega) ⟨trivial,congrArg (·,()) ?_⟩
   unfold Sp.bF
   rw [oH hJ];rfl
theorem AL:ai prog G kH.e:=by
 refine SN (ak ah ⟨ug,MO,Vk,trivial⟩) ?_
 intro q hin hp
 dsimp only [kH] at hp ⊢
 have hp:q.length≤1000000:=hp
 refine iV q.length (by omega) (fun n=>∀ i,i<n→Sp.lS q i=true) (fun i hi=>by omega) (fun I μ n hn hJ next=>?_) fun I μ hJ=>?_
 · dsimp only
   have no:Sp.lS q n=false→(false,())=(Sp.bF q,()):=fun h=>by rw [agh hn h]
   rw [xC (show 0<q.length by omega) (by omega)]
   refine dB (by omega) ⟨⟨by omega,by omega⟩,trivial,af (fun h2=>no ?_) fun h2=>af (fun h3=>⟨hp,af (fun h4=>no ?_) fun h4=>⟨rfl,next (dX hJ ?_)⟩⟩) fun h3=>⟨rfl,next (dX hJ ?_)⟩⟩
   · have h2:Sp.jI (Sp.nodeAt q n) n=false:=fQ h2
     unfold Sp.lS;rw [h2];rfl
   · have h2:Sp.jI (Sp.nodeAt q n) n=true:=dH h2
     have h4:(Sp.nH q n:Int)≠1:=by simpa using h4
     have h3:(n:Int)<(q.length:Int)-1:=by have:=fD h3;omega
     unfold Sp.lS
     simp only [h3,h2]
     simp;omega
   · have h2:Sp.jI (Sp.nodeAt q n) n=true:=dH h2
     have h4:(Sp.nH q n:Int)=1:=by simpa using h4
     have h4:Sp.nH q n=1:=by omega
     unfold Sp.lS
     simp [h2,h4]
   · have h2:Sp.jI (Sp.nodeAt q n) n=true:=dH h2
     have h3:¬ (n:Int)<(q.length:Int)-1:=by have:=fP h3;omega
     unfold Sp.lS
     simp [h2,h3]
 · dsimp only
   refine dD (by omega) ⟨trivial,congrArg (·,()) ?_⟩
   unfold Sp.bF
   rw [oH hJ];rfl
theorem ajP {d:List Sp.aH} {n:Nat} (hn:n<d.length) (h:Sp.mG d n=false):Sp.bJ d=false:=by
 unfold Sp.bJ;rw [Bo hn h];rfl
theorem Gm:ai prog G qc.e:=by
 refine Vp (ak ah ⟨AO,zX,trivial⟩) ?_
 intro d hin hp
 dsimp only [qc] at hp ⊢
 have hp:Sp.aB d:=hp
 have hlen:d.length≤1000:=hp.1
 refine iV d.length (by omega) (fun n=>∀ i,i<n→Sp.mG d i=true) (fun i hi=>by omega) (fun I μ n hn hJ next=>?_) fun I μ hJ=>?_
 · dsimp only
   have no:Sp.mG d n=false→(false,())=(Sp.bJ d,()):=fun h=>by rw [ajP hn h]
   have hq:(Sp.bI d n).2.1.length≤1000000:=Nat.le_trans (rD hp hn) (by omega)
   refine dB (by omega) ⟨⟨by omega,by omega⟩,trivial,af (fun h2=>no ?_) fun h2=>⟨⟨by omega,by omega⟩,hq,af (fun h3=>no ?_) fun h3=>af (fun h4=>?_) fun h4=>⟨rfl,next (dX hJ ?_)⟩⟩⟩
   · have h2:Sp.iy (Sp.bI d n).1=false:=fQ h2
     unfold Sp.mG;rw [h2];rfl
   · have h3:Sp.bF (Sp.bI d n).2.1=false:=fQ h3
     unfold Sp.mG;rw [h3];simp
   · have h2:Sp.iy (Sp.bI d n).1=true:=dH h2
     have h3:Sp.bF (Sp.bI d n).2.1=true:=dH h3
     have h4:0<n:=by have:=fD h4;omega
     rw [xC h4 (by omega)]
     refine ⟨⟨by omega,by omega⟩,⟨by omega,by omega⟩,af (fun h5=>no ?_) fun h5=>⟨rfl,next (dX hJ ?_)⟩⟩
     · have h5:Op.bytesLess (Sp.bI d (n-1)).1 (Sp.bI d n).1=false:=fQ h5
       unfold Sp.mG;rw [h2,h3,h5,decide_eq_true h4];rfl
     · have h5:Op.bytesLess (Sp.bI d (n-1)).1 (Sp.bI d n).1=true:=dH h5
       unfold Sp.mG;rw [h2,h3,h5,decide_eq_true h4];rfl
   · have h2:Sp.iy (Sp.bI d n).1=true:=dH h2
     have h3:Sp.bF (Sp.bI d n).2.1=true:=dH h3
     have h4:¬ 0<n:=by have:=fP h4;omega
     unfold Sp.mG;rw [h2,h3,decide_eq_false h4];rfl
 · dsimp only
   refine dD (by omega) (congrArg (·,()) ?_)
   unfold Sp.bJ
   rw [oH hJ];rfl
theorem Gn:ai prog G qf.e:=by
 refine Vq (ak ah ⟨AL,zY,trivial⟩) ?_
 intro d hin hp
 dsimp only [qf] at hp ⊢
 have hp:Sp.aB d:=hp
 have hlen:d.length≤1000:=hp.1
 refine iV d.length (by omega) (fun n=>∀ i,i<n→Sp.mG d i=true) (fun i hi=>by omega) (fun I μ n hn hJ next=>?_) fun I μ hJ=>?_
 · dsimp only
   have no:Sp.mG d n=false→(false,())=(Sp.bJ d,()):=fun h=>by rw [ajP hn h]
   have hq:(Sp.bI d n).2.1.length≤1000000:=Nat.le_trans (rD hp hn) (by omega)
   refine dB (by omega) ⟨⟨by omega,by omega⟩,trivial,af (fun h2=>no ?_) fun h2=>af (fun h4=>?_) fun h4=>⟨hq,af (fun h3=>no ?_) fun h3=>⟨rfl,next (dX hJ ?_)⟩⟩⟩
   · have h2:Sp.iy (Sp.bI d n).1=false:=fQ h2
     unfold Sp.mG;rw [h2];rfl
   · have h2:Sp.iy (Sp.bI d n).1=true:=dH h2
     have h4:0<n:=by have:=fD h4;omega
     rw [xC h4 (by omega)]
     refine ⟨⟨by omega,by omega⟩,af (fun h5=>no ?_) fun h5=>⟨hq,af (fun h3=>no ?_) fun h3=>⟨rfl,next (dX hJ ?_)⟩⟩⟩
     · have h5:Op.bytesLess (Sp.bI d (n-1)).1 (Sp.bI d n).1=false:=fQ h5
       unfold Sp.mG;rw [h5,decide_eq_true h4];simp
     · have h3:Sp.bF (Sp.bI d n).2.1=false:=fQ h3
       unfold Sp.mG;rw [h3];simp
     · have h3:Sp.bF (Sp.bI d n).2.1=true:=dH h3
       have h5:Op.bytesLess (Sp.bI d (n-1)).1 (Sp.bI d n).1=true:=dH h5
       unfold Sp.mG;rw [h2,h3,h5,decide_eq_true h4];rfl
   · have h3:Sp.bF (Sp.bI d n).2.1=false:=fQ h3
     unfold Sp.mG;rw [h3];simp
   · have h2:Sp.iy (Sp.bI d n).1=true:=dH h2
     have h3:Sp.bF (Sp.bI d n).2.1=true:=dH h3
     have h4:¬ 0<n:=by have:=fP h4;omega
     unfold Sp.mG;rw [h2,h3,decide_eq_false h4];rfl
 · dsimp only
   refine dD (by omega) (congrArg (·,()) ?_)
   unfold Sp.bJ
   rw [oH hJ];rfl
end Go.Proofs.Tryz
