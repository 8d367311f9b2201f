import Derived.Test.YtlbkigkbmeckbaaGreatP4
namespace Go.Proofs.Tryz
open Go Go.Fw Go.IntWalk
theorem VI (a:Int) (x:Sp.bJ):(Sp.refsOf a x:Int)=(if (x.1=6∨x.1=7∨x.1=5)∧x.2.1=a then 1 else 0)+(if (x.1=6∨x.1=7)∧x.2.2.1=a then 1 else 0):=by
 unfold Sp.refsOf Sp.jR
 by_cases h6:x.1=6<;>by_cases h7:x.1=7<;>by_cases h5:x.1=5<;>by_cases hl:x.2.1=a<;>by_cases hr:x.2.2.1=a<;>simp [cond_eq_ite,h6,h7,h5,hl,hr]
theorem avA (a:Int) (x:Sp.bJ):Sp.refsOf a x≤2:=by
 have:=VI a x
 split at this<;>split at this<;>omega
def qx (q:List Sp.bJ) (a:Int) (n:Nat):Nat:=((q.take n).map (Sp.refsOf a)).sum
theorem Rl (q:List Sp.bJ) (a:Int) {n:Nat} (hn:n<q.length):qx q a (n+1)=qx q a n+Sp.refsOf a (Sp.nodeAt q n):=by
 unfold qx
 rw [Sp.take_succ' q n (0,0,0,[],0,0,[],()) hn]
 simp only [List.map_append,List.sum_append,List.map_cons,List.map_nil,List.sum_cons,List.sum_nil,Nat.add_zero]
 rfl
theorem aa2 (q:List Sp.bJ) (a:Int):∀ n,n≤q.length→qx q a n≤2*n
 |0,_=>by simp [qx]
 |n+1,h=>by
  rw [Rl q a (by omega)]
  have:=aa2 q a n (by omega)
  have:=avA a (Sp.nodeAt q n)
  omega
theorem ajj (q:List Sp.bJ) (a:Int):qx q a q.length=Sp.pF q a:=by unfold qx Sp.pF;rw [List.take_length]
theorem O8:ai prog G ql.e:=by
 refine O9 (aj ah trivial) ?_
 intro q a hin hp
 dsimp only [ql] at hp ⊢
 have hp:q.length≤1000000:=hp
 refine dM (fun i (c:Int)=>((c,i,()),())) (fun y=>y.1.2.1) (fun _ _=>rfl) q.length (by omega) (fun n c=>c=(qx q a n:Int)) rfl (fun I μ n c hn hJ next=>?_) fun I μ c hJ=>?_
 · subst hJ
   have hs:=Rl q a hn
   have hb:=aa2 q a n (by omega)
   have hr:=VI a (Sp.nodeAt q n)
   dsimp only
   rw [Int.toNat_natCast]
   have e:q.getD n (0,0,0,[],0,0,[],())=Sp.nodeAt q n:=rfl
   rw [e]
   have w1:IntKind.i64.wrap ((qx q a n:Int)+1)=(qx q a n:Int)+1:=gu _ (by omega)
   have w2:IntKind.i64.wrap ((qx q a n:Int)+1+1)=(qx q a n:Int)+1+1:=gu _ (by omega)
   refine dh (by omega) ⟨⟨by omega,by omega⟩,af (fun h6=>⟨fun y=>y=(((qx q a n:Int)+(if (Sp.nodeAt q n).2.1=a then 1 else 0),()),()),⟨⟨by omega,by omega⟩,af (fun hl=>⟨rfl,?_⟩) fun hl=>⟨rfl,?_⟩⟩,?_⟩) fun h6=>⟨⟨by omega,by omega⟩,fun y=>y=(((qx q a n:Int)+(if ((Sp.nodeAt q n).1=7∨(Sp.nodeAt q n).1=5)∧(Sp.nodeAt q n).2.1=a then 1 else 0),()),()),?_,?_⟩⟩
   · simp only [beq_iff_eq] at hl;rw [w1,if_pos hl]
   · simp only [beq_eq_false_iff_ne] at hl;rw [if_neg hl,Int.add_zero]
   · rintro _ rfl
     simp only [beq_iff_eq] at h6
     refine ⟨⟨by omega,by omega⟩,af (fun hrr=>⟨rfl,next _ ?_⟩) fun hrr=>⟨rfl,next _ ?_⟩⟩
     all_goals
      dsimp only
      simp only [beq_iff_eq,beq_eq_false_iff_ne,ne_eq] at hrr
      by_cases hl:(Sp.nodeAt q n).2.1=a<;>simp [h6,hl,hrr] at hr<;>simp only [hl,if_true,if_false,Int.add_zero,w1,w2]<;>omega
   · simp only [beq_eq_false_iff_ne,ne_eq] at h6
     refine af (fun h7=>⟨⟨by omega,by omega⟩,af (fun hl=>⟨rfl,?_⟩) fun hl=>⟨rfl,?_⟩⟩) fun h7=>⟨⟨by omega,by omega⟩,af (fun h5=>⟨⟨by omega,by omega⟩,af (fun hl=>⟨rfl,?_⟩) fun hl=>⟨rfl,?_⟩⟩) fun h5=>⟨rfl,?_⟩⟩
     all_goals simp_all
   · rintro _ rfl
     simp only [beq_eq_false_iff_ne,ne_eq] at h6
     refine af (fun h7=>⟨⟨by omega,by omega⟩,af (fun hrr=>⟨rfl,next _ ?_⟩) fun hrr=>⟨rfl,next _ ?_⟩⟩) fun h7=>⟨rfl,next _ ?_⟩
     · simp only [beq_iff_eq] at h7 hrr
       by_cases hl:(Sp.nodeAt q n).2.1=a<;>simp [h6,h7,hl,hrr] at hr<;>simp only [h7,hl,true_or,and_self,and_false,if_true,if_false,Int.add_zero,w1,w2]<;>omega
     · simp only [beq_iff_eq,beq_eq_false_iff_ne,ne_eq] at h7 hrr
       by_cases hl:(Sp.nodeAt q n).2.1=a<;>simp [h6,h7,hl,hrr] at hr<;>simp only [h7,hl,true_or,and_self,and_false,if_true,if_false,Int.add_zero,w1,w2]<;>omega
     · simp only [beq_eq_false_iff_ne,ne_eq] at h7
       dsimp only
       by_cases h5:(Sp.nodeAt q n).1=5<;>by_cases hl:(Sp.nodeAt q n).2.1=a<;>simp [h6,h7,h5,hl] at hr<;>simp [h7,h5,hl]<;>omega
 · dsimp only
   refine dm (by omega) ?_
   rw [hJ,ajj]
theorem Pe:ai prog G qm.e:=by
 refine Pg (aj ah trivial) ?_
 intro q a hin hp
 dsimp only [qm] at hp ⊢
 have hp:q.length≤1000000:=hp
 refine dM (fun i (c:Int)=>((c,i,()),())) (fun y=>y.1.2.1) (fun _ _=>rfl) q.length (by omega) (fun n c=>c=(qx q a n:Int)) rfl (fun I μ n c hn hJ next=>?_) fun I μ c hJ=>?_
 · subst hJ
   have hs:=Rl q a hn
   have hb:=aa2 q a n (by omega)
   have hr:=VI a (Sp.nodeAt q n)
   dsimp only
   rw [Int.toNat_natCast]
   have e:q.getD n (0,0,0,[],0,0,[],())=Sp.nodeAt q n:=rfl
   rw [e]
   have w1:IntKind.i64.wrap ((qx q a n:Int)+1)=(qx q a n:Int)+1:=gu _ (by omega)
   have w2:IntKind.i64.wrap ((qx q a n:Int)+1+1)=(qx q a n:Int)+1+1:=gu _ (by omega)
   refine dh (by omega) ⟨⟨by omega,by omega⟩,af (fun h6=>⟨fun y=>y=(((qx q a n:Int)+(if (Sp.nodeAt q n).2.1=a then 1 else 0),()),()),af (fun hl=>⟨rfl,?_⟩) fun hl=>⟨rfl,?_⟩,?_⟩) fun h6=>⟨fun y=>y=(((qx q a n:Int)+(if ((Sp.nodeAt q n).1=7∨(Sp.nodeAt q n).1=5)∧(Sp.nodeAt q n).2.1=a then 1 else 0),()),()),?_,?_⟩⟩
   · simp only [beq_iff_eq] at hl;rw [w1,if_pos hl]
   · simp only [beq_eq_false_iff_ne] at hl;rw [if_neg hl,Int.add_zero]
   · rintro _ rfl
     simp only [beq_iff_eq] at h6
     refine af (fun hrr=>⟨rfl,next _ ?_⟩) fun hrr=>⟨rfl,next _ ?_⟩
     all_goals
      dsimp only
      simp only [beq_iff_eq,beq_eq_false_iff_ne,ne_eq] at hrr
      by_cases hl:(Sp.nodeAt q n).2.1=a<;>simp [h6,hl,hrr] at hr<;>simp only [hl,if_true,if_false,Int.add_zero,w1,w2]<;>omega
   · simp only [beq_eq_false_iff_ne,ne_eq] at h6
     refine af (fun hl=>af (fun h7=>⟨rfl,?_⟩) fun h7=>af (fun h5=>⟨rfl,?_⟩) fun h5=>⟨rfl,?_⟩) fun hl=>⟨rfl,?_⟩
     all_goals simp_all
   · rintro _ rfl
     simp only [beq_eq_false_iff_ne,ne_eq] at h6
     refine af (fun hrr=>af (fun h7=>⟨rfl,next _ ?_⟩) fun h7=>⟨rfl,next _ ?_⟩) fun hrr=>⟨rfl,next _ ?_⟩
     · simp only [beq_iff_eq] at h7 hrr
       by_cases hl:(Sp.nodeAt q n).2.1=a<;>simp [h6,h7,hl,hrr] at hr<;>simp only [h7,hl,true_or,and_self,and_false,if_true,if_false,Int.add_zero,w1,w2]<;>omega
     · simp only [beq_eq_false_iff_ne,ne_eq] at h7
       dsimp only
       by_cases h5:(Sp.nodeAt q n).1=5<;>by_cases hl:(Sp.nodeAt q n).2.1=a<;>simp [h6,h7,h5,hl] at hr<;>simp [h7,h5,hl]<;>omega
     · simp only [beq_eq_false_iff_ne,ne_eq] at hrr
       dsimp only
       by_cases h7:(Sp.nodeAt q n).1=7<;>by_cases h5:(Sp.nodeAt q n).1=5<;>by_cases hl:(Sp.nodeAt q n).2.1=a<;>simp [h6,h7,h5,hl,hrr] at hr<;>simp [h7,h5,hl]<;>omega
 · dsimp only
   refine dm (by omega) ?_
   rw [hJ,ajj]
theorem ajk {q:List Sp.bJ} {n:Nat} (hn:n<q.length) (h:Sp.nT q n=false):Sp.bQ q=false:=by
 unfold Sp.bQ;rw [Ed hn h];rfl
theorem DN:ai prog G lX.e:=by
 refine VJ (aj ah ⟨jX,O8,Yd,trivial⟩) ?_
 intro q hin hp
 dsimp only [lX] at hp ⊢
 have hp:q.length≤1000000:=hp
 refine jd q.length (by omega) (fun n=>∀ i,i<n→Sp.nT q i=true) (fun i hi=>by omega) (fun I μ n hn hJ next=>?_) fun I μ hJ=>?_
 · dsimp only
   have no:Sp.nT q n=false→(false,())=(Sp.bQ q,()):=fun h=>by rw [ajk hn h]
   rw [zo (show 0<q.length by omega) (by omega)]
   refine dh (by omega) ⟨⟨by omega,by omega⟩,trivial,af (fun h2=>no ?_) fun h2=>af (fun h3=>⟨hp,af (fun h4=>no ?_) fun h4=>⟨rfl,next (eY hJ ?_)⟩⟩) fun h3=>⟨rfl,next (eY hJ ?_)⟩⟩
   · have h2:Sp.kS (Sp.nodeAt q n) n=false:=fO h2
     unfold Sp.nT;rw [h2];rfl
   · have h2:Sp.kS (Sp.nodeAt q n) n=true:=dI h2
     have h4:(Sp.pF q n:Int)≠1:=by simpa using h4
     have h3:(n:Int)<(q.length:Int)-1:=by have:=gG h3;omega
     unfold Sp.nT
     simp only [h3,h2]
     simp;omega
   · have h2:Sp.kS (Sp.nodeAt q n) n=true:=dI h2
     have h4:(Sp.pF q n:Int)=1:=by simpa using h4
     have h4:Sp.pF q n=1:=by omega
     unfold Sp.nT
     simp [h2,h4]
   · have h2:Sp.kS (Sp.nodeAt q n) n=true:=dI h2
     have h3:¬ (n:Int)<(q.length:Int)-1:=by have:=iw h3;omega
     unfold Sp.nT
     simp [h2,h3]
 · dsimp only
   refine dm (by omega) ⟨trivial,congrArg (·,()) ?_⟩
   unfold Sp.bQ
   rw [qw hJ];rfl
theorem DL:ai prog G lY.e:=by
 refine VK (aj ah ⟨vS,Pe,Yb,trivial⟩) ?_
 intro q hin hp
 dsimp only [lY] at hp ⊢
 have hp:q.length≤1000000:=hp
 refine jd q.length (by omega) (fun n=>∀ i,i<n→Sp.nT q i=true) (fun i hi=>by omega) (fun I μ n hn hJ next=>?_) fun I μ hJ=>?_
 · dsimp only
   have no:Sp.nT q n=false→(false,())=(Sp.bQ q,()):=fun h=>by rw [ajk hn h]
   rw [zo (show 0<q.length by omega) (by omega)]
   refine dh (by omega) ⟨⟨by omega,by omega⟩,trivial,af (fun h2=>no ?_) fun h2=>af (fun h3=>⟨hp,af (fun h4=>no ?_) fun h4=>⟨rfl,next (eY hJ ?_)⟩⟩) fun h3=>⟨rfl,next (eY hJ ?_)⟩⟩
   · have h2:Sp.kS (Sp.nodeAt q n) n=false:=fO h2
     unfold Sp.nT;rw [h2];rfl
   · have h2:Sp.kS (Sp.nodeAt q n) n=true:=dI h2
     have h4:(Sp.pF q n:Int)≠1:=by simpa using h4
     have h3:(n:Int)<(q.length:Int)-1:=by have:=gG h3;omega
     unfold Sp.nT
     simp only [h3,h2]
     simp;omega
   · have h2:Sp.kS (Sp.nodeAt q n) n=true:=dI h2
     have h4:(Sp.pF q n:Int)=1:=by simpa using h4
     have h4:Sp.pF q n=1:=by omega
     unfold Sp.nT
     simp [h2,h4]
   · have h2:Sp.kS (Sp.nodeAt q n) n=true:=dI h2
     have h3:¬ (n:Int)<(q.length:Int)-1:=by have:=iw h3;omega
     unfold Sp.nT
     simp [h2,h3]
 · dsimp only
   refine dm (by omega) ⟨trivial,congrArg (·,()) ?_⟩
   unfold Sp.bQ
   rw [qw hJ];rfl
theorem anh {d:List Sp.aT} {n:Nat} (hn:n<d.length) (h:Sp.oI d n=false):Sp.gV d=false:=by
 unfold Sp.gV;rw [Ed hn h];rfl
theorem XC:ai prog G wo.e:=by
 refine Yf (aj ah ⟨DN,CV,trivial⟩) ?_
 intro d hin hp
 dsimp only [wo] at hp ⊢
 have hp:Sp.aV d:=hp
 have hlen:d.length≤1000:=hp.1
 refine jd d.length (by omega) (fun n=>∀ i,i<n→Sp.oI d i=true) (fun i hi=>by omega) (fun I μ n hn hJ next=>?_) fun I μ hJ=>?_
 · dsimp only
   have no:Sp.oI d n=false→(false,())=(Sp.gV d,()):=fun h=>by rw [anh hn h]
   have hq:(Sp.dX d n).2.1.length≤1000000:=Nat.le_trans (qW hp hn) (by omega)
   refine dh (by omega) ⟨⟨by omega,by omega⟩,trivial,af (fun h2=>no ?_) fun h2=>⟨⟨by omega,by omega⟩,hq,af (fun h3=>no ?_) fun h3=>af (fun h4=>?_) fun h4=>⟨rfl,next (eY hJ ?_)⟩⟩⟩
   · have h2:Sp.iV (Sp.dX d n).1=false:=fO h2
     unfold Sp.oI;rw [h2];rfl
   · have h3:Sp.bQ (Sp.dX d n).2.1=false:=fO h3
     unfold Sp.oI;rw [h3];simp
   · have h2:Sp.iV (Sp.dX d n).1=true:=dI h2
     have h3:Sp.bQ (Sp.dX d n).2.1=true:=dI h3
     have h4:0<n:=by have:=gG h4;omega
     rw [zo h4 (by omega)]
     refine ⟨⟨by omega,by omega⟩,⟨by omega,by omega⟩,af (fun h5=>no ?_) fun h5=>⟨rfl,next (eY hJ ?_)⟩⟩
     · have h5:Op.bytesLess (Sp.dX d (n-1)).1 (Sp.dX d n).1=false:=fO h5
       unfold Sp.oI;rw [h2,h3,h5,decide_eq_true h4];rfl
     · have h5:Op.bytesLess (Sp.dX d (n-1)).1 (Sp.dX d n).1=true:=dI h5
       unfold Sp.oI;rw [h2,h3,h5,decide_eq_true h4];rfl
   · have h2:Sp.iV (Sp.dX d n).1=true:=dI h2
     have h3:Sp.bQ (Sp.dX d n).2.1=true:=dI h3
     have h4:¬ 0<n:=by have:=iw h4;omega
     unfold Sp.oI;rw [h2,h3,decide_eq_false h4];rfl
 · dsimp only
   refine dm (by omega) (congrArg (·,()) ?_)
   unfold Sp.gV
   rw [qw hJ];rfl
theorem XF:ai prog G wu.e:=by
 refine Yg (aj ah ⟨DL,CW,trivial⟩) ?_
 intro d hin hp
 dsimp only [wu] at hp ⊢
 have hp:Sp.aV d:=hp
 have hlen:d.length≤1000:=hp.1
 refine jd d.length (by omega) (fun n=>∀ i,i<n→Sp.oI d i=true) (fun i hi=>by omega) (fun I μ n hn hJ next=>?_) fun I μ hJ=>?_
 · dsimp only
   have no:Sp.oI d n=false→(false,())=(Sp.gV d,()):=fun h=>by rw [anh hn h]
   have hq:(Sp.dX d n).2.1.length≤1000000:=Nat.le_trans (qW hp hn) (by omega)
   refine dh (by omega) ⟨⟨by omega,by omega⟩,trivial,af (fun h2=>no ?_) fun h2=>af (fun h4=>?_) fun h4=>⟨hq,af (fun h3=>no ?_) fun h3=>⟨rfl,next (eY hJ ?_)⟩⟩⟩
   · have h2:Sp.iV (Sp.dX d n).1=false:=fO h2
     unfold Sp.oI;rw [h2];rfl
   · have h2:Sp.iV (Sp.dX d n).1=true:=dI h2
     have h4:0<n:=by have:=gG h4;omega
     rw [zo h4 (by omega)]
     refine ⟨⟨by omega,by omega⟩,af (fun h5=>no ?_) fun h5=>⟨hq,af (fun h3=>no ?_) fun h3=>⟨rfl,next (eY hJ ?_)⟩⟩⟩
     · have h5:Op.bytesLess (Sp.dX d (n-1)).1 (Sp.dX d n).1=false:=fO h5
       unfold Sp.oI;rw [h5,decide_eq_true h4];simp
     · have h3:Sp.bQ (Sp.dX d n).2.1=false:=fO h3
       unfold Sp.oI;rw [h3];simp
     · have h3:Sp.bQ (Sp.dX d n).2.1=true:=dI h3
       have h5:Op.bytesLess (Sp.dX d (n-1)).1 (Sp.dX d n).1=true:=dI h5
       unfold Sp.oI;rw [h2,h3,h5,decide_eq_true h4];rfl
   · have h3:Sp.bQ (Sp.dX d n).2.1=false:=fO h3
     unfold Sp.oI;rw [h3];simp
   · have h2:Sp.iV (Sp.dX d n).1=true:=dI h2
     have h3:Sp.bQ (Sp.dX d n).2.1=true:=dI h3
     have h4:¬ 0<n:=by have:=iw h4;omega
     unfold Sp.oI;rw [h2,h3,decide_eq_false h4];rfl
 · dsimp only
   refine dm (by omega) (congrArg (·,()) ?_)
   unfold Sp.gV
   rw [qw hJ];rfl
end Go.Proofs.Tryz
