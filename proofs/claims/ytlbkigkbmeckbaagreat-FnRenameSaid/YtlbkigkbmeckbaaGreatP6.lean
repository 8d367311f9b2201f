import Derived.Test.YtlbkigkbmeckbaaGreatP5
namespace Go.Proofs.Tryz
open Go Go.Fw Go.IntWalk
theorem ani {S:Type} {B:((Int×Unit)×S→Prop)→((Int×Unit)×S→Nat)→(Int×Unit)×S→Prop} (len:Nat) (hlen:len≤9223372036854775807) (J:Nat→S→Prop) {s0:S} (h0:J len s0)
 (hstep:∀ I μ (n:Nat) (s:S),n<len→J (n+1) s→(∀ s',J n s'→I ((IntKind.i64.wrap ((n:Int)-1),()),s')∧μ ((IntKind.i64.wrap ((n:Int)-1),()),s')<μ (((n:Int),()),s))→B I μ (((n:Int),()),s))
 (hend:∀ I μ s,J 0 s→B I μ ((-1,()),s)):∃ I,∃ μ,I ((IntKind.i64.wrap ((len:Int)-1),()),s0)∧∀ y,I y→B I μ y:=by
 have w:∀ n:Nat,n≤len→IntKind.i64.wrap ((n:Int)-1)=(n:Int)-1:=fun n hn=>gu _ (by omega)
 refine ⟨fun y=>∃ (n:Nat) (s:S),y=(((n:Int)-1,()),s)∧n≤len∧J n s,fun y=>(y.1.1+1).toNat,⟨len,s0,by rw [w len (Nat.le_refl _)],Nat.le_refl _,h0⟩,?_⟩
 rintro _ ⟨n,s,rfl,hn,hJ⟩
 cases n with
 |zero=>exact hend _ _ s hJ
 |succ n=>
  have e:((n+1:Nat):Int)-1=n:=by omega
  rw [e]
  refine hstep _ _ n s hn hJ fun s' hJ'=>?_
  rw [w n (by omega)]
  refine ⟨⟨n,s',rfl,by omega,hJ'⟩,?_⟩
  show ((n:Int)-1+1).toNat<((n:Int)+1).toNat
  omega
theorem getD_set_ne {α:Type} (l:List α) (i n:Nat) (x d:α) (h:i≠n):(l.set i x).getD n d=l.getD n d:=by
 rw [List.getD_eq_getElem?_getD,List.getD_eq_getElem?_getD,List.getElem?_set_ne h]
theorem Nj {x:Sp.bJ} {a:Int} (h:Sp.kS x a=true) (h2:x.1=5∨x.1=6∨x.1=7):0≤x.2.1∧x.2.1<a:=by
 obtain ⟨x0,x1,x2,x3,x4,x5,x6,_⟩:=x
 rw [Nb] at h
 rcases h2 with rfl|rfl|rfl<;>simp at h<;>exact ⟨h.1.1.1.1,by dsimp only;omega⟩
theorem Nk {x:Sp.bJ} {a:Int} (h:Sp.kS x a=true) (h2:x.1=6∨x.1=7):0≤x.2.2.1∧x.2.2.1<a:=by
 obtain ⟨x0,x1,x2,x3,x4,x5,x6,_⟩:=x
 rw [Nb] at h
 rcases h2 with rfl|rfl<;>simp at h<;>exact ⟨h.1.2.1,by dsimp only;omega⟩
theorem ajl {q:List Sp.bJ} (h:Sp.bQ q=true) {n:Nat} (hn:n<q.length):Sp.kS (Sp.nodeAt q n) n=true:=by
 unfold Sp.bQ at h
 simp only [Bool.and_eq_true] at h
 have:=aeA.1 h.1 n hn
 unfold Sp.nT at this
 simp only [Bool.and_eq_true] at this
 exact this.1
theorem Gn {q:List Sp.bJ} (h:Sp.bQ q=true):1≤q.length∧q.length≤9:=by
 unfold Sp.bQ at h
 simp only [Bool.and_eq_true,decide_eq_true_eq] at h
 omega
theorem aeB {q:List Sp.bJ} {n:Nat} {out:List (Bool×Unit)} (h:(Sp.nodeAt q n).1=5):Sp.kV q n out=out.set (Sp.nodeAt q n).2.1.toNat (true,()):=by
 unfold Sp.kV;simp [h]
theorem aeC {q:List Sp.bJ} {n:Nat} {out:List (Bool×Unit)} (h:(Sp.nodeAt q n).1=6∨(Sp.nodeAt q n).1=7):Sp.kV q n out=(out.set (Sp.nodeAt q n).2.1.toNat ((out.getD n (false,())).1,())).set (Sp.nodeAt q n).2.2.1.toNat ((out.getD n (false,())).1,()):=by
 unfold Sp.kV Sp.jR;rcases h with h|h<;>simp [h]
theorem aa3 {q:List Sp.bJ} {n:Nat} {out:List (Bool×Unit)} (h5:(Sp.nodeAt q n).1≠5) (h6:(Sp.nodeAt q n).1≠6) (h7:(Sp.nodeAt q n).1≠7):Sp.kV q n out=out:=by
 unfold Sp.kV Sp.jR;dsimp only;rw [beq_eq_false_iff_ne.2 h5,beq_eq_false_iff_ne.2 h6,beq_eq_false_iff_ne.2 h7];rfl
theorem Gs (q:List Sp.bJ):∀ (n:Nat) (out:List (Bool×Unit)),(Sp.jq q n out).length=out.length
 |0,out=>rfl
 |n+1,out=>by
  rw [Sp.jq,Gs q n]
  unfold Sp.kV
  simp only [cond_eq_ite]
  split
  · simp
  · split<;>simp
theorem aqx {q:List Sp.bJ} (h:Sp.bQ q=true):(Sp.negated q).length=q.length:=by
 unfold Sp.negated;rw [h];show (Sp.jq q _ _).length=_;rw [Gs];simp
theorem VL:ai prog G uK.e:=by
 refine VN (aj ah ⟨DL,trivial⟩) ?_
 intro q hin hp
 dsimp only [uK] at hp ⊢
 have hp:q.length≤1000:=hp
 refine ⟨by omega,af (fun h=>?_) fun h=>⟨⟨by omega,by omega,by rw [bU];omega⟩,?_⟩⟩
 · have h:=fO h
   unfold Sp.negated;rw [h];rfl
 have hok:=dI h
 have hR:Sp.negated q=Sp.jq q q.length (List.replicate q.length (false,())):=by unfold Sp.negated;rw [hok];rfl
 refine ani q.length (by omega) (fun n (s:List (Bool×Unit)×Unit)=>s.1.length=q.length∧Sp.jq q n s.1=Sp.negated q) ⟨by simp,hR.symm⟩ (fun I μ n s hn hJ next=>?_) fun I μ s hJ=>?_
 · obtain ⟨out,⟨⟩⟩:=s
   obtain ⟨hl,hJ⟩:=hJ
   have hl:out.length=q.length:=hl
   have hJ:Sp.jq q n (Sp.kV q n out)=Sp.negated q:=hJ
   have hk:=ajl hok hn
   have e:q.getD n (0,0,0,[],0,0,[],())=Sp.nodeAt q n:=rfl
   dsimp only
   rw [Int.toNat_natCast,e]
   simp only [List.length_set]
   refine dh (by omega) ⟨⟨by omega,by omega⟩,by omega,?_⟩
   by_cases h5:(Sp.nodeAt q n).1=5
   · have hb:=Nj hk (.inl h5)
     simp only [h5,Int.reduceBEq,cond_true,cond_false]
     have fin:Sp.jq q n (out.set (Sp.nodeAt q n).2.1.toNat (true,()))=Sp.negated q:=by rw [← aeB h5];exact hJ
     refine af (fun _=>⟨⟨by omega,by omega⟩,⟨by omega,by omega⟩,⟨by omega,by omega⟩,by omega,trivial,next _ ⟨by simp [hl],fin⟩⟩) fun _=>⟨⟨by omega,by omega⟩,⟨by omega,by omega⟩,⟨by omega,by omega⟩,⟨by omega,by omega⟩,by omega,trivial,next _ ⟨by simp [hl],fin⟩⟩
   by_cases TV:(Sp.nodeAt q n).1=6∨(Sp.nodeAt q n).1=7
   · have hb:=Nj hk (.inr TV)
     have hb2:=Nk hk TV
     have fin:∀ b,(out.getD n (false,())).1=b→Sp.jq q n ((out.set (Sp.nodeAt q n).2.1.toNat (b,())).set (Sp.nodeAt q n).2.2.1.toNat (b,()))=Sp.negated q:=fun b hb=>by rw [← hb,← aeC TV];exact hJ
     rcases TV with h6|h6
     all_goals
      simp only [h6,Int.reduceBEq,cond_true,cond_false]
      refine af (fun hc=>⟨⟨by omega,by omega⟩,⟨by omega,by omega⟩,⟨by omega,by omega⟩,⟨by omega,by omega⟩,by omega,⟨by omega,by omega⟩,by omega,trivial,next _ ⟨by simp [hl],fin true hc⟩⟩) fun hc=>⟨⟨by omega,by omega⟩,⟨by omega,by omega⟩,⟨by omega,by omega⟩,⟨by omega,by omega⟩,⟨by omega,by omega⟩,by omega,⟨by omega,by omega⟩,by omega,trivial,next _ ⟨by simp [hl],fin false hc⟩⟩
   · have h6:(Sp.nodeAt q n).1≠6:=fun h=>TV (.inl h)
     have h7:(Sp.nodeAt q n).1≠7:=fun h=>TV (.inr h)
     have fin:Sp.jq q n out=Sp.negated q:=by rw [aa3 h5 h6 h7] at hJ;exact hJ
     simp only [beq_eq_false_iff_ne.2 h5,beq_eq_false_iff_ne.2 h6,beq_eq_false_iff_ne.2 h7,cond_false]
     exact af (fun _=>⟨⟨by omega,by omega⟩,trivial,next _ ⟨hl,fin⟩⟩) fun _=>⟨⟨by omega,by omega⟩,⟨by omega,by omega⟩,trivial,next _ ⟨hl,fin⟩⟩
 · obtain ⟨out,⟨⟩⟩:=s
   obtain ⟨hl,hJ⟩:=hJ
   dsimp only
   refine dm (by omega) ?_
   have hJ:out=Sp.negated q:=hJ
   rw [hJ]
theorem VO:ai prog G uJ.e:=by
 refine VP (aj ah ⟨DN,trivial⟩) ?_
 intro q hin hp
 dsimp only [uJ] at hp ⊢
 have hp:q.length≤1000:=hp
 refine ⟨by omega,af (fun h=>?_) fun h=>⟨⟨by omega,by omega,by rw [bU];omega⟩,?_⟩⟩
 · have h:=fO h
   unfold Sp.negated;rw [h];rfl
 have hok:=dI h
 have hR:Sp.negated q=Sp.jq q q.length (List.replicate q.length (false,())):=by unfold Sp.negated;rw [hok];rfl
 refine ani q.length (by omega) (fun n (s:List (Bool×Unit)×Unit)=>s.1.length=q.length∧Sp.jq q n s.1=Sp.negated q) ⟨by simp,hR.symm⟩ (fun I μ n s hn hJ next=>?_) fun I μ s hJ=>?_
 · obtain ⟨out,⟨⟩⟩:=s
   obtain ⟨hl,hJ⟩:=hJ
   have hl:out.length=q.length:=hl
   have hJ:Sp.jq q n (Sp.kV q n out)=Sp.negated q:=hJ
   have hk:=ajl hok hn
   have e:q.getD n (0,0,0,[],0,0,[],())=Sp.nodeAt q n:=rfl
   dsimp only
   rw [Int.toNat_natCast,e]
   simp only [List.length_set]
   refine dh (by omega) ⟨⟨by omega,by omega⟩,?_⟩
   by_cases h5:(Sp.nodeAt q n).1=5
   · have hb:=Nj hk (.inl h5)
     simp only [h5,Int.reduceBEq,cond_true,cond_false]
     have fin:Sp.jq q n (out.set (Sp.nodeAt q n).2.1.toNat (true,()))=Sp.negated q:=by rw [← aeB h5];exact hJ
     exact ⟨⟨by omega,by omega⟩,by omega,trivial,next _ ⟨by simp [hl],fin⟩⟩
   by_cases TV:(Sp.nodeAt q n).1=6∨(Sp.nodeAt q n).1=7
   · have hb:=Nj hk (.inr TV)
     have hb2:=Nk hk TV
     have hne:(Sp.nodeAt q n).2.1.toNat≠n:=by omega
     have fin:Sp.jq q n ((out.set (Sp.nodeAt q n).2.1.toNat ((out.getD n (false,())).1,())).set (Sp.nodeAt q n).2.2.1.toNat ((out.getD n (false,())).1,()))=Sp.negated q:=by rw [← aeC TV];exact hJ
     rcases TV with h6|h6
     all_goals
      simp only [h6,Int.reduceBEq,cond_true,cond_false,getD_set_ne _ _ _ _ _ hne]
      exact ⟨⟨by omega,by omega⟩,by omega,⟨by omega,by omega⟩,by omega,⟨by omega,by omega⟩,by omega,⟨by omega,by omega⟩,by omega,trivial,next _ ⟨by simp [hl],fin⟩⟩
   · have h6:(Sp.nodeAt q n).1≠6:=fun h=>TV (.inl h)
     have h7:(Sp.nodeAt q n).1≠7:=fun h=>TV (.inr h)
     have fin:Sp.jq q n out=Sp.negated q:=by rw [aa3 h5 h6 h7] at hJ;exact hJ
     simp only [beq_eq_false_iff_ne.2 h5,beq_eq_false_iff_ne.2 h6,beq_eq_false_iff_ne.2 h7,cond_false]
     exact ⟨trivial,next _ ⟨hl,fin⟩⟩
 · obtain ⟨out,⟨⟩⟩:=s
   obtain ⟨hl,hJ⟩:=hJ
   dsimp only
   refine dm (by omega) ?_
   have hJ:out=Sp.negated q:=hJ
   rw [hJ]
end Go.Proofs.Tryz
