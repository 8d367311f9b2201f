import Derived.Test.YtkgkfdphbkfjnaaGreatP5
namespace Go.Proofs.Tryz
open Go Go.Fw Go.IntWalk Sp
theorem ahB {S:Type} {B:((Int×Unit)×S→Prop)→((Int×Unit)×S→Nat)→(Int×Unit)×S→Prop} (len:Nat) (hlen:len≤9223372036854775807) (J:Nat→S→Prop) {s0:S} (h0:J len s0)
 (hstep:∀ I μ (n:Nat) (s:S),n<len→J (n+1) s→(∀ s',J n s'→I ((IntKind.i64.wrap ((n:Int)-1),()),s')∧μ ((IntKind.i64.wrap ((n:Int)-1),()),s')<μ (((n:Int),()),s))→B I μ (((n:Int),()),s))
 (hend:∀ I μ s,J 0 s→B I μ ((-1,()),s)):∃ I,∃ μ,I ((IntKind.i64.wrap ((len:Int)-1),()),s0)∧∀ y,I y→B I μ y:=by
 have w:∀ n:Nat,n≤len→IntKind.i64.wrap ((n:Int)-1)=(n:Int)-1:=fun n hn=>fF _ (by omega)
 refine ⟨fun y=>∃ (n:Nat) (s:S),y=(((n:Int)-1,()),s)∧n≤len∧J n s,fun y=>(y.1.1+1).toNat,⟨len,s0,by rw [w len (Nat.le_refl _)],Nat.le_refl _,h0⟩,?_⟩
 rintro _ ⟨n,s,rfl,hn,hJ⟩
 cases n with
 |zero=>exact hend _ _ s hJ
 |succ n=>
  have e:((n+1:Nat):Int)-1=n:=by omega
  rw [e]
  refine hstep _ _ n s hn hJ fun s' hJ'=>?_
  rw [w n (by omega)]
  refine ⟨⟨n,s',rfl,by omega,hJ'⟩,?_⟩
  show ((n:Int)-1+1).toNat<((n:Int)+1).toNat
  omega
theorem getD_set_ne {α:Type} (l:List α) (i n:Nat) (x d:α) (h:i≠n):(l.set i x).getD n d=l.getD n d:=by
 rw [List.getD_eq_getElem?_getD,List.getD_eq_getElem?_getD,List.getElem?_set_ne h]
theorem Nr {x:bK} {a:Int} (h:kD x a=true) (h2:x.1=5∨x.1=6∨x.1=7):0≤x.2.1∧x.2.1<a:=by
 obtain ⟨x0,x1,x2,x3,x4,x5,x6,_⟩:=x
 rw [Nj] at h
 rcases h2 with rfl|rfl|rfl<;>simp at h<;>exact ⟨h.1.1.1.1,by dsimp only;omega⟩
theorem Ns {x:bK} {a:Int} (h:kD x a=true) (h2:x.1=6∨x.1=7):0≤x.2.2.1∧x.2.2.1<a:=by
 obtain ⟨x0,x1,x2,x3,x4,x5,x6,_⟩:=x
 rw [Nj] at h
 rcases h2 with rfl|rfl<;>simp at h<;>exact ⟨h.1.2.1,by dsimp only;omega⟩
theorem afm {q:List bK} (h:bQ q=true) {n:Nat} (hn:n<q.length):kD (Sp.nodeAt q n) n=true:=by
 unfold bQ at h
 simp only [Bool.and_eq_true] at h
 have:=abh.1 h.1 n hn
 unfold lX at this
 simp only [Bool.and_eq_true] at this
 exact this.1
theorem Gu {q:List bK} (h:bQ q=true):1≤q.length∧q.length≤9:=by
 unfold bQ at h
 simp only [Bool.and_eq_true,decide_eq_true_eq] at h
 omega
theorem abj {q:List bK} {n:Nat} {out:List (Bool×Unit)} (h:(Sp.nodeAt q n).1=5):kH q n out=out.set (Sp.nodeAt q n).2.1.toNat (true,()):=by
 unfold kH;simp [h]
theorem abk {q:List bK} {n:Nat} {out:List (Bool×Unit)} (h:(Sp.nodeAt q n).1=6∨(Sp.nodeAt q n).1=7):kH q n out=(out.set (Sp.nodeAt q n).2.1.toNat ((out.getD n (false,())).1,())).set (Sp.nodeAt q n).2.2.1.toNat ((out.getD n (false,())).1,()):=by
 unfold kH jI;rcases h with h|h<;>simp [h]
theorem YV {q:List bK} {n:Nat} {out:List (Bool×Unit)} (h5:(Sp.nodeAt q n).1≠5) (h6:(Sp.nodeAt q n).1≠6) (h7:(Sp.nodeAt q n).1≠7):kH q n out=out:=by
 unfold kH jI;dsimp only;rw [beq_eq_false_iff_ne.2 h5,beq_eq_false_iff_ne.2 h6,beq_eq_false_iff_ne.2 h7];rfl
theorem Gx (q:List bK):∀ (n:Nat) (out:List (Bool×Unit)),(iW q n out).length=out.length
 |0,out=>rfl
 |n+1,out=>by
  rw [iW,Gx q n]
  unfold kH
  simp only [cond_eq_ite]
  split
  · simp
  · split<;>simp
theorem akA {q:List bK} (h:bQ q=true):(Sp.negated q).length=q.length:=by
 unfold Sp.negated;rw [h];show (iW q _ _).length=_;rw [Gx];simp
theorem UR:OK wZ.e:=by
 refine PA.ok mixed (au [nJ.e] ⟨Df,trivial⟩) Wq (by kernel_rfl) (show ∀ q,wZ.goal (UU q) (q,()) from ?_)
 intro q hin hp
 dsimp only [wZ] at hp ⊢
 have hp:q.length≤1000:=hp
 refine ⟨by omega,af (fun h=>?_) fun h=>⟨⟨by omega,by omega,by rw [bW];omega⟩,?_⟩⟩
 · have h:=dS h
   unfold Sp.negated;rw [h];rfl
 have hok:=bU h
 have hR:Sp.negated q=iW q q.length (List.replicate q.length (false,())):=by unfold Sp.negated;rw [hok];rfl
 refine ahB q.length (by omega) (fun n (s:List (Bool×Unit)×Unit)=>s.1.length=q.length∧iW q n s.1=Sp.negated q) ⟨by simp,hR.symm⟩ (fun I μ n s hn hJ next=>?_) fun I μ s hJ=>?_
 · obtain ⟨out,⟨⟩⟩:=s
   obtain ⟨hl,hJ⟩:=hJ
   have hl:out.length=q.length:=hl
   have hJ:iW q n (kH q n out)=Sp.negated q:=hJ
   have hk:=afm hok hn
   have e:q.getD n (0,0,0,[],0,0,[],())=Sp.nodeAt q n:=rfl
   dsimp only
   rw [Int.toNat_natCast,e]
   simp only [List.length_set]
   refine dH (by omega) ⟨⟨by omega,by omega⟩,by omega,?_⟩
   by_cases h5:(Sp.nodeAt q n).1=5
   · have hb:=Nr hk (.inl h5)
     simp only [h5,Int.reduceBEq,cond_true,cond_false]
     have fin:iW q n (out.set (Sp.nodeAt q n).2.1.toNat (true,()))=Sp.negated q:=by rw [← abj h5];exact hJ
     refine af (fun _=>⟨⟨by omega,by omega⟩,⟨by omega,by omega⟩,⟨by omega,by omega⟩,by omega,trivial,next _ ⟨by simp [hl],fin⟩⟩) fun _=>⟨⟨by omega,by omega⟩,⟨by omega,by omega⟩,⟨by omega,by omega⟩,⟨by omega,by omega⟩,by omega,trivial,next _ ⟨by simp [hl],fin⟩⟩
   by_cases SI:(Sp.nodeAt q n).1=6∨(Sp.nodeAt q n).1=7
   · have hb:=Nr hk (.inr SI)
     have hb2:=Ns hk SI
     have fin:∀ b,(out.getD n (false,())).1=b→iW q n ((out.set (Sp.nodeAt q n).2.1.toNat (b,())).set (Sp.nodeAt q n).2.2.1.toNat (b,()))=Sp.negated q:=fun b hb=>by rw [← hb,← abk SI];exact hJ
     rcases SI with h6|h6
     all_goals
      simp only [h6,Int.reduceBEq,cond_true,cond_false]
      refine af (fun hc=>⟨⟨by omega,by omega⟩,⟨by omega,by omega⟩,⟨by omega,by omega⟩,⟨by omega,by omega⟩,by omega,⟨by omega,by omega⟩,by omega,trivial,next _ ⟨by simp [hl],fin true hc⟩⟩) fun hc=>⟨⟨by omega,by omega⟩,⟨by omega,by omega⟩,⟨by omega,by omega⟩,⟨by omega,by omega⟩,⟨by omega,by omega⟩,by omega,⟨by omega,by omega⟩,by omega,trivial,next _ ⟨by simp [hl],fin false hc⟩⟩
   · have h6:(Sp.nodeAt q n).1≠6:=fun h=>SI (.inl h)
     have h7:(Sp.nodeAt q n).1≠7:=fun h=>SI (.inr h)
     have fin:iW q n out=Sp.negated q:=by rw [YV h5 h6 h7] at hJ;exact hJ
     simp only [beq_eq_false_iff_ne.2 h5,beq_eq_false_iff_ne.2 h6,beq_eq_false_iff_ne.2 h7,cond_false]
     exact af (fun _=>⟨⟨by omega,by omega⟩,rfl,next _ ⟨hl,fin⟩⟩) fun _=>⟨⟨by omega,by omega⟩,⟨by omega,by omega⟩,rfl,next _ ⟨hl,fin⟩⟩
 · obtain ⟨out,⟨⟩⟩:=s
   obtain ⟨hl,hJ⟩:=hJ
   dsimp only
   refine dI (by omega) ?_
   have hJ:out=Sp.negated q:=hJ
   rw [hJ]
theorem UW:OK wY.e:=by
 refine PA.ok mixed (au [nI.e] ⟨Dh,trivial⟩) Ws (by kernel_rfl) (show ∀ q,wY.goal (UX q) (q,()) from ?_)
 intro q hin hp
 dsimp only [wY] at hp ⊢
 have hp:q.length≤1000:=hp
 refine ⟨by omega,af (fun h=>?_) fun h=>⟨⟨by omega,by omega,by rw [bW];omega⟩,?_⟩⟩
 · have h:=dS h
   unfold Sp.negated;rw [h];rfl
 have hok:=bU h
 have hR:Sp.negated q=iW q q.length (List.replicate q.length (false,())):=by unfold Sp.negated;rw [hok];rfl
 refine ahB q.length (by omega) (fun n (s:List (Bool×Unit)×Unit)=>s.1.length=q.length∧iW q n s.1=Sp.negated q) ⟨by simp,hR.symm⟩ (fun I μ n s hn hJ next=>?_) fun I μ s hJ=>?_
 · obtain ⟨out,⟨⟩⟩:=s
   obtain ⟨hl,hJ⟩:=hJ
   have hl:out.length=q.length:=hl
   have hJ:iW q n (kH q n out)=Sp.negated q:=hJ
   have hk:=afm hok hn
   have e:q.getD n (0,0,0,[],0,0,[],())=Sp.nodeAt q n:=rfl
   dsimp only
   rw [Int.toNat_natCast,e]
   simp only [List.length_set]
   refine dH (by omega) ⟨⟨by omega,by omega⟩,?_⟩
   by_cases h5:(Sp.nodeAt q n).1=5
   · have hb:=Nr hk (.inl h5)
     simp only [h5,Int.reduceBEq,cond_true,cond_false]
     have fin:iW q n (out.set (Sp.nodeAt q n).2.1.toNat (true,()))=Sp.negated q:=by rw [← abj h5];exact hJ
     exact ⟨⟨by omega,by omega⟩,by omega,trivial,next _ ⟨by simp [hl],fin⟩⟩
   by_cases SI:(Sp.nodeAt q n).1=6∨(Sp.nodeAt q n).1=7
   · have hb:=Nr hk (.inr SI)
     have hb2:=Ns hk SI
     have hne:(Sp.nodeAt q n).2.1.toNat≠n:=by omega
     have fin:iW q n ((out.set (Sp.nodeAt q n).2.1.toNat ((out.getD n (false,())).1,())).set (Sp.nodeAt q n).2.2.1.toNat ((out.getD n (false,())).1,()))=Sp.negated q:=by rw [← abk SI];exact hJ
     rcases SI with h6|h6
     all_goals
      simp only [h6,Int.reduceBEq,cond_true,cond_false,getD_set_ne _ _ _ _ _ hne]
      exact ⟨⟨by omega,by omega⟩,by omega,⟨by omega,by omega⟩,by omega,⟨by omega,by omega⟩,by omega,⟨by omega,by omega⟩,by omega,trivial,next _ ⟨by simp [hl],fin⟩⟩
   · have h6:(Sp.nodeAt q n).1≠6:=fun h=>SI (.inl h)
     have h7:(Sp.nodeAt q n).1≠7:=fun h=>SI (.inr h)
     have fin:iW q n out=Sp.negated q:=by rw [YV h5 h6 h7] at hJ;exact hJ
     simp only [beq_eq_false_iff_ne.2 h5,beq_eq_false_iff_ne.2 h6,beq_eq_false_iff_ne.2 h7,cond_false]
     exact ⟨rfl,next _ ⟨hl,fin⟩⟩
 · obtain ⟨out,⟨⟩⟩:=s
   obtain ⟨hl,hJ⟩:=hJ
   dsimp only
   refine dI (by omega) ?_
   have hJ:out=Sp.negated q:=hJ
   rw [hJ]
end Go.Proofs.Tryz
