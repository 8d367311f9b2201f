import Derived.Test.YtgbobfdlafkijaaGreatP11
namespace Go.Proofs.Tryz
open Go Go.Fw Go.IntWalk
theorem aES:aG prog G ZH V4:=by
 refine al9 (aB (l:=[(Dx, .eff (ax vU) FH)]) (au ah) (by simp only [List.forall_mem_cons];exact ⟨⟨alW,aiQ⟩,fun x hx=>by cases hx⟩)) (fun _ _=>⟨(((0:Int),()),(([],0,0,()),())),⟨by decide,trivial⟩⟩) ?_
 intro b i h hin hp
 have hp:0≤i:=hp
 repeat' first
  |exact trivial
  |refine af (fun _=>?_) fun _=>?_
  |refine And.intro ?_ ?_
  |(intro r hr;simp only [] at hr)
  |intro r hr
 all_goals first
  |omega
  |(dsimp only at*;omega)
  |exact hr
  |(simp only [beq_eq_false_iff_ne,ne_eq] at*;omega)
  |(simp only [List.length_set,List.length_take,List.length_append,List.length_cons,List.length_nil];omega)
  |(rw [dS];simp only [List.length_set,List.length_take,List.length_append,List.length_cons,List.length_nil];omega)
  |(simp only [List.length_set,List.length_take,List.length_append,List.length_cons,List.length_nil] at*;omega)
  |exact (show ∀ y∈_,List.length y.1≤10 from by decide) _ hr.2
  |(simp;done)
  |skip
theorem au8:Sp.aF [([100,97],[(1,0,0,[],0,0,[],())],())]=true:=Sp.sN.2 ⟨by kernel_rfl,fun _=>0,fun e he=>by
 rw [show Sp.fJ [([100,97],[(1,0,0,[],0,0,[],())],())]=[] by kernel_rfl] at he;cases he⟩
theorem au9:aG prog G JH KN:=by
 refine ava (aB (l:=[(yR, .pure BU),(Jv, .eff (ax BJ) KL)]) (au ah) (by simp only [List.forall_mem_cons];exact ⟨⟨ag0,afg⟩,⟨avb,arG⟩,fun x hx=>by cases hx⟩)) (fun _ _=>⟨(([([100,97],[(1,0,0,[],0,0,[],())],())],()),(([],0,0,()),())),⟨by decide,by decide,aas aat (by simp) (by simp),au8⟩⟩) ?_
 intro b i h hin hp
 have hp:0≤i:=hp
 refine ⟨hp,?_⟩
 rintro ⟨⟨d,_⟩,⟨b1,i1,h1,_⟩,_⟩ ⟨q1,q2,q3,q4⟩
 dsimp only at q1 q2 q3 q4 ⊢
 have fin:∀ l:List Sp.aY,l.length≤4→Sp.aO l→(0<l.length→Sp.aF l=true)→(bif (l.length:Int)==(0:Int) then 0≤i1∧([(([100,97]:List UInt8),[((1:Int),(0:Int),(0:Int),([]:List UInt8),(0:Int),(0:Int),([]:List UInt8),())],())]:List Sp.aY).length≤10∧Sp.aO [([100,97],[(1,0,0,[],0,0,[],())],())]∧Sp.aF [([100,97],[(1,0,0,[],0,0,[],())],())]=true else 0≤i1∧l.length≤10∧Sp.aO l∧Sp.aF l=true):=fun l hl hs hst=>
  af (fun _=>⟨q1,by simp,aas aat (by simp) (by simp),au8⟩) fun h0=>⟨q1,by omega,hs,hst (by have h0:¬ (l.length:Int)=0:=beq_eq_false_iff_ne.1 h0;omega)⟩
 refine ⟨fun y=>y.1.1.length≤4∧Sp.aO y.1.1,fun y=>y.1.1.length,⟨q3,q4⟩,?_⟩
 rintro ⟨⟨l,⟨⟩⟩,⟨⟩⟩ ⟨g1,g2⟩
 dsimp only at g1 g2 ⊢
 refine af (fun hc=>⟨g2,af (fun _=>?_) fun hst=>fin l g1 g2 fun _=>gQ hst⟩) fun hc=>fin l g1 g2 fun h=>(by have:=jl hc;omega)
 have hc:0<l.length:=by have:=ji hc;omega
 rw [ES hc (by omega),List.drop_zero,Int.toNat_natCast]
 exact ⟨⟨by omega,by omega⟩,rfl,⟨by rw [List.length_take];omega,aCc _ g2⟩,by rw [List.length_take];omega⟩
end Go.Proofs.Tryz
