import Derived.Test.YtlbkigkbmeckbaaGreatP11
namespace Go.Proofs.Tryz
open Go Go.Fw Go.IntWalk
theorem ait:Sp.aF [([100,97],[(1,0,0,[],0,0,[],())],())]=true:=Sp.oH.2 ⟨by kernel_rfl,fun _=>0,fun e he=>by
 rw [show Sp.dV [([100,97],[(1,0,0,[],0,0,[],())],())]=[] by kernel_rfl] at he;cases he⟩
theorem Qa:ai prog G rG.e:=by
 refine aiu (aj ah ⟨Vb,Qb,trivial⟩) (fun _ _=>⟨(([([100,97],[(1,0,0,[],0,0,[],())],())],()),(([],0,0,()),())),⟨by decide,by decide,IQ DK (by simp) (by simp),ait,by decide⟩⟩) ?_
 intro b i h hin hp
 dsimp only [rG] at hp ⊢
 have hp:0≤i:=hp
 refine ⟨hp,?_⟩
 rintro ⟨⟨d,_⟩,⟨b1,i1,h1,_⟩,_⟩ ⟨q1,q2,q3,q4⟩
 dsimp only at q1 q2 q3 q4 ⊢
 have fin:∀ l:List Sp.aT,l.length≤4→Sp.aV l→(0<l.length→Sp.aF l=true)→(bif (l.length:Int)==(0:Int) then 0≤i1∧([(([100,97]:List UInt8),[((1:Int),(0:Int),(0:Int),([]:List UInt8),(0:Int),(0:Int),([]:List UInt8),())],())]:List Sp.aT).length≤10∧Sp.aV [([100,97],[(1,0,0,[],0,0,[],())],())]∧Sp.aF [([100,97],[(1,0,0,[],0,0,[],())],())]=true∧0<[(([100,97]:List UInt8),[((1:Int),(0:Int),(0:Int),([]:List UInt8),(0:Int),(0:Int),([]:List UInt8),())],())].length else 0≤i1∧l.length≤10∧Sp.aV l∧Sp.aF l=true∧0<l.length):=fun l hl hs hst=>
  af (fun _=>⟨q1,by simp,IQ DK (by simp) (by simp),ait,by simp⟩) fun h0=>have h1:0<l.length:=(by have h0:¬ (l.length:Int)=0:=beq_eq_false_iff_ne.1 h0;omega);⟨q1,by omega,hs,hst h1,h1⟩
 refine ⟨fun y=>y.1.1.length≤4∧Sp.aV y.1.1,fun y=>y.1.1.length,⟨q3,q4⟩,?_⟩
 rintro ⟨⟨l,⟨⟩⟩,⟨⟩⟩ ⟨g1,g2⟩
 dsimp only at g1 g2 ⊢
 refine af (fun hc=>⟨g2,af (fun _=>?_) fun hst=>fin l g1 g2 fun _=>dI hst⟩) fun hc=>fin l g1 g2 fun h=>(by have:=iw hc;omega)
 have hc:0<l.length:=by have:=gG hc;omega
 rw [zo hc (by omega),List.drop_zero,Int.toNat_natCast]
 exact ⟨⟨by omega,by omega⟩,rfl,⟨by rw [List.length_take];omega,aqv _ g2⟩,by rw [List.length_take];omega⟩
end Go.Proofs.Tryz
