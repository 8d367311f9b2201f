import Derived.Test.YtkgkfdphbkfjnaaGreatP11
namespace Go.Proofs.Tryz
open Go Go.Fw Go.IntWalk Sp
theorem aek:ai [([100,97],[(1,0,0,[],0,0,[],())],())]=true:=jX.2 ⟨by kernel_rfl,fun _=>0,fun e he=>by
 rw [show dX [([100,97],[(1,0,0,[],0,0,[],())],())]=[] by kernel_rfl] at he;cases he⟩
theorem P5:OK AA.e:=by
 refine XA.ok mixed (au [rC.e,Az.e] ⟨Je,P6,trivial⟩) agj (fun _ _=>⟨(([([100,97],[(1,0,0,[],0,0,[],())],())],()),(([],0,0,()),())),⟨by decide,by decide,Jf Dc (by simp) (by simp),aek,by decide⟩⟩) (by kernel_rfl) (show ∀ c0 c1 c2,AA.goal (ael c0 c1 c2) ((c0,c1,c2,()),()) from ?_)
 intro b i h hin hp
 dsimp only [AA] at hp ⊢
 have hp:0≤i:=hp
 refine ⟨hp,?_⟩
 rintro ⟨⟨d,_⟩,⟨b1,i1,h1,_⟩,_⟩ ⟨q1,q2,q3,q4⟩
 dsimp only at q1 q2 q3 q4 ⊢
 have fin:∀ l:List aC,l.length≤4→aA l→(0<l.length→ai l=true)→(bif (l.length:Int)==(0:Int) then 0≤i1∧([(([100,97]:List UInt8),[((1:Int),(0:Int),(0:Int),([]:List UInt8),(0:Int),(0:Int),([]:List UInt8),())],())]:List aC).length≤10∧aA [([100,97],[(1,0,0,[],0,0,[],())],())]∧ai [([100,97],[(1,0,0,[],0,0,[],())],())]=true∧0<[(([100,97]:List UInt8),[((1:Int),(0:Int),(0:Int),([]:List UInt8),(0:Int),(0:Int),([]:List UInt8),())],())].length else 0≤i1∧l.length≤10∧aA l∧ai l=true∧0<l.length):=fun l hl hs hst=>
  af (fun _=>⟨q1,by simp,Jf Dc (by simp) (by simp),aek,by simp⟩) fun h0=>have h1:0<l.length:=(by have h0:¬ (l.length:Int)=0:=beq_eq_false_iff_ne.1 h0;omega);⟨q1,by omega,hs,hst h1,h1⟩
 refine ⟨fun y=>y.1.1.length≤4∧aA y.1.1,fun y=>y.1.1.length,⟨q3,q4⟩,?_⟩
 rintro ⟨⟨l,⟨⟩⟩,⟨⟩⟩ ⟨g1,g2⟩
 dsimp only at g1 g2 ⊢
 refine af (fun hc=>⟨g2,af (fun _=>?_) fun hst=>fin l g1 g2 fun _=>bU hst⟩) fun hc=>fin l g1 g2 fun h=>(by have:=fZ hc;omega)
 have hc:0<l.length:=by have:=fJ hc;omega
 rw [wJ hc (by omega),List.drop_zero,Int.toNat_natCast]
 exact ⟨⟨by omega,by omega⟩,rfl,⟨by rw [List.length_take];omega,akw _ g2⟩,by dsimp only;rw [List.length_take];omega⟩
end Go.Proofs.Tryz
