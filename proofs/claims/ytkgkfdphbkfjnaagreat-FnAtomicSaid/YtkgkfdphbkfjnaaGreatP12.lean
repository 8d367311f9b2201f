import Derived.Test.YtkgkfdphbkfjnaaGreatP11
namespace Go.Proofs.Tryz
open Go Go.Fw Go.IntWalk Sp
theorem aeV:aj [([100,97],[(1,0,0,[],0,0,[],())],())]=true:=kC.2 ⟨by kernel_rfl,λ_=>0,λe he=>by rw[show eH [([100,97],[(1,0,0,[],0,0,[],())],())]=[] by kernel_rfl]at he;cases he⟩
theorem Qy:OK AX.e:=by
 refine XA.ok mixed (au [rO.e,AU.e] ⟨Ju,Qz,trivial⟩) ag0 (λ_ _=>⟨(([([100,97],[(1,0,0,[],0,0,[],())],())],()),(([],0,0,()),())),⟨by decide,by decide,Jv Dk (by simp) (by simp),aeV,by decide⟩⟩) (by kernel_rfl) (show∀c0 c1 c2,AX.goal (aeW c0 c1 c2) ((c0,c1,c2,()),())from ?_);intro b i h hin hp;dsimp only[AX]at hp ⊢;have hp:0<=i:=hp;refine⟨hp,?_⟩;rintro⟨⟨d,_⟩,⟨b1,i1,h1,_⟩,_⟩ ⟨q1,q2,q3,q4⟩;dsimp only at q1 q2 q3 q4 ⊢;have fin:∀l:List aF,l.length<=4->aC l->(0<l.length->aj l=true)->(bif (l.length:Int)==(0:Int)then 0<=i1/\([(([100,97]:List UInt8),[((1:Int),(0:Int),(0:Int),([]:List UInt8),(0:Int),(0:Int),([]:List UInt8),())],())]:List aF).length<=10/\aC [([100,97],[(1,0,0,[],0,0,[],())],())]/\aj [([100,97],[(1,0,0,[],0,0,[],())],())]=true/\0<[(([100,97]:List UInt8),[((1:Int),(0:Int),(0:Int),([]:List UInt8),(0:Int),(0:Int),([]:List UInt8),())],())].length else 0<=i1/\l.length<=10/\aC l/\aj l=true/\0<l.length):=λl hl hs hst=>
  af (λ_=>⟨q1,by simp,Jv Dk (by simp) (by simp),aeV,by simp⟩) λh0=>have h1:0<l.length:=(by have h0:¬(l.length:Int)=0:=auu.1 h0;omega);⟨q1,by omega,hs,hst h1,h1⟩
 refine⟨λy=>y.1.1.length<=4/\aC y.1.1,λy=>y.1.1.length,⟨q3,q4⟩,?_⟩;rintro⟨⟨l,⟨⟩⟩,⟨⟩⟩ ⟨g1,g2⟩;dsimp only at g1 g2 ⊢;refine af (λhc=>⟨g2,af (λ_=>?_) λhst=>fin l g1 g2 λ_=>bP hst⟩) λhc=>fin l g1 g2 λh=>(by have:=fZ hc;omega);have hc:0<l.length:=by have:=fG hc;omega
 rw[wU hc (by omega),av2,auA];exact⟨⟨by omega,by omega⟩,rfl,⟨by rw[aut];omega,alo _ g2⟩,by dsimp only;rw[aut];omega⟩
end Go.Proofs.Tryz
