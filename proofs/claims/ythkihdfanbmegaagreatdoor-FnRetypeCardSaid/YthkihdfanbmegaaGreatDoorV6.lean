import Derived.Test.YthkihdfanbmegaaGreatDoorF
namespace Go.Proofs.Tryz
open Go Go.Fw
set_option maxRecDepth 100000
open Go.IntKind (i64)
def aai:Hints:=hints [] [(5,⟨[],⟨[(0,.one (.sl 3 jA false))],[]⟩,⟨[(3,.one (.int .i64)),(4,.one (.int .i64))],[]⟩⟩)] [(3,⟨[],⟨[(0,.one (.sl 3 jA false))],[]⟩,⟨[],[]⟩⟩)] [] []
def Yc(yS:dn)(K:fF->Prop):Prop:=let s0:=((yS,()),());∃(J:lK->Prop),(bif decide ((↑yS.length:Int)<1)then False else s0=s0/\J ((),()))/\∀(y1:lK),J y1->((0:Int)<=0/\0<(↑yS.length:Int))/\let s2:=((yS,()),());LP (α:=EO×Unit) (((yS.getD (Int.toNat 0) (0,())).1,1,()),()) λI μ y3=>bif decide (y3.1.2.1<(↑yS.length:Int))then(0<=y3.1.2.1/\y3.1.2.1<(↑yS.length:Int))/\s2=s2/\I ((if(yS.getD y3.1.2.1.toNat (0,())).1>y3.1.1 then(yS.getD y3.1.2.1.toNat (0,())).1 else y3.1.1,i64.wrap (y3.1.2.1+1),()),())/\μ ((if(yS.getD y3.1.2.1.toNat (0,())).1>y3.1.1 then(yS.getD y3.1.2.1.toNat (0,())).1 else y3.1.1,i64.wrap (y3.1.2.1+1),()),())<μ y3 else K ((y3.1.1,()),())
end Go.Proofs.Tryz
