import Derived.Test.YtlmamafnoigopaaGreatDoorF
namespace Go.Proofs.Tryz
open Go Go.Fw
set_option maxRecDepth 100000
open Go.IntKind (i64)
def Zo:Hints:=hints [] [(5,⟨[],⟨[(0,.one (.sl 3 jm false))],[]⟩,⟨[(3,.one (.int .i64)),(4,.one (.int .i64))],[]⟩⟩)] [(3,⟨[],⟨[(0,.one (.sl 3 jm false))],[]⟩,⟨[],[]⟩⟩)] [] []
def WQ(FZ:dU)(K:fC->Prop):Prop:=let s0:=((FZ,()),());∃(J:Unit×Unit->Prop),(bif decide ((↑FZ.length:Int)<1)then False else s0=s0/\J ((),()))/\∀(y1:Unit×Unit),J y1->((0:Int)<=0/\0<(↑FZ.length:Int))/\let s2:=((FZ,()),());LP (α:=DU) (((FZ.getD (Int.toNat 0) (0,())).1,1,()),()) λI μ y3=>bif decide (y3.1.2.1<(↑FZ.length:Int))then(0<=y3.1.2.1/\y3.1.2.1<(↑FZ.length:Int))/\s2=s2/\I ((if(FZ.getD y3.1.2.1.toNat (0,())).1>y3.1.1 then(FZ.getD y3.1.2.1.toNat (0,())).1 else y3.1.1,i64.wrap (y3.1.2.1+1),()),())/\μ ((if(FZ.getD y3.1.2.1.toNat (0,())).1>y3.1.1 then(FZ.getD y3.1.2.1.toNat (0,())).1 else y3.1.1,i64.wrap (y3.1.2.1+1),()),())<μ y3 else K ((y3.1.1,()),())
end Go.Proofs.Tryz
