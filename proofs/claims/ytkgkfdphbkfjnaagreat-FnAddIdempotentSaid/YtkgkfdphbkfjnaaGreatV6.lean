import Derived.Test.YtkgkfdphbkfjnaaGreatF
namespace Go.Proofs.Tryz
open Go Go.Fw
set_option maxRecDepth 100000
open Go.IntKind (i64)
def ae7:Hints:=hints [] [(5,⟨[],⟨[(0,.one (.sl 3 lJ false))],[]⟩,⟨[(3,.one (.int .i64)),(4,.one (.int .i64))],[]⟩⟩)] [(3,⟨[],⟨[(0,.one (.sl 3 lJ false))],[]⟩,⟨[],[]⟩⟩)] [] []
def acU(JU:dS)(K:fP->Prop):Prop:=let s0:=((JU,()),());∃(J:jD->Prop),(bif decide ((↑JU.length:Int)<1)then False else s0=s0/\J ((),()))/\∀(y1:jD),J y1->((0:Int)<=0/\0<(↑JU.length:Int))/\let s2:=((JU,()),());LP (α:=FV×Unit) (((JU.getD (Int.toNat 0) (0,())).1,1,()),()) λI μ y3=>bif decide (y3.1.2.1<(↑JU.length:Int))then(0<=y3.1.2.1/\y3.1.2.1<(↑JU.length:Int))/\s2=s2/\I ((if(JU.getD y3.1.2.1.toNat (0,())).1>y3.1.1 then(JU.getD y3.1.2.1.toNat (0,())).1 else y3.1.1,i64.wrap (y3.1.2.1+1),()),())/\μ ((if(JU.getD y3.1.2.1.toNat (0,())).1>y3.1.1 then(JU.getD y3.1.2.1.toNat (0,())).1 else y3.1.1,i64.wrap (y3.1.2.1+1),()),())<μ y3 else K ((y3.1.1,()),())
end Go.Proofs.Tryz
