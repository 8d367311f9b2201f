import Derived.Test.YtjomchafleahdaaGreatF
namespace Go.Proofs.Tryz
open Go Go.Fw
set_option maxRecDepth 100000
open Go.IntKind (i64)
def XW:Hints:=hints [] [(5,⟨[],⟨[(0,.one (.sl 3 oQ false))],[]⟩,⟨[(3,.one (.int .i64)),(4,.one (.int .i64))],[]⟩⟩)] [(3,⟨[],⟨[(0,.one (.sl 3 oQ false))],[]⟩,⟨[],[]⟩⟩)] [] []
def U7(Kv:fB)(K:eu->Prop):Prop:=let s0:=((Kv,()),());∃(J:Unit×Unit->Prop),(bif decide ((↑Kv.length:Int)<1)then False else s0=s0/\J ((),()))/\∀(y1:Unit×Unit),J y1->((0:Int)<=0/\0<(↑Kv.length:Int))/\let s2:=((Kv,()),());LP (α:=Df) (((Kv.getD (Int.toNat 0) (0,())).1,1,()),()) λI μ y3=>bif decide (y3.1.2.1<(↑Kv.length:Int))then(0<=y3.1.2.1/\y3.1.2.1<(↑Kv.length:Int))/\s2=s2/\I ((if(Kv.getD y3.1.2.1.toNat (0,())).1>y3.1.1 then(Kv.getD y3.1.2.1.toNat (0,())).1 else y3.1.1,i64.wrap (y3.1.2.1+1),()),())/\μ ((if(Kv.getD y3.1.2.1.toNat (0,())).1>y3.1.1 then(Kv.getD y3.1.2.1.toNat (0,())).1 else y3.1.1,i64.wrap (y3.1.2.1+1),()),())<μ y3 else K ((y3.1.1,()),())
end Go.Proofs.Tryz
