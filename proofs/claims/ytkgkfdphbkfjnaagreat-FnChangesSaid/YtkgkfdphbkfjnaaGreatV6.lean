import Derived.Test.YtkgkfdphbkfjnaaGreatF
namespace Go.Proofs.Tryz
open Go Go.Fw
set_option maxRecDepth 100000
open Go.IntKind (i64)
def acy:Hints:=hints [] [(5,⟨[],⟨[(0, .one (.sl 3 kU false))],[]⟩,⟨[(3, .one (.int .i64)),(4, .one (.int .i64))],[]⟩⟩)] [(3,⟨[],⟨[(0, .one (.sl 3 kU false))],[]⟩,⟨[],[]⟩⟩)] [] []
def ZX (Ij:dV) (K:fV→Prop):Prop:=let s0:=((Ij,()),());∃ (J:nO→Prop),(bif decide ((↑Ij.length:Int)<1) then False else s0=s0∧J ((),()))∧∀ (y1:nO),J y1→((0:Int)≤0∧0<(↑Ij.length:Int))∧let s2:=((Ij,()),());LP (α:=FT×Unit) (((Ij.getD (Int.toNat 0) (0,())).1,1,()),()) fun I μ y3=>bif decide (y3.1.2.1<(↑Ij.length:Int)) then (0≤y3.1.2.1∧y3.1.2.1<(↑Ij.length:Int))∧s2=s2∧I ((if (Ij.getD y3.1.2.1.toNat (0,())).1>y3.1.1 then (Ij.getD y3.1.2.1.toNat (0,())).1 else y3.1.1,i64.wrap (y3.1.2.1+1),()),())∧μ ((if (Ij.getD y3.1.2.1.toNat (0,())).1>y3.1.1 then (Ij.getD y3.1.2.1.toNat (0,())).1 else y3.1.1,i64.wrap (y3.1.2.1+1),()),())<μ y3 else K ((y3.1.1,()),())
end Go.Proofs.Tryz
