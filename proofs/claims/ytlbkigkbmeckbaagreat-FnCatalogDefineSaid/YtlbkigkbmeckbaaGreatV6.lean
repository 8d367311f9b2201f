import Derived.Test.YtlbkigkbmeckbaaGreatF
namespace Go.Proofs.Tryz
open Go Go.Fw
set_option maxRecDepth 100000
open Go.IntKind (i64)
def ad4:Hints:=hints [] [(5,⟨[],⟨[(0, .one (.sl 3 kX false))],[]⟩,⟨[(3, .one (.int .i64)),(4, .one (.int .i64))],[]⟩⟩)] [(3,⟨[],⟨[(0, .one (.sl 3 kX false))],[]⟩,⟨[],[]⟩⟩)] [] []
def aa5 (ER:dF) (K:fE→Prop):Prop:=let s0:=((ER,()),());∃ (J:yA→Prop),(bif decide ((↑ER.length:Int)<1) then False else s0=s0∧J ((),()))∧∀ (y1:yA),J y1→((0:Int)≤0∧0<(↑ER.length:Int))∧let s2:=((ER,()),());LP (α:=ahb) (((ER.getD (Int.toNat 0) (0,())).1,1,()),()) fun I μ y3=>bif decide (y3.1.2.1<(↑ER.length:Int)) then (0≤y3.1.2.1∧y3.1.2.1<(↑ER.length:Int))∧s2=s2∧I ((if (ER.getD y3.1.2.1.toNat (0,())).1>y3.1.1 then (ER.getD y3.1.2.1.toNat (0,())).1 else y3.1.1,i64.wrap (y3.1.2.1+1),()),())∧μ ((if (ER.getD y3.1.2.1.toNat (0,())).1>y3.1.1 then (ER.getD y3.1.2.1.toNat (0,())).1 else y3.1.1,i64.wrap (y3.1.2.1+1),()),())<μ y3 else K ((y3.1.1,()),())
theorem aaj (env:EnvB prog G Θ ab7) (hne:∀ x,(oZ.F x).1→∃ t,(oZ.F x).2 t) (h:∀ ER,oZ.goal (aa5 ER) (ER,())):ai prog G oZ.e:=XA.ok mixed env ad4 hne (by kernel_rfl) h
end Go.Proofs.Tryz
