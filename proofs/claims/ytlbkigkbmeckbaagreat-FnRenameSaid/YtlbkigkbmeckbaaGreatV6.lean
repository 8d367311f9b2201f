import Derived.Test.YtlbkigkbmeckbaaGreatF
namespace Go.Proofs.Tryz
open Go Go.Fw
set_option maxRecDepth 100000
open Go.IntKind (i64)
def ag4:Hints:=hints [] [(5,⟨[],⟨[(0, .one (.sl 3 lV false))],[]⟩,⟨[(3, .one (.int .i64)),(4, .one (.int .i64))],[]⟩⟩)] [(3,⟨[],⟨[(0, .one (.sl 3 lV false))],[]⟩,⟨[],[]⟩⟩)] [] []
def ad2 (H6:dS) (K:fU→Prop):Prop:=let s0:=((H6,()),());∃ (J:zV→Prop),(bif decide ((↑H6.length:Int)<1) then False else s0=s0∧J ((),()))∧∀ (y1:zV),J y1→((0:Int)≤0∧0<(↑H6.length:Int))∧let s2:=((H6,()),());LP (α:=Bl×Unit) (((H6.getD (Int.toNat 0) (0,())).1,1,()),()) fun I μ y3=>bif decide (y3.1.2.1<(↑H6.length:Int)) then (0≤y3.1.2.1∧y3.1.2.1<(↑H6.length:Int))∧s2=s2∧I ((if (H6.getD y3.1.2.1.toNat (0,())).1>y3.1.1 then (H6.getD y3.1.2.1.toNat (0,())).1 else y3.1.1,i64.wrap (y3.1.2.1+1),()),())∧μ ((if (H6.getD y3.1.2.1.toNat (0,())).1>y3.1.1 then (H6.getD y3.1.2.1.toNat (0,())).1 else y3.1.1,i64.wrap (y3.1.2.1+1),()),())<μ y3 else K ((y3.1.1,()),())
theorem ac7 (env:EnvB prog G Θ aeX) (hne:∀ x,(qL.F x).1→∃ t,(qL.F x).2 t) (h:∀ H6,qL.goal (ad2 H6) (H6,())):ai prog G qL.e:=XA.ok mixed env ag4 hne (by kernel_rfl) h
end Go.Proofs.Tryz
