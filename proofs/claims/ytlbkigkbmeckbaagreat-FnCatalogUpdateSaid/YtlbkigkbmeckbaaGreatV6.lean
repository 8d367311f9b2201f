import Derived.Test.YtlbkigkbmeckbaaGreatF
namespace Go.Proofs.Tryz
open Go Go.Fw
set_option maxRecDepth 100000
open Go.IntKind (i64)
def afN:Hints:=hints [] [(5,⟨[],⟨[(0, .one (.sl 3 jJ false))],[]⟩,⟨[(3, .one (.int .i64)),(4, .one (.int .i64))],[]⟩⟩)] [(3,⟨[],⟨[(0, .one (.sl 3 jJ false))],[]⟩,⟨[],[]⟩⟩)] [] []
def acR (Gu:dK) (K:fZ→Prop):Prop:=let s0:=((Gu,()),());∃ (J:AO→Prop),(bif decide ((↑Gu.length:Int)<1) then False else s0=s0∧J ((),()))∧∀ (y1:AO),J y1→((0:Int)≤0∧0<(↑Gu.length:Int))∧let s2:=((Gu,()),());LP (α:=FN×Unit) (((Gu.getD (Int.toNat 0) (0,())).1,1,()),()) fun I μ y3=>bif decide (y3.1.2.1<(↑Gu.length:Int)) then (0≤y3.1.2.1∧y3.1.2.1<(↑Gu.length:Int))∧s2=s2∧I ((if (Gu.getD y3.1.2.1.toNat (0,())).1>y3.1.1 then (Gu.getD y3.1.2.1.toNat (0,())).1 else y3.1.1,i64.wrap (y3.1.2.1+1),()),())∧μ ((if (Gu.getD y3.1.2.1.toNat (0,())).1>y3.1.1 then (Gu.getD y3.1.2.1.toNat (0,())).1 else y3.1.1,i64.wrap (y3.1.2.1+1),()),())<μ y3 else K ((y3.1.1,()),())
theorem abV (env:EnvB prog G Θ adQ) (hne:∀ x,(qK.F x).1→∃ t,(qK.F x).2 t) (h:∀ Gu,qK.goal (acR Gu) (Gu,())):ai prog G qK.e:=XA.ok mixed env afN hne (by kernel_rfl) h
end Go.Proofs.Tryz
