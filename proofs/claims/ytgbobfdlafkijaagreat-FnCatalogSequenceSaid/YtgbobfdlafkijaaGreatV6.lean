import Derived.Test.YtgbobfdlafkijaaGreatV1
namespace Go.Proofs.Tryz
open Go Go.Fw
set_option maxRecDepth 100000
open Go.IntKind (i64)
def atu:Hints:=hints [] [(5,⟨[],⟨[(0, .one (.sl 3 pV false))],[]⟩,⟨[(3, .one (.int .i64)),(4, .one (.int .i64))],[]⟩⟩)] [(3,⟨[],⟨[(0, .one (.sl 3 pV false))],[]⟩,⟨[],[]⟩⟩)] [] []
def apZ (x:dA) (K:bF→Prop):Prop:=let s0:=((x,()),());∃ (J:VN→Prop),(bif decide ((↑x.length:Int)<1) then False else s0=s0∧J ((),()))∧∀ (y1:VN),J y1→((0:Int)≤0∧0<(↑x.length:Int))∧let s2:=((x,()),());∃ (I:NR→Prop),∃ (μ:NR→Nat),I (((x.getD (Int.toNat 0) (0,())).1,1,()),())∧∀ (y3:NR),I y3→bif decide (y3.1.2.1<(↑x.length:Int)) then (0≤y3.1.2.1∧y3.1.2.1<(↑x.length:Int))∧s2=s2∧I ((if (x.getD y3.1.2.1.toNat (0,())).1>y3.1.1 then (x.getD y3.1.2.1.toNat (0,())).1 else y3.1.1,i64.wrap (y3.1.2.1+1),()),())∧μ ((if (x.getD y3.1.2.1.toNat (0,())).1>y3.1.1 then (x.getD y3.1.2.1.toNat (0,())).1 else y3.1.1,i64.wrap (y3.1.2.1+1),()),())<μ y3 else K ((y3.1.1,()),())
theorem ao2 (env:EnvB prog G Θ aq1) (hne:∀ x,(RP x).1→∃ t,(RP x).2 t) (h:∀ (x:dA),dH yw (x,())→((0:Nat)<x.length)→apZ x fun (r:bF)=>((0:Nat)<x.length,fun (x_1:bF)=>(∀ (x_2:iW),x_2∈x→x_2.1≤x_1.1.1)∧x_1.1∈x).2 r):aG prog G E8 GU:=bT env mixed (fn:=f219) (c:=codeOf f219) (by kernel_rfl) (by kernel_rfl) atu (by kernel_rfl) hne fun ⟨x,⟨⟩⟩ hin hp=>Eq.mpr (by kernel_rfl) (h x hin hp)
end Go.Proofs.Tryz
