import Derived.Test.YtgbobfdlafkijaaGreatV1
namespace Go.Proofs.Tryz
open Go Go.Fw
set_option maxRecDepth 100000
open Go.IntKind (i64)
def ap4:Hints:=Go.Fw.hints [] [(5,⟨[],⟨[(0, .one (.sl 3 (.cons (.int .i64) .nil) false))],[]⟩,⟨[(3, .one (.int .i64)),(4, .one (.int .i64))],[]⟩⟩)] [(3,⟨[],⟨[(0, .one (.sl 3 (.cons (.int .i64) .nil) false))],[]⟩,⟨[],[]⟩⟩)] [] []
def amW (x:bV) (K:bn→Prop):Prop:=
 let s0:=((x,()),());
  ∃ (J:Unit×Unit→Prop),
  (bif decide ((↑x.length:Int)<(1:Int)) then False else s0=s0∧J ((),()))∧
  ∀ (y1:Unit×Unit),
  J y1→
  ((0:Int)≤(0:Int)∧(0:Int)<(↑x.length:Int))∧
 let s2:=((x,()),());
  ∃ (I:Ld→Prop),
  ∃ (μ:Ld→Nat),
  I (((x.getD (Int.toNat (0:Int)) ((0:Int),())).1,(1:Int),()),())∧
  ∀ (y3:Ld),
  I y3→
  bif decide (y3.1.2.1<(↑x.length:Int)) then
  ((0:Int)≤y3.1.2.1∧y3.1.2.1<(↑x.length:Int))∧
  s2=s2∧
  I
  ((if (x.getD (Int.toNat y3.1.2.1) ((0:Int),())).1>y3.1.1 then (x.getD (Int.toNat y3.1.2.1) ((0:Int),())).1
  else y3.1.1,
  i64.wrap (y3.1.2.1+(1:Int)),()),
  ())∧
  μ
  ((if (x.getD (Int.toNat y3.1.2.1) ((0:Int),())).1>y3.1.1 then (x.getD (Int.toNat y3.1.2.1) ((0:Int),())).1
  else y3.1.1,
  i64.wrap (y3.1.2.1+(1:Int)),()),
  ())<
  μ y3
  else K ((y3.1.1,()),())
theorem al9 (env:EnvB prog G Θ anZ) (hne:∀ x,(Po x).1→∃ t,(Po x).2 t) (h:∀ (x:bV),dO wO (x,())→((0:Nat)<x.length)→amW x fun (r:bn)=>((0:Nat)<x.length,fun (x_1:bn)=>(∀ (x_2:iV),x_2∈x→x_2.1≤x_1.1.1)∧x_1.1∈x).2 r):aG prog G DI EW:=
 bZ env mixed (fn:=f219) (c:=codeOf f219) (by kernel_rfl) (by kernel_rfl) ap4 (by kernel_rfl) hne fun ⟨x,⟨⟩⟩ hin hp=>
 Eq.mpr (by kernel_rfl) (h x hin hp)
end Go.Proofs.Tryz
