import Derived.Test.YtkgkfdphbkfjnaaGreatF
namespace Go.Proofs.Tryz
open Go Go.Fw Sp
set_option maxRecDepth 100000
open Go.IntKind (i64)
def acU (f0:Int) (f1:Int) (f2:Bool) (f3:Int) (f4:gK) (u:Int) (K:dh→Prop):Prop:=True∧let r0:=decide ((0:Int)≤u)&&decide (u≤(2:Int));bif r0 then K (f1==u,()) else K (false,())
def acW (f0:Int) (f1:Int) (f2:Bool) (f3:Int) (f4:gK) (user:Int) (K:dh→Prop):Prop:=True∧let r0:=decide ((0:Int)≤user)&&decide (user≤(2:Int));bif r0 then K (f1==user,()) else K (false,())
def V6:Hints:=hints [7] [(3,⟨[],⟨[(1, .one (.int .i64)),(2, .dG [.sl 176 aS false, .sl 42 bg false, .int .i64] 0)],[]⟩,⟨[(5, .one (.ref 449)),(6, .one (.int .i64))],[(449, .arr 3 kU true)]⟩⟩)] [] [] []
def UL (s0:fC) (s1:gy) (s2:Int) (u:Int) (K:kL→Prop):Prop:=let s0:=((u,(s0,s1,s2,()),()),());LP (α:=uM×kL) (((),0,()),[],()) fun I μ y1=>bif decide (y1.1.2.1<(↑s1.length:Int)) then (0≤y1.1.2.1∧y1.1.2.1<(↑s1.length:Int))∧bif (s1.getD y1.1.2.1.toNat (0,0,false,0,[],())).2.1==u then (0≤y1.1.2.1∧y1.1.2.1<(↑s1.length:Int))∧y1.2.1.length+[((s1.getD y1.1.2.1.toNat (0,0,false,0,[],())).1,())].length≤big∧s0=s0∧I (((),i64.wrap (y1.1.2.1+1),()),y1.2.1++[((s1.getD y1.1.2.1.toNat (0,0,false,0,[],())).1,())],())∧μ (((),i64.wrap (y1.1.2.1+1),()),y1.2.1++[((s1.getD y1.1.2.1.toNat (0,0,false,0,[],())).1,())],())<μ y1 else NX s0 I μ (((),i64.wrap (y1.1.2.1+1),()),y1.2) y1 else K y1.2
def afa (c0:dV) (c1:Int) (c2:Int) (K:fH→Prop):Prop:=(0≤c1∧[((0:Int),()),(1,()),(2,()),(0,()),(1,()),(3,()),((-1:Int),())]≠[])∧∀ (r0:fH),0≤r0.2.1.2.1∧r0.1∈[(0,()),(1,()),(2,()),(0,()),(1,()),(3,()),((-1:Int),())]→K r0
def QI (c0:dV) (c1:Int) (c2:Int) (K:Td→Prop):Prop:=0≤c1∧∀ (r0:Wy),0≤r0.2.1.2.1∧r0.1.1.1=Sp.usual∧ax r0.1.1=true∧r0.1.1.2.2.1≤(↑r0.1.1.2.1.length:Int)+2∧bn r0.1.1∧(0:Nat)<r0.1.1.2.1.length→0≤r0.2.1.2.1∧∀ (r1:jQ×gY),0≤r1.2.1.2.1∧r1.1.1.length≤(10:Nat)∧aA r1.1.1∧ai r1.1.1=true∧(0:Nat)<r1.1.1.length→(bn r0.1.1∧aA r1.1.1)∧∀ (r2:(qY×dh)×Unit),r2.1.2.1=(ai r1.1.1&&ax r0.1.1)∧(r2.1.2.1=true→(r2.1.1.1,r2.1.1.2.1,r2.1.1.2.2.1,())=r0.1.1∧r2.1.1.2.2.2.1=r1.1.1∧fM r0.1.1.2.1 r1.1.1 [] (fun (x:Sp.Bytes)=>true) r2.1.1.2.2.2.2.1)∧(r2.1.2.1=false→r2.1.1=([],[],0,[],[],()))→K ((r2.1.1,()),r1.2)
end Go.Proofs.Tryz
