import Derived.Test.YtkgkfdphbkfjnaaGreatF
namespace Go.Proofs.Tryz
open Go Go.Fw Sp
set_option maxRecDepth 100000
open Go.IntKind (i64)
def adn(f0:Int)(f1:Int)(f2:Bool)(f3:Int)(f4:gY)(u:Int)(K:dA->Prop):Prop:=True/\let r0:=decide ((0:Int)<=u)&&decide (u<=(2:Int));bif r0 then K (f1==u,())else K (false,())
def adp(f0:Int)(f1:Int)(f2:Bool)(f3:Int)(f4:gY)(user:Int)(K:dA->Prop):Prop:=True/\let r0:=decide ((0:Int)<=user)&&decide (user<=(2:Int));bif r0 then K (f1==user,())else K (false,())
def WN:Hints:=hints [7] [(3,⟨[],⟨[(1,.one (.int .i64)),(2,.dB [.sl 176 aO false,.sl 42 aY false,.int .i64] 0)],[]⟩,⟨[(5,.one (.ref 449)),(6,.one (.int .i64))],[(449,.arr 3 jD true)]⟩⟩)] [] [] []
def Vg(s0:fC)(s1:fU)(s2:Int)(u:Int)(K:mV->Prop):Prop:=let s0:=((u,(s0,s1,s2,()),()),());LP (α:=rW×mV) (((),0,()),[],()) λI μ y1=>bif decide (y1.1.2.1<(↑s1.length:Int))then(0<=y1.1.2.1/\y1.1.2.1<(↑s1.length:Int))/\bif (s1.getD y1.1.2.1.toNat (0,0,false,0,[],())).2.1==u then(0<=y1.1.2.1/\y1.1.2.1<(↑s1.length:Int))/\y1.2.1.length+[((s1.getD y1.1.2.1.toNat (0,0,false,0,[],())).1,())].length<=big/\s0=s0/\I (((),i64.wrap (y1.1.2.1+1),()),y1.2.1++[((s1.getD y1.1.2.1.toNat (0,0,false,0,[],())).1,())],())/\μ (((),i64.wrap (y1.1.2.1+1),()),y1.2.1++[((s1.getD y1.1.2.1.toNat (0,0,false,0,[],())).1,())],())<μ y1 else NX s0 I μ (((),i64.wrap (y1.1.2.1+1),()),y1.2) y1 else K y1.2
def afJ(c0:dO)(c1:Int)(c2:Int)(K:fE->Prop):Prop:=(0<=c1/\[((0:Int),()),(1,()),(2,()),(0,()),(1,()),(3,()),((-1:Int),())]≠[])/\∀(r0:fE),0<=r0.2.1.2.1/\r0.1∈[(0,()),(1,()),(2,()),(0,()),(1,()),(3,()),((-1:Int),())]->K r0
def Rq(c0:dO)(c1:Int)(c2:Int)(K:zO×gB->Prop):Prop:=0<=c1/\∀(r0:Xd),0<=r0.2.1.2.1/\r0.1.1.1=Sp.usual/\aB r0.1.1=true/\r0.1.1.2.2.1<=(↑r0.1.1.2.1.length:Int)+2/\bg r0.1.1/\(0:Nat)<r0.1.1.2.1.length->0<=r0.2.1.2.1/\∀(r1:jW×gB),0<=r1.2.1.2.1/\r1.1.1.length<=(10:Nat)/\aC r1.1.1/\aj r1.1.1=true/\(0:Nat)<r1.1.1.length->(bg r0.1.1/\aC r1.1.1)/\∀(r2:(yj×dA)×Unit),r2.1.2.1=(aj r1.1.1&&aB r0.1.1)/\(r2.1.2.1=true->(r2.1.1.1,r2.1.1.2.1,r2.1.1.2.2.1,())=r0.1.1/\r2.1.1.2.2.2.1=r1.1.1/\fQ r0.1.1.2.1 r1.1.1 [] (λ(x:Sp.Bytes)=>true) r2.1.1.2.2.2.2.1)/\(r2.1.2.1=false->r2.1.1=([],[],0,[],[],()))->K ((r2.1.1,()),r1.2)
end Go.Proofs.Tryz
