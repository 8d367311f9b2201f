import Derived.Test.YtncbcelpbmlgdaaGreatDoorF
namespace Go.Proofs.Tryz
open Go Go.Fw
set_option maxRecDepth 100000
open Go.IntKind (i64)
def Yn:Hints:=hints [8] [(4,⟨[],⟨[(3,.bK 448 0)],[]⟩,⟨[(4,.one (.ref 513)),(5,.one (.int .i64))],[(448,.var [.sl 5 jA false,.int .i64,.int .i64]),(513,.arr 3 VT true)]⟩⟩)] [] [] []
def WJ(code:jk)(K:rY×Unit->Prop):Prop:=code.length<=(1048576:Nat)/\∀(r0:uf),r0.2.1=0->let s1:=(((),()),());LP (α:=(Unit×gy)×uf×rY) (((),0,()),r0,[],()) λI μ y2=>bif decide (y2.1.2.1<12)then 0<=y2.2.1.2.1/\∀(r3:fQ),0<=r3.2.1.2.1/\0<=r3.1.1/\((0:Int)<10000->r3.1.1<10000)/\((10000:Int)<=0->r3.1.1=0)->y2.2.2.1.length+[r3.1].length<=big/\NX s1 I μ (((),i64.wrap (y2.1.2.1+1),()),r3.2.1,y2.2.2.1++[r3.1],()) y2 else K (y2.2.2,())
def UJ(s:dW)(K:AQ->Prop):Prop:=K ((2,0,s,()),())
end Go.Proofs.Tryz
