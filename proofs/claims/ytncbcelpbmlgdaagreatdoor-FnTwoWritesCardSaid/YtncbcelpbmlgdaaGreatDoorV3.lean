import Derived.Test.YtncbcelpbmlgdaaGreatDoorF
namespace Go.Proofs.Tryz
open Go Go.Fw Sp
set_option maxRecDepth 100000
open Go.IntKind (i64)
def Uk:Hints:=hints [8] [(4,⟨[],⟨[(3,.dU 448 0)],[]⟩,⟨[(4,.one (.ref 513)),(5,.one (.int .i64))],[(448,.var [.sl 5 Ir false,.int .i64,.int .i64]),(513,.arr 3 QS true)]⟩⟩)] [] [] []
def Rw(code:rq)(K:xJ×Unit->Prop):Prop:=code.length<=(1048576:Nat)/\∀(r0:rq×uS),r0.2.1=0->let s1:=(((),()),());LP (α:=(Unit×gm)×(rq×uS)×xJ) (((),0,()),r0,[],()) λI μ y2=>bif decide (y2.1.2.1<12)then 0<=y2.2.1.2.1/\∀(r3:Jp),0<=r3.2.1.2.1/\0<=r3.1.1/\((0:Int)<10000->r3.1.1<10000)/\((10000:Int)<=0->r3.1.1=0)->y2.2.2.1.length+[r3.1].length<=big/\NX s1 I μ (((),i64.wrap (y2.1.2.1+1),()),r3.2.1,y2.2.2.1++[r3.1],()) y2 else K (y2.2.2,())
def Py(s:dh)(K:Jq->Prop):Prop:=K ((2,0,s,()),())
def NI:Hints:=hints [1] [] [] [] []
def Lp(K:YU->Prop):Prop:=True/\∀(r0:YU),r0.1.1=Sp.usual->K r0
def Pz(n:Int)(K:Jr->Prop):Prop:=True/\∀(r0:YU),r0.1.1=Sp.usual->r0.1.1.length<=(1000:Nat)/\∀(r1:Jr),r1.1.1.1=r0.1.1/\r1.1.1.2.1=[]/\r1.1.1.2.2.1=1->True/\(0:Nat)<=(1000:Nat)/\∀(r2:(Gi×Unit)×Unit),r2.1.1.1=0/\r2.1.1.2.1=0/\r2.1.1.2.2.1=false/\r2.1.1.2.2.2.1=0/\r2.1.1.2.2.2.2.1=oO [] [(97:UInt8)] 1 n []->(J8 r1.1.1/\Gj r2.1.1)/\∀(r3:aix),r3.1.1.1=(dV r1.1.1 r2.1.1).1.1/\r3.1.1.2.1=(dV r1.1.1 r2.1.1).1.2.1/\r3.1.1.2.2.1=(dV r1.1.1 r2.1.1).1.2.2.1/\r3.1.2.1=(dV r1.1.1 r2.1.1).2.1/\r3.1.2.2.1=(dV r1.1.1 r2.1.1).2.2->K ((r3.1.1,()),())
end Go.Proofs.Tryz
