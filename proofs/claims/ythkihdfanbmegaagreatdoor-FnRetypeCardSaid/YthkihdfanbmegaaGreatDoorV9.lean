import Derived.Test.YthkihdfanbmegaaGreatDoorF
namespace Go.Proofs.Tryz
open Go Go.Fw Sp
set_option maxRecDepth 100000
open Go.IntKind (i64)
def af8:Hints:=hints [5] [(3,⟨[],⟨[(0,.bG 48 0)],[]⟩,⟨[(3,.one (.ref 321)),(4,.one (.int .i64))],[(48,.var [.sl 5 jr false,.int .i64,.int .i64]),(321,.arr 3 jA true)]⟩⟩)] [] [] []
def aex(c0:dn)(c1:Int)(c2:Int)(K:jP×iL->Prop):Prop:=let s0:=(((),()),());LP (α:=kV×yu×jP) (((),1,()),(c0,c1,c2,()),[],()) λI μ y1=>bif decide (y1.1.2.1<8)then 0<=y1.2.1.2.1/\∀(r2:Ia),(r2.2.1.2.1-0).NonNeg->bif r2.1.1 then y1.2.2.1.length+[y1.1.2].length<=big/\NX s0 I μ (((),i64.wrap (y1.1.2.1+1),()),r2.2.1,y1.2.2.1++[y1.1.2],()) y1 else NX s0 I μ (((),i64.wrap (y1.1.2.1+1),()),r2.2.1,y1.2.2) y1 else K (y1.2.2,y1.2.1,())
def af9:Hints:=hints [5,13,19,24] [] [] [48] []
def aez(c0:dn)(c1:Int)(c2:Int)(K:zB×iL->Prop):Prop:=0<=c1/\∀(r0:zB×iL),0<=r0.2.1.2.1/\Xr r0.1.1/\(0:Nat)<r0.1.1.2.2.2.1.length->0<=r0.2.1.2.1/\∀(r1:fH),0<=r1.2.1.2.1/\0<=r1.1.1/\((0:Int)<12->r1.1.1<12)/\((12:Int)<=0->r1.1.1=0)->bif r1.1.1==0 then 0<=r1.2.1.2.1/\∀(r2:jP×iL),0<=r2.2.1.2.1/\r2.1.1.length<=(7:Nat)->((0:Int)<=0/\0<(↑(r0.1.1.2.2.2.2.1.length):Int))/\Int.toNat 0<r0.1.1.2.2.2.2.1.length/\K (((r0.1.1.1,r0.1.1.2.1,r0.1.1.2.2.1,r0.1.1.2.2.2.1,List.set r0.1.1.2.2.2.2.1 (Int.toNat 0) ((List.getD r0.1.1.2.2.2.2.1 (Int.toNat 0) ([],[],())).1,r2.1),()),()),r2.2)else bif r1.1.1==1 then 0<=r1.2.1.2.1/\∀(r3:lM×iL),0<=r3.2.1.2.1/\r3.1.1.length<=(10:Nat)/\aX r3.1.1->K (((r0.1.1.1,r0.1.1.2.1,r0.1.1.2.2.1,r3.1.1,r0.1.1.2.2.2.2),()),r3.2)else bif r1.1.1==2 then 0<=r1.2.1.2.1/\∀(r4:KX),(0<=r4.2.1.2.1/\aU r4.1.1/\∀(f:IW),f∈r4.1.1.2.1->f.2.2.2.2.1.length<=(400:Nat))->K (((r4.1.1.1,r4.1.1.2.1,r4.1.1.2.2.1,r0.1.1.2.2.2),()),r4.2)else K (r0.1,r1.2)
def aau(a0:dI)(a1:dn)(a2:dn)(b0:dI)(b1:dn)(b2:dn)(K:bP->Prop):Prop:=bif a0==b0 then True/\let r0:=decide (a1=b1);bif r0 then True/\let r1:=decide (a2=b2);K (r1,())else K (false,())else K (false,())
def aav:Hints:=hints [] [(4,⟨[],⟨[(0,.one (.sl 113 x9 false)),(1,.one (.sl 113 x9 false))],[]⟩,⟨[(5,.one (.int .i64))],[]⟩⟩)] [] [] []
def Yp(a:FO)(b:FO)(K:bP->Prop):Prop:=bif (↑a.length:Int) !=(↑b.length:Int)then K (false,())else let s0:=((a,b,()),());LP (α:=fF) ((0,()),()) λI μ y1=>bif decide (y1.1.1<(↑a.length:Int))then(0<=y1.1.1/\y1.1.1<(↑a.length:Int))/\(0<=y1.1.1/\y1.1.1<(↑b.length:Int))/\True/\let r2:=decide (a.getD y1.1.1.toNat ([],[],[],())=b.getD y1.1.1.toNat ([],[],[],()));bif !r2 then K (false,())else NX s0 I μ ((i64.wrap (y1.1.1+1),()),()) y1 else K (true,())
end Go.Proofs.Tryz
