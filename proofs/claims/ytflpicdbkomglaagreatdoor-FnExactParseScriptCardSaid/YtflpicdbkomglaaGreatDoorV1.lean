import Derived.Test.YtflpicdbkomglaaGreatDoorF
namespace Go.Proofs.Tryz
open Go Go.Fw Sp
set_option maxRecDepth 100000
open Go.IntKind (i64)
def WJ(c0:List eY)(c1:Int)(c2:Int)(K:eY×(List eY×Int×eY)×Unit->Prop):Prop:=(0:Int)<=33/\(0:Int)<=45/\bif decide (c1<(↑c0.length:Int))then(0<=c1/\c1<(↑c0.length:Int))/\K ((bitsOf BinOp.and IntKind.i64 (i64.wrap (bitsOf BinOp.and IntKind.i64 (bitsOf BinOp.xor IntKind.i64 ((i64.wrap (i64.wrap (c2*6364136223846793005)+1442695040888963407)).fdiv (2 ^ min (Int.toNat 33) IntKind.i64.bits)) ((i64.wrap (i64.wrap (c2*6364136223846793005)+1442695040888963407)).fdiv (2 ^ min (Int.toNat 45) IntKind.i64.bits))) 255+i64.wrap (c0.getD c1.toNat (0,())).1)) 255,()),(c0,i64.wrap (c1+1),i64.wrap (i64.wrap (c2*6364136223846793005)+1442695040888963407),()),())else K ((bitsOf BinOp.and IntKind.i64 (bitsOf BinOp.xor IntKind.i64 ((i64.wrap (i64.wrap (c2*6364136223846793005)+1442695040888963407)).fdiv (2 ^ min (Int.toNat 33) IntKind.i64.bits)) ((i64.wrap (i64.wrap (c2*6364136223846793005)+1442695040888963407)).fdiv (2 ^ min (Int.toNat 45) IntKind.i64.bits))) 255,()),(c0,c1,i64.wrap (i64.wrap (c2*6364136223846793005)+1442695040888963407),()),())
def Vm(n:Int)(K:MN->Prop):Prop:=K ((1,n,[],()),())
def O1(w:dA)(K:MN->Prop):Prop:=K ((2,0,w,()),())
def Z9(OU:Int)(least:Int)(most:Int)(K:gB->Prop):Prop:=bif decide (OU>=least)then K (decide (OU<=most),())else K (false,())
def Yo(n:Int)(low:Int)(high:Int)(K:gB->Prop):Prop:=bif decide (low<=n)then K (decide (n<=high),())else K (false,())
def Yp:Hints:=hints [] [(2,⟨[],⟨[(0,.one (.str)),(1,.one (.int .i64))],[]⟩,⟨[(5,.one (.int .i64))],[]⟩⟩)] [] [] []
def WL(s:dA)(most:Int)(K:gB->Prop):Prop:=let s0:=((s,most,()),());LP (α:=pX) ((0,()),()) λI μ y1=>bif decide (y1.1.1<(↑s.length:Int))then(0<=y1.1.1/\y1.1.1<(↑s.length:Int))/\bif decide ((↑(s.getD y1.1.1.toNat (0:UInt8)).toNat:Int)<97)then K (false,())else(0<=y1.1.1/\y1.1.1<(↑s.length:Int))/\bif decide ((↑(s.getD y1.1.1.toNat (0:UInt8)).toNat:Int)>122)then K (false,())else NX s0 I μ ((i64.wrap (y1.1.1+1),()),()) y1 else True/\let r2:=decide ((1:Int)<=(↑s.length:Int))&&decide ((↑s.length:Int)<=most);K (r2,())
def LD(s:dA)(K:gB->Prop):Prop:=True/\let r0:=Sp.lower s&&decide ((1:Int)<=(↑s.length:Int))&&decide ((↑s.length:Int)<=(6:Int));K (r0,())
def NG:Hints:=hints [] [(2,⟨[],⟨[(0,.one (.str)),(5,.one (.int .i64))],[]⟩,⟨[(6,.one (.int .i64))],[]⟩⟩)] [] [] []
def LG(s:dA)(K:gB->Prop):Prop:=let s0:=((s,(↑s.length:Int),()),());LP (α:=pX) ((0,()),()) λI μ y1=>bif decide (y1.1.1<(↑s.length:Int))then(0<=y1.1.1/\y1.1.1<(↑s.length:Int))/\bif decide ((↑(s.getD y1.1.1.toNat (0:UInt8)).toNat:Int)<97)then K (false,())else(0<=y1.1.1/\y1.1.1<(↑s.length:Int))/\bif decide ((↑(s.getD y1.1.1.toNat (0:UInt8)).toNat:Int)>122)then K (false,())else NX s0 I μ ((i64.wrap (y1.1.1+1),()),()) y1 else True/\let r2:=decide ((1:Int)<=(↑s.length:Int))&&decide ((↑s.length:Int)<=(6:Int));K (r2,())
def NC(v0:Int)(v1:Int)(v2:dA)(K:gB->Prop):Prop:=bif v0==0 then K (v0==0&&(v1==0&&(v2==[]&&true)),())else bif v0==1 then True/\let r0:=decide ((0:Int)<=v1)&&decide (v1<=(999:Int));bif r0 then K (v2==[],())else K (false,())else bif v0==2 then True/\bif aF v2 then K (v1==0,())else K (false,())else K (false,())
def NH(v0:Int)(v1:Int)(v2:dA)(K:gB->Prop):Prop:=bif v0==0 then K (v0==0&&(v1==0&&(v2==[]&&true)),())else bif v0==1 then True/\let r0:=decide ((0:Int)<=v1)&&decide (v1<=(999:Int));bif r0 then K (v2==[],())else K (false,())else bif v0==2 then True/\bif aF v2 then K (v1==0,())else K (false,())else K (false,())
def I9(s:dA)(K:gB->Prop):Prop:=True/\let r0:=Sp.lower s&&decide ((1:Int)<=(↑s.length:Int))&&decide ((↑s.length:Int)<=(1:Int));K (r0,())
def Ja(s:dA)(K:gB->Prop):Prop:=bif (↑s.length:Int)==1 then((0:Int)<=0/\0<(↑s.length:Int))/\bif decide ((↑(s.getD (Int.toNat 0) (0:UInt8)).toNat:Int)>=97)then((0:Int)<=0/\0<(↑s.length:Int))/\K (decide ((↑(s.getD (Int.toNat 0) (0:UInt8)).toNat:Int)<=122),())else K (false,())else K (false,())
end Go.Proofs.Tryz
