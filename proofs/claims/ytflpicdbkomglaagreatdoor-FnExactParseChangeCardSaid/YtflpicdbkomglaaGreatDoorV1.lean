import Derived.Test.YtflpicdbkomglaaGreatDoorF
namespace Go.Proofs.Tryz
open Go Go.Fw Sp
set_option maxRecDepth 100000
open Go.IntKind (i64)
def Uf(c0:List eG)(c1:Int)(c2:Int)(K:eG×(List eG×Int×eG)×Unit->Prop):Prop:=(0:Int)<=33/\(0:Int)<=45/\bif decide (c1<(↑c0.length:Int))then(0<=c1/\c1<(↑c0.length:Int))/\K ((bitsOf BinOp.and IntKind.i64 (i64.wrap (bitsOf BinOp.and IntKind.i64 (bitsOf BinOp.xor IntKind.i64 ((i64.wrap (i64.wrap (c2*6364136223846793005)+1442695040888963407)).fdiv (2 ^ min (Int.toNat 33) IntKind.i64.bits)) ((i64.wrap (i64.wrap (c2*6364136223846793005)+1442695040888963407)).fdiv (2 ^ min (Int.toNat 45) IntKind.i64.bits))) 255+i64.wrap (c0.getD c1.toNat (0,())).1)) 255,()),(c0,i64.wrap (c1+1),i64.wrap (i64.wrap (c2*6364136223846793005)+1442695040888963407),()),())else K ((bitsOf BinOp.and IntKind.i64 (bitsOf BinOp.xor IntKind.i64 ((i64.wrap (i64.wrap (c2*6364136223846793005)+1442695040888963407)).fdiv (2 ^ min (Int.toNat 33) IntKind.i64.bits)) ((i64.wrap (i64.wrap (c2*6364136223846793005)+1442695040888963407)).fdiv (2 ^ min (Int.toNat 45) IntKind.i64.bits))) 255,()),(c0,c1,i64.wrap (i64.wrap (c2*6364136223846793005)+1442695040888963407),()),())
def RS(n:Int)(K:JE->Prop):Prop:=K ((1,n,[],()),())
def L6(w:bY)(K:JE->Prop):Prop:=K ((2,0,w,()),())
def XH(LM:Int)(least:Int)(most:Int)(K:gI->Prop):Prop:=bif decide (LM>=least)then K (decide (LM<=most),())else K (false,())
def VO(n:Int)(low:Int)(high:Int)(K:gI->Prop):Prop:=bif decide (low<=n)then K (decide (n<=high),())else K (false,())
def VP:Hints:=hints [] [(2,⟨[],⟨[(0,.one (.str)),(1,.one (.int .i64))],[]⟩,⟨[(5,.one (.int .i64))],[]⟩⟩)] [] [] []
def Ug(s:bY)(most:Int)(K:gI->Prop):Prop:=let s0:=((s,most,()),());LP (α:=pI) ((0,()),()) λI μ y1=>bif decide (y1.1.1<(↑s.length:Int))then(0<=y1.1.1/\y1.1.1<(↑s.length:Int))/\bif decide ((↑(s.getD y1.1.1.toNat (0:UInt8)).toNat:Int)<97)then K (false,())else(0<=y1.1.1/\y1.1.1<(↑s.length:Int))/\bif decide ((↑(s.getD y1.1.1.toNat (0:UInt8)).toNat:Int)>122)then K (false,())else NX s0 I μ ((i64.wrap (y1.1.1+1),()),()) y1 else True/\let r2:=decide ((1:Int)<=(↑s.length:Int))&&decide ((↑s.length:Int)<=most);K (r2,())
def Jb(s:bY)(K:gI->Prop):Prop:=True/\let r0:=Sp.lower s&&decide ((1:Int)<=(↑s.length:Int))&&decide ((↑s.length:Int)<=(6:Int));K (r0,())
def Kr:Hints:=hints [] [(2,⟨[],⟨[(0,.one (.str)),(5,.one (.int .i64))],[]⟩,⟨[(6,.one (.int .i64))],[]⟩⟩)] [] [] []
def Jc(s:bY)(K:gI->Prop):Prop:=let s0:=((s,(↑s.length:Int),()),());LP (α:=pI) ((0,()),()) λI μ y1=>bif decide (y1.1.1<(↑s.length:Int))then(0<=y1.1.1/\y1.1.1<(↑s.length:Int))/\bif decide ((↑(s.getD y1.1.1.toNat (0:UInt8)).toNat:Int)<97)then K (false,())else(0<=y1.1.1/\y1.1.1<(↑s.length:Int))/\bif decide ((↑(s.getD y1.1.1.toNat (0:UInt8)).toNat:Int)>122)then K (false,())else NX s0 I μ ((i64.wrap (y1.1.1+1),()),()) y1 else True/\let r2:=decide ((1:Int)<=(↑s.length:Int))&&decide ((↑s.length:Int)<=(6:Int));K (r2,())
def Ko(v0:Int)(v1:Int)(v2:bY)(K:gI->Prop):Prop:=bif v0==0 then K (v0==0&&(v1==0&&(v2==[]&&true)),())else bif v0==1 then True/\let r0:=decide ((0:Int)<=v1)&&decide (v1<=(999:Int));bif r0 then K (v2==[],())else K (false,())else bif v0==2 then True/\bif aG v2 then K (v1==0,())else K (false,())else K (false,())
def Kt(v0:Int)(v1:Int)(v2:bY)(K:gI->Prop):Prop:=bif v0==0 then K (v0==0&&(v1==0&&(v2==[]&&true)),())else bif v0==1 then True/\let r0:=decide ((0:Int)<=v1)&&decide (v1<=(999:Int));bif r0 then K (v2==[],())else K (false,())else bif v0==2 then True/\bif aG v2 then K (v1==0,())else K (false,())else K (false,())
def FX(s:bY)(K:gI->Prop):Prop:=True/\let r0:=Sp.lower s&&decide ((1:Int)<=(↑s.length:Int))&&decide ((↑s.length:Int)<=(1:Int));K (r0,())
def FY(s:bY)(K:gI->Prop):Prop:=bif (↑s.length:Int)==1 then((0:Int)<=0/\0<(↑s.length:Int))/\bif decide ((↑(s.getD (Int.toNat 0) (0:UInt8)).toNat:Int)>=97)then((0:Int)<=0/\0<(↑s.length:Int))/\K (decide ((↑(s.getD (Int.toNat 0) (0:UInt8)).toNat:Int)<=122),())else K (false,())else K (false,())
end Go.Proofs.Tryz
