import Derived.Test.YtgnfgfokndjepaaDoorN
import Derived.Test.YtgnfgfokndjepaaDoorSp
namespace Go.Proofs.Tryd
open Go Go.Fw Sp
abbrev jg:=Int×Unit
abbrev fC:=List jg
abbrev GN:=Int×fC×fC×Unit
abbrev qF:=List UInt8
abbrev lM:=qF×Unit
abbrev qG:=List GN
abbrev Jf:=Int×qF×fC×qG×Unit
noncomputable section
def kS:PA:=⟨13,[.l aX dm,.i],[.i],λ((a,left,()):fC×jg)=>(0<=left/\left<=1048576,aO a.length left,())⟩
def mF:PA:=⟨28,[.v (.agg [.i,.l aX dm,.l aX dm]),.i],[.i],λ((a,left,()):GN×jg)=>(0<=left/\left<=1048576,aO (qZ a) left,())⟩
def lN:PA:=⟨14,[.l bZ kC,.i],[.i],λ((a,left,()):qG×jg)=>(0<=left/\left<=1048576,aO (oq a) left,())⟩
def ja:PA:=⟨4,[.v (.agg [.i,.s,.l aX dm,.l bZ kC]),.i],[.i],λ((a,left,()):Jf×jg)=>(0<=left/\left<=1048576,aO (oL a) left,())⟩
def kT:PA:=⟨18,[.l aX dm],[.f aX dm],λ((a,()):fC×Unit)=>(a.length<=big,a,())⟩
def mG:PA:=⟨31,[.v (.agg [.i,.l aX dm,.l aX dm])],[.agg [.i,.f aX dm,.f aX dm]],λ(((n,a,b,()),()):GN×Unit)=>(a.length+b.length<=big,(n,a,b,()),())⟩
def lQ:PA:=⟨19,[.l bZ kC],[.f bC nC],λ((a,()):qG×Unit)=>(oq a<=big,a,())⟩
def jb:PA:=⟨6,[.v (.agg [.i,.s,.l aX dm,.l bZ kC])],[.agg [.i,.s,.f aX dm,.f bC nC]],λ(((u,n,l,e,()),()):Jf×Unit)=>(l.length+oq e<=big,(u,n,l,e,()),())⟩
def gB:PA:=⟨8,[.l fD nI,.l fD nI],[.b],λ((a,b,()):List lM×List lM×Unit)=>(a=b,true,())⟩
def kU:PA:=⟨23,[.l aX dm,.l aX dm],[.b],λ((a,b,()):fC×fC×Unit)=>(a=b,true,())⟩
def mJ:PA:=⟨34,[.v (.agg [.i,.l aX dm,.l aX dm]),.v (.agg [.i,.l aX dm,.l aX dm])],[.b],λ((a,b,()):GN×GN×Unit)=>(a=b,true,())⟩
def lS:PA:=⟨24,[.l bC nC,.l bC nC],[.b],λ((a,b,()):qG×qG×Unit)=>(a=b,true,())⟩
def jc:PA:=⟨9,[.v (.agg [.i,.s,.l aX dm,.l bC nC]),.v (.agg [.i,.s,.l aX dm,.l bC nC])],[.b],λ((a,b,()):Jf×Jf×Unit)=>(a=b,true,())⟩
def oM:List bP:=[.v (.one (.int .i64))]
def sN:List gq:=[.one (.str)]
def FM:iy oM->Prop×nU sN:=λ(n,())=>(-9223372036854775808<=n/\n<=9223372036854775807,Lib.itoa n,())
def ou:Jg:=lW oM sN FM
def oN:List bP:=[.v (.one (.sl fD nI false)),.v (.one (.str))]
def sO:List gq:=[.one (.str)]
def FN:iy oN->Prop×nU sO:=λ(l,sep,())=>(l.length<=140737488355328/\(Lib.join (l.map (·.1)) sep).length<=140737488355328,Lib.join (l.map (·.1)) sep,())
def oz:Jg:=lW oN sO FN
def gG:PA:=⟨21,[.i],[.s],λ((n,()):jg)=>(True,Lib.itoa n,())⟩
def kD:PA:=⟨30,[.i],[.one (.int .u8)],λ((x,()):jg)=>(0<=x/\x<10,48+x,())⟩
def gI:PA:=⟨16,[.i],[.s],λ((n,()):jg)=>(True,Lib.itoa n,())⟩
def kE:PA:=⟨29,[.l aX dm],[.s],λ((ids,()):fC×Unit)=>(ids.length<=1048576,dH ids,())⟩
def kF:PA:=⟨32,[.l aX dm],[.s],λ((ids,()):fC×Unit)=>(ids.length<=1048576,dH ids,())⟩
def mM:PA:=⟨15,[.s,.l aX dm],[.s],λ((s,ids,()):qF×fC×Unit)=>(s.length<=2097152/\ids.length<=1048576,Sp.withIds s ids,())⟩
def mO:PA:=⟨20,[.s,.l aX dm],[.s],λ((s,ids,()):qF×fC×Unit)=>(s.length<=2097152/\ids.length<=1048576,Sp.withIds s ids,())⟩
def jy:PA:=⟨17,[.v (.agg [.i,.l aX dm,.l aX dm])],[.s],λ(((v,a,r,()),()):GN×Unit)=>(a.length<=1048576/\r.length<=1048576,qH v a r,())⟩
def jA:PA:=⟨22,[.v (.agg [.i,.l aX dm,.l aX dm])],[.s],λ(((v,a,r,()),()):GN×Unit)=>(a.length<=1048576/\r.length<=1048576,qH v a r,())⟩
def dW:PA:=⟨5,[.v (.agg [.i,.s,.l aX dm,.l bC nC])],[.f fD nI],λ((w,()):Jf×Unit)=>(oL w<=1048576,ku w,())⟩
def dX:PA:=⟨7,[.v (.agg [.i,.s,.l aX dm,.l bC nC])],[.f fD nI],λ((w,()):Jf×Unit)=>(oL w<=1048576,ku w,())⟩
def fE:PA:=⟨27,[.i],[.s],λ((k,()):jg)=>(0<=k/\k<=1000000000,Sp.markT k,())⟩
def dY:PA:=⟨12,[.l fD nI,.i],[.i],λ((a,k,()):List lM×jg)=>(0<=k/\k<=10000000/\a.length<=4000000,rD a k,())⟩
end
end Go.Proofs.Tryd
