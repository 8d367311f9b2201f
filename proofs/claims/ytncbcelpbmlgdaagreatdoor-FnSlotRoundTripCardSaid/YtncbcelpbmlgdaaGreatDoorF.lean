import Derived.Test.YtncbcelpbmlgdaaGreatDoorN
import Derived.Test.YtncbcelpbmlgdaaGreatDoorSp
namespace Go.Proofs.Tryz
open Go Go.Fw Sp
abbrev dW:=List UInt8
abbrev fO:=dW×Unit
abbrev Ty0:=dW×Int×Int×fO
abbrev gy:=Int×Unit
abbrev jk:=List gy
abbrev uf:=jk×Int×gy
abbrev gu:=uf×Unit
abbrev Bv:=List Ty0
abbrev Ty2:=Int×Int×Bool×Int×Bv×Unit
abbrev Zk:=Int×Int×Int×Ty0
abbrev nK:=List Zk
abbrev CY:=nK×Unit
abbrev xQ:=List (dW×CY)
abbrev jV:=List (dW×gy)
abbrev gB:=Bool×Unit
abbrev qh:=List Ty2
abbrev rX:=xQ×Unit
abbrev Bz:=(jV×qh×Int×rX)×Unit
abbrev Em:=Unit×Unit
abbrev U3:=Int×Int×Bool×Int×Em
abbrev U4:=Unit×uf×U3×Bv×Unit
abbrev QI:=jV×qh×gy
abbrev oH:=List fO
abbrev En:=oH×Unit
abbrev AQ:=(Int×Int×fO)×Unit
abbrev fQ:=gy×gu
abbrev yB:=CY×gu
abbrev kJ:=gy×Unit
abbrev rY:=jk×Unit
abbrev xB:=En×Unit
abbrev pU:=fO×gu
abbrev ug:=Ty2×Unit
abbrev zD:=QI×Unit
abbrev yC:=gB×Unit
abbrev U5:=(Unit×gy)×En
abbrev U6:=(Int×gy)×Unit
abbrev Zl:=(nK×gy)×Unit
abbrev ac9:=(jk×gB)×Unit
abbrev Ko:=Zk×Unit
abbrev ada:=(dW×gy)×Unit
abbrev I9:=fO×Unit
abbrev akj:=(QI×Int×gB)×Unit
class lJ where n:Nat
abbrev iR[lJ]:Nat:=lJ.n
noncomputable section
def rF:QA:=⟨46,[.p (.v (.one (.sl dS jA false)))],[.sl dS jA false,.int .i64,.int .i64],λ((code,()):rY)=>(code.length<=1048576,λ(z:uf)=>z.2.1=0)⟩
def yD:XA:=⟨95,[.ptr [.sl dS jA false,.int .i64,.int .i64]],[.one (.c (.int .i64))],λ(((_,i,_,()),()):gu)=>(0<=i,λ(z:fQ)=>0<=z.2.1.2.1/\0<=z.1.1/\z.1.1<=255)⟩
def bU:XA:=⟨47,[.ptr [.sl dS jA false,.int .i64,.int .i64],.p (.v (.one (.int .i64)))],[.one (.c (.int .i64))],λ(((_,i,_,()),n,()):uf×gy)=>(0<=i,λ(z:fQ)=>0<=z.2.1.2.1/\0<=z.1.1/\(0<n->z.1.1<n)/\(n<=0->z.1.1=0))⟩
def qi:XA:=⟨66,[.ptr [.sl dS jA false,.int .i64,.int .i64],.p (.v (.one (.int .i64)))],[.one (.c .bool)],λ(((_,i,_,()),_,()):uf×gy)=>(0<=i,λ(z:gB×gu)=>0<=z.2.1.2.1)⟩
def jh:XA:=⟨63,[.ptr [.sl dS jA false,.int .i64,.int .i64],.p (.v (.one (.sl aT dJ false)))],[.one (.c .str)],λ(((_,i,_,()),list,()):uf×En)=>(0<=i/\list≠[],λ(z:pU)=>0<=z.2.1.2.1/\(z.1.1,())∈list)⟩
def kG:XA:=⟨84,[.ptr [.sl dS jA false,.int .i64,.int .i64],.p (.v (.one (.sl Fe U7 false)))],[.one (.c (.int .i64))],λ(((_,i,_,()),list,()):uf×rY)=>(0<=i/\list≠[],λ(z:fQ)=>0<=z.2.1.2.1/\(z.1.1,())∈list)⟩
def vV:XA:=⟨99,[],[.one (.own aG dh true)],λ(())=>(True,λ(z:(jV×Unit)×Unit)=>z.1.1=Sp.usual)⟩
def yE:XA:=⟨68,[.ptr [.sl dS jA false,.int .i64,.int .i64]],[.one (.c .str)],λ(((_,i,_,()),()):gu)=>(0<=i,λ(z:pU)=>0<=z.2.1.2.1/\z.1.1.length<=1)⟩
def D5:XA:=⟨144,[.ptr [.sl dS jA false,.int .i64,.int .i64]],[.one (.c (.sl aG dh true))],λ(((_,i,_,()),()):gu)=>(0<=i,λ(z:(jV×Unit)×gu)=>0<=z.2.1.2.1/\z.1.1.length<=6)⟩
def A8:XA:=⟨157,[.ptr [.sl dS jA false,.int .i64,.int .i64]],[.agg [.c (.int .i64),.c (.int .i64),.c .str]],λ(((_,i,_,()),()):gu)=>(0<=i,λ(z:AQ×gu)=>0<=z.2.1.2.1/\z.1.1.2.2.1.length<=10)⟩
def Ae:XA:=⟨117,[.ptr [.sl dS jA false,.int .i64,.int .i64]],[.agg [.c (.int .i64),.c (.int .i64),.c .str]],λ(((_,i,_,()),()):gu)=>(0<=i,λ(z:AQ×gu)=>0<=z.2.1.2.1/\z.1.1.2.2.1.length<=10)⟩
def oI:PA:=⟨52,[.v (.one (.int .i64))],[.agg [.int .i64,.int .i64,.str]],λ((n,()):gy)=>(True,(1,n,[],()),())⟩
def jL:PA:=⟨118,[.v (.one (.str))],[.agg [.int .i64,.int .i64,.str]],λ((w,()):fO)=>(True,(2,0,w,()),())⟩
def iU:PA:=⟨91,[.v (.one (.int .i64)),.v (.one (.int .i64)),.v (.one (.int .i64))],[.one (.bool)],λ((x,a,b,()):Int×Int×gy)=>(True,(decide (a<=x)&&decide (x<=b)),())⟩
def ji:PA:=⟨85,[.v (.one (.int .i64)),.v (.one (.int .i64)),.v (.one (.int .i64))],[.one (.bool)],λ((x,a,b,()):Int×Int×gy)=>(True,(decide (a<=x)&&decide (x<=b)),())⟩
def yF:PA:=⟨133,[.v (.one (.str)),.v (.one (.int .i64))],[.one (.bool)],λ((s,m,()):dW×gy)=>(True,(Sp.lower s&&decide (1<=(s.length:Int))&&decide ((s.length:Int)<=m)),())⟩
def lK:PA:=⟨166,[.v (.one (.str))],[.one (.bool)],λ((s,()):fO)=>(True,aS s,())⟩
def lM:PA:=⟨163,[.v (.one (.str))],[.one (.bool)],λ((s,()):fO)=>(True,aS s,())⟩
def kK:PA:=⟨132,[.v (.agg [.int .i64,.int .i64,.str])],[.one (.bool)],λ(((k,n,s,()),()):AQ)=>(True,bI k n s,())⟩
def kL:PA:=⟨128,[.v (.agg [.int .i64,.int .i64,.str])],[.one (.bool)],λ(((k,n,s,()),()):AQ)=>(True,bI k n s,())⟩
def ku:PA:=⟨77,[.v (.one (.str))],[.one (.bool)],λ((s,()):fO)=>(True,dm s,())⟩
def kz:PA:=⟨76,[.v (.one (.str))],[.one (.bool)],λ((s,()):fO)=>(True,dm s,())⟩
def zF:PA:=⟨182,[.v (.one (.sl aG dh false)),.v (.one (.str))],[.one (.int .i64)],λ((fs,s,()):jV×fO)=>(True,Sp.kindOf fs s,())⟩
def zG:PA:=⟨193,[.v (.one (.sl aG dh false)),.v (.one (.str))],[.one (.int .i64)],λ((fs,s,()):jV×fO)=>(True,Sp.kindOf fs s,())⟩
def oJ:PA:=⟨137,[.v (.one (.sl aG dh false))],[.one (.bool)],λ((fs,()):jV×Unit)=>(True,dY fs,())⟩
def oK:PA:=⟨135,[.v (.one (.sl aG dh false))],[.one (.bool)],λ((fs,()):jV×Unit)=>(True,dY fs,())⟩
def rZ:PA:=⟨142,[.v (.one (.sl aG dh false)),.v (.one (.str)),.v (.agg [.int .i64,.int .i64,.str])],[.one (.bool)],λ((fs,s,(k,n,w,()),()):jV×dW×AQ)=>(True,iV fs s k n w,())⟩
def su:PA:=⟨167,[.v (.one (.sl aG dh false)),.v (.one (.str)),.v (.agg [.int .i64,.int .i64,.str])],[.one (.bool)],λ((fs,s,(k,n,w,()),()):jV×dW×AQ)=>(True,iV fs s k n w,())⟩
def qI:PA:=⟨98,[.v (.one (.sl aG dh false)),.v (.agg [.int .i64,.int .i64,.bool,.int .i64,.sl fG fF false])],[.one (.bool)],λ((fs,f,()):jV×ug)=>(True,dB fs f,())⟩
def vW:PA:=⟨134,[.v (.one (.sl aG dh false)),.v (.agg [.int .i64,.int .i64,.bool,.int .i64,.sl fG fF false])],[.one (.bool)],λ((fs,f,()):jV×ug)=>(True,dB fs f,())⟩
def mQ:PA:=⟨80,[.v (.agg [.sl aG dh false,.sl aX dV false,.int .i64])],[.one (.bool)],λ((s,()):zD)=>(True,bT s,())⟩
def uN:PA:=⟨78,[.v (.agg [.sl aG dh false,.sl aX dV false,.int .i64])],[.one (.bool)],λ((s,()):zD)=>(True,bT s,())⟩
def xR:PA:=⟨82,[.v (.one (.sl aG dh false)),.v (.one (.sl aG dh false))],[.one (.bool)],λ((a,b,()):jV×jV×Unit)=>(True,decide (a=b),())⟩
def zH:PA:=⟨176,[.v (.one (.sl fG fF false)),.v (.one (.sl fG fF false))],[.one (.bool)],λ((a,b,()):Bv×Bv×Unit)=>(True,decide (a=b),())⟩
def Ba:PA:=⟨139,[.v (.agg [.int .i64,.int .i64,.bool,.int .i64,.sl fG fF false]),.v (.agg [.int .i64,.int .i64,.bool,.int .i64,.sl fG fF false])],[.one (.bool)],λ((a,b,()):Ty2×ug)=>(True,decide (a=b),())⟩
def zI:PA:=⟨83,[.v (.one (.sl aX dV false)),.v (.one (.sl aX dV false))],[.one (.bool)],λ((a,b,()):qh×qh×Unit)=>(True,decide (a=b),())⟩
def uh:PA:=⟨30,[.v (.agg [.sl aG dh false,.sl aX dV false,.int .i64]),.v (.agg [.sl aG dh false,.sl aX dV false,.int .i64])],[.one (.bool)],λ((a,b,()):QI×zD)=>(True,decide (a=b),())⟩
def yG:PA:=⟨97,[.v (.agg [.int .i64,.int .i64,.bool,.int .i64,.sl fG fF false])],[.agg [.int .i64,.int .i64,.bool,.int .i64,.sl fG fF true]],λ((f,()):ug)=>(vX f,f,())⟩
def D6:PA:=⟨168,[.v (.one (.int .i64))],[.one (.bool)],λ((u,()):gy)=>(True,(decide (0<=u)&&decide (u<=2)),())⟩
def Bc:PA:=⟨190,[.v (.agg [.sl aG dh false,.sl aX dV false,.int .i64]),.v (.one (.int .i64))],[.one (.int .i64)],λ(((_,fs,_,()),id,()):QI×gy)=>(True,Sp.place fs id,())⟩
def yH:XA:=⟨51,[.p (.v (.agg [.int .i64,.int .i64,.bool,.int .i64,.sl fG fF false])),.p (.v (.one (.str))),.p (.v (.agg [.int .i64,.int .i64,.str]))],[.agg [.c (.int .i64),.c (.int .i64),.c .bool,.c (.int .i64),.own fG fF true]],λ(((i,o,s,l,a,()),name,(k,n,w,()),()):Ty2×dW×AQ)=>(a.length<=1000,λ(z:ug×Unit)=>z.1.1.1=i/\z.1.1.2.1=o/\z.1.1.2.2.1=s/\z.1.1.2.2.2.1=l/\z.1.1.2.2.2.2.1=jR a name k n w)⟩
def tK:XA:=⟨116,[.ptr [.sl dS jA false,.int .i64,.int .i64],.p (.v (.one (.int .i64)))],[.agg [.c (.int .i64),.c (.int .i64),.c .bool,.c (.int .i64),.own fG fF true]],λ(((_,i,_,()),id,()):uf×gy)=>(0<=i,λ(z:ug×gu)=>0<=z.2.1.2.1/\z.1.1.1=id/\0<=z.1.1.2.1/\z.1.1.2.1<=2/\0<=z.1.1.2.2.2.1/\z.1.1.2.2.2.1<=6/\kC Sp.usual z.1.1.2.2.2.2.1=true/\z.1.1.2.2.2.2.1.length<=4)⟩
def D7:XA:=⟨67,[.ptr [.sl dS jA false,.int .i64,.int .i64]],[.agg [.c (.int .i64),.c (.int .i64),.c .bool,.c (.int .i64),.c (.sl fG fF true)]],λ(((_,i,_,()),()):gu)=>(0<=i,λ(z:ug×gu)=>0<=z.2.1.2.1/\z.1.1.2.2.2.2.1.length<=10)⟩
def Bd:XA:=⟨49,[.p (.v (.one (.sl aG dh false)))],[.agg [.own aG dh true,.own aX dV true,.c (.int .i64)]],λ((s,()):jV×Unit)=>(s.length<=1000,λ(z:zD×Unit)=>z.1.1.1=s/\z.1.1.2.1=[]/\z.1.1.2.2.1=1)⟩
def yI:XA:=⟨96,[.p (.v (.agg [.sl aG dh false,.sl aX dV false,.int .i64]))],[.agg [.own aG dh true,.own aX dV true,.c (.int .i64)]],λ((s,()):zD)=>(mY s,λ(z:zD×Unit)=>(z.1.1.1,z.1.1.2.1,z.1.1.2.2.1,())=s)⟩
def rO:XA:=⟨48,[.p (.v (.agg [.sl aG dh false,.sl aX dV false,.int .i64])),.p (.v (.agg [.int .i64,.int .i64,.bool,.int .i64,.sl fG fF false]))],[.agg [.own aG dh true,.own aX dV true,.c (.int .i64)],.one (.c (.int .i64)),.one (.c .bool)],λ((s,f,()):QI×ug)=>(mY s/\vX f,λ(z:akj)=>z.1.1.1=(bQ s f).1.1/\z.1.1.2.1=(bQ s f).1.2.1/\z.1.1.2.2.1=(bQ s f).1.2.2.1/\z.1.2.1=(bQ s f).2.1/\z.1.2.2.1=(bQ s f).2.2)⟩
def xU:XA:=⟨155,[.p (.v (.agg [.sl aG dh false,.sl aX dV false,.int .i64])),.p (.v (.one (.int .i64)))],[.agg [.own aG dh true,.own aX dV true,.c (.int .i64)],.one (.c .bool)],λ((s,id,()):QI×gy)=>(mY s,λ(z:(QI×gB)×Unit)=>z.1.1.1=(eU s id).1.1/\z.1.1.2.1=(eU s id).1.2.1/\z.1.1.2.2.1=(eU s id).1.2.2.1/\z.1.2.1=(eU s id).2)⟩
def vY:XA:=⟨108,[.ptr [.sl dS jA false,.int .i64,.int .i64]],[.agg [.own aG dh true,.own aX dV true,.c (.int .i64)]],λ(((_,i,_,()),()):gu)=>(0<=i,λ(z:zD×gu)=>0<=z.2.1.2.1/\z.1.1.1=Sp.usual/\bT (z.1.1.1,z.1.1.2.1,z.1.1.2.2.1,())=true/\z.1.1.2.2.1<=z.1.1.2.1.length+2/\mY (z.1.1.1,z.1.1.2.1,z.1.1.2.2.1,())/\0<z.1.1.2.1.length)⟩
def D8:XA:=⟨101,[.ptr [.sl dS jA false,.int .i64,.int .i64]],[.agg [.c (.sl aG dh false),.c (.sl aX dV false),.c (.int .i64)]],λ(((_,i,_,()),()):gu)=>(0<=i,λ(z:zD×gu)=>0<=z.2.1.2.1/\mY (z.1.1.1,z.1.1.2.1,z.1.1.2.2.1,())/\∀f∈z.1.1.2.1,f.2.2.2.2.1.length<=400)⟩
def Jt:PA:=⟨7,[.v (.one (.sl dS jA false))],[.one (.bool)],λ((code,()):rY)=>(True,decide (1048576<(code.length:Int)),())⟩
def xW:XA:=⟨208,[.ptr [.sl dS jA false,.int .i64,.int .i64]],[.one (.c .str)],λ(((_,i,_,()),()):gu)=>(0<=i,λ(z:pU)=>0<=z.2.1.2.1/\z.1.1.length<=10)⟩
def tN:XA:=⟨183,[.ptr [.sl dS jA false,.int .i64,.int .i64]],[.agg [.c (.int .i64),.c (.int .i64),.c (.int .i64),.c .str,.c (.int .i64),.c (.int .i64),.c .str]],λ(((_,i,_,()),()):gu)=>(0<=i,λ(z:Ko×gu)=>0<=z.2.1.2.1/\True)⟩
def Fg:List iG:=[.ptr [.sl dS jA false,.int .i64,.int .i64],.own aJ bD,.p (.v (.one (.int .i64))),.p (.v (.one (.bool)))]
def Kq:List pF:=[.one (.own aJ bD false)]
def O1:jq Fg->Prop×(lN Kq×kX Fg->Prop):=λ((_,i,_,()),q,deep,_,())=>(0<=i/\0<=deep/\deep<=4/\q.length+2*deep.toNat<=900,λ((r,()),((_,i',_,()),()))=>0<=i'/\q.length<r.length/\r.length<=q.length+2*deep.toNat+1)
def Zm:CZ:=pV Fg Kq O1
def oL:List iG:=[.ptr [.sl dS jA false,.int .i64,.int .i64],.own aJ bD,.p (.v (.one (.int .i64))),.p (.v (.one (.bool)))]
def EG:List pF:=[.one (.own aJ bD false)]
def Gy[lJ]:jq oL->Prop×(lN EG×kX oL->Prop):=λ((_,i,_,()),q,deep,_,())=>((0<=i/\0<=deep/\deep<=4/\q.length+2*deep.toNat<=900)/\deep.toNat<iR,λ((r,()),((_,i',_,()),()))=>0<=i'/\q.length<r.length/\r.length<=q.length+2*deep.toNat+1)
def yJ[lJ]:CZ:=pV oL EG Gy
def qU:List iG:=[.ptr [.sl dS jA false,.int .i64,.int .i64],.own aJ bD,.p (.v (.one (.int .i64))),.p (.v (.one (.bool)))]
def Dk:List pF:=[.one (.own aJ bD false)]
def sD[lJ]:jq qU->Prop×(lN Dk×kX qU->Prop):=λ((_,i,_,()),q,deep,_,())=>((0<=i/\0<=deep/\deep<=4/\q.length+2*deep.toNat<=900)/\deep.toNat<iR+1,λ((r,()),((_,i',_,()),()))=>0<=i'/\q.length<r.length/\r.length<=q.length+2*deep.toNat+1)
def Dl[lJ]:CZ:=pV qU Dk sD
def oM:List iG:=[.ptr [.sl dS jA false,.int .i64,.int .i64],.p (.v (.one .nil)),.p (.v (.one (.int .i64))),.p (.v (.one (.bool)))]
def EH:List pF:=[.one (.own aJ bD false)]
def Gz:jq oM->Prop×(lN EH×kX oM->Prop):=λ((_,i,_,()),(),deep,_,())=>(0<=i/\0<=deep/\deep<=4,λ((r,()),((_,i',_,()),()))=>0<=i'/\0<r.length/\r.length<=0+2*deep.toNat+1)
def yK:CZ:=pV oM EH Gz
def vZ:XA:=⟨147,[.ptr [.sl dS jA false,.int .i64,.int .i64]],[.one (.own aJ bD false)],λ(((_,i,_,()),()):gu)=>(0<=i,λ(z:yB)=>0<=z.2.1.2.1/\0<z.1.1.length/\z.1.1.length<=9)⟩
def kS:XA:=⟨147,[.ptr [.sl dS jA false,.int .i64,.int .i64]],[.one (.c (.sl aJ bD false))],λ(((_,i,_,()),()):gu)=>(0<=i,λ(z:yB)=>0<=z.2.1.2.1/\0<z.1.1.length/\z.1.1.length<=9)⟩
def D9:XA:=⟨146,[.ptr [.sl dS jA false,.int .i64,.int .i64]],[.one (.c (.sl aJ bD false))],λ(((_,i,_,()),()):gu)=>(0<=i,λ(z:yB)=>0<=z.2.1.2.1/\z.1.1.length<=10)⟩
def yL:XA:=⟨145,[.ptr [.sl dS jA false,.int .i64,.int .i64]],[.one (.own bF dK false)],λ(((_,i,_,()),()):gu)=>(0<=i,λ(z:rX×gu)=>0<=z.2.1.2.1/\0<z.1.1.length/\z.1.1.length<=4/\eu z.1.1)⟩
def Ea:XA:=⟨102,[.ptr [.sl dS jA false,.int .i64,.int .i64]],[.one (.c (.sl bF dK false))],λ(((_,i,_,()),()):gu)=>(0<=i,λ(z:rX×gu)=>0<=z.2.1.2.1/\z.1.1.length<=10/\eu z.1.1)⟩
def Cb:XA:=⟨109,[.ptr [.sl dS jA false,.int .i64,.int .i64]],[.one (.c (.sl bF dK false))],λ(((_,i,_,()),()):gu)=>(0<=i,λ(z:rX×gu)=>0<=z.2.1.2.1/\z.1.1.length<=10/\eu z.1.1/\dI z.1.1=true/\0<z.1.1.length)⟩
def wo:XA:=⟨62,[.ptr [.sl dS jA false,.int .i64,.int .i64]],[.agg [.c (.sl aG dh false),.c (.sl aX dV false),.c (.int .i64),.c (.sl bF dK false)]],λ(((_,i,_,()),()):gu)=>(0<=i,λ(z:Bz×gu)=>0<=z.2.1.2.1/\fH (z.1.1.1,z.1.1.2.1,z.1.1.2.2.1,z.1.1.2.2.2.1,()))⟩
def Eb:XA:=⟨57,[.ptr [.sl dS jA false,.int .i64,.int .i64]],[.agg [.c (.sl aG dh false),.c (.sl aX dV false),.c (.int .i64),.c (.sl bF dK false)]],λ(((_,i,_,()),()):gu)=>(0<=i,λ(z:Bz×gu)=>0<=z.2.1.2.1/\fH (z.1.1.1,z.1.1.2.1,z.1.1.2.2.1,z.1.1.2.2.2.1,()))⟩
def wu:PA:=⟨158,[.v (.agg [.int .i64,.int .i64,.int .i64,.str,.int .i64,.int .i64,.str]),.v (.one (.int .i64))],[.one (.bool)],λ(((o,l,r,nm,vk,vi,vs,()),at',()):Zk×gy)=>(True,dM (o,l,r,nm,vk,vi,vs,()) at',())⟩
def wz:PA:=⟨149,[.v (.agg [.int .i64,.int .i64,.int .i64,.str,.int .i64,.int .i64,.str]),.v (.one (.int .i64))],[.one (.bool)],λ(((o,l,r,nm,vk,vi,vs,()),at',()):Zk×gy)=>(True,dM (o,l,r,nm,vk,vi,vs,()) at',())⟩
def qA:PA:=⟨159,[.v (.one (.sl aJ bD false)),.v (.one (.int .i64))],[.one (.int .i64)],λ((q,at',()):nK×gy)=>(q.length<=2000000,(gU q at':Int),())⟩
def qB:PA:=⟨150,[.v (.one (.sl aJ bD false)),.v (.one (.int .i64))],[.one (.int .i64)],λ((q,at',()):nK×gy)=>(q.length<=2000000,(gU q at':Int),())⟩
def mV:PA:=⟨120,[.v (.one (.sl aJ bD false))],[.one (.bool)],λ((q,()):CY)=>(q.length<=2000000,ax q,())⟩
def jb:PA:=⟨104,[.v (.one (.sl aJ bD false))],[.one (.bool)],λ((q,()):CY)=>(q.length<=2000000,ax q,())⟩
def wB:PA:=⟨173,[.v (.one (.sl bF dK false))],[.one (.bool)],λ((d,()):rX)=>(eu d,mZ d,())⟩
def wC:PA:=⟨169,[.v (.one (.sl bF dK false))],[.one (.bool)],λ((d,()):rX)=>(eu d,mZ d,())⟩
def Bf:PA:=⟨218,[.v (.agg [.int .i64,.int .i64,.int .i64,.str,.int .i64,.int .i64,.str])],[.one (.bool)],λ(((o,_,_,_,_,_,_,()),()):Ko)=>(True,(o==8||o==9),())⟩
def uO:PA:=⟨238,[.v (.one (.sl aJ bD false))],[.one (.sl aaQ R_4 true)],λ((q,()):CY)=>(q.length<=1000,Sp.negated q,())⟩
def uP:PA:=⟨217,[.v (.one (.sl aJ bD false))],[.one (.sl aaQ R_4 true)],λ((q,()):CY)=>(q.length<=1000,Sp.negated q,())⟩
def qJ:List iG:=[.p (.v (.one (.sl aT dJ false)))]
def AU:List pF:=[.one (.c (.sl aT dJ true))]
def Jj:jq qJ->Prop×(lN AU×kX qJ->Prop):=λ(l,())=>(l.length<=1000,λ((r,()),())=>r.length<=l.length/\∀s,s∈r↔s∈l)
def AX:CZ:=pV qJ AU Jj
def uj:XA:=⟨195,[.p (.v (.one (.sl aJ bD false))),.p (.v (.one (.bool)))],[.one (.c (.sl aT dJ true))],λ((q,neg,()):nK×gB)=>(q.length<=1000,λ(z:xB)=>jc z.1.1 (dO q neg))⟩
def uQ:XA:=⟨171,[.p (.v (.one (.sl aJ bD false)))],[.one (.c (.sl aT dJ true))],λ((q,()):CY)=>(q.length<=1000,λ(z:xB)=>jc z.1.1 (dO q false))⟩
def uS:XA:=⟨172,[.p (.v (.one (.sl aJ bD false)))],[.one (.c (.sl aT dJ true))],λ((q,()):CY)=>(q.length<=1000,λ(z:xB)=>jc z.1.1 (dO q true))⟩
def Ec:PA:=⟨239,[.v (.one (.sl aT dJ false)),.v (.one (.str))],[.one (.sl aT dJ false)],λ((l,s,()):oH×fO)=>(l.length<=1000,N8 l s,())⟩
def wE:XA:=⟨220,[.p (.v (.one (.sl aJ bD false))),.p (.v (.one (.bool)))],[.one (.c (.sl aT dJ true))],λ((q,neg,()):nK×gB)=>(q.length<=1000,λ(z:xB)=>jc z.1.1 (dO q neg))⟩
def uT:XA:=⟨196,[.p (.v (.one (.sl aJ bD false)))],[.one (.c (.sl aT dJ true))],λ((q,()):CY)=>(q.length<=1000,λ(z:xB)=>jc z.1.1 (dO q false))⟩
def uU:XA:=⟨198,[.p (.v (.one (.sl aJ bD false)))],[.one (.c (.sl aT dJ true))],λ((q,()):CY)=>(q.length<=1000,λ(z:xB)=>jc z.1.1 (dO q true))⟩
def yM:PA:=⟨216,[.v (.agg [.str,.sl aJ bD false]),.kp [.str]],[.one (.bool)],λ(((nm,_,()),name,()):(dW×CY)×I9)=>(True,(nm==name.1),())⟩
def iD:PA:=⟨215,[.v (.one (.sl bF dK false)),.fn 216 [[.str]]],[.one (.int .i64)],λ((d,((name,()),()),()):xQ×I9×Unit)=>(True,aA d name,())⟩
def Fh:PA:=⟨194,[.v (.one (.sl bF dK false)),.v (.one (.str))],[.one (.int .i64)],λ((d,name,()):xQ×fO)=>(True,aA d name,())⟩
def Bg:PA:=⟨197,[.v (.one (.sl bF dK false)),.v (.one (.str))],[.one (.int .i64)],λ((d,name,()):xQ×fO)=>(True,aA d name,())⟩
def wF:PA:=⟨170,[.v (.one (.sl bF dK false)),.v (.one (.sl Fe U7 false)),.v (.one (.sl aT dJ false)),.v (.one (.int .i64))],[.one (.int .i64)],λ((d,aI,names,more,()):xQ×jk×oH×gy)=>(d.length<=aI.length/\names.length<=1000/\0<=more/\more<=1/\∀x∈aI,0<=x.1/\x.1<=1000000,wG d aI more names,())⟩
def Ed:XA:=⟨136,[.p (.v (.one (.sl bF dK false)))],[.one (.c (.sl Fe U7 true)),.one (.c .bool)],λ((d,()):rX)=>(eu d,λ(z:ac9)=>z.1.2.1=dI d/\(z.1.2.1=true->MO d z.1.1))⟩
def uV:PA:=⟨79,[.v (.one (.sl bF dK false))],[.one (.bool)],λ((d,()):rX)=>(eu d,dI d,())⟩
def qV:XA:=⟨174,[.p (.v (.one (.sl bF dK false))),.p (.v (.one (.sl Fe U7 false)))],[.one (.own Fe U7 true)],λ((d,aI,()):xQ×rY)=>(eu d/\d.length<=5/\aI.length=d.length/\∀x∈aI,0<=x.1/\x.1<=1000000,λ(z:rY×Unit)=>Sp.raised d aI z.1.1)⟩
def Cc:PA:=⟨175,[.v (.one (.sl Fe U7 false)),.v (.one (.sl Fe U7 false))],[.one (.bool)],λ((a,b,()):jk×rY)=>(True,decide (a=b),())⟩
def Ee:XA:=⟨138,[.p (.v (.one (.sl bF dK false)))],[.one (.c (.sl Fe U7 true)),.one (.c .bool)],λ((d,()):rX)=>(eu d,λ(z:ac9)=>z.1.2.1=dI d/\(z.1.2.1=true->MO d z.1.1)/\(z.1.2.1=false->z.1.1=[]))⟩
def pY:PA:=⟨81,[.v (.one (.sl bF dK false))],[.one (.bool)],λ((d,()):rX)=>(eu d,dI d,())⟩
def iJ:PA:=⟨28,[.v (.agg [.sl aG dh false,.sl aX dV false,.int .i64,.sl bF dK false])],[.one (.bool)],λ((x,()):Bz)=>(fH x,bM x,())⟩
def iK:PA:=⟨29,[.v (.agg [.sl aG dh false,.sl aX dV false,.int .i64,.sl bF dK false])],[.one (.bool)],λ((x,()):Bz)=>(fH x,bM x,())⟩
def zJ:PA:=⟨143,[.v (.one (.sl aJ bD false)),.v (.one (.sl aJ bD false))],[.one (.bool)],λ((a,b,()):nK×CY)=>(True,decide (a=b),())⟩
def Ce:PA:=⟨100,[.v (.agg [.str,.sl aJ bD false]),.v (.agg [.str,.sl aJ bD false])],[.one (.bool)],λ((a,b,()):(dW×CY)×(dW×CY)×Unit)=>(True,decide (a=b),())⟩
def Bh:PA:=⟨56,[.v (.one (.sl bF dK false)),.v (.one (.sl bF dK false))],[.one (.bool)],λ((a,b,()):xQ×rX)=>(True,decide (a=b),())⟩
def uX:PA:=⟨12,[.v (.agg [.sl aG dh false,.sl aX dV false,.int .i64,.sl bF dK false]),.v (.agg [.sl aG dh false,.sl aX dV false,.int .i64,.sl bF dK false])],[.one (.bool)],λ((a,b,()):(jV×qh×Int×rX)×Bz)=>(True,decide (a=b),())⟩
def xX:XA:=⟨8,[.p (.v (.one (.sl dS jA false)))],[.one (.c (.sl Fe U7 true))],λ((code,()):rY)=>(code.length<=1048576,λ(z:rY×Unit)=>z.1.1.length=12/\∀x∈z.1.1,0<=x.1/\x.1<10000)⟩
def wH:PA:=⟨187,[.v (.one (.str))],[.agg [.int .i64,.int .i64,.str]],λ((w,()):fO)=>(True,(2,0,w,()),())⟩
def Fj:List iE:=[.v (.one (.int .i64))]
def Kr:List oC:=[.one (.str)]
def adb:jr Fj->Prop×mr Kr:=λ(n,())=>(-9223372036854775808<=n/\n<=9223372036854775807,Lib.itoa n,())
def Eo:EI:=ig Fj Kr adb
def Bj:List iE:=[.v (.one (.sl aT dJ false)),.v (.one (.str))]
def Ep:List oC:=[.one (.str)]
def O3:jr Bj->Prop×mr Ep:=λ(l,sep,())=>(l.length<=140737488355328/\(Lib.join (l.map (·.1)) sep).length<=140737488355328,Lib.join (l.map (·.1)) sep,())
def um:EI:=ig Bj Ep O3
def zK:List iE:=[.v (.one (.str)),.v (.one (.str))]
def C9:List oC:=[.one (.sl aT dJ true)]
def MP:jr zK->Prop×mr C9:=λ(s,sep,())=>(s.length<=4294960000/\(sep=[32]\/sep=[10]),Sp.pieces (sep.getD 0 0) s,())
def Dc:EI:=ig zK C9 MP
def Df:List iE:=[.v (.one (.str))]
def Ip:List oC:=[.one (.sl aT dJ true)]
def Zn:jr Df->Prop×mr Ip:=λ(s,())=>(s.length<=1048576/\U8 s=true,Sp.wordsOf s,())
def BA:EI:=ig Df Ip Zn
def xY:List iE:=[.v (.one (.str))]
def BB:List oC:=[.one (.int .i64),.one (.bool)]
def Kt:jr xY->Prop×mr BB:=λ(s,())=>(True,Sp.parseNum s,aW s,())
def qK:EI:=ig xY BB Kt
def qj:PA:=⟨89,[.v (.one (.str))],[.one (.int .i64),.one (.bool)],λ((s,()):fO)=>(True,Sp.parseNum s,aW s,())⟩
def nO:PA:=⟨58,[.v (.one (.int .i64))],[.one (.str)],λ((n,()):gy)=>(True,Lib.itoa n,())⟩
def zL:PA:=⟨119,[.v (.one (.int .i64))],[.one (.int .u8)],λ((x,()):gy)=>(0<=x/\x<10,48+x,())⟩
def kZ:PA:=⟨69,[.v (.one (.int .i64))],[.one (.str)],λ((n,()):gy)=>(True,Lib.itoa n,())⟩
def lg:PA:=⟨110,[.v (.one (.str))],[.one (.sl aT dJ true),.one (.bool)],λ((s,()):fO)=>(s.length<=1048576,gG s,jv s,())⟩
def nV:PA:=⟨153,[.v (.one (.str))],[.one (.sl aT dJ true),.one (.bool)],λ((s,()):fO)=>(s.length<=1048576,gG s,jv s,())⟩
def lQ:PA:=⟨111,[.v (.one (.sl aT dJ false)),.v (.one (.int .i64))],[.one (.str)],λ((w,i,()):oH×gy)=>(0<=i,Sp.wordAt w i,())⟩
def vO:PA:=⟨112,[.v (.one (.sl aT dJ false)),.v (.one (.int .i64))],[.one (.int .i64)],λ((w,i,()):oH×gy)=>(0<=i,Sp.numAt w i,())⟩
def ql:PA:=⟨115,[.v (.one (.sl aT dJ false))],[.one (.str)],λ((w,()):En)=>(w.length<=1000/\(gm w).length<=2097152,gm w,())⟩
def kV:PA:=⟨61,[.v (.one (.sl aT dJ false)),.v (.one (.sl aT dJ false))],[.one (.bool)],λ((a,b,()):oH×En)=>(True,decide (a=b),())⟩
def nX:PA:=⟨73,[.v (.agg [.int .i64,.int .i64,.str])],[.one (.str)],λ(((k,n,s,()),()):AQ)=>(True,bg (k,n,s,()),())⟩
def lq:PA:=⟨75,[.v (.agg [.int .i64,.int .i64,.str])],[.one (.str)],λ(((k,n,s,()),()):AQ)=>(True,bg (k,n,s,()),())⟩
def lZ:PA:=⟨152,[.v (.one (.str))],[.agg [.int .i64,.int .i64,.str],.one (.bool)],λ((s,()):fO)=>(s.length<=1048576,(aU s).1,(aU s).2,())⟩
def kH:PA:=⟨113,[.v (.one (.str))],[.agg [.int .i64,.int .i64,.str],.one (.bool)],λ((s,()):fO)=>(s.length<=1048576,(aU s).1,(aU s).2,())⟩
def lC:PA:=⟨151,[.v (.one (.int .i64))],[.one (.str)],λ((op,()):gy)=>(True,fP op,())⟩
def nP:PA:=⟨160,[.v (.one (.int .i64))],[.one (.str)],λ((op,()):gy)=>(True,fP op,())⟩
def Jk:List iE:=[.v (.one (.sl aJ bD false)),.v (.one (.int .i64))]
def Iq:List oC:=[.one (.str)]
def Zo:jr Jk->Prop×mr Iq:=λ(q,at',())=>(ax q=true/\0<=at'/\at'<q.length,Lib.join (bV (at'.toNat+1) q at') [32],())
def Ir:EI:=ig Jk Iq Zo
def Dn:List iE:=[.v (.one (.sl aJ bD false)),.v (.one (.int .i64))]
def CV:List oC:=[.one (.str)]
def EJ[lJ]:jr Dn->Prop×mr CV:=λ(q,at',())=>((ax q=true/\0<=at'/\at'<q.length)/\at'.toNat<iR,Lib.join (bV (at'.toNat+1) q at') [32],())
def vC[lJ]:EI:=ig Dn CV EJ
def vF:List iE:=[.v (.one (.sl aJ bD false)),.v (.one (.int .i64))]
def BD:List oC:=[.one (.str)]
def Dp[lJ]:jr vF->Prop×mr BD:=λ(q,at',())=>((ax q=true/\0<=at'/\at'<q.length)/\at'.toNat<iR+1,Lib.join (bV (at'.toNat+1) q at') [32],())
def BF[lJ]:EI:=ig vF BD Dp
def MQ:List iE:=[.v (.one (.sl aJ bD false)),.v (.one (.int .i64))]
def Ku:List oC:=[.one (.str)]
def ade:jr MQ->Prop×mr Ku:=λ(q,at',())=>(ax q=true/\0<=at'/\at'<q.length,Lib.join (bV (at'.toNat+1) q at') [32],())
def Kv:EI:=ig MQ Ku ade
def Fp:List iE:=[.v (.one (.sl aJ bD false)),.v (.one (.int .i64))]
def EK:List oC:=[.one (.str)]
def GH[lJ]:jr Fp->Prop×mr EK:=λ(q,at',())=>((ax q=true/\0<=at'/\at'<q.length)/\at'.toNat<iR,Lib.join (bV (at'.toNat+1) q at') [32],())
def yN[lJ]:EI:=ig Fp EK GH
def yO:List iE:=[.v (.one (.sl aJ bD false)),.v (.one (.int .i64))]
def Dq:List oC:=[.one (.str)]
def Fq[lJ]:jr yO->Prop×mr Dq:=λ(q,at',())=>((ax q=true/\0<=at'/\at'<q.length)/\at'.toNat<iR+1,Lib.join (bV (at'.toNat+1) q at') [32],())
def Dt[lJ]:EI:=ig yO Dq Fq
def wI:PA:=⟨59,[.v (.one (.sl aJ bD false))],[.one (.str)],λ((q,()):CY)=>(q.length<=2000000,Sp.textOf q,())⟩
def qL:PA:=⟨70,[.v (.one (.sl aJ bD false))],[.one (.str)],λ((q,()):CY)=>(q.length<=2000000,Sp.textOf q,())⟩
def Bl:List iG:=[.p (.v (.one (.sl aT dJ false))),.p (.v (.one (.int .i64))),.own aJ bD,.p (.v (.one (.int .i64)))]
def Kw:List pF:=[.one (.own aJ bD false),.one (.c (.int .i64))]
def adf:jq Bl->Prop×(lN Kw×kX Bl->Prop):=λ(p,at',q,deep,())=>(p.length<=1000/\0<=at'/\at'.toNat+3*2 ^ (10-deep).toNat<=1000000/\0<=deep/\deep<=10/\(∀x∈p,x.1.length<=1000)/\q.length<=100,λ((r,k,()),())=>r=(Sp.rs (10-deep).toNat (p.drop at'.toNat) q).1/\k=(Sp.rs (10-deep).toNat (p.drop at'.toNat) q).2)
def Ky:CZ:=pV Bl Kw adf
def oN:List iG:=[.p (.v (.one (.sl aT dJ false))),.p (.v (.one (.int .i64))),.own aJ bD,.p (.v (.one (.int .i64)))]
def EL:List pF:=[.one (.own aJ bD false),.one (.c (.int .i64))]
def GI[lJ]:jq oN->Prop×(lN EL×kX oN->Prop):=λ(p,at',q,deep,())=>((p.length<=1000/\0<=at'/\at'.toNat+3*2 ^ (10-deep).toNat<=1000000/\0<=deep/\deep<=10/\(∀x∈p,x.1.length<=1000)/\q.length<=100)/\(10-deep).toNat<iR,λ((r,k,()),())=>r=(Sp.rs (10-deep).toNat (p.drop at'.toNat) q).1/\k=(Sp.rs (10-deep).toNat (p.drop at'.toNat) q).2)
def yP[lJ]:CZ:=pV oN EL GI
def qW:List iG:=[.p (.v (.one (.sl aT dJ false))),.p (.v (.one (.int .i64))),.own aJ bD,.p (.v (.one (.int .i64)))]
def Du:List pF:=[.one (.own aJ bD false),.one (.c (.int .i64))]
def sF[lJ]:jq qW->Prop×(lN Du×kX qW->Prop):=λ(p,at',q,deep,())=>((p.length<=1000/\0<=at'/\at'.toNat+3*2 ^ (10-deep).toNat<=1000000/\0<=deep/\deep<=10/\(∀x∈p,x.1.length<=1000)/\q.length<=100)/\(10-deep).toNat<iR+1,λ((r,k,()),())=>r=(Sp.rs (10-deep).toNat (p.drop at'.toNat) q).1/\k=(Sp.rs (10-deep).toNat (p.drop at'.toNat) q).2)
def Dv[lJ]:CZ:=pV qW Du sF
def wJ:List iE:=[.v (.one (.str))]
def AY:List oC:=[.one (.sl aJ bD true),.one (.bool)]
def Jl:jr wJ->Prop×mr AY:=λ(s,())=>(s.length<=1048576,fJ s,gq s,())
def GK:EI:=ig wJ AY Jl
def o7:PA:=⟨114,[.v (.one (.str))],[.one (.sl aJ bD false),.one (.bool)],λ((s,()):fO)=>(s.length<=1048576,fJ s,gq s,())⟩
def xZ:PA:=⟨24,[.v (.agg [.int .i64,.int .i64,.bool,.int .i64,.sl fG fF false])],[.one (.str)],λ((f,()):ug)=>(f.2.2.2.2.1.length<=1048576/\(fK f.2.2.2.2.1).length<=1073741824,fU f,())⟩
def Bo:PA:=⟨186,[.v (.one (.int .i64))],[.agg [.int .i64,.int .i64,.str]],λ((n,()):gy)=>(True,(1,n,[],()),())⟩
def vP:PA:=⟨106,[.v (.one (.sl aT dJ false))],[.agg [.int .i64,.int .i64,.bool,.int .i64,.sl fG fF true],.one (.bool)],λ((w,()):En)=>(w.length<=1000/\(∀x∈w,x.1.length<=1048576),(jw w).1,(jw w).2,())⟩
def x9:PA:=⟨25,[.v (.agg [.int .i64,.int .i64,.bool,.int .i64,.sl fG fF false])],[.one (.str)],λ((f,()):ug)=>(f.2.2.2.2.1.length<=1048576/\(fK f.2.2.2.2.1).length<=1073741824,fU f,())⟩
def wK:PA:=⟨27,[.v (.agg [.str,.int .i64])],[.one (.str)],λ(((n,k,()),()):ada)=>(n.length<=1048576,dD (n,k,()),())⟩
def wL:PA:=⟨26,[.v (.agg [.str,.int .i64])],[.one (.str)],λ(((n,k,()),()):ada)=>(n.length<=1048576,dD (n,k,()),())⟩
def jF:PA:=⟨14,[.v (.agg [.sl aG dh false,.sl aX dV false,.int .i64,.sl bF dK false])],[.one (.sl aT dJ true)],λ((x,()):Bz)=>(fH x,Sp.enc x,())⟩
def jG:PA:=⟨22,[.v (.agg [.sl aG dh false,.sl aX dV false,.int .i64,.sl bF dK false])],[.one (.sl aT dJ true)],λ((x,()):Bz)=>(fH x,Sp.enc x,())⟩
def xC:List iE:=[.v (.one (.sl aT dJ false))]
def CW:List oC:=[.agg [.sl aG dh true,.sl aX dV true,.int .i64,.sl bF dK true],.one (.bool)]
def O4:jr xC->Prop×mr CW:=λ(l,())=>(zM l,(Sp.dec l).1,(Sp.dec l).2,())
def vG:EI:=ig xC CW O4
def xE:List iE:=[.v (.one (.sl aT dJ false))]
def CX:List oC:=[.agg [.sl aG dh true,.sl aX dV true,.int .i64,.sl bF dK true],.one (.bool)]
def O5:jr xE->Prop×mr CX:=λ(l,())=>(zM l,(Sp.dec l).1,(Sp.dec l).2,())
def vH:EI:=ig xE CX O5
def Es:PA:=⟨21,[.v (.one (.sl aT dJ false)),.v (.one (.sl aT dJ false))],[.one (.bool)],λ((a,b,()):oH×En)=>(True,decide (a=b),())⟩
def qX:PA:=⟨65,[.v (.one (.sl aT dJ false)),.v (.one (.sl aT dJ false))],[.one (.bool)],λ((a,b,()):oH×En)=>(True,decide (a=b),())⟩
def afI:PA:=⟨4,[.v (.one (.sl dS jA false))],[.one (.bool)],λ(_,())=>(True,true,())⟩
def wM:PA:=⟨39,[.v (.one (.str))],[.one (.int .i64)],λ((s,()):fO)=>(s.length<=1048576,Sp.sumOf s,())⟩
def wO:PA:=⟨38,[.v (.one (.str))],[.one (.int .i64)],λ((s,()):fO)=>(s.length<=1048576,Sp.sumOf s,())⟩
def o8:PA:=⟨37,[.v (.one (.int .i64)),.v (.agg [.sl aG dh false,.sl aX dV false,.int .i64,.sl bF dK false])],[.one (.str)],λ((n,x,()):Int×Bz)=>(fH x,Sp.slot n x,())⟩
def rP:PA:=⟨32,[.v (.one (.int .i64)),.v (.agg [.sl aG dh false,.sl aX dV false,.int .i64,.sl bF dK false])],[.one (.str)],λ((n,x,()):Int×Bz)=>(fH x,Sp.slot n x,())⟩
def Ef:PA:=⟨88,[.v (.one (.str))],[.one (.sl aT dJ true)],λ((s,()):fO)=>(s.length<=1048576,qm s,())⟩
def yc:PA:=⟨35,[.v (.one (.str))],[.one (.int .i64),.agg [.sl aG dh true,.sl aX dV true,.int .i64,.sl bF dK true],.one (.bool)],λ((s,()):fO)=>(mW s,(cO s).1,(cO s).2.1,(cO s).2.2,())⟩
def yg:PA:=⟨33,[.v (.one (.str))],[.one (.int .i64),.agg [.sl aG dh true,.sl aX dV true,.int .i64,.sl bF dK true],.one (.bool)],λ((s,()):fO)=>(mW s,(cO s).1,(cO s).2.1,(cO s).2.2,())⟩
def Ci:XA:=⟨90,[.ptr [.sl dS jA false,.int .i64,.int .i64],.p (.v (.one (.int .i64)))],[.one (.c .str)],λ(((_,i,_,()),_,()):uf×gy)=>(0<=i,λ(z:pU)=>0<=z.2.1.2.1/\z.1.1.length<=5000)⟩
def uY:XA:=⟨36,[.p (.v (.one (.sl dS jA false)))],[.one (.c .str)],λ((code,()):rY)=>(code.length<=1048576,λ(z:I9)=>z.1.1.length<=5000)⟩
def qY:XA:=⟨31,[.p (.v (.one (.sl dS jA false)))],[.one (.c (.int .i64)),.agg [.c (.sl aG dh false),.c (.sl aX dV false),.c (.int .i64),.c (.sl bF dK false)]],λ((code,()):rY)=>(code.length<=1048576,λ(z:(Int×Bz)×Unit)=>fH (z.1.2.1.1,z.1.2.1.2.1,z.1.2.1.2.2.1,z.1.2.1.2.2.2.1,()))⟩
def qZ:XA:=⟨34,[.p (.v (.one (.sl dS jA false)))],[.one (.c .str)],λ((code,()):rY)=>(code.length<=1048576,λ(z:I9)=>mW z.1.1)⟩
def xG:PA:=⟨5,[.v (.one (.sl dS jA false))],[.one (.bool)],λ(_,())=>(True,true,())⟩
def QJ[lJ]:kM:=H8 [(uZ,.eff (Dw oL) yJ),bU.e,tN.e,qi.e]
def N9[lJ]:kM:=H8 [(yQ,.pure um),(rq,.pure vC),nX.e,lC.e]
def QK[lJ]:kM:=H8 [(ve,.pure yN),lq.e,nP.e]
def QL[lJ]:kM:=H8 [(vg,.eff (Dw oN) yP),iU.e,kH.e,nP.e,lQ.e]
end
end Go.Proofs.Tryz
