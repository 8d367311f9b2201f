import Derived.Test.YtncbcelpbmlgdaaGreatDoorN
import Derived.Test.YtncbcelpbmlgdaaGreatDoorSp
namespace Go.Proofs.Tryz
open Go Go.Fw Sp
abbrev cu:=List UInt8
abbrev gu:=cu×Unit
abbrev Ty0:=cu×Int×Int×gu
abbrev iq:=Int×Unit
abbrev je:=List iq
abbrev yO:=je×Int×iq
abbrev fJ:=yO×Unit
abbrev uT:=List Ty0
abbrev Ty2:=Int×Int×Bool×Int×uT×Unit
abbrev ZK:=Int×Int×Int×Ty0
abbrev kC:=List ZK
abbrev yP:=kC×Unit
abbrev qP:=List (cu×yP)
abbrev lY:=List (cu×iq)
abbrev ni:=List Ty2
abbrev tK:=qP×Unit
abbrev ES:=(lY×ni×Int×tK)×Unit
abbrev eY:=Bool×Unit
abbrev Hu:=Unit×Unit
abbrev VJ:=Int×Int×Bool×Int×Hu
abbrev VK:=Unit×yO×VJ×uT×Unit
abbrev oV:=List gu
abbrev Hw:=oV×Unit
abbrev OV:=lY×ni×iq
abbrev zV:=(Int×Int×gu)×Unit
abbrev fK:=iq×fJ
abbrev yQ:=yP×fJ
abbrev jB:=iq×Unit
abbrev Lr:=Ty2×Unit
abbrev qB:=Hw×Unit
abbrev Ls:=(Unit×iq)×Hw
abbrev oW:=gu×fJ
abbrev yh:=OV×Unit
abbrev zW:=je×Unit
abbrev yR:=eY×Unit
abbrev ZL:=(cu×iq)×Unit
abbrev ZM:=(kC×iq)×Unit
abbrev akt:=(lY×ni×Int×tK)×ES
abbrev ady:=(je×eY)×Unit
abbrev Lu:=Lr×Unit
abbrev LC:=ZK×Unit
abbrev adz:=(Int×iq)×Unit
abbrev Js:=lY×Unit
abbrev Jt:=Lr×fJ
abbrev aku:=(OV×Int×eY)×Unit
class lG where n:Nat
abbrev iU[lG]:Nat:=lG.n
noncomputable section
def pY:QA:=⟨46,[.p (.v (.one (.sl dS jL false)))],[.sl dS jL false,.int .i64,.int .i64],λ((code,()):zW)=>(code.length<=1048576,λ(z:yO)=>z.2.1=0)⟩
def Df:XA:=⟨95,[.ptr [.sl dS jL false,.int .i64,.int .i64]],[.one (.c (.int .i64))],λ(((_,i,_,()),()):fJ)=>(0<=i,λ(z:fK)=>0<=z.2.1.2.1/\0<=z.1.1/\z.1.1<=255)⟩
def bQ:XA:=⟨47,[.ptr [.sl dS jL false,.int .i64,.int .i64],.p (.v (.one (.int .i64)))],[.one (.c (.int .i64))],λ(((_,i,_,()),n,()):yO×iq)=>(0<=i,λ(z:fK)=>0<=z.2.1.2.1/\0<=z.1.1/\(0<n->z.1.1<n)/\(n<=0->z.1.1=0))⟩
def nZ:XA:=⟨66,[.ptr [.sl dS jL false,.int .i64,.int .i64],.p (.v (.one (.int .i64)))],[.one (.c .bool)],λ(((_,i,_,()),_,()):yO×iq)=>(0<=i,λ(z:eY×fJ)=>0<=z.2.1.2.1)⟩
def iV:XA:=⟨63,[.ptr [.sl dS jL false,.int .i64,.int .i64],.p (.v (.one (.sl aU dK false)))],[.one (.c .str)],λ(((_,i,_,()),list,()):yO×Hw)=>(0<=i/\list≠[],λ(z:oW)=>0<=z.2.1.2.1/\(z.1.1,())∈list)⟩
def kD:XA:=⟨84,[.ptr [.sl dS jL false,.int .i64,.int .i64],.p (.v (.one (.sl Ip Y4 false)))],[.one (.c (.int .i64))],λ(((_,i,_,()),list,()):yO×zW)=>(0<=i/\list≠[],λ(z:fK)=>0<=z.2.1.2.1/\(z.1.1,())∈list)⟩
def wS:XA:=⟨99,[],[.one (.own aB bK true)],λ(())=>(True,λ(z:Js×Unit)=>z.1.1=Sp.usual)⟩
def qC:XA:=⟨68,[.ptr [.sl dS jL false,.int .i64,.int .i64]],[.one (.c .str)],λ(((_,i,_,()),()):fJ)=>(0<=i,λ(z:oW)=>0<=z.2.1.2.1/\z.1.1.length<=1)⟩
def Em:XA:=⟨144,[.ptr [.sl dS jL false,.int .i64,.int .i64]],[.one (.c (.sl aB bK true))],λ(((_,i,_,()),()):fJ)=>(0<=i,λ(z:Js×fJ)=>0<=z.2.1.2.1/\z.1.1.length<=6)⟩
def BJ:XA:=⟨157,[.ptr [.sl dS jL false,.int .i64,.int .i64]],[.agg [.c (.int .i64),.c (.int .i64),.c .str]],λ(((_,i,_,()),()):fJ)=>(0<=i,λ(z:zV×fJ)=>0<=z.2.1.2.1/\z.1.1.2.2.1.length<=10)⟩
def wK:XA:=⟨117,[.ptr [.sl dS jL false,.int .i64,.int .i64]],[.agg [.c (.int .i64),.c (.int .i64),.c .str]],λ(((_,i,_,()),()):fJ)=>(0<=i,λ(z:zV×fJ)=>0<=z.2.1.2.1/\z.1.1.2.2.1.length<=10)⟩
def oZ:PA:=⟨52,[.v (.one (.int .i64))],[.agg [.int .i64,.int .i64,.str]],λ((n,()):iq)=>(True,(1,n,[],()),())⟩
def jk:PA:=⟨118,[.v (.one (.str))],[.agg [.int .i64,.int .i64,.str]],λ((w,()):gu)=>(True,(2,0,w,()),())⟩
def jl:PA:=⟨91,[.v (.one (.int .i64)),.v (.one (.int .i64)),.v (.one (.int .i64))],[.one (.bool)],λ((x,a,b,()):Int×Int×iq)=>(True,(decide (a<=x)&&decide (x<=b)),())⟩
def jE:PA:=⟨85,[.v (.one (.int .i64)),.v (.one (.int .i64)),.v (.one (.int .i64))],[.one (.bool)],λ((x,a,b,()):Int×Int×iq)=>(True,(decide (a<=x)&&decide (x<=b)),())⟩
def yS:PA:=⟨133,[.v (.one (.str)),.v (.one (.int .i64))],[.one (.bool)],λ((s,m,()):cu×iq)=>(True,(Sp.lower s&&decide (1<=(s.length:Int))&&decide ((s.length:Int)<=m)),())⟩
def lH:PA:=⟨166,[.v (.one (.str))],[.one (.bool)],λ((s,()):gu)=>(True,aT s,())⟩
def lI:PA:=⟨163,[.v (.one (.str))],[.one (.bool)],λ((s,()):gu)=>(True,aT s,())⟩
def kG:PA:=⟨132,[.v (.agg [.int .i64,.int .i64,.str])],[.one (.bool)],λ(((k,n,s,()),()):zV)=>(True,bF k n s,())⟩
def kH:PA:=⟨128,[.v (.agg [.int .i64,.int .i64,.str])],[.one (.bool)],λ(((k,n,s,()),()):zV)=>(True,bF k n s,())⟩
def jY:PA:=⟨77,[.v (.one (.str))],[.one (.bool)],λ((s,()):gu)=>(True,dB s,())⟩
def jZ:PA:=⟨76,[.v (.one (.str))],[.one (.bool)],λ((s,()):gu)=>(True,dB s,())⟩
def zX:PA:=⟨182,[.v (.one (.sl aB bK false)),.v (.one (.str))],[.one (.int .i64)],λ((fs,s,()):lY×gu)=>(True,Sp.kindOf fs s,())⟩
def zY:PA:=⟨193,[.v (.one (.sl aB bK false)),.v (.one (.str))],[.one (.int .i64)],λ((fs,s,()):lY×gu)=>(True,Sp.kindOf fs s,())⟩
def o5:PA:=⟨137,[.v (.one (.sl aB bK false))],[.one (.bool)],λ((fs,()):Js)=>(True,eF fs,())⟩
def o6:PA:=⟨135,[.v (.one (.sl aB bK false))],[.one (.bool)],λ((fs,()):Js)=>(True,eF fs,())⟩
def tN:PA:=⟨142,[.v (.one (.sl aB bK false)),.v (.one (.str)),.v (.agg [.int .i64,.int .i64,.str])],[.one (.bool)],λ((fs,s,(k,n,w,()),()):lY×cu×zV)=>(True,iK fs s k n w,())⟩
def tV:PA:=⟨167,[.v (.one (.sl aB bK false)),.v (.one (.str)),.v (.agg [.int .i64,.int .i64,.str])],[.one (.bool)],λ((fs,s,(k,n,w,()),()):lY×cu×zV)=>(True,iK fs s k n w,())⟩
def rF:PA:=⟨98,[.v (.one (.sl aB bK false)),.v (.agg [.int .i64,.int .i64,.bool,.int .i64,.sl dJ dY false])],[.one (.bool)],λ((fs,f,()):lY×Lr)=>(True,dG fs f,())⟩
def wU:PA:=⟨134,[.v (.one (.sl aB bK false)),.v (.agg [.int .i64,.int .i64,.bool,.int .i64,.sl dJ dY false])],[.one (.bool)],λ((fs,f,()):lY×Lr)=>(True,dG fs f,())⟩
def mX:PA:=⟨80,[.v (.agg [.sl aB bK false,.sl aP dI false,.int .i64])],[.one (.bool)],λ((s,()):yh)=>(True,bM s,())⟩
def vM:PA:=⟨78,[.v (.agg [.sl aB bK false,.sl aP dI false,.int .i64])],[.one (.bool)],λ((s,()):yh)=>(True,bM s,())⟩
def yF:PA:=⟨82,[.v (.one (.sl aB bK false)),.v (.one (.sl aB bK false))],[.one (.bool)],λ((a,b,()):lY×Js)=>(True,decide (a=b),())⟩
def zZ:PA:=⟨176,[.v (.one (.sl dJ dY false)),.v (.one (.sl dJ dY false))],[.one (.bool)],λ((a,b,()):uT×uT×Unit)=>(True,decide (a=b),())⟩
def BK:PA:=⟨139,[.v (.agg [.int .i64,.int .i64,.bool,.int .i64,.sl dJ dY false]),.v (.agg [.int .i64,.int .i64,.bool,.int .i64,.sl dJ dY false])],[.one (.bool)],λ((a,b,()):Ty2×Lr)=>(True,decide (a=b),())⟩
def Aa:PA:=⟨83,[.v (.one (.sl aP dI false)),.v (.one (.sl aP dI false))],[.one (.bool)],λ((a,b,()):ni×ni×Unit)=>(True,decide (a=b),())⟩
def uU:PA:=⟨30,[.v (.agg [.sl aB bK false,.sl aP dI false,.int .i64]),.v (.agg [.sl aB bK false,.sl aP dI false,.int .i64])],[.one (.bool)],λ((a,b,()):OV×yh)=>(True,decide (a=b),())⟩
def yT:PA:=⟨97,[.v (.agg [.int .i64,.int .i64,.bool,.int .i64,.sl dJ dY false])],[.agg [.int .i64,.int .i64,.bool,.int .i64,.sl dJ dY true]],λ((f,()):Lr)=>(wV f,f,())⟩
def En:PA:=⟨168,[.v (.one (.int .i64))],[.one (.bool)],λ((u,()):iq)=>(True,(decide (0<=u)&&decide (u<=2)),())⟩
def BL:PA:=⟨190,[.v (.agg [.sl aB bK false,.sl aP dI false,.int .i64]),.v (.one (.int .i64))],[.one (.int .i64)],λ(((_,fs,_,()),id,()):OV×iq)=>(True,Sp.place fs id,())⟩
def uM:XA:=⟨51,[.p (.v (.agg [.int .i64,.int .i64,.bool,.int .i64,.sl dJ dY false])),.p (.v (.one (.str))),.p (.v (.agg [.int .i64,.int .i64,.str]))],[.agg [.c (.int .i64),.c (.int .i64),.c .bool,.c (.int .i64),.own dJ dY true]],λ(((i,o,s,l,a,()),name,(k,n,w,()),()):Ty2×cu×zV)=>(a.length<=1000,λ(z:Lu)=>z.1.1.1=i/\z.1.1.2.1=o/\z.1.1.2.2.1=s/\z.1.1.2.2.2.1=l/\z.1.1.2.2.2.2.1=jb a name k n w)⟩
def qE:XA:=⟨116,[.ptr [.sl dS jL false,.int .i64,.int .i64],.p (.v (.one (.int .i64)))],[.agg [.c (.int .i64),.c (.int .i64),.c .bool,.c (.int .i64),.own dJ dY true]],λ(((_,i,_,()),id,()):yO×iq)=>(0<=i,λ(z:Jt)=>0<=z.2.1.2.1/\z.1.1.1=id/\0<=z.1.1.2.1/\z.1.1.2.1<=2/\0<=z.1.1.2.2.2.1/\z.1.1.2.2.2.1<=6/\ji Sp.usual z.1.1.2.2.2.2.1=true/\z.1.1.2.2.2.2.1.length<=4)⟩
def Eo:XA:=⟨67,[.ptr [.sl dS jL false,.int .i64,.int .i64]],[.agg [.c (.int .i64),.c (.int .i64),.c .bool,.c (.int .i64),.c (.sl dJ dY true)]],λ(((_,i,_,()),()):fJ)=>(0<=i,λ(z:Jt)=>0<=z.2.1.2.1/\z.1.1.2.2.2.2.1.length<=10)⟩
def BM:XA:=⟨49,[.p (.v (.one (.sl aB bK false)))],[.agg [.own aB bK true,.own aP dI true,.c (.int .i64)]],λ((s,()):Js)=>(s.length<=1000,λ(z:yh×Unit)=>z.1.1.1=s/\z.1.1.2.1=[]/\z.1.1.2.2.1=1)⟩
def yU:XA:=⟨96,[.p (.v (.agg [.sl aB bK false,.sl aP dI false,.int .i64]))],[.agg [.own aB bK true,.own aP dI true,.c (.int .i64)]],λ((s,()):yh)=>(lZ s,λ(z:yh×Unit)=>(z.1.1.1,z.1.1.2.1,z.1.1.2.2.1,())=s)⟩
def sW:XA:=⟨48,[.p (.v (.agg [.sl aB bK false,.sl aP dI false,.int .i64])),.p (.v (.agg [.int .i64,.int .i64,.bool,.int .i64,.sl dJ dY false]))],[.agg [.own aB bK true,.own aP dI true,.c (.int .i64)],.one (.c (.int .i64)),.one (.c .bool)],λ((s,f,()):OV×Lr)=>(lZ s/\wV f,λ(z:aku)=>z.1.1.1=(bY s f).1.1/\z.1.1.2.1=(bY s f).1.2.1/\z.1.1.2.2.1=(bY s f).1.2.2.1/\z.1.2.1=(bY s f).2.1/\z.1.2.2.1=(bY s f).2.2)⟩
def yG:XA:=⟨155,[.p (.v (.agg [.sl aB bK false,.sl aP dI false,.int .i64])),.p (.v (.one (.int .i64)))],[.agg [.own aB bK true,.own aP dI true,.c (.int .i64)],.one (.c .bool)],λ((s,id,()):OV×iq)=>(lZ s,λ(z:(OV×eY)×Unit)=>z.1.1.1=(fA s id).1.1/\z.1.1.2.1=(fA s id).1.2.1/\z.1.1.2.2.1=(fA s id).1.2.2.1/\z.1.2.1=(fA s id).2)⟩
def rX:XA:=⟨108,[.ptr [.sl dS jL false,.int .i64,.int .i64]],[.agg [.own aB bK true,.own aP dI true,.c (.int .i64)]],λ(((_,i,_,()),()):fJ)=>(0<=i,λ(z:yh×fJ)=>0<=z.2.1.2.1/\z.1.1.1=Sp.usual/\bM (z.1.1.1,z.1.1.2.1,z.1.1.2.2.1,())=true/\z.1.1.2.2.1<=z.1.1.2.1.length+2/\lZ (z.1.1.1,z.1.1.2.1,z.1.1.2.2.1,())/\0<z.1.1.2.1.length)⟩
def Ep:XA:=⟨101,[.ptr [.sl dS jL false,.int .i64,.int .i64]],[.agg [.c (.sl aB bK false),.c (.sl aP dI false),.c (.int .i64)]],λ(((_,i,_,()),()):fJ)=>(0<=i,λ(z:yh×fJ)=>0<=z.2.1.2.1/\lZ (z.1.1.1,z.1.1.2.1,z.1.1.2.2.1,())/\∀f∈z.1.1.2.1,f.2.2.2.2.1.length<=400)⟩
def J6:PA:=⟨7,[.v (.one (.sl dS jL false))],[.one (.bool)],λ((code,()):zW)=>(True,decide (1048576<(code.length:Int)),())⟩
def yH:XA:=⟨208,[.ptr [.sl dS jL false,.int .i64,.int .i64]],[.one (.c .str)],λ(((_,i,_,()),()):fJ)=>(0<=i,λ(z:oW)=>0<=z.2.1.2.1/\z.1.1.length<=10)⟩
def uN:XA:=⟨183,[.ptr [.sl dS jL false,.int .i64,.int .i64]],[.agg [.c (.int .i64),.c (.int .i64),.c (.int .i64),.c .str,.c (.int .i64),.c (.int .i64),.c .str]],λ(((_,i,_,()),()):fJ)=>(0<=i,λ(z:LC×fJ)=>0<=z.2.1.2.1/\True)⟩
def FI:List iJ:=[.ptr [.sl dS jL false,.int .i64,.int .i64],.own aF bg,.p (.v (.one (.int .i64))),.p (.v (.one (.bool)))]
def LD:List qc:=[.one (.own aF bg false)]
def PW:jq FI->Prop×(lJ LD×kT FI->Prop):=λ((_,i,_,()),q,deep,_,())=>(0<=i/\0<=deep/\deep<=4/\q.length+2*deep.toNat<=900,λ((r,()),((_,i',_,()),()))=>0<=i'/\q.length<r.length/\r.length<=q.length+2*deep.toNat+1)
def ZN:Dx:=qm FI LD PW
def o7:List iJ:=[.ptr [.sl dS jL false,.int .i64,.int .i64],.own aF bg,.p (.v (.one (.int .i64))),.p (.v (.one (.bool)))]
def ET:List qc:=[.one (.own aF bg false)]
def GX[lG]:jq o7->Prop×(lJ ET×kT o7->Prop):=λ((_,i,_,()),q,deep,_,())=>((0<=i/\0<=deep/\deep<=4/\q.length+2*deep.toNat<=900)/\deep.toNat<iU,λ((r,()),((_,i',_,()),()))=>0<=i'/\q.length<r.length/\r.length<=q.length+2*deep.toNat+1)
def yV[lG]:Dx:=qm o7 ET GX
def rY:List iJ:=[.ptr [.sl dS jL false,.int .i64,.int .i64],.own aF bg,.p (.v (.one (.int .i64))),.p (.v (.one (.bool)))]
def DK:List qc:=[.one (.own aF bg false)]
def tX[lG]:jq rY->Prop×(lJ DK×kT rY->Prop):=λ((_,i,_,()),q,deep,_,())=>((0<=i/\0<=deep/\deep<=4/\q.length+2*deep.toNat<=900)/\deep.toNat<iU+1,λ((r,()),((_,i',_,()),()))=>0<=i'/\q.length<r.length/\r.length<=q.length+2*deep.toNat+1)
def DL[lG]:Dx:=qm rY DK tX
def o8:List iJ:=[.ptr [.sl dS jL false,.int .i64,.int .i64],.p (.v (.one .nil)),.p (.v (.one (.int .i64))),.p (.v (.one (.bool)))]
def EU:List qc:=[.one (.own aF bg false)]
def GY:jq o8->Prop×(lJ EU×kT o8->Prop):=λ((_,i,_,()),(),deep,_,())=>(0<=i/\0<=deep/\deep<=4,λ((r,()),((_,i',_,()),()))=>0<=i'/\0<r.length/\r.length<=0+2*deep.toNat+1)
def yX:Dx:=qm o8 EU GY
def wW:XA:=⟨147,[.ptr [.sl dS jL false,.int .i64,.int .i64]],[.one (.own aF bg false)],λ(((_,i,_,()),()):fJ)=>(0<=i,λ(z:yQ)=>0<=z.2.1.2.1/\0<z.1.1.length/\z.1.1.length<=9)⟩
def kP:XA:=⟨147,[.ptr [.sl dS jL false,.int .i64,.int .i64]],[.one (.c (.sl aF bg false))],λ(((_,i,_,()),()):fJ)=>(0<=i,λ(z:yQ)=>0<=z.2.1.2.1/\0<z.1.1.length/\z.1.1.length<=9)⟩
def Es:XA:=⟨146,[.ptr [.sl dS jL false,.int .i64,.int .i64]],[.one (.c (.sl aF bg false))],λ(((_,i,_,()),()):fJ)=>(0<=i,λ(z:yQ)=>0<=z.2.1.2.1/\z.1.1.length<=10)⟩
def yY:XA:=⟨145,[.ptr [.sl dS jL false,.int .i64,.int .i64]],[.one (.own aX dA false)],λ(((_,i,_,()),()):fJ)=>(0<=i,λ(z:tK×fJ)=>0<=z.2.1.2.1/\0<z.1.1.length/\z.1.1.length<=4/\eu z.1.1)⟩
def Et:XA:=⟨102,[.ptr [.sl dS jL false,.int .i64,.int .i64]],[.one (.c (.sl aX dA false))],λ(((_,i,_,()),()):fJ)=>(0<=i,λ(z:tK×fJ)=>0<=z.2.1.2.1/\z.1.1.length<=10/\eu z.1.1)⟩
def yZ:XA:=⟨109,[.ptr [.sl dS jL false,.int .i64,.int .i64]],[.one (.c (.sl aX dA false))],λ(((_,i,_,()),()):fJ)=>(0<=i,λ(z:tK×fJ)=>0<=z.2.1.2.1/\z.1.1.length<=10/\eu z.1.1/\dH z.1.1=true/\0<z.1.1.length)⟩
def BN:XA:=⟨62,[.ptr [.sl dS jL false,.int .i64,.int .i64]],[.agg [.c (.sl aB bK false),.c (.sl aP dI false),.c (.int .i64),.c (.sl aX dA false)]],λ(((_,i,_,()),()):fJ)=>(0<=i,λ(z:ES×fJ)=>0<=z.2.1.2.1/\fB (z.1.1.1,z.1.1.2.1,z.1.1.2.2.1,z.1.1.2.2.2.1,()))⟩
def AQ:XA:=⟨57,[.ptr [.sl dS jL false,.int .i64,.int .i64]],[.agg [.c (.sl aB bK false),.c (.sl aP dI false),.c (.int .i64),.c (.sl aX dA false)]],λ(((_,i,_,()),()):fJ)=>(0<=i,λ(z:ES×fJ)=>0<=z.2.1.2.1/\fB (z.1.1.1,z.1.1.2.1,z.1.1.2.2.1,z.1.1.2.2.2.1,()))⟩
def wX:PA:=⟨158,[.v (.agg [.int .i64,.int .i64,.int .i64,.str,.int .i64,.int .i64,.str]),.v (.one (.int .i64))],[.one (.bool)],λ(((o,l,r,nm,vk,vi,vs,()),at',()):ZK×iq)=>(True,dO (o,l,r,nm,vk,vi,vs,()) at',())⟩
def wY:PA:=⟨149,[.v (.agg [.int .i64,.int .i64,.int .i64,.str,.int .i64,.int .i64,.str]),.v (.one (.int .i64))],[.one (.bool)],λ(((o,l,r,nm,vk,vi,vs,()),at',()):ZK×iq)=>(True,dO (o,l,r,nm,vk,vi,vs,()) at',())⟩
def qQ:PA:=⟨159,[.v (.one (.sl aF bg false)),.v (.one (.int .i64))],[.one (.int .i64)],λ((q,at',()):kC×iq)=>(q.length<=2000000,(gK q at':Int),())⟩
def qR:PA:=⟨150,[.v (.one (.sl aF bg false)),.v (.one (.int .i64))],[.one (.int .i64)],λ((q,at',()):kC×iq)=>(q.length<=2000000,(gK q at':Int),())⟩
def mY:PA:=⟨120,[.v (.one (.sl aF bg false))],[.one (.bool)],λ((q,()):yP)=>(q.length<=2000000,ax q,())⟩
def ja:PA:=⟨104,[.v (.one (.sl aF bg false))],[.one (.bool)],λ((q,()):yP)=>(q.length<=2000000,ax q,())⟩
def wZ:PA:=⟨173,[.v (.one (.sl aX dA false))],[.one (.bool)],λ((d,()):tK)=>(eu d,ny d,())⟩
def xg:PA:=⟨169,[.v (.one (.sl aX dA false))],[.one (.bool)],λ((d,()):tK)=>(eu d,ny d,())⟩
def BO:PA:=⟨218,[.v (.agg [.int .i64,.int .i64,.int .i64,.str,.int .i64,.int .i64,.str])],[.one (.bool)],λ(((o,_,_,_,_,_,_,()),()):LC)=>(True,(o==8||o==9),())⟩
def vN:PA:=⟨238,[.v (.one (.sl aF bg false))],[.one (.sl abj R_4 true)],λ((q,()):yP)=>(q.length<=1000,Sp.negated q,())⟩
def vO:PA:=⟨217,[.v (.one (.sl aF bg false))],[.one (.sl abj R_4 true)],λ((q,()):yP)=>(q.length<=1000,Sp.negated q,())⟩
def rG:List iJ:=[.p (.v (.one (.sl aU dK false)))]
def BA:List qc:=[.one (.c (.sl aU dK true))]
def JR:jq rG->Prop×(lJ BA×kT rG->Prop):=λ(l,())=>(l.length<=1000,λ((r,()),())=>r.length<=l.length/\∀s,s∈r↔s∈l)
def BB:Dx:=qm rG BA JR
def uV:XA:=⟨195,[.p (.v (.one (.sl aF bg false))),.p (.v (.one (.bool)))],[.one (.c (.sl aU dK true))],λ((q,neg,()):kC×eY)=>(q.length<=1000,λ(z:qB)=>jc z.1.1 (dU q neg))⟩
def vP:XA:=⟨171,[.p (.v (.one (.sl aF bg false)))],[.one (.c (.sl aU dK true))],λ((q,()):yP)=>(q.length<=1000,λ(z:qB)=>jc z.1.1 (dU q false))⟩
def vS:XA:=⟨172,[.p (.v (.one (.sl aF bg false)))],[.one (.c (.sl aU dK true))],λ((q,()):yP)=>(q.length<=1000,λ(z:qB)=>jc z.1.1 (dU q true))⟩
def Eu:PA:=⟨239,[.v (.one (.sl aU dK false)),.v (.one (.str))],[.one (.sl aU dK false)],λ((l,s,()):oV×gu)=>(l.length<=1000,OW l s,())⟩
def xk:XA:=⟨220,[.p (.v (.one (.sl aF bg false))),.p (.v (.one (.bool)))],[.one (.c (.sl aU dK true))],λ((q,neg,()):kC×eY)=>(q.length<=1000,λ(z:qB)=>jc z.1.1 (dU q neg))⟩
def vT:XA:=⟨196,[.p (.v (.one (.sl aF bg false)))],[.one (.c (.sl aU dK true))],λ((q,()):yP)=>(q.length<=1000,λ(z:qB)=>jc z.1.1 (dU q false))⟩
def vU:XA:=⟨198,[.p (.v (.one (.sl aF bg false)))],[.one (.c (.sl aU dK true))],λ((q,()):yP)=>(q.length<=1000,λ(z:qB)=>jc z.1.1 (dU q true))⟩
def y7:PA:=⟨216,[.v (.agg [.str,.sl aF bg false]),.kp [.str]],[.one (.bool)],λ(((nm,_,()),name,()):(cu×yP)×gu×Unit)=>(True,(nm==name.1),())⟩
def iG:PA:=⟨215,[.v (.one (.sl aX dA false)),.fn 216 [[.str]]],[.one (.int .i64)],λ((d,((name,()),()),()):qP×(gu×Unit)×Unit)=>(True,aC d name,())⟩
def FK:PA:=⟨194,[.v (.one (.sl aX dA false)),.v (.one (.str))],[.one (.int .i64)],λ((d,name,()):qP×gu)=>(True,aC d name,())⟩
def BP:PA:=⟨197,[.v (.one (.sl aX dA false)),.v (.one (.str))],[.one (.int .i64)],λ((d,name,()):qP×gu)=>(True,aC d name,())⟩
def xq:PA:=⟨170,[.v (.one (.sl aX dA false)),.v (.one (.sl Ip Y4 false)),.v (.one (.sl aU dK false)),.v (.one (.int .i64))],[.one (.int .i64)],λ((d,aJ,names,more,()):qP×je×oV×iq)=>(d.length<=aJ.length/\names.length<=1000/\0<=more/\more<=1/\∀x∈aJ,0<=x.1/\x.1<=1000000,xu d aJ more names,())⟩
def Ew:XA:=⟨136,[.p (.v (.one (.sl aX dA false)))],[.one (.c (.sl Ip Y4 true)),.one (.c .bool)],λ((d,()):tK)=>(eu d,λ(z:ady)=>z.1.2.1=dH d/\(z.1.2.1=true->NT d z.1.1))⟩
def vV:PA:=⟨79,[.v (.one (.sl aX dA false))],[.one (.bool)],λ((d,()):tK)=>(eu d,dH d,())⟩
def rZ:XA:=⟨174,[.p (.v (.one (.sl aX dA false))),.p (.v (.one (.sl Ip Y4 false)))],[.one (.own Ip Y4 true)],λ((d,aJ,()):qP×zW)=>(eu d/\d.length<=5/\aJ.length=d.length/\∀x∈aJ,0<=x.1/\x.1<=1000000,λ(z:zW×Unit)=>Sp.raised d aJ z.1.1)⟩
def Dh:PA:=⟨175,[.v (.one (.sl Ip Y4 false)),.v (.one (.sl Ip Y4 false))],[.one (.bool)],λ((a,b,()):je×zW)=>(True,decide (a=b),())⟩
def Ey:XA:=⟨138,[.p (.v (.one (.sl aX dA false)))],[.one (.c (.sl Ip Y4 true)),.one (.c .bool)],λ((d,()):tK)=>(eu d,λ(z:ady)=>z.1.2.1=dH d/\(z.1.2.1=true->NT d z.1.1)/\(z.1.2.1=false->z.1.1=[]))⟩
def qx:PA:=⟨81,[.v (.one (.sl aX dA false))],[.one (.bool)],λ((d,()):tK)=>(eu d,dH d,())⟩
def iO:PA:=⟨28,[.v (.agg [.sl aB bK false,.sl aP dI false,.int .i64,.sl aX dA false])],[.one (.bool)],λ((x,()):ES)=>(fB x,bT x,())⟩
def gX:PA:=⟨29,[.v (.agg [.sl aB bK false,.sl aP dI false,.int .i64,.sl aX dA false])],[.one (.bool)],λ((x,()):ES)=>(fB x,bT x,())⟩
def Ac:PA:=⟨143,[.v (.one (.sl aF bg false)),.v (.one (.sl aF bg false))],[.one (.bool)],λ((a,b,()):kC×yP)=>(True,decide (a=b),())⟩
def Di:PA:=⟨100,[.v (.agg [.str,.sl aF bg false]),.v (.agg [.str,.sl aF bg false])],[.one (.bool)],λ((a,b,()):(cu×yP)×(cu×yP)×Unit)=>(True,decide (a=b),())⟩
def BQ:PA:=⟨56,[.v (.one (.sl aX dA false)),.v (.one (.sl aX dA false))],[.one (.bool)],λ((a,b,()):qP×tK)=>(True,decide (a=b),())⟩
def vW:PA:=⟨12,[.v (.agg [.sl aB bK false,.sl aP dI false,.int .i64,.sl aX dA false]),.v (.agg [.sl aB bK false,.sl aP dI false,.int .i64,.sl aX dA false])],[.one (.bool)],λ((a,b,()):akt)=>(True,decide (a=b),())⟩
def sZ:PA:=⟨124,[.v (.agg [.int .i64,.int .i64,.bool,.int .i64,.sl dJ dY false]),.v (.agg [.int .i64,.int .i64,.bool,.int .i64,.sl dJ dY false])],[.one (.bool)],λ((a,b,()):Ty2×Lr)=>(True,decide (a=b),())⟩
def o9:PA:=⟨161,[.v (.one (.sl dJ dY false)),.v (.one (.sl dJ dY false))],[.one (.bool)],λ((a,b,()):uT×uT×Unit)=>(True,decide (a=b),())⟩
def oK:PA:=⟨122,[.v (.one (.sl aB bK false)),.v (.one (.sl aB bK false))],[.one (.bool)],λ((a,b,()):lY×Js)=>(True,decide (a=b),())⟩
def eH:PA:=⟨123,[.v (.one (.sl aP dI false)),.v (.one (.sl aP dI false)),.fn 124 []],[.one (.bool)],λ((a,b,_,()):ni×ni×Hu)=>(True,decide (a=b),())⟩
def xw:PA:=⟨71,[.v (.agg [.sl aB bK false,.sl aP dI false,.int .i64]),.v (.agg [.sl aB bK false,.sl aP dI false,.int .i64])],[.one (.bool)],λ((a,b,()):OV×yh)=>(True,decide (a=b),())⟩
def pz:PA:=⟨162,[.v (.one (.sl aF bg false)),.v (.one (.sl aF bg false))],[.one (.bool)],λ((a,b,()):kC×yP)=>(True,decide (a=b),())⟩
def vX:PA:=⟨127,[.v (.one (.sl aF bg false)),.v (.one (.sl aF bg false))],[.one (.bool)],λ((a,b,()):kC×yP)=>(True,decide (a=b),())⟩
def rH:PA:=⟨126,[.v (.agg [.str,.sl aF bg false]),.v (.agg [.str,.sl aF bg false])],[.one (.bool)],λ((a,b,()):(cu×yP)×(cu×yP)×Unit)=>(True,decide (a=b),())⟩
def fC:PA:=⟨125,[.v (.one (.sl aX dA false)),.v (.one (.sl aX dA false)),.fn 126 []],[.one (.bool)],λ((a,b,_,()):qP×qP×Hu)=>(True,decide (a=b),())⟩
def Ad:PA:=⟨72,[.v (.one (.sl aX dA false)),.v (.one (.sl aX dA false))],[.one (.bool)],λ((a,b,()):qP×tK)=>(True,decide (a=b),())⟩
def su:PA:=⟨23,[.v (.agg [.sl aB bK false,.sl aP dI false,.int .i64,.sl aX dA false]),.v (.agg [.sl aB bK false,.sl aP dI false,.int .i64,.sl aX dA false])],[.one (.bool)],λ((a,b,()):akt)=>(True,decide (a=b),())⟩
def xA:PA:=⟨187,[.v (.one (.str))],[.agg [.int .i64,.int .i64,.str]],λ((w,()):gu)=>(True,(2,0,w,()),())⟩
def FM:List iH:=[.v (.one (.int .i64))]
def LG:List oP:=[.one (.str)]
def adA:jr FM->Prop×mG LG:=λ(n,())=>(-9223372036854775808<=n/\n<=9223372036854775807,Lib.itoa n,())
def EG:EW:=iw FM LG adA
def BR:List iH:=[.v (.one (.sl aU dK false)),.v (.one (.str))]
def EH:List oP:=[.one (.str)]
def PX:jr BR->Prop×mG EH:=λ(l,sep,())=>(l.length<=140737488355328/\(Lib.join (l.map (·.1)) sep).length<=140737488355328,Lib.join (l.map (·.1)) sep,())
def uX:EW:=iw BR EH PX
def Ae:List iH:=[.v (.one (.str)),.v (.one (.str))]
def Dy:List oP:=[.one (.sl aU dK true)]
def NU:jr Ae->Prop×mG Dy:=λ(s,sep,())=>(s.length<=4294960000/\(sep=[32]\/sep=[10]),Sp.pieces (sep.getD 0 0) s,())
def JS:EW:=iw Ae Dy NU
def Dz:List iH:=[.v (.one (.str))]
def IJ:List oP:=[.one (.sl aU dK true)]
def ZO:jr Dz->Prop×mG IJ:=λ(s,())=>(s.length<=1048576/\VL s=true,Sp.wordsOf s,())
def Ci:EW:=iw Dz IJ ZO
def yI:List iH:=[.v (.one (.str))]
def Cj:List oP:=[.one (.int .i64),.one (.bool)]
def LH:jr yI->Prop×mG Cj:=λ(s,())=>(True,Sp.parseNum s,aY s,())
def xB:EW:=iw yI Cj LH
def uY:PA:=⟨89,[.v (.one (.str))],[.one (.int .i64),.one (.bool)],λ((s,()):gu)=>(True,Sp.parseNum s,aY s,())⟩
def qF:PA:=⟨58,[.v (.one (.int .i64))],[.one (.str)],λ((n,()):iq)=>(True,Lib.itoa n,())⟩
def Af:PA:=⟨119,[.v (.one (.int .i64))],[.one (.int .u8)],λ((x,()):iq)=>(0<=x/\x<10,48+x,())⟩
def kV:PA:=⟨69,[.v (.one (.int .i64))],[.one (.str)],λ((n,()):iq)=>(True,Lib.itoa n,())⟩
def kW:PA:=⟨110,[.v (.one (.str))],[.one (.sl aU dK true),.one (.bool)],λ((s,()):gu)=>(s.length<=1048576,bf s,gZ s,())⟩
def oh:PA:=⟨153,[.v (.one (.str))],[.one (.sl aU dK true),.one (.bool)],λ((s,()):gu)=>(s.length<=1048576,bf s,gZ s,())⟩
def lK:PA:=⟨111,[.v (.one (.sl aU dK false)),.v (.one (.int .i64))],[.one (.str)],λ((w,i,()):oV×iq)=>(0<=i,Sp.wordAt w i,())⟩
def wL:PA:=⟨112,[.v (.one (.sl aU dK false)),.v (.one (.int .i64))],[.one (.int .i64)],λ((w,i,()):oV×iq)=>(0<=i,Sp.numAt w i,())⟩
def qG:PA:=⟨115,[.v (.one (.sl aU dK false))],[.one (.str)],λ((w,()):Hw)=>(w.length<=1000/\(gm w).length<=2097152,gm w,())⟩
def kR:PA:=⟨61,[.v (.one (.sl aU dK false)),.v (.one (.sl aU dK false))],[.one (.bool)],λ((a,b,()):oV×Hw)=>(True,decide (a=b),())⟩
def oq:PA:=⟨73,[.v (.agg [.int .i64,.int .i64,.str])],[.one (.str)],λ(((k,n,s,()),()):zV)=>(True,bn (k,n,s,()),())⟩
def kX:PA:=⟨75,[.v (.agg [.int .i64,.int .i64,.str])],[.one (.str)],λ(((k,n,s,()),()):zV)=>(True,bn (k,n,s,()),())⟩
def mg:PA:=⟨152,[.v (.one (.str))],[.agg [.int .i64,.int .i64,.str],.one (.bool)],λ((s,()):gu)=>(s.length<=1048576,(aV s).1,(aV s).2,())⟩
def kE:PA:=⟨113,[.v (.one (.str))],[.agg [.int .i64,.int .i64,.str],.one (.bool)],λ((s,()):gu)=>(s.length<=1048576,(aV s).1,(aV s).2,())⟩
def kY:PA:=⟨151,[.v (.one (.int .i64))],[.one (.str)],λ((op,()):iq)=>(True,fU op,())⟩
def nS:PA:=⟨160,[.v (.one (.int .i64))],[.one (.str)],λ((op,()):iq)=>(True,fU op,())⟩
def JU:List iH:=[.v (.one (.sl aF bg false)),.v (.one (.int .i64))]
def IK:List oP:=[.one (.str)]
def ZP:jr JU->Prop×mG IK:=λ(q,at',())=>(ax q=true/\0<=at'/\at'<q.length,Lib.join (bZ (at'.toNat+1) q at') [32],())
def IL:EW:=iw JU IK ZP
def DN:List iH:=[.v (.one (.sl aF bg false)),.v (.one (.int .i64))]
def Du:List oP:=[.one (.str)]
def EX[lG]:jr DN->Prop×mG Du:=λ(q,at',())=>((ax q=true/\0<=at'/\at'<q.length)/\at'.toNat<iU,Lib.join (bZ (at'.toNat+1) q at') [32],())
def wC[lG]:EW:=iw DN Du EX
def wE:List iH:=[.v (.one (.sl aF bg false)),.v (.one (.int .i64))]
def Cm:List oP:=[.one (.str)]
def DR[lG]:jr wE->Prop×mG Cm:=λ(q,at',())=>((ax q=true/\0<=at'/\at'<q.length)/\at'.toNat<iU+1,Lib.join (bZ (at'.toNat+1) q at') [32],())
def CB[lG]:EW:=iw wE Cm DR
def NV:List iH:=[.v (.one (.sl aF bg false)),.v (.one (.int .i64))]
def LJ:List oP:=[.one (.str)]
def adB:jr NV->Prop×mG LJ:=λ(q,at',())=>(ax q=true/\0<=at'/\at'<q.length,Lib.join (bZ (at'.toNat+1) q at') [32],())
def LK:EW:=iw NV LJ adB
def FN:List iH:=[.v (.one (.sl aF bg false)),.v (.one (.int .i64))]
def EY:List oP:=[.one (.str)]
def GZ[lG]:jr FN->Prop×mG EY:=λ(q,at',())=>((ax q=true/\0<=at'/\at'<q.length)/\at'.toNat<iU,Lib.join (bZ (at'.toNat+1) q at') [32],())
def zf[lG]:EW:=iw FN EY GZ
def zh:List iH:=[.v (.one (.sl aF bg false)),.v (.one (.int .i64))]
def DT:List oP:=[.one (.str)]
def FO[lG]:jr zh->Prop×mG DT:=λ(q,at',())=>((ax q=true/\0<=at'/\at'<q.length)/\at'.toNat<iU+1,Lib.join (bZ (at'.toNat+1) q at') [32],())
def DU[lG]:EW:=iw zh DT FO
def xC:PA:=⟨59,[.v (.one (.sl aF bg false))],[.one (.str)],λ((q,()):yP)=>(q.length<=2000000,Sp.textOf q,())⟩
def ou:PA:=⟨70,[.v (.one (.sl aF bg false))],[.one (.str)],λ((q,()):yP)=>(q.length<=2000000,Sp.textOf q,())⟩
def BU:List iJ:=[.p (.v (.one (.sl aU dK false))),.p (.v (.one (.int .i64))),.own aF bg,.p (.v (.one (.int .i64)))]
def LM:List qc:=[.one (.own aF bg false),.one (.c (.int .i64))]
def adC:jq BU->Prop×(lJ LM×kT BU->Prop):=λ(p,at',q,deep,())=>(p.length<=1000/\0<=at'/\at'.toNat+3*2 ^ (10-deep).toNat<=1000000/\0<=deep/\deep<=10/\(∀x∈p,x.1.length<=1000)/\q.length<=100,λ((r,k,()),())=>r=(Sp.rs (10-deep).toNat (p.drop at'.toNat) q).1/\k=(Sp.rs (10-deep).toNat (p.drop at'.toNat) q).2)
def LQ:Dx:=qm BU LM adC
def pF:List iJ:=[.p (.v (.one (.sl aU dK false))),.p (.v (.one (.int .i64))),.own aF bg,.p (.v (.one (.int .i64)))]
def EZ:List qc:=[.one (.own aF bg false),.one (.c (.int .i64))]
def G5[lG]:jq pF->Prop×(lJ EZ×kT pF->Prop):=λ(p,at',q,deep,())=>((p.length<=1000/\0<=at'/\at'.toNat+3*2 ^ (10-deep).toNat<=1000000/\0<=deep/\deep<=10/\(∀x∈p,x.1.length<=1000)/\q.length<=100)/\(10-deep).toNat<iU,λ((r,k,()),())=>r=(Sp.rs (10-deep).toNat (p.drop at'.toNat) q).1/\k=(Sp.rs (10-deep).toNat (p.drop at'.toNat) q).2)
def zi[lG]:Dx:=qm pF EZ G5
def sD:List iJ:=[.p (.v (.one (.sl aU dK false))),.p (.v (.one (.int .i64))),.own aF bg,.p (.v (.one (.int .i64)))]
def DV:List qc:=[.one (.own aF bg false),.one (.c (.int .i64))]
def tY[lG]:jq sD->Prop×(lJ DV×kT sD->Prop):=λ(p,at',q,deep,())=>((p.length<=1000/\0<=at'/\at'.toNat+3*2 ^ (10-deep).toNat<=1000000/\0<=deep/\deep<=10/\(∀x∈p,x.1.length<=1000)/\q.length<=100)/\(10-deep).toNat<iU+1,λ((r,k,()),())=>r=(Sp.rs (10-deep).toNat (p.drop at'.toNat) q).1/\k=(Sp.rs (10-deep).toNat (p.drop at'.toNat) q).2)
def DW[lG]:Dx:=qm sD DV tY
def xE:List iH:=[.v (.one (.str))]
def BD:List oP:=[.one (.sl aF bg true),.one (.bool)]
def JV:jr xE->Prop×mG BD:=λ(s,())=>(s.length<=1048576,fM s,gq s,())
def G6:EW:=iw xE BD JV
def pV:PA:=⟨114,[.v (.one (.str))],[.one (.sl aF bg false),.one (.bool)],λ((s,()):gu)=>(s.length<=1048576,fM s,gq s,())⟩
def tq:PA:=⟨24,[.v (.agg [.int .i64,.int .i64,.bool,.int .i64,.sl dJ dY false])],[.one (.str)],λ((f,()):Lr)=>(f.2.2.2.2.1.length<=1048576/\(dP f.2.2.2.2.1).length<=1073741824,dX f,())⟩
def BV:PA:=⟨186,[.v (.one (.int .i64))],[.agg [.int .i64,.int .i64,.str]],λ((n,()):iq)=>(True,(1,n,[],()),())⟩
def wM:PA:=⟨106,[.v (.one (.sl aU dK false))],[.agg [.int .i64,.int .i64,.bool,.int .i64,.sl dJ dY true],.one (.bool)],λ((w,()):Hw)=>(w.length<=1000/\(∀x∈w,x.1.length<=1048576),(jv w).1,(jv w).2,())⟩
def xG:XA:=⟨67,[.ptr [.sl dS jL false,.int .i64,.int .i64]],[.agg [.c (.int .i64),.c (.int .i64),.c .bool,.c (.int .i64),.c (.sl dJ dY true)]],λ(((_,i,_,()),()):fJ)=>(0<=i,λ(z:Jt)=>0<=z.2.1.2.1/\FP z.1.1.2.2.2.2.1=true)⟩
def pW:PA:=⟨25,[.v (.agg [.int .i64,.int .i64,.bool,.int .i64,.sl dJ dY false])],[.one (.str)],λ((f,()):Lr)=>(f.2.2.2.2.1.length<=1048576/\(dP f.2.2.2.2.1).length<=1073741824,dX f,())⟩
def oz:PA:=⟨27,[.v (.agg [.str,.int .i64])],[.one (.str)],λ(((n,k,()),()):ZL)=>(n.length<=1048576,bJ (n,k,()),())⟩
def rJ:PA:=⟨26,[.v (.agg [.str,.int .i64])],[.one (.str)],λ(((n,k,()),()):ZL)=>(n.length<=1048576,bJ (n,k,()),())⟩
def jG:PA:=⟨14,[.v (.agg [.sl aB bK false,.sl aP dI false,.int .i64,.sl aX dA false])],[.one (.sl aU dK true)],λ((x,()):ES)=>(fB x,Sp.enc x,())⟩
def nJ:XA:=⟨22,[.p (.v (.agg [.sl aB bK false,.sl aP dI false,.int .i64,.sl aX dA false]))],[.one (.own aU dK true)],λ((x,()):ES)=>(fB x,λ(z:qB)=>z.1.1=Sp.enc x)⟩
def jH:PA:=⟨22,[.v (.agg [.sl aB bK false,.sl aP dI false,.int .i64,.sl aX dA false])],[.one (.sl aU dK true)],λ((x,()):ES)=>(fB x,Sp.enc x,())⟩
def yj:List iH:=[.v (.one (.sl aU dK false))]
def Dv:List oP:=[.agg [.sl aB bK true,.sl aP dI true,.int .i64,.sl aX dA true],.one (.bool)]
def PY:jr yj->Prop×mG Dv:=λ(l,())=>(qH l,(Sp.dec l).1,(Sp.dec l).2,())
def wF:EW:=iw yj Dv PY
def yt:List iH:=[.v (.one (.sl aU dK false))]
def Dw:List oP:=[.agg [.sl aB bK true,.sl aP dI true,.int .i64,.sl aX dA true],.one (.bool)]
def PZ:jr yt->Prop×mG Dw:=λ(l,())=>(qH l,(Sp.dec l).1,(Sp.dec l).2,())
def wG:EW:=iw yt Dw PZ
def Ag:PA:=⟨21,[.v (.one (.sl aU dK false)),.v (.one (.sl aU dK false))],[.one (.bool)],λ((a,b,()):oV×Hw)=>(True,decide (a=b),())⟩
def sF:PA:=⟨65,[.v (.one (.sl aU dK false)),.v (.one (.sl aU dK false))],[.one (.bool)],λ((a,b,()):oV×Hw)=>(True,decide (a=b),())⟩
def vY:XA:=⟨62,[.ptr [.sl dS jL false,.int .i64,.int .i64]],[.agg [.c (.sl aB bK false),.c (.sl aP dI false),.c (.int .i64),.c (.sl aX dA false)]],λ(((_,i,_,()),()):fJ)=>(0<=i,λ(z:ES×fJ)=>0<=z.2.1.2.1/\fB (z.1.1.1,z.1.1.2.1,z.1.1.2.2.1,z.1.1.2.2.2.1,())/\bT (z.1.1.1,z.1.1.2.1,z.1.1.2.2.1,z.1.1.2.2.2.1,())=true)⟩
def oL:XA:=⟨13,[.p (.v (.one (.sl dS jL false)))],[.agg [.c (.sl aB bK false),.c (.sl aP dI false),.c (.int .i64),.c (.sl aX dA false)]],λ((code,()):zW)=>(code.length<=1048576,λ(z:ES×Unit)=>fB (z.1.1.1,z.1.1.2.1,z.1.1.2.2.1,z.1.1.2.2.2.1,()))⟩
def sG:XA:=⟨19,[.p (.v (.one (.sl dS jL false)))],[.agg [.c (.int .i64),.c (.int .i64),.c .bool,.c (.int .i64),.c (.sl dJ dY true)]],λ((code,()):zW)=>(code.length<=1048576,λ(z:Lu)=>FP z.1.1.2.2.2.2.1=true)⟩
def qU:XA:=⟨20,[.p (.v (.one (.sl dS jL false)))],[.agg [.c .str,.c (.int .i64)]],λ((code,()):zW)=>(code.length<=1048576,λ(z:ZL×Unit)=>z.1.1.1.length<=1)⟩
def oM:XA:=⟨16,[.p (.v (.one (.sl dS jL false)))],[.one (.c (.sl aU dK true))],λ((code,()):zW)=>(code.length<=1048576,λ(z:qB)=>qH z.1.1)⟩
def oN:XA:=⟨18,[.p (.v (.one (.sl dS jL false)))],[.agg [.c (.sl aB bK false),.c (.sl aP dI false),.c (.int .i64),.c (.sl aX dA false)],.agg [.c (.sl aB bK false),.c (.sl aP dI false),.c (.int .i64),.c (.sl aX dA false)]],λ((code,()):zW)=>(code.length<=1048576,λ_=>True)⟩
def sO:PA:=⟨4,[.v (.one (.sl dS jL false))],[.one (.bool)],λ(_,())=>(True,true,())⟩
def Rx[lG]:kJ:=Iq [(vZ,.eff (DX o7) yV),bQ.e,uN.e,nZ.e]
def OX[lG]:kJ:=Iq [(zk,.pure uX),(sH,.pure wC),oq.e,kY.e]
def Ry[lG]:kJ:=Iq [(wo,.pure zf),kX.e,nS.e]
def Rz[lG]:kJ:=Iq [(wu,.eff (DX pF) zi),jl.e,kE.e,nS.e,lK.e]
end
end Go.Proofs.Tryz
