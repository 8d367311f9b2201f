import Derived.Test.YtncbcelpbmlgdaaGreatDoorN
import Derived.Test.YtncbcelpbmlgdaaGreatDoorSp
namespace Go.Proofs.Tryz
open Go Go.Fw Sp
abbrev cO:=List UInt8
abbrev eP:=cO×Unit
abbrev Ty0:=cO×Int×Int×eP
abbrev gm:=Int×Unit
abbrev jE:=List gm
abbrev BJ:=jE×Int×gm
abbrev gV:=BJ×Unit
abbrev jP:=List (cO×gm)
abbrev BK:=List Ty0
abbrev Ty4:=Int×Int×Bool×Int×BK×Unit
abbrev oL:=List Ty4
abbrev ZI:=Int×Int×Int×Ty0
abbrev nN:=List ZI
abbrev Dn:=nN×Unit
abbrev rO:=List (cO×Dn)
abbrev Jq:=rO×Unit
abbrev Ty2:=jP×oL×Int×Jq
abbrev dw:=Bool×Unit
abbrev Dp:=Unit×Unit
abbrev Vj:=Int×Int×Bool×Int×Dp
abbrev Vk:=Unit×BJ×Vj×BK×Unit
abbrev QU:=jP×oL×gm
abbrev oM:=List eP
abbrev EF:=oM×Unit
abbrev AZ:=(Int×Int×eP)×Unit
abbrev gK:=gm×gV
abbrev yB:=Dn×gV
abbrev kN:=gm×Unit
abbrev xC:=EF×Unit
abbrev yC:=dw×Unit
abbrev ug:=Ty4×Unit
abbrev zD:=QU×Unit
abbrev Oq:=Jq×gV
abbrev qK:=eP×gV
abbrev EG:=Ty2×Unit
abbrev QV:=(cO×eP)×Unit
abbrev Dq:=jE×Unit
abbrev Vl:=(Unit×gm)×EF
abbrev Vm:=(Int×gm)×Unit
abbrev adL:=(cO×eP)×Ty2×gm
abbrev ZJ:=(nN×gm)×Unit
abbrev adM:=(jE×dw)×Unit
abbrev KL:=ZI×Unit
abbrev adN:=(cO×gm)×Unit
abbrev adO:=(cO×eP)×EG
abbrev ak0:=(QU×Int×dw)×Unit
class lN where n:Nat
abbrev iV[lN]:Nat:=lN.n
noncomputable section
def Eg:QA:=⟨46,[.p (.v (.one (.sl eF jZ false)))],[.sl eF jZ false,.int .i64,.int .i64],λ((code,()):Dq)=>(code.length<=1048576,λ(z:BJ)=>z.2.1=0)⟩
def CP:XA:=⟨95,[.ptr [.sl eF jZ false,.int .i64,.int .i64]],[.one (.c (.int .i64))],λ(((_,i,_,()),()):gV)=>(0<=i,λ(z:gK)=>0<=z.2.1.2.1/\0<=z.1.1/\z.1.1<=255)⟩
def dh:XA:=⟨47,[.ptr [.sl eF jZ false,.int .i64,.int .i64],.p (.v (.one (.int .i64)))],[.one (.c (.int .i64))],λ(((_,i,_,()),n,()):BJ×gm)=>(0<=i,λ(z:gK)=>0<=z.2.1.2.1/\0<=z.1.1/\(0<n->z.1.1<n)/\(n<=0->z.1.1=0))⟩
def nY:XA:=⟨66,[.ptr [.sl eF jZ false,.int .i64,.int .i64],.p (.v (.one (.int .i64)))],[.one (.c .bool)],λ(((_,i,_,()),_,()):BJ×gm)=>(0<=i,λ(z:dw×gV)=>0<=z.2.1.2.1)⟩
def iW:XA:=⟨63,[.ptr [.sl eF jZ false,.int .i64,.int .i64],.p (.v (.one (.sl aY dQ false)))],[.one (.c .str)],λ(((_,i,_,()),list,()):BJ×EF)=>(0<=i/\list≠[],λ(z:qK)=>0<=z.2.1.2.1/\(z.1.1,())∈list)⟩
def kL:XA:=⟨84,[.ptr [.sl eF jZ false,.int .i64,.int .i64],.p (.v (.one (.sl Ip YZ false)))],[.one (.c (.int .i64))],λ(((_,i,_,()),list,()):BJ×Dq)=>(0<=i/\list≠[],λ(z:gK)=>0<=z.2.1.2.1/\(z.1.1,())∈list)⟩
def vX:XA:=⟨99,[],[.one (.own aA bK true)],λ(())=>(True,λ(z:(jP×Unit)×Unit)=>z.1.1=Sp.usual)⟩
def yD:XA:=⟨68,[.ptr [.sl eF jZ false,.int .i64,.int .i64]],[.one (.c .str)],λ(((_,i,_,()),()):gV)=>(0<=i,λ(z:qK)=>0<=z.2.1.2.1/\z.1.1.length<=1)⟩
def Eh:XA:=⟨144,[.ptr [.sl eF jZ false,.int .i64,.int .i64]],[.one (.c (.sl aA bK true))],λ(((_,i,_,()),()):gV)=>(0<=i,λ(z:(jP×Unit)×gV)=>0<=z.2.1.2.1/\z.1.1.length<=6)⟩
def Bf:XA:=⟨157,[.ptr [.sl eF jZ false,.int .i64,.int .i64]],[.agg [.c (.int .i64),.c (.int .i64),.c .str]],λ(((_,i,_,()),()):gV)=>(0<=i,λ(z:AZ×gV)=>0<=z.2.1.2.1/\z.1.1.2.2.1.length<=10)⟩
def Ah:XA:=⟨117,[.ptr [.sl eF jZ false,.int .i64,.int .i64]],[.agg [.c (.int .i64),.c (.int .i64),.c .str]],λ(((_,i,_,()),()):gV)=>(0<=i,λ(z:AZ×gV)=>0<=z.2.1.2.1/\z.1.1.2.2.1.length<=10)⟩
def oN:PA:=⟨52,[.v (.one (.int .i64))],[.agg [.int .i64,.int .i64,.str]],λ((n,()):gm)=>(True,(1,n,[],()),())⟩
def jQ:PA:=⟨118,[.v (.one (.str))],[.agg [.int .i64,.int .i64,.str]],λ((w,()):eP)=>(True,(2,0,w,()),())⟩
def ja:PA:=⟨91,[.v (.one (.int .i64)),.v (.one (.int .i64)),.v (.one (.int .i64))],[.one (.bool)],λ((x,a,b,()):Int×Int×gm)=>(True,(decide (a<=x)&&decide (x<=b)),())⟩
def jo:PA:=⟨85,[.v (.one (.int .i64)),.v (.one (.int .i64)),.v (.one (.int .i64))],[.one (.bool)],λ((x,a,b,()):Int×Int×gm)=>(True,(decide (a<=x)&&decide (x<=b)),())⟩
def yE:PA:=⟨133,[.v (.one (.str)),.v (.one (.int .i64))],[.one (.bool)],λ((s,m,()):cO×gm)=>(True,(Sp.lower s&&decide (1<=(s.length:Int))&&decide ((s.length:Int)<=m)),())⟩
def lQ:PA:=⟨166,[.v (.one (.str))],[.one (.bool)],λ((s,()):eP)=>(True,aW s,())⟩
def lS:PA:=⟨163,[.v (.one (.str))],[.one (.bool)],λ((s,()):eP)=>(True,aW s,())⟩
def kP:PA:=⟨132,[.v (.agg [.int .i64,.int .i64,.str])],[.one (.bool)],λ(((k,n,s,()),()):AZ)=>(True,bJ k n s,())⟩
def kQ:PA:=⟨128,[.v (.agg [.int .i64,.int .i64,.str])],[.one (.bool)],λ(((k,n,s,()),()):AZ)=>(True,bJ k n s,())⟩
def kE:PA:=⟨77,[.v (.one (.str))],[.one (.bool)],λ((s,()):eP)=>(True,dD s,())⟩
def kF:PA:=⟨76,[.v (.one (.str))],[.one (.bool)],λ((s,()):eP)=>(True,dD s,())⟩
def zF:PA:=⟨182,[.v (.one (.sl aA bK false)),.v (.one (.str))],[.one (.int .i64)],λ((fs,s,()):jP×eP)=>(True,Sp.kindOf fs s,())⟩
def zG:PA:=⟨193,[.v (.one (.sl aA bK false)),.v (.one (.str))],[.one (.int .i64)],λ((fs,s,()):jP×eP)=>(True,Sp.kindOf fs s,())⟩
def oO:PA:=⟨137,[.v (.one (.sl aA bK false))],[.one (.bool)],λ((fs,()):jP×Unit)=>(True,eG fs,())⟩
def oP:PA:=⟨135,[.v (.one (.sl aA bK false))],[.one (.bool)],λ((fs,()):jP×Unit)=>(True,eG fs,())⟩
def rZ:PA:=⟨142,[.v (.one (.sl aA bK false)),.v (.one (.str)),.v (.agg [.int .i64,.int .i64,.str])],[.one (.bool)],λ((fs,s,(k,n,w,()),()):jP×cO×AZ)=>(True,jb fs s k n w,())⟩
def su:PA:=⟨167,[.v (.one (.sl aA bK false)),.v (.one (.str)),.v (.agg [.int .i64,.int .i64,.str])],[.one (.bool)],λ((fs,s,(k,n,w,()),()):jP×cO×AZ)=>(True,jb fs s k n w,())⟩
def qL:PA:=⟨98,[.v (.one (.sl aA bK false)),.v (.agg [.int .i64,.int .i64,.bool,.int .i64,.sl fQ fP false])],[.one (.bool)],λ((fs,f,()):jP×ug)=>(True,dH fs f,())⟩
def vY:PA:=⟨134,[.v (.one (.sl aA bK false)),.v (.agg [.int .i64,.int .i64,.bool,.int .i64,.sl fQ fP false])],[.one (.bool)],λ((fs,f,()):jP×ug)=>(True,dH fs f,())⟩
def mX:PA:=⟨80,[.v (.agg [.sl aA bK false,.sl aP dI false,.int .i64])],[.one (.bool)],λ((s,()):zD)=>(True,bW s,())⟩
def uP:PA:=⟨78,[.v (.agg [.sl aA bK false,.sl aP dI false,.int .i64])],[.one (.bool)],λ((s,()):zD)=>(True,bW s,())⟩
def xR:PA:=⟨82,[.v (.one (.sl aA bK false)),.v (.one (.sl aA bK false))],[.one (.bool)],λ((a,b,()):jP×jP×Unit)=>(True,decide (a=b),())⟩
def zH:PA:=⟨176,[.v (.one (.sl fQ fP false)),.v (.one (.sl fQ fP false))],[.one (.bool)],λ((a,b,()):BK×BK×Unit)=>(True,decide (a=b),())⟩
def Bg:PA:=⟨139,[.v (.agg [.int .i64,.int .i64,.bool,.int .i64,.sl fQ fP false]),.v (.agg [.int .i64,.int .i64,.bool,.int .i64,.sl fQ fP false])],[.one (.bool)],λ((a,b,()):Ty4×ug)=>(True,decide (a=b),())⟩
def zI:PA:=⟨83,[.v (.one (.sl aP dI false)),.v (.one (.sl aP dI false))],[.one (.bool)],λ((a,b,()):oL×oL×Unit)=>(True,decide (a=b),())⟩
def zJ:PA:=⟨30,[.v (.agg [.sl aA bK false,.sl aP dI false,.int .i64]),.v (.agg [.sl aA bK false,.sl aP dI false,.int .i64])],[.one (.bool)],λ((a,b,()):QU×zD)=>(True,decide (a=b),())⟩
def yF:PA:=⟨97,[.v (.agg [.int .i64,.int .i64,.bool,.int .i64,.sl fQ fP false])],[.agg [.int .i64,.int .i64,.bool,.int .i64,.sl fQ fP true]],λ((f,()):ug)=>(vZ f,f,())⟩
def Ei:PA:=⟨168,[.v (.one (.int .i64))],[.one (.bool)],λ((u,()):gm)=>(True,(decide (0<=u)&&decide (u<=2)),())⟩
def Bh:PA:=⟨190,[.v (.agg [.sl aA bK false,.sl aP dI false,.int .i64]),.v (.one (.int .i64))],[.one (.int .i64)],λ(((_,fs,_,()),id,()):QU×gm)=>(True,Sp.place fs id,())⟩
def yG:XA:=⟨51,[.p (.v (.agg [.int .i64,.int .i64,.bool,.int .i64,.sl fQ fP false])),.p (.v (.one (.str))),.p (.v (.agg [.int .i64,.int .i64,.str]))],[.agg [.c (.int .i64),.c (.int .i64),.c .bool,.c (.int .i64),.own fQ fP true]],λ(((i,o,s,l,a,()),name,(k,n,w,()),()):Ty4×cO×AZ)=>(a.length<=1000,λ(z:ug×Unit)=>z.1.1.1=i/\z.1.1.2.1=o/\z.1.1.2.2.1=s/\z.1.1.2.2.2.1=l/\z.1.1.2.2.2.2.1=jV a name k n w)⟩
def tK:XA:=⟨116,[.ptr [.sl eF jZ false,.int .i64,.int .i64],.p (.v (.one (.int .i64)))],[.agg [.c (.int .i64),.c (.int .i64),.c .bool,.c (.int .i64),.own fQ fP true]],λ(((_,i,_,()),id,()):BJ×gm)=>(0<=i,λ(z:ug×gV)=>0<=z.2.1.2.1/\z.1.1.1=id/\0<=z.1.1.2.1/\z.1.1.2.1<=2/\0<=z.1.1.2.2.2.1/\z.1.1.2.2.2.1<=6/\kG Sp.usual z.1.1.2.2.2.2.1=true/\z.1.1.2.2.2.2.1.length<=4)⟩
def Ej:XA:=⟨67,[.ptr [.sl eF jZ false,.int .i64,.int .i64]],[.agg [.c (.int .i64),.c (.int .i64),.c .bool,.c (.int .i64),.c (.sl fQ fP true)]],λ(((_,i,_,()),()):gV)=>(0<=i,λ(z:ug×gV)=>0<=z.2.1.2.1/\z.1.1.2.2.2.2.1.length<=10)⟩
def Bj:XA:=⟨49,[.p (.v (.one (.sl aA bK false)))],[.agg [.own aA bK true,.own aP dI true,.c (.int .i64)]],λ((s,()):jP×Unit)=>(s.length<=1000,λ(z:zD×Unit)=>z.1.1.1=s/\z.1.1.2.1=[]/\z.1.1.2.2.1=1)⟩
def yH:XA:=⟨96,[.p (.v (.agg [.sl aA bK false,.sl aP dI false,.int .i64]))],[.agg [.own aA bK true,.own aP dI true,.c (.int .i64)]],λ((s,()):zD)=>(ng s,λ(z:zD×Unit)=>(z.1.1.1,z.1.1.2.1,z.1.1.2.2.1,())=s)⟩
def rP:XA:=⟨48,[.p (.v (.agg [.sl aA bK false,.sl aP dI false,.int .i64])),.p (.v (.agg [.int .i64,.int .i64,.bool,.int .i64,.sl fQ fP false]))],[.agg [.own aA bK true,.own aP dI true,.c (.int .i64)],.one (.c (.int .i64)),.one (.c .bool)],λ((s,f,()):QU×ug)=>(ng s/\vZ f,λ(z:ak0)=>z.1.1.1=(bV s f).1.1/\z.1.1.2.1=(bV s f).1.2.1/\z.1.1.2.2.1=(bV s f).1.2.2.1/\z.1.2.1=(bV s f).2.1/\z.1.2.2.1=(bV s f).2.2)⟩
def xU:XA:=⟨155,[.p (.v (.agg [.sl aA bK false,.sl aP dI false,.int .i64])),.p (.v (.one (.int .i64)))],[.agg [.own aA bK true,.own aP dI true,.c (.int .i64)],.one (.c .bool)],λ((s,id,()):QU×gm)=>(ng s,λ(z:(QU×dw)×Unit)=>z.1.1.1=(fC s id).1.1/\z.1.1.2.1=(fC s id).1.2.1/\z.1.1.2.2.1=(fC s id).1.2.2.1/\z.1.2.1=(fC s id).2)⟩
def wo:XA:=⟨108,[.ptr [.sl eF jZ false,.int .i64,.int .i64]],[.agg [.own aA bK true,.own aP dI true,.c (.int .i64)]],λ(((_,i,_,()),()):gV)=>(0<=i,λ(z:zD×gV)=>0<=z.2.1.2.1/\z.1.1.1=Sp.usual/\bW (z.1.1.1,z.1.1.2.1,z.1.1.2.2.1,())=true/\z.1.1.2.2.1<=z.1.1.2.1.length+2/\ng (z.1.1.1,z.1.1.2.1,z.1.1.2.2.1,())/\0<z.1.1.2.1.length)⟩
def Em:XA:=⟨101,[.ptr [.sl eF jZ false,.int .i64,.int .i64]],[.agg [.c (.sl aA bK false),.c (.sl aP dI false),.c (.int .i64)]],λ(((_,i,_,()),()):gV)=>(0<=i,λ(z:zD×gV)=>0<=z.2.1.2.1/\ng (z.1.1.1,z.1.1.2.1,z.1.1.2.2.1,())/\∀f∈z.1.1.2.1,f.2.2.2.2.1.length<=400)⟩
def JL:PA:=⟨7,[.v (.one (.sl eF jZ false))],[.one (.bool)],λ((code,()):Dq)=>(True,decide (1048576<(code.length:Int)),())⟩
def xW:XA:=⟨208,[.ptr [.sl eF jZ false,.int .i64,.int .i64]],[.one (.c .str)],λ(((_,i,_,()),()):gV)=>(0<=i,λ(z:qK)=>0<=z.2.1.2.1/\z.1.1.length<=10)⟩
def tN:XA:=⟨183,[.ptr [.sl eF jZ false,.int .i64,.int .i64]],[.agg [.c (.int .i64),.c (.int .i64),.c (.int .i64),.c .str,.c (.int .i64),.c (.int .i64),.c .str]],λ(((_,i,_,()),()):gV)=>(0<=i,λ(z:KL×gV)=>0<=z.2.1.2.1/\True)⟩
def FK:List iJ:=[.ptr [.sl eF jZ false,.int .i64,.int .i64],.own aN bG,.p (.v (.one (.int .i64))),.p (.v (.one (.bool)))]
def KN:List pR:=[.one (.own aN bG false)]
def Pe:jw FK->Prop×(lT KN×lg FK->Prop):=λ((_,i,_,()),q,deep,_,())=>(0<=i/\0<=deep/\deep<=4/\q.length+2*deep.toNat<=900,λ((r,()),((_,i',_,()),()))=>0<=i'/\q.length<r.length/\r.length<=q.length+2*deep.toNat+1)
def ZK:Dt:=qf FK KN Pe
def oQ:List iJ:=[.ptr [.sl eF jZ false,.int .i64,.int .i64],.own aN bG,.p (.v (.one (.int .i64))),.p (.v (.one (.bool)))]
def ES:List pR:=[.one (.own aN bG false)]
def G5[lN]:jw oQ->Prop×(lT ES×lg oQ->Prop):=λ((_,i,_,()),q,deep,_,())=>((0<=i/\0<=deep/\deep<=4/\q.length+2*deep.toNat<=900)/\deep.toNat<iV,λ((r,()),((_,i',_,()),()))=>0<=i'/\q.length<r.length/\r.length<=q.length+2*deep.toNat+1)
def yI[lN]:Dt:=qf oQ ES G5
def qX:List iJ:=[.ptr [.sl eF jZ false,.int .i64,.int .i64],.own aN bG,.p (.v (.one (.int .i64))),.p (.v (.one (.bool)))]
def DC:List pR:=[.one (.own aN bG false)]
def sD[lN]:jw qX->Prop×(lT DC×lg qX->Prop):=λ((_,i,_,()),q,deep,_,())=>((0<=i/\0<=deep/\deep<=4/\q.length+2*deep.toNat<=900)/\deep.toNat<iV+1,λ((r,()),((_,i',_,()),()))=>0<=i'/\q.length<r.length/\r.length<=q.length+2*deep.toNat+1)
def DF[lN]:Dt:=qf qX DC sD
def oU:List iJ:=[.ptr [.sl eF jZ false,.int .i64,.int .i64],.p (.v (.one .nil)),.p (.v (.one (.int .i64))),.p (.v (.one (.bool)))]
def ET:List pR:=[.one (.own aN bG false)]
def G6:jw oU->Prop×(lT ET×lg oU->Prop):=λ((_,i,_,()),(),deep,_,())=>(0<=i/\0<=deep/\deep<=4,λ((r,()),((_,i',_,()),()))=>0<=i'/\0<r.length/\r.length<=0+2*deep.toNat+1)
def yJ:Dt:=qf oU ET G6
def wu:XA:=⟨147,[.ptr [.sl eF jZ false,.int .i64,.int .i64]],[.one (.own aN bG false)],λ(((_,i,_,()),()):gV)=>(0<=i,λ(z:yB)=>0<=z.2.1.2.1/\0<z.1.1.length/\z.1.1.length<=9)⟩
def kW:XA:=⟨147,[.ptr [.sl eF jZ false,.int .i64,.int .i64]],[.one (.c (.sl aN bG false))],λ(((_,i,_,()),()):gV)=>(0<=i,λ(z:yB)=>0<=z.2.1.2.1/\0<z.1.1.length/\z.1.1.length<=9)⟩
def En:XA:=⟨146,[.ptr [.sl eF jZ false,.int .i64,.int .i64]],[.one (.c (.sl aN bG false))],λ(((_,i,_,()),()):gV)=>(0<=i,λ(z:yB)=>0<=z.2.1.2.1/\z.1.1.length<=10)⟩
def yK:XA:=⟨145,[.ptr [.sl eF jZ false,.int .i64,.int .i64]],[.one (.own aX dA false)],λ(((_,i,_,()),()):gV)=>(0<=i,λ(z:Oq)=>0<=z.2.1.2.1/\0<z.1.1.length/\z.1.1.length<=4/\eU z.1.1)⟩
def Eo:XA:=⟨102,[.ptr [.sl eF jZ false,.int .i64,.int .i64]],[.one (.c (.sl aX dA false))],λ(((_,i,_,()),()):gV)=>(0<=i,λ(z:Oq)=>0<=z.2.1.2.1/\z.1.1.length<=10/\eU z.1.1)⟩
def CQ:XA:=⟨109,[.ptr [.sl eF jZ false,.int .i64,.int .i64]],[.one (.c (.sl aX dA false))],λ(((_,i,_,()),()):gV)=>(0<=i,λ(z:Oq)=>0<=z.2.1.2.1/\z.1.1.length<=10/\eU z.1.1/\dP z.1.1=true/\0<z.1.1.length)⟩
def wz:XA:=⟨62,[.ptr [.sl eF jZ false,.int .i64,.int .i64]],[.agg [.c (.sl aA bK false),.c (.sl aP dI false),.c (.int .i64),.c (.sl aX dA false)]],λ(((_,i,_,()),()):gV)=>(0<=i,λ(z:EG×gV)=>0<=z.2.1.2.1/\bP (z.1.1.1,z.1.1.2.1,z.1.1.2.2.1,z.1.1.2.2.2.1,()))⟩
def Ep:XA:=⟨57,[.ptr [.sl eF jZ false,.int .i64,.int .i64]],[.agg [.c (.sl aA bK false),.c (.sl aP dI false),.c (.int .i64),.c (.sl aX dA false)]],λ(((_,i,_,()),()):gV)=>(0<=i,λ(z:EG×gV)=>0<=z.2.1.2.1/\bP (z.1.1.1,z.1.1.2.1,z.1.1.2.2.1,z.1.1.2.2.2.1,()))⟩
def wB:PA:=⟨158,[.v (.agg [.int .i64,.int .i64,.int .i64,.str,.int .i64,.int .i64,.str]),.v (.one (.int .i64))],[.one (.bool)],λ(((o,l,r,nm,vk,vi,vs,()),at',()):ZI×gm)=>(True,dS (o,l,r,nm,vk,vi,vs,()) at',())⟩
def wC:PA:=⟨149,[.v (.agg [.int .i64,.int .i64,.int .i64,.str,.int .i64,.int .i64,.str]),.v (.one (.int .i64))],[.one (.bool)],λ(((o,l,r,nm,vk,vi,vs,()),at',()):ZI×gm)=>(True,dS (o,l,r,nm,vk,vi,vs,()) at',())⟩
def qC:PA:=⟨159,[.v (.one (.sl aN bG false)),.v (.one (.int .i64))],[.one (.int .i64)],λ((q,at',()):nN×gm)=>(q.length<=2000000,(gX q at':Int),())⟩
def qE:PA:=⟨150,[.v (.one (.sl aN bG false)),.v (.one (.int .i64))],[.one (.int .i64)],λ((q,at',()):nN×gm)=>(q.length<=2000000,(gX q at':Int),())⟩
def mY:PA:=⟨120,[.v (.one (.sl aN bG false))],[.one (.bool)],λ((q,()):Dn)=>(q.length<=2000000,ay q,())⟩
def jf:PA:=⟨104,[.v (.one (.sl aN bG false))],[.one (.bool)],λ((q,()):Dn)=>(q.length<=2000000,ay q,())⟩
def wE:PA:=⟨173,[.v (.one (.sl aX dA false))],[.one (.bool)],λ((d,()):Jq)=>(eU d,ni d,())⟩
def wF:PA:=⟨169,[.v (.one (.sl aX dA false))],[.one (.bool)],λ((d,()):Jq)=>(eU d,ni d,())⟩
def Bl:PA:=⟨218,[.v (.agg [.int .i64,.int .i64,.int .i64,.str,.int .i64,.int .i64,.str])],[.one (.bool)],λ(((o,_,_,_,_,_,_,()),()):KL)=>(True,(o==8||o==9),())⟩
def uQ:PA:=⟨238,[.v (.one (.sl aN bG false))],[.one (.sl abo R_4 true)],λ((q,()):Dn)=>(q.length<=1000,Sp.negated q,())⟩
def uS:PA:=⟨217,[.v (.one (.sl aN bG false))],[.one (.sl abo R_4 true)],λ((q,()):Dn)=>(q.length<=1000,Sp.negated q,())⟩
def qM:List iJ:=[.p (.v (.one (.sl aY dQ false)))]
def A7:List pR:=[.one (.c (.sl aY dQ true))]
def JB:jw qM->Prop×(lT A7×lg qM->Prop):=λ(l,())=>(l.length<=1000,λ((r,()),())=>r.length<=l.length/\∀s,s∈r↔s∈l)
def A8:Dt:=qf qM A7 JB
def uh:XA:=⟨195,[.p (.v (.one (.sl aN bG false))),.p (.v (.one (.bool)))],[.one (.c (.sl aY dQ true))],λ((q,neg,()):nN×dw)=>(q.length<=1000,λ(z:xC)=>jg z.1.1 (dV q neg))⟩
def uT:XA:=⟨171,[.p (.v (.one (.sl aN bG false)))],[.one (.c (.sl aY dQ true))],λ((q,()):Dn)=>(q.length<=1000,λ(z:xC)=>jg z.1.1 (dV q false))⟩
def uU:XA:=⟨172,[.p (.v (.one (.sl aN bG false)))],[.one (.c (.sl aY dQ true))],λ((q,()):Dn)=>(q.length<=1000,λ(z:xC)=>jg z.1.1 (dV q true))⟩
def Es:PA:=⟨239,[.v (.one (.sl aY dQ false)),.v (.one (.str))],[.one (.sl aY dQ false)],λ((l,s,()):oM×eP)=>(l.length<=1000,Ot l s,())⟩
def wG:XA:=⟨220,[.p (.v (.one (.sl aN bG false))),.p (.v (.one (.bool)))],[.one (.c (.sl aY dQ true))],λ((q,neg,()):nN×dw)=>(q.length<=1000,λ(z:xC)=>jg z.1.1 (dV q neg))⟩
def uV:XA:=⟨196,[.p (.v (.one (.sl aN bG false)))],[.one (.c (.sl aY dQ true))],λ((q,()):Dn)=>(q.length<=1000,λ(z:xC)=>jg z.1.1 (dV q false))⟩
def uX:XA:=⟨198,[.p (.v (.one (.sl aN bG false)))],[.one (.c (.sl aY dQ true))],λ((q,()):Dn)=>(q.length<=1000,λ(z:xC)=>jg z.1.1 (dV q true))⟩
def yL:PA:=⟨216,[.v (.agg [.str,.sl aN bG false]),.kp [.str]],[.one (.bool)],λ(((nm,_,()),name,()):(cO×Dn)×eP×Unit)=>(True,(nm==name.1),())⟩
def iF:PA:=⟨215,[.v (.one (.sl aX dA false)),.fn 216 [[.str]]],[.one (.int .i64)],λ((d,((name,()),()),()):rO×(eP×Unit)×Unit)=>(True,aF d name,())⟩
def FM:PA:=⟨194,[.v (.one (.sl aX dA false)),.v (.one (.str))],[.one (.int .i64)],λ((d,name,()):rO×eP)=>(True,aF d name,())⟩
def Bo:PA:=⟨197,[.v (.one (.sl aX dA false)),.v (.one (.str))],[.one (.int .i64)],λ((d,name,()):rO×eP)=>(True,aF d name,())⟩
def wH:PA:=⟨170,[.v (.one (.sl aX dA false)),.v (.one (.sl Ip YZ false)),.v (.one (.sl aY dQ false)),.v (.one (.int .i64))],[.one (.int .i64)],λ((d,aK,names,more,()):rO×jE×oM×gm)=>(d.length<=aK.length/\names.length<=1000/\0<=more/\more<=1/\∀x∈aK,0<=x.1/\x.1<=1000000,wI d aK more names,())⟩
def Et:XA:=⟨136,[.p (.v (.one (.sl aX dA false)))],[.one (.c (.sl Ip YZ true)),.one (.c .bool)],λ((d,()):Jq)=>(eU d,λ(z:adM)=>z.1.2.1=dP d/\(z.1.2.1=true->Nl d z.1.1))⟩
def uY:PA:=⟨79,[.v (.one (.sl aX dA false))],[.one (.bool)],λ((d,()):Jq)=>(eU d,dP d,())⟩
def qY:XA:=⟨174,[.p (.v (.one (.sl aX dA false))),.p (.v (.one (.sl Ip YZ false)))],[.one (.own Ip YZ true)],λ((d,aK,()):rO×Dq)=>(eU d/\d.length<=5/\aK.length=d.length/\∀x∈aK,0<=x.1/\x.1<=1000000,λ(z:Dq×Unit)=>Sp.raised d aK z.1.1)⟩
def CS:PA:=⟨175,[.v (.one (.sl Ip YZ false)),.v (.one (.sl Ip YZ false))],[.one (.bool)],λ((a,b,()):jE×Dq)=>(True,decide (a=b),())⟩
def Eu:XA:=⟨138,[.p (.v (.one (.sl aX dA false)))],[.one (.c (.sl Ip YZ true)),.one (.c .bool)],λ((d,()):Jq)=>(eU d,λ(z:adM)=>z.1.2.1=dP d/\(z.1.2.1=true->Nl d z.1.1)/\(z.1.2.1=false->z.1.1=[]))⟩
def qi:PA:=⟨81,[.v (.one (.sl aX dA false))],[.one (.bool)],λ((d,()):Jq)=>(eU d,dP d,())⟩
def iM:PA:=⟨28,[.v (.agg [.sl aA bK false,.sl aP dI false,.int .i64,.sl aX dA false])],[.one (.bool)],λ((x,()):EG)=>(bP x,bT x,())⟩
def iO:PA:=⟨29,[.v (.agg [.sl aA bK false,.sl aP dI false,.int .i64,.sl aX dA false])],[.one (.bool)],λ((x,()):EG)=>(bP x,bT x,())⟩
def zK:PA:=⟨143,[.v (.one (.sl aN bG false)),.v (.one (.sl aN bG false))],[.one (.bool)],λ((a,b,()):nN×Dn)=>(True,decide (a=b),())⟩
def CU:PA:=⟨100,[.v (.agg [.str,.sl aN bG false]),.v (.agg [.str,.sl aN bG false])],[.one (.bool)],λ((a,b,()):(cO×Dn)×(cO×Dn)×Unit)=>(True,decide (a=b),())⟩
def Bq:PA:=⟨56,[.v (.one (.sl aX dA false)),.v (.one (.sl aX dA false))],[.one (.bool)],λ((a,b,()):rO×Jq)=>(True,decide (a=b),())⟩
def uZ:PA:=⟨12,[.v (.agg [.sl aA bK false,.sl aP dI false,.int .i64,.sl aX dA false]),.v (.agg [.sl aA bK false,.sl aP dI false,.int .i64,.sl aX dA false])],[.one (.bool)],λ((a,b,()):Ty2×EG)=>(True,decide (a=b),())⟩
def wJ:PA:=⟨187,[.v (.one (.str))],[.agg [.int .i64,.int .i64,.str]],λ((w,()):eP)=>(True,(2,0,w,()),())⟩
def FN:List iG:=[.v (.one (.int .i64))]
def KO:List oI:=[.one (.str)]
def adP:jy FN->Prop×mG KO:=λ(n,())=>(-9223372036854775808<=n/\n<=9223372036854775807,Lib.itoa n,())
def EH:EU:=iy FN KO adP
def Bv:List iG:=[.v (.one (.sl aY dQ false)),.v (.one (.str))]
def EI:List oI:=[.one (.str)]
def Pg:jy Bv->Prop×mG EI:=λ(l,sep,())=>(l.length<=140737488355328/\(Lib.join (l.map (·.1)) sep).length<=140737488355328,Lib.join (l.map (·.1)) sep,())
def uj:EU:=iy Bv EI Pg
def zL:List iG:=[.v (.one (.str)),.v (.one (.str))]
def Du:List oI:=[.one (.sl aY dQ true)]
def Np:jy zL->Prop×mG Du:=λ(s,sep,())=>(s.length<=4294960000/\(sep=[32]\/sep=[10]),Sp.pieces (sep.getD 0 0) s,())
def Dv:EU:=iy zL Du Np
def Dw:List iG:=[.v (.one (.str))]
def IL:List oI:=[.one (.sl aY dQ true)]
def ZL:jy Dw->Prop×mG IL:=λ(s,())=>(s.length<=1048576/\Vo s=true,Sp.wordsOf s,())
def BL:EU:=iy Dw IL ZL
def xX:List iG:=[.v (.one (.str))]
def BM:List oI:=[.one (.int .i64),.one (.bool)]
def KP:jy xX->Prop×mG BM:=λ(s,())=>(True,Sp.parseNum s,bf s,())
def qN:EU:=iy xX BM KP
def qo:PA:=⟨89,[.v (.one (.str))],[.one (.int .i64),.one (.bool)],λ((s,()):eP)=>(True,Sp.parseNum s,bf s,())⟩
def nR:PA:=⟨58,[.v (.one (.int .i64))],[.one (.str)],λ((n,()):gm)=>(True,Lib.itoa n,())⟩
def zM:PA:=⟨119,[.v (.one (.int .i64))],[.one (.int .u8)],λ((x,()):gm)=>(0<=x/\x<10,48+x,())⟩
def lC:PA:=⟨69,[.v (.one (.int .i64))],[.one (.str)],λ((n,()):gm)=>(True,Lib.itoa n,())⟩
def lD:PA:=⟨110,[.v (.one (.str))],[.one (.sl aY dQ true),.one (.bool)],λ((s,()):eP)=>(s.length<=1048576,gG s,jA s,())⟩
def nZ:PA:=⟨153,[.v (.one (.str))],[.one (.sl aY dQ true),.one (.bool)],λ((s,()):eP)=>(s.length<=1048576,gG s,jA s,())⟩
def lU:PA:=⟨111,[.v (.one (.sl aY dQ false)),.v (.one (.int .i64))],[.one (.str)],λ((w,i,()):oM×gm)=>(0<=i,Sp.wordAt w i,())⟩
def vS:PA:=⟨112,[.v (.one (.sl aY dQ false)),.v (.one (.int .i64))],[.one (.int .i64)],λ((w,i,()):oM×gm)=>(0<=i,Sp.numAt w i,())⟩
def qp:PA:=⟨115,[.v (.one (.sl aY dQ false))],[.one (.str)],λ((w,()):EF)=>(w.length<=1000/\(gy w).length<=2097152,gy w,())⟩
def kY:PA:=⟨61,[.v (.one (.sl aY dQ false)),.v (.one (.sl aY dQ false))],[.one (.bool)],λ((a,b,()):oM×EF)=>(True,decide (a=b),())⟩
def oh:PA:=⟨73,[.v (.agg [.int .i64,.int .i64,.str])],[.one (.str)],λ(((k,n,s,()),()):AZ)=>(True,bD (k,n,s,()),())⟩
def lF:PA:=⟨75,[.v (.agg [.int .i64,.int .i64,.str])],[.one (.str)],λ(((k,n,s,()),()):AZ)=>(True,bD (k,n,s,()),())⟩
def mg:PA:=⟨152,[.v (.one (.str))],[.agg [.int .i64,.int .i64,.str],.one (.bool)],λ((s,()):eP)=>(s.length<=1048576,(aZ s).1,(aZ s).2,())⟩
def kM:PA:=⟨113,[.v (.one (.str))],[.agg [.int .i64,.int .i64,.str],.one (.bool)],λ((s,()):eP)=>(s.length<=1048576,(aZ s).1,(aZ s).2,())⟩
def lG:PA:=⟨151,[.v (.one (.int .i64))],[.one (.str)],λ((op,()):gm)=>(True,gq op,())⟩
def nS:PA:=⟨160,[.v (.one (.int .i64))],[.one (.str)],λ((op,()):gm)=>(True,gq op,())⟩
def JC:List iG:=[.v (.one (.sl aN bG false)),.v (.one (.int .i64))]
def IQ:List oI:=[.one (.str)]
def ZM:jy JC->Prop×mG IQ:=λ(q,at',())=>(ay q=true/\0<=at'/\at'<q.length,Lib.join (bY (at'.toNat+1) q at') [32],())
def IU:EU:=iy JC IQ ZM
def DI:List iG:=[.v (.one (.sl aN bG false)),.v (.one (.int .i64))]
def Dj:List oI:=[.one (.str)]
def EW[lN]:jy DI->Prop×mG Dj:=λ(q,at',())=>((ay q=true/\0<=at'/\at'<q.length)/\at'.toNat<iV,Lib.join (bY (at'.toNat+1) q at') [32],())
def vG[lN]:EU:=iy DI Dj EW
def vH:List iG:=[.v (.one (.sl aN bG false)),.v (.one (.int .i64))]
def BN:List oI:=[.one (.str)]
def DJ[lN]:jy vH->Prop×mG BN:=λ(q,at',())=>((ay q=true/\0<=at'/\at'<q.length)/\at'.toNat<iV+1,Lib.join (bY (at'.toNat+1) q at') [32],())
def BO[lN]:EU:=iy vH BN DJ
def Nq:List iG:=[.v (.one (.sl aN bG false)),.v (.one (.int .i64))]
def KQ:List oI:=[.one (.str)]
def adQ:jy Nq->Prop×mG KQ:=λ(q,at',())=>(ay q=true/\0<=at'/\at'<q.length,Lib.join (bY (at'.toNat+1) q at') [32],())
def KR:EU:=iy Nq KQ adQ
def FO:List iG:=[.v (.one (.sl aN bG false)),.v (.one (.int .i64))]
def EX:List oI:=[.one (.str)]
def G7[lN]:jy FO->Prop×mG EX:=λ(q,at',())=>((ay q=true/\0<=at'/\at'<q.length)/\at'.toNat<iV,Lib.join (bY (at'.toNat+1) q at') [32],())
def yM[lN]:EU:=iy FO EX G7
def yN:List iG:=[.v (.one (.sl aN bG false)),.v (.one (.int .i64))]
def DK:List oI:=[.one (.str)]
def FP[lN]:jy yN->Prop×mG DK:=λ(q,at',())=>((ay q=true/\0<=at'/\at'<q.length)/\at'.toNat<iV+1,Lib.join (bY (at'.toNat+1) q at') [32],())
def DL[lN]:EU:=iy yN DK FP
def wK:PA:=⟨59,[.v (.one (.sl aN bG false))],[.one (.str)],λ((q,()):Dn)=>(q.length<=2000000,Sp.textOf q,())⟩
def qO:PA:=⟨70,[.v (.one (.sl aN bG false))],[.one (.str)],λ((q,()):Dn)=>(q.length<=2000000,Sp.textOf q,())⟩
def Bz:List iJ:=[.p (.v (.one (.sl aY dQ false))),.p (.v (.one (.int .i64))),.own aN bG,.p (.v (.one (.int .i64)))]
def KT:List pR:=[.one (.own aN bG false),.one (.c (.int .i64))]
def adR:jw Bz->Prop×(lT KT×lg Bz->Prop):=λ(p,at',q,deep,())=>(p.length<=1000/\0<=at'/\at'.toNat+3*2 ^ (10-deep).toNat<=1000000/\0<=deep/\deep<=10/\(∀x∈p,x.1.length<=1000)/\q.length<=100,λ((r,k,()),())=>r=(Sp.rs (10-deep).toNat (p.drop at'.toNat) q).1/\k=(Sp.rs (10-deep).toNat (p.drop at'.toNat) q).2)
def KU:Dt:=qf Bz KT adR
def oV:List iJ:=[.p (.v (.one (.sl aY dQ false))),.p (.v (.one (.int .i64))),.own aN bG,.p (.v (.one (.int .i64)))]
def EY:List pR:=[.one (.own aN bG false),.one (.c (.int .i64))]
def G8[lN]:jw oV->Prop×(lT EY×lg oV->Prop):=λ(p,at',q,deep,())=>((p.length<=1000/\0<=at'/\at'.toNat+3*2 ^ (10-deep).toNat<=1000000/\0<=deep/\deep<=10/\(∀x∈p,x.1.length<=1000)/\q.length<=100)/\(10-deep).toNat<iV,λ((r,k,()),())=>r=(Sp.rs (10-deep).toNat (p.drop at'.toNat) q).1/\k=(Sp.rs (10-deep).toNat (p.drop at'.toNat) q).2)
def yO[lN]:Dt:=qf oV EY G8
def qZ:List iJ:=[.p (.v (.one (.sl aY dQ false))),.p (.v (.one (.int .i64))),.own aN bG,.p (.v (.one (.int .i64)))]
def DN:List pR:=[.one (.own aN bG false),.one (.c (.int .i64))]
def sF[lN]:jw qZ->Prop×(lT DN×lg qZ->Prop):=λ(p,at',q,deep,())=>((p.length<=1000/\0<=at'/\at'.toNat+3*2 ^ (10-deep).toNat<=1000000/\0<=deep/\deep<=10/\(∀x∈p,x.1.length<=1000)/\q.length<=100)/\(10-deep).toNat<iV+1,λ((r,k,()),())=>r=(Sp.rs (10-deep).toNat (p.drop at'.toNat) q).1/\k=(Sp.rs (10-deep).toNat (p.drop at'.toNat) q).2)
def DR[lN]:Dt:=qf qZ DN sF
def wL:List iG:=[.v (.one (.str))]
def Ba:List oI:=[.one (.sl aN bG true),.one (.bool)]
def JD:jy wL->Prop×mG Ba:=λ(s,())=>(s.length<=1048576,fU s,gB s,())
def G9:EU:=iy wL Ba JD
def pI:PA:=⟨114,[.v (.one (.str))],[.one (.sl aN bG false),.one (.bool)],λ((s,()):eP)=>(s.length<=1048576,fU s,gB s,())⟩
def xY:PA:=⟨24,[.v (.agg [.int .i64,.int .i64,.bool,.int .i64,.sl fQ fP false])],[.one (.str)],λ((f,()):ug)=>(f.2.2.2.2.1.length<=1048576/\(fV f.2.2.2.2.1).length<=1073741824,gu f,())⟩
def BA:PA:=⟨186,[.v (.one (.int .i64))],[.agg [.int .i64,.int .i64,.str]],λ((n,()):gm)=>(True,(1,n,[],()),())⟩
def vT:PA:=⟨106,[.v (.one (.sl aY dQ false))],[.agg [.int .i64,.int .i64,.bool,.int .i64,.sl fQ fP true],.one (.bool)],λ((w,()):EF)=>(w.length<=1000/\(∀x∈w,x.1.length<=1048576),(jB w).1,(jB w).2,())⟩
def xZ:PA:=⟨25,[.v (.agg [.int .i64,.int .i64,.bool,.int .i64,.sl fQ fP false])],[.one (.str)],λ((f,()):ug)=>(f.2.2.2.2.1.length<=1048576/\(fV f.2.2.2.2.1).length<=1073741824,gu f,())⟩
def wM:PA:=⟨27,[.v (.agg [.str,.int .i64])],[.one (.str)],λ(((n,k,()),()):adN)=>(n.length<=1048576,dJ (n,k,()),())⟩
def wO:PA:=⟨26,[.v (.agg [.str,.int .i64])],[.one (.str)],λ(((n,k,()),()):adN)=>(n.length<=1048576,dJ (n,k,()),())⟩
def jI:PA:=⟨14,[.v (.agg [.sl aA bK false,.sl aP dI false,.int .i64,.sl aX dA false])],[.one (.sl aY dQ true)],λ((x,()):EG)=>(bP x,Sp.enc x,())⟩
def jh:PA:=⟨22,[.v (.agg [.sl aA bK false,.sl aP dI false,.int .i64,.sl aX dA false])],[.one (.sl aY dQ true)],λ((x,()):EG)=>(bP x,Sp.enc x,())⟩
def xE:List iG:=[.v (.one (.sl aY dQ false))]
def Dk:List oI:=[.agg [.sl aA bK true,.sl aP dI true,.int .i64,.sl aX dA true],.one (.bool)]
def Ph:jy xE->Prop×mG Dk:=λ(l,())=>(zN l,(Sp.dec l).1,(Sp.dec l).2,())
def vI:EU:=iy xE Dk Ph
def xG:List iG:=[.v (.one (.sl aY dQ false))]
def Dl:List oI:=[.agg [.sl aA bK true,.sl aP dI true,.int .i64,.sl aX dA true],.one (.bool)]
def Pj:jy xG->Prop×mG Dl:=λ(l,())=>(zN l,(Sp.dec l).1,(Sp.dec l).2,())
def vJ:EU:=iy xG Dl Pj
def zO:PA:=⟨21,[.v (.one (.sl aY dQ false)),.v (.one (.sl aY dQ false))],[.one (.bool)],λ((a,b,()):oM×EF)=>(True,decide (a=b),())⟩
def rq:PA:=⟨65,[.v (.one (.sl aY dQ false)),.v (.one (.sl aY dQ false))],[.one (.bool)],λ((a,b,()):oM×EF)=>(True,decide (a=b),())⟩
def agm:PA:=⟨4,[.v (.one (.sl eF jZ false))],[.one (.bool)],λ(_,())=>(True,true,())⟩
def BB:PA:=⟨39,[.v (.one (.str))],[.one (.int .i64)],λ((s,()):eP)=>(s.length<=1048576,Sp.sumOf s,())⟩
def BD:PA:=⟨38,[.v (.one (.str))],[.one (.int .i64)],λ((s,()):eP)=>(s.length<=1048576,Sp.sumOf s,())⟩
def pJ:PA:=⟨37,[.v (.one (.int .i64)),.v (.agg [.sl aA bK false,.sl aP dI false,.int .i64,.sl aX dA false])],[.one (.str)],λ((n,x,()):Int×EG)=>(bP x,Sp.slot n x,())⟩
def rQ:PA:=⟨32,[.v (.one (.int .i64)),.v (.agg [.sl aA bK false,.sl aP dI false,.int .i64,.sl aX dA false])],[.one (.str)],λ((n,x,()):Int×EG)=>(bP x,Sp.slot n x,())⟩
def Ew:PA:=⟨88,[.v (.one (.str))],[.one (.sl aY dQ true)],λ((s,()):eP)=>(s.length<=1048576,qw s,())⟩
def x9:PA:=⟨35,[.v (.one (.str))],[.one (.int .i64),.agg [.sl aA bK true,.sl aP dI true,.int .i64,.sl aX dA true],.one (.bool)],λ((s,()):eP)=>(aG s,(au s).1,(au s).2.1,(au s).2.2,())⟩
def yc:PA:=⟨33,[.v (.one (.str))],[.one (.int .i64),.agg [.sl aA bK true,.sl aP dI true,.int .i64,.sl aX dA true],.one (.bool)],λ((s,()):eP)=>(aG s,(au s).1,(au s).2.1,(au s).2.2,())⟩
def um:PA:=⟨93,[.v (.agg [.str,.str])],[.one (.int .i64),.agg [.sl aA bK true,.sl aP dI true,.int .i64,.sl aX dA true],.one (.bool),.one (.bool)],λ(((a,b,()),()):QV)=>(aG a/\aG b,(Sp.latest a b).1,(Sp.latest a b).2.1,(Sp.latest a b).2.2.1,(Sp.latest a b).2.2.2,())⟩
def rU:PA:=⟨55,[.v (.agg [.str,.str])],[.one (.int .i64),.agg [.sl aA bK true,.sl aP dI true,.int .i64,.sl aX dA true],.one (.bool),.one (.bool)],λ(((a,b,()),()):QV)=>(aG a/\aG b,(Sp.latest a b).1,(Sp.latest a b).2.1,(Sp.latest a b).2.2.1,(Sp.latest a b).2.2.2,())⟩
def oq:PA:=⟨42,[.v (.agg [.str,.str])],[.one (.int .i64),.agg [.sl aA bK true,.sl aP dI true,.int .i64,.sl aX dA true],.one (.bool)],λ(((a,b,()),()):QV)=>(aG a/\aG b,(Sp.latest a b).1,(Sp.latest a b).2.1,(Sp.latest a b).2.2.1,())⟩
def ru:PA:=⟨11,[.v (.agg [.str,.str])],[.one (.int .i64),.agg [.sl aA bK true,.sl aP dI true,.int .i64,.sl aX dA true],.one (.bool)],λ(((a,b,()),()):QV)=>(aG a/\aG b,(Sp.latest a b).1,(Sp.latest a b).2.1,(Sp.latest a b).2.2.1,())⟩
def wP:PA:=⟨53,[.v (.agg [.str,.str]),.v (.agg [.sl aA bK false,.sl aP dI false,.int .i64,.sl aX dA false])],[.one (.str),.one (.bool)],λ(((a,b,()),x,()):adO)=>(aG a/\aG b/\bP x,dK a b x,!(Sp.latest a b).2.2.2,())⟩
def FQ:PA:=⟨94,[.v (.one (.int .i64)),.v (.one (.int .i64)),.v (.one (.int .i64))],[.one (.int .i64)],λ((n,lo,hi,()):Int×Int×gm)=>(lo<=hi,max lo (min n hi),())⟩
def FT:PA:=⟨54,[.v (.one (.int .i64)),.v (.one (.int .i64)),.v (.one (.int .i64))],[.one (.int .i64)],λ((n,lo,hi,()):Int×Int×gm)=>(lo<=hi,max lo (min n hi),())⟩
def uo:PA:=⟨41,[.v (.agg [.str,.str]),.v (.agg [.sl aA bK false,.sl aP dI false,.int .i64,.sl aX dA false]),.v (.one (.int .i64))],[.agg [.str,.str],.one (.bool)],λ(((a,b,()),x,k,()):adL)=>(aG a/\aG b/\bP x,(dZ a b x k).1,(dZ a b x k).2.1,())⟩
def zQ:PA:=⟨10,[.v (.agg [.str,.str]),.v (.agg [.sl aA bK false,.sl aP dI false,.int .i64,.sl aX dA false]),.v (.one (.int .i64))],[.agg [.str,.str],.one (.bool)],λ(((a,b,()),x,k,()):adL)=>(aG a/\aG b/\bP x,(dZ a b x k).1,(dZ a b x k).2.1,())⟩
def BF:PA:=⟨45,[.v (.agg [.str,.str]),.v (.agg [.sl aA bK false,.sl aP dI false,.int .i64,.sl aX dA false])],[.one (.int .i64)],λ(((a,b,()),x,()):adO)=>(aG a/\aG b/\bP x,((dK a b x).length:Int),())⟩
def BG:PA:=⟨44,[.v (.agg [.str,.str]),.v (.agg [.sl aA bK false,.sl aP dI false,.int .i64,.sl aX dA false])],[.one (.int .i64)],λ(((a,b,()),x,()):adO)=>(aG a/\aG b/\bP x,((dK a b x).length:Int),())⟩
def CV:XA:=⟨92,[.ptr [.sl eF jZ false,.int .i64,.int .i64]],[.agg [.c .str,.c .str]],λ(((_,i,_,()),()):gV)=>(0<=i,λ(z:QV×gV)=>0<=z.2.1.2.1/\aG z.1.1.1/\aG z.1.1.2.1)⟩
def oW:XA:=⟨40,[.p (.v (.one (.sl eF jZ false)))],[.agg [.c .str,.c .str],.agg [.c (.sl aA bK false),.c (.sl aP dI false),.c (.int .i64),.c (.sl aX dA false)],.one (.c (.int .i64))],λ((code,()):Dq)=>(code.length<=1048576,λ(z:adL×Unit)=>aG z.1.1.1/\aG z.1.1.2.1/\bP (z.1.2.1.1,z.1.2.1.2.1,z.1.2.1.2.2.1,z.1.2.1.2.2.2.1,()))⟩
def ve:XA:=⟨43,[.p (.v (.one (.sl eF jZ false)))],[.agg [.c .str,.c .str],.agg [.c (.sl aA bK false),.c (.sl aP dI false),.c (.int .i64),.c (.sl aX dA false)]],λ((code,()):Dq)=>(code.length<=1048576,λ(z:adO×Unit)=>aG z.1.1.1/\aG z.1.1.2.1/\bP (z.1.2.1.1,z.1.2.1.2.1,z.1.2.1.2.2.1,z.1.2.1.2.2.2.1,()))⟩
def BP:PA:=⟨6,[.v (.one (.sl eF jZ false))],[.one (.bool)],λ(_,())=>(True,true,())⟩
def QW[lN]:kR:=Iq [(vg,.eff (DT oQ) yI),dh.e,tN.e,nY.e]
def Ou[lN]:kR:=Iq [(yP,.pure uj),(rC,.pure vG),oh.e,lG.e]
def QX[lN]:kR:=Iq [(vw,.pure yM),lF.e,nS.e]
def QY[lN]:kR:=Iq [(vz,.eff (DT oV) yO),ja.e,kM.e,nS.e,lU.e]
end
end Go.Proofs.Tryz
