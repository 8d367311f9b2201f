import Derived.Test.YthkihdfanbmegaaGreatDoorN
import Derived.Test.YthkihdfanbmegaaGreatDoorSp
namespace Go.Proofs.Tryz
open Go Go.Fw Sp
abbrev dI:=List UInt8
abbrev lI:=dI×Unit
abbrev KW:=Int×Int×lI
abbrev Ty0:=dI×KW
abbrev fB:=Int×Unit
abbrev dn:=List fB
abbrev EO:=Int×fB
abbrev yu:=dn×EO
abbrev iL:=yu×Unit
abbrev lJ:=List Ty0
abbrev BO:=lJ×Unit
abbrev IW:=Int×Int×Bool×Int×BO
abbrev eY:=List (dI×fB)
abbrev jm:=List IW
abbrev adr:=Int×Int×Int×Ty0
abbrev lH:=List adr
abbrev A8:=lH×Unit
abbrev jS:=List (dI×A8)
abbrev jP:=dn×Unit
abbrev jO:=List (dI×jP)
abbrev mJ:=jO×Unit
abbrev FN:=eY×jm×Int×jS×mJ
abbrev qx:=eY×jm×fB
abbrev bP:=Bool×Unit
abbrev lK:=Unit×Unit
abbrev UQ:=Unit×yu×(Int×Int×Bool×Int×lK)×BO
abbrev rM:=KW×Unit
abbrev EP:=dn×jP
abbrev FO:=List (dI×EP)
abbrev Ba:=List lI
abbrev H8:=Ba×Unit
abbrev xJ:=H8×Unit
abbrev fF:=fB×Unit
abbrev fH:=fB×iL
abbrev Jm:=IW×Unit
abbrev zA:=Jm×Unit
abbrev yw:=A8×iL
abbrev BP:=(qx×Unit)×Unit
abbrev kV:=Unit×fB
abbrev lM:=jS×Unit
abbrev H9:=(jO×bP)×Unit
abbrev oG:=lI×iL
abbrev al2:=dn×bP
abbrev xK:=eY×Unit
abbrev KX:=(qx×Unit)×iL
abbrev Om:=Jm×iL
abbrev Za:=(jO×Int×bP)×Unit
abbrev BQ:=jP×Unit
abbrev ads:=(FN×FO×al2)×Unit
abbrev zB:=FN×Unit
abbrev UR:=(qx×al2)×Unit
abbrev FP:=jm×Unit
abbrev agv:=(qx×Int×bP)×Unit
abbrev adt:=(lI×Unit)×Unit
abbrev adu:=(FO×Unit)×Unit
abbrev Ia:=bP×iL
abbrev Oo:=adr×Unit
abbrev Oq:=al2×Unit
class qF where n:Nat
abbrev qf[qF]:Nat:=qF.n
noncomputable section
def vO:QA:=⟨29,[.p (.v (.one (.sl dZ jr false)))],[.sl dZ jr false,.int .i64,.int .i64],λ((code,()):jP)=>(code.length<=1048576,λ(z:yu)=>z.2.1=0)⟩
def CU:XA:=⟨79,[.ptr [.sl dZ jr false,.int .i64,.int .i64]],[.one (.c (.int .i64))],λ(((_,i,_,()),()):iL)=>(0<=i,λ(z:fH)=>0<=z.2.1.2.1/\0<=z.1.1/\z.1.1<=255)⟩
def bY:XA:=⟨30,[.ptr [.sl dZ jr false,.int .i64,.int .i64],.p (.v (.one (.int .i64)))],[.one (.c (.int .i64))],λ(((_,i,_,()),n,()):yu×fB)=>(0<=i,λ(z:fH)=>0<=z.2.1.2.1/\0<=z.1.1/\(0<n->z.1.1<n)/\(n<=0->z.1.1=0))⟩
def jQ:XA:=⟨46,[.ptr [.sl dZ jr false,.int .i64,.int .i64],.p (.v (.one (.int .i64)))],[.one (.c .bool)],λ(((_,i,_,()),_,()):yu×fB)=>(0<=i,λ(z:Ia)=>0<=z.2.1.2.1)⟩
def iI:XA:=⟨63,[.ptr [.sl dZ jr false,.int .i64,.int .i64],.p (.v (.one (.sl gW kH false)))],[.one (.c .str)],λ(((_,i,_,()),list,()):yu×H8)=>(0<=i/\list≠[],λ(z:oG)=>0<=z.2.1.2.1/\(z.1.1,())∈list)⟩
def iW:XA:=⟨49,[.ptr [.sl dZ jr false,.int .i64,.int .i64],.p (.v (.one (.sl dN iP false)))],[.one (.c (.int .i64))],λ(((_,i,_,()),list,()):yu×jP)=>(0<=i/\list≠[],λ(z:fH)=>0<=z.2.1.2.1/\(z.1.1,())∈list)⟩
def vV:XA:=⟨82,[],[.one (.own ax aV true)],λ(())=>(True,λ(z:xK×Unit)=>z.1.1=Sp.usual)⟩
def qg:XA:=⟨48,[.ptr [.sl dZ jr false,.int .i64,.int .i64]],[.one (.c .str)],λ(((_,i,_,()),()):iL)=>(0<=i,λ(z:oG)=>0<=z.2.1.2.1/\z.1.1.length<=1)⟩
def Af:XA:=⟨93,[.ptr [.sl dZ jr false,.int .i64,.int .i64]],[.one (.c (.sl ax aV true))],λ(((_,i,_,()),()):iL)=>(0<=i,λ(z:xK×iL)=>0<=z.2.1.2.1/\z.1.1.length<=6)⟩
def Bh:XA:=⟨115,[.ptr [.sl dZ jr false,.int .i64,.int .i64]],[.agg [.c (.int .i64),.c (.int .i64),.c .str]],λ(((_,i,_,()),()):iL)=>(0<=i,λ(z:rM×iL)=>0<=z.2.1.2.1/\z.1.1.2.2.1.length<=10)⟩
def vP:XA:=⟨62,[.ptr [.sl dZ jr false,.int .i64,.int .i64]],[.agg [.c (.int .i64),.c (.int .i64),.c .str]],λ(((_,i,_,()),()):iL)=>(0<=i,λ(z:rM×iL)=>0<=z.2.1.2.1/\z.1.1.2.2.1.length<=10)⟩
def oJ:PA:=⟨7,[.v (.one (.int .i64))],[.agg [.int .i64,.int .i64,.str]],λ((n,()):fB)=>(True,(1,n,[],()),())⟩
def iD:PA:=⟨47,[.v (.one (.str))],[.agg [.int .i64,.int .i64,.str]],λ((w,()):lI)=>(True,(2,0,w,()),())⟩
def jv:PA:=⟨56,[.v (.one (.int .i64)),.v (.one (.int .i64)),.v (.one (.int .i64))],[.one (.bool)],λ((x,a,b,()):Int×EO)=>(True,(decide (a<=x)&&decide (x<=b)),())⟩
def kQ:PA:=⟨99,[.v (.one (.int .i64)),.v (.one (.int .i64)),.v (.one (.int .i64))],[.one (.bool)],λ((x,a,b,()):Int×EO)=>(True,(decide (a<=x)&&decide (x<=b)),())⟩
def yx:PA:=⟨156,[.v (.one (.str)),.v (.one (.int .i64))],[.one (.bool)],λ((s,m,()):dI×fB)=>(True,(Sp.lower s&&decide (1<=(s.length:Int))&&decide ((s.length:Int)<=m)),())⟩
def kW:PA:=⟨119,[.v (.one (.str))],[.one (.bool)],λ((s,()):lI)=>(True,fO s,())⟩
def kX:PA:=⟨116,[.v (.one (.str))],[.one (.bool)],λ((s,()):lI)=>(True,fO s,())⟩
def mg:PA:=⟨69,[.v (.agg [.int .i64,.int .i64,.str])],[.one (.bool)],λ(((k,n,s,()),()):rM)=>(True,dA k n s,())⟩
def mr:PA:=⟨64,[.v (.agg [.int .i64,.int .i64,.str])],[.one (.bool)],λ(((k,n,s,()),()):rM)=>(True,dA k n s,())⟩
def mM:PA:=⟨124,[.v (.one (.str))],[.one (.bool)],λ((s,()):lI)=>(True,jd s,())⟩
def mO:PA:=⟨142,[.v (.one (.str))],[.one (.bool)],λ((s,()):lI)=>(True,jd s,())⟩
def uh:PA:=⟨55,[.v (.one (.sl ax aV false)),.v (.one (.str))],[.one (.int .i64)],λ((fs,s,()):eY×lI)=>(True,Sp.kindOf fs s,())⟩
def uj:PA:=⟨26,[.v (.one (.sl ax aV false)),.v (.one (.str))],[.one (.int .i64)],λ((fs,s,()):eY×lI)=>(True,Sp.kindOf fs s,())⟩
def oK:PA:=⟨77,[.v (.one (.sl ax aV false))],[.one (.bool)],λ((fs,()):xK)=>(True,dF fs,())⟩
def oL:PA:=⟨98,[.v (.one (.sl ax aV false))],[.one (.bool)],λ((fs,()):xK)=>(True,dF fs,())⟩
def sD:PA:=⟨123,[.v (.one (.sl ax aV false)),.v (.one (.str)),.v (.agg [.int .i64,.int .i64,.str])],[.one (.bool)],λ((fs,s,(k,n,w,()),()):eY×dI×rM)=>(True,fZ fs s k n w,())⟩
def sF:PA:=⟨140,[.v (.one (.sl ax aV false)),.v (.one (.str)),.v (.agg [.int .i64,.int .i64,.str])],[.one (.bool)],λ((fs,s,(k,n,w,()),()):eY×dI×rM)=>(True,fZ fs s k n w,())⟩
def qG:PA:=⟨76,[.v (.one (.sl ax aV false)),.v (.agg [.int .i64,.int .i64,.bool,.int .i64,.sl aT bV false])],[.one (.bool)],λ((fs,f,()):eY×Jm)=>(True,dm fs f,())⟩
def vW:PA:=⟨97,[.v (.one (.sl ax aV false)),.v (.agg [.int .i64,.int .i64,.bool,.int .i64,.sl aT bV false])],[.one (.bool)],λ((fs,f,()):eY×Jm)=>(True,dm fs f,())⟩
def iT:PA:=⟨27,[.v (.agg [.sl ax aV false,.sl aH bH false,.int .i64])],[.one (.bool)],λ((s,()):qx×Unit)=>(True,ak s,())⟩
def pV:PA:=⟨51,[.v (.agg [.sl ax aV false,.sl aH bH false,.int .i64])],[.one (.bool)],λ((s,()):qx×Unit)=>(True,ak s,())⟩
def xQ:PA:=⟨72,[.v (.one (.sl ax aV false)),.v (.one (.sl ax aV false))],[.one (.bool)],λ((a,b,()):eY×xK)=>(True,decide (a=b),())⟩
def zC:PA:=⟨158,[.v (.one (.sl aT bV false)),.v (.one (.sl aT bV false))],[.one (.bool)],λ((a,b,()):lJ×BO)=>(True,decide (a=b),())⟩
def Bj:PA:=⟨121,[.v (.agg [.int .i64,.int .i64,.bool,.int .i64,.sl aT bV false]),.v (.agg [.int .i64,.int .i64,.bool,.int .i64,.sl aT bV false])],[.one (.bool)],λ((a,b,()):IW×Jm)=>(True,decide (a=b),())⟩
def zD:PA:=⟨73,[.v (.one (.sl aH bH false)),.v (.one (.sl aH bH false))],[.one (.bool)],λ((a,b,()):jm×FP)=>(True,decide (a=b),())⟩
def um:PA:=⟨21,[.v (.agg [.sl ax aV false,.sl aH bH false,.int .i64]),.v (.agg [.sl ax aV false,.sl aH bH false,.int .i64])],[.one (.bool)],λ((a,b,()):qx×qx×Unit)=>(True,decide (a=b),())⟩
def tK:PA:=⟨81,[.v (.agg [.int .i64,.int .i64,.bool,.int .i64,.sl aT bV false])],[.agg [.int .i64,.int .i64,.bool,.int .i64,.sl aT bV true]],λ((f,()):Jm)=>(jl f,f,())⟩
def Bl:PA:=⟨102,[.v (.agg [.int .i64,.int .i64,.bool,.int .i64,.sl aT bV false])],[.agg [.int .i64,.int .i64,.bool,.int .i64,.sl aT bV false]],λ((f,()):Jm)=>(jl f,f,())⟩
def Ew:PA:=⟨141,[.v (.one (.int .i64))],[.one (.bool)],λ((u,()):fB)=>(True,(decide (0<=u)&&decide (u<=2)),())⟩
def vX:PA:=⟨122,[.v (.agg [.sl ax aV false,.sl aH bH false,.int .i64]),.v (.one (.int .i64))],[.one (.int .i64)],λ(((_,fs,_,()),id,()):qx×fB)=>(True,Sp.place fs id,())⟩
def oD:PA:=⟨95,[.v (.one (.sl ax aV false))],[.one (.sl ax aV false)],λ((l,()):xK)=>(l.length<=1000,l,())⟩
def oM:PA:=⟨144,[.v (.one (.sl aT bV false))],[.one (.sl aT bV false)],λ((l,()):BO)=>(l.length<=1000,l,())⟩
def tN:XA:=⟨37,[.p (.v (.agg [.int .i64,.int .i64,.bool,.int .i64,.sl aT bV false])),.p (.v (.one (.str))),.p (.v (.agg [.int .i64,.int .i64,.str]))],[.agg [.c (.int .i64),.c (.int .i64),.c .bool,.c (.int .i64),.own aT bV true]],λ(((i,o,s,l,a,()),name,(k,n,w,()),()):IW×dI×rM)=>(a.length<=1000,λ(z:zA)=>z.1.1.1=i/\z.1.1.2.1=o/\z.1.1.2.2.1=s/\z.1.1.2.2.2.1=l/\z.1.1.2.2.2.2.1=dO a name k n w)⟩
def qh:XA:=⟨94,[.ptr [.sl dZ jr false,.int .i64,.int .i64],.p (.v (.one (.int .i64)))],[.agg [.c (.int .i64),.c (.int .i64),.c .bool,.c (.int .i64),.own aT bV true]],λ(((_,i,_,()),id,()):yu×fB)=>(0<=i,λ(z:Om)=>0<=z.2.1.2.1/\z.1.1.1=id/\0<=z.1.1.2.1/\z.1.1.2.1<=2/\0<=z.1.1.2.2.2.1/\z.1.1.2.2.2.1<=6/\ja Sp.usual z.1.1.2.2.2.2.1=true/\z.1.1.2.2.2.2.1.length<=4)⟩
def Ag:XA:=⟨92,[.ptr [.sl dZ jr false,.int .i64,.int .i64]],[.agg [.c (.int .i64),.c (.int .i64),.c .bool,.c (.int .i64),.c (.sl aT bV true)]],λ(((_,i,_,()),()):iL)=>(0<=i,λ(z:Om)=>0<=z.2.1.2.1/\z.1.1.2.2.2.2.1.length<=10)⟩
def Bo:XA:=⟨35,[.p (.v (.one (.sl ax aV false)))],[.agg [.own ax aV true,.own aH bH true,.c (.int .i64)]],λ((s,()):xK)=>(s.length<=1000,λ(z:BP)=>z.1.1.1=s/\z.1.1.2.1=[]/\z.1.1.2.2.1=1)⟩
def nU:XA:=⟨32,[.p (.v (.agg [.sl ax aV false,.sl aH bH false,.int .i64]))],[.agg [.own ax aV true,.own aH bH true,.c (.int .i64)]],λ((s,()):qx×Unit)=>(aU s,λ(z:BP)=>(z.1.1.1,z.1.1.2.1,z.1.1.2.2.1,())=s)⟩
def o7:XA:=⟨34,[.p (.v (.agg [.sl ax aV false,.sl aH bH false,.int .i64])),.p (.v (.agg [.int .i64,.int .i64,.bool,.int .i64,.sl aT bV false]))],[.agg [.own ax aV true,.own aH bH true,.c (.int .i64)],.one (.c (.int .i64)),.one (.c .bool)],λ((s,f,()):qx×Jm)=>(aU s/\jl f,λ(z:agv)=>z.1.1.1=(bJ s f).1.1/\z.1.1.2.1=(bJ s f).1.2.1/\z.1.1.2.2.1=(bJ s f).1.2.2.1/\z.1.2.1=(bJ s f).2.1/\z.1.2.2.1=(bJ s f).2.2)⟩
def xR:XA:=⟨139,[.p (.v (.agg [.sl ax aV false,.sl aH bH false,.int .i64])),.p (.v (.one (.int .i64)))],[.agg [.own ax aV true,.own aH bH true,.c (.int .i64)],.one (.c .bool)],λ((s,id,()):qx×fB)=>(aU s,λ(z:(qx×bP)×Unit)=>z.1.1.1=(fA s id).1.1/\z.1.1.2.1=(fA s id).1.2.1/\z.1.1.2.2.1=(fA s id).1.2.2.1/\z.1.2.1=(fA s id).2)⟩
def qW:XA:=⟨91,[.ptr [.sl dZ jr false,.int .i64,.int .i64]],[.agg [.own ax aV true,.own aH bH true,.c (.int .i64)]],λ(((_,i,_,()),()):iL)=>(0<=i,λ(z:KX)=>0<=z.2.1.2.1/\z.1.1.1=Sp.usual/\ak (z.1.1.1,z.1.1.2.1,z.1.1.2.2.1,())=true/\z.1.1.2.2.1<=z.1.1.2.1.length+2/\aU (z.1.1.1,z.1.1.2.1,z.1.1.2.2.1,())/\0<z.1.1.2.1.length)⟩
def Ey:XA:=⟨45,[.ptr [.sl dZ jr false,.int .i64,.int .i64]],[.agg [.c (.sl ax aV false),.c (.sl aH bH false),.c (.int .i64)]],λ(((_,i,_,()),()):iL)=>(0<=i,λ(z:KX)=>0<=z.2.1.2.1/\aU (z.1.1.1,z.1.1.2.1,z.1.1.2.2.1,())/\∀f∈z.1.1.2.1,f.2.2.2.2.1.length<=400)⟩
def JU:PA:=⟨5,[.v (.one (.sl dZ jr false))],[.one (.bool)],λ((code,()):jP)=>(True,decide (1048576<(code.length:Int)),())⟩
def uo:XA:=⟨96,[.p (.v (.one (.sl aH bH false)))],[.one (.own aH bH false)],λ((l,()):FP)=>(l.length<=1000/\∀f∈l,jl f,λ(z:FP×Unit)=>z.1.1=l)⟩
def uq:XA:=⟨50,[.p (.v (.agg [.sl ax aV false,.sl aH bH false,.int .i64]))],[.agg [.c (.sl ax aV false),.own aH bH false,.c (.int .i64)]],λ((s,()):qx×Unit)=>(aU s,λ(z:BP)=>(z.1.1.1,z.1.1.2.1,z.1.1.2.2.1,())=s)⟩
def xU:XA:=⟨192,[.ptr [.sl dZ jr false,.int .i64,.int .i64]],[.one (.c .str)],λ(((_,i,_,()),()):iL)=>(0<=i,λ(z:oG)=>0<=z.2.1.2.1/\z.1.1.length<=10)⟩
def tV:XA:=⟨173,[.ptr [.sl dZ jr false,.int .i64,.int .i64]],[.agg [.c (.int .i64),.c (.int .i64),.c (.int .i64),.c .str,.c (.int .i64),.c (.int .i64),.c .str]],λ(((_,i,_,()),()):iL)=>(0<=i,λ(z:Oo×iL)=>0<=z.2.1.2.1/\True)⟩
def FQ:List fV:=[.ptr [.sl dZ jr false,.int .i64,.int .i64],.own bC iY,.p (.v (.one (.int .i64))),.p (.v (.one (.bool)))]
def KY:List pW:=[.one (.own bC iY false)]
def Pe:jq FQ->Prop×(lT KY×kY FQ->Prop):=λ((_,i,_,()),q,deep,_,())=>(0<=i/\0<=deep/\deep<=4/\q.length+2*deep.toNat<=900,λ((r,()),((_,i',_,()),()))=>0<=i'/\q.length<r.length/\r.length<=q.length+2*deep.toNat+1)
def Zb:FT:=pK FQ KY Pe
def oN:List fV:=[.ptr [.sl dZ jr false,.int .i64,.int .i64],.own bC iY,.p (.v (.one (.int .i64))),.p (.v (.one (.bool)))]
def E5:List pW:=[.one (.own bC iY false)]
def Hf[qF]:jq oN->Prop×(lT E5×kY oN->Prop):=λ((_,i,_,()),q,deep,_,())=>((0<=i/\0<=deep/\deep<=4/\q.length+2*deep.toNat<=900)/\deep.toNat<qf,λ((r,()),((_,i',_,()),()))=>0<=i'/\q.length<r.length/\r.length<=q.length+2*deep.toNat+1)
def yA[qF]:FT:=pK oN E5 Hf
def qX:List fV:=[.ptr [.sl dZ jr false,.int .i64,.int .i64],.own bC iY,.p (.v (.one (.int .i64))),.p (.v (.one (.bool)))]
def D5:List pW:=[.one (.own bC iY false)]
def sG[qF]:jq qX->Prop×(lT D5×kY qX->Prop):=λ((_,i,_,()),q,deep,_,())=>((0<=i/\0<=deep/\deep<=4/\q.length+2*deep.toNat<=900)/\deep.toNat<qf+1,λ((r,()),((_,i',_,()),()))=>0<=i'/\q.length<r.length/\r.length<=q.length+2*deep.toNat+1)
def D6[qF]:FT:=pK qX D5 sG
def oO:List fV:=[.ptr [.sl dZ jr false,.int .i64,.int .i64],.p (.v (.one .nil)),.p (.v (.one (.int .i64))),.p (.v (.one (.bool)))]
def E8:List pW:=[.one (.own bC iY false)]
def Hg:jq oO->Prop×(lT E8×kY oO->Prop):=λ((_,i,_,()),(),deep,_,())=>(0<=i/\0<=deep/\deep<=4,λ((r,()),((_,i',_,()),()))=>0<=i'/\0<r.length/\r.length<=0+2*deep.toNat+1)
def yB:FT:=pK oO E8 Hg
def vY:XA:=⟨150,[.ptr [.sl dZ jr false,.int .i64,.int .i64]],[.one (.own bC iY false)],λ(((_,i,_,()),()):iL)=>(0<=i,λ(z:yw)=>0<=z.2.1.2.1/\0<z.1.1.length/\z.1.1.length<=9)⟩
def jY:XA:=⟨150,[.ptr [.sl dZ jr false,.int .i64,.int .i64]],[.one (.c (.sl bC iY false))],λ(((_,i,_,()),()):iL)=>(0<=i,λ(z:yw)=>0<=z.2.1.2.1/\0<z.1.1.length/\z.1.1.length<=9)⟩
def Ez:XA:=⟨149,[.ptr [.sl dZ jr false,.int .i64,.int .i64]],[.one (.c (.sl bC iY false))],λ(((_,i,_,()),()):iL)=>(0<=i,λ(z:yw)=>0<=z.2.1.2.1/\z.1.1.length<=10)⟩
def yC:XA:=⟨148,[.ptr [.sl dZ jr false,.int .i64,.int .i64]],[.one (.own aQ gu false)],λ(((_,i,_,()),()):iL)=>(0<=i,λ(z:lM×iL)=>0<=z.2.1.2.1/\0<z.1.1.length/\z.1.1.length<=4/\aX z.1.1)⟩
def EC:XA:=⟨110,[.ptr [.sl dZ jr false,.int .i64,.int .i64]],[.one (.c (.sl aQ gu false))],λ(((_,i,_,()),()):iL)=>(0<=i,λ(z:lM×iL)=>0<=z.2.1.2.1/\z.1.1.length<=10/\aX z.1.1)⟩
def CV:XA:=⟨147,[.ptr [.sl dZ jr false,.int .i64,.int .i64]],[.one (.c (.sl aQ gu false))],λ(((_,i,_,()),()):iL)=>(0<=i,λ(z:lM×iL)=>0<=z.2.1.2.1/\z.1.1.length<=10/\aX z.1.1/\au z.1.1=true/\0<z.1.1.length)⟩
def vZ:PA:=⟨199,[.v (.agg [.int .i64,.int .i64,.int .i64,.str,.int .i64,.int .i64,.str]),.v (.one (.int .i64))],[.one (.bool)],λ(((o,l,r,nm,vk,vi,vs,()),at',()):adr×fB)=>(True,jH (o,l,r,nm,vk,vi,vs,()) at',())⟩
def wo:PA:=⟨204,[.v (.agg [.int .i64,.int .i64,.int .i64,.str,.int .i64,.int .i64,.str]),.v (.one (.int .i64))],[.one (.bool)],λ(((o,l,r,nm,vk,vi,vs,()),at',()):adr×fB)=>(True,jH (o,l,r,nm,vk,vi,vs,()) at',())⟩
def qy:PA:=⟨200,[.v (.one (.sl bC iY false)),.v (.one (.int .i64))],[.one (.int .i64)],λ((q,at',()):lH×fB)=>(q.length<=1000000,(lU q at':Int),())⟩
def qA:PA:=⟨205,[.v (.one (.sl bC iY false)),.v (.one (.int .i64))],[.one (.int .i64)],λ((q,at',()):lH×fB)=>(q.length<=1000000,(lU q at':Int),())⟩
def mD:PA:=⟨179,[.v (.one (.sl bC iY false))],[.one (.bool)],λ((q,()):A8)=>(q.length<=1000000,bF q,())⟩
def mF:PA:=⟨187,[.v (.one (.sl bC iY false))],[.one (.bool)],λ((q,()):A8)=>(q.length<=1000000,bF q,())⟩
def wu:PA:=⟨159,[.v (.one (.sl aQ gu false))],[.one (.bool)],λ((d,()):lM)=>(aX d,gy d,())⟩
def wz:PA:=⟨164,[.v (.one (.sl aQ gu false))],[.one (.bool)],λ((d,()):lM)=>(aX d,gy d,())⟩
def Bq:PA:=⟨209,[.v (.agg [.int .i64,.int .i64,.int .i64,.str,.int .i64,.int .i64,.str])],[.one (.bool)],λ(((o,_,_,_,_,_,_,()),()):Oo)=>(True,(o==8||o==9),())⟩
def uQ:PA:=⟨220,[.v (.one (.sl bC iY false))],[.one (.sl aaU R_4 true)],λ((q,()):A8)=>(q.length<=1000,Sp.negated q,())⟩
def uS:PA:=⟨208,[.v (.one (.sl bC iY false))],[.one (.sl aaU R_4 true)],λ((q,()):A8)=>(q.length<=1000,Sp.negated q,())⟩
def qH:List fV:=[.p (.v (.one (.sl gW kH false)))]
def Bc:List pW:=[.one (.c (.sl gW kH true))]
def JF:jq qH->Prop×(lT Bc×kY qH->Prop):=λ(l,())=>(l.length<=1000,λ((r,()),())=>r.length<=l.length/\∀s,s∈r↔s∈l)
def Bd:FT:=pK qH Bc JF
def uw:XA:=⟨189,[.p (.v (.one (.sl bC iY false))),.p (.v (.one (.bool)))],[.one (.c (.sl gW kH true))],λ((q,neg,()):lH×bP)=>(q.length<=1000,λ(z:xJ)=>iV z.1.1 (eU q neg))⟩
def uT:XA:=⟨166,[.p (.v (.one (.sl bC iY false)))],[.one (.c (.sl gW kH true))],λ((q,()):A8)=>(q.length<=1000,λ(z:xJ)=>iV z.1.1 (eU q false))⟩
def uU:XA:=⟨167,[.p (.v (.one (.sl bC iY false)))],[.one (.c (.sl gW kH true))],λ((q,()):A8)=>(q.length<=1000,λ(z:xJ)=>iV z.1.1 (eU q true))⟩
def ED:PA:=⟨221,[.v (.one (.sl gW kH false)),.v (.one (.str))],[.one (.sl gW kH false)],λ((l,s,()):Ba×lI)=>(l.length<=1000,ER l s,())⟩
def wB:XA:=⟨201,[.p (.v (.one (.sl bC iY false))),.p (.v (.one (.bool)))],[.one (.c (.sl gW kH true))],λ((q,neg,()):lH×bP)=>(q.length<=1000,λ(z:xJ)=>iV z.1.1 (eU q neg))⟩
def uV:XA:=⟨180,[.p (.v (.one (.sl bC iY false)))],[.one (.c (.sl gW kH true))],λ((q,()):A8)=>(q.length<=1000,λ(z:xJ)=>iV z.1.1 (eU q false))⟩
def uX:XA:=⟨182,[.p (.v (.one (.sl bC iY false)))],[.one (.c (.sl gW kH true))],λ((q,()):A8)=>(q.length<=1000,λ(z:xJ)=>iV z.1.1 (eU q true))⟩
def yD:PA:=⟨207,[.v (.agg [.str,.sl bC iY false]),.kp [.str]],[.one (.bool)],λ(((nm,_,()),name,()):(dI×A8)×lI×Unit)=>(True,(nm==name.1),())⟩
def ig:PA:=⟨206,[.v (.one (.sl aQ gu false)),.fn 207 [[.str]]],[.one (.int .i64)],λ((d,((name,()),()),()):jS×adt)=>(True,aJ d name,())⟩
def FU:PA:=⟨188,[.v (.one (.sl aQ gu false)),.v (.one (.str))],[.one (.int .i64)],λ((d,name,()):jS×lI)=>(True,aJ d name,())⟩
def Bz:PA:=⟨181,[.v (.one (.sl aQ gu false)),.v (.one (.str))],[.one (.int .i64)],λ((d,name,()):jS×lI)=>(True,aJ d name,())⟩
def wC:PA:=⟨165,[.v (.one (.sl aQ gu false)),.v (.one (.sl dN iP false)),.v (.one (.sl gW kH false)),.v (.one (.int .i64))],[.one (.int .i64)],λ((d,ay,names,more,()):jS×dn×Ba×fB)=>(d.length<=ay.length/\names.length<=1000/\0<=more/\more<=1/\∀x∈ay,0<=x.1/\x.1<=1000000,wE d ay more names,())⟩
def Ah:XA:=⟨134,[.p (.v (.one (.sl aQ gu false)))],[.one (.c (.sl dN iP true)),.one (.c .bool)],λ((d,()):lM)=>(aX d,λ(z:Oq)=>z.1.2.1=au d/\(z.1.2.1=true->jL d z.1.1))⟩
def qY:XA:=⟨160,[.p (.v (.one (.sl aQ gu false))),.p (.v (.one (.sl dN iP false)))],[.one (.own dN iP true)],λ((d,ay,()):jS×jP)=>(aX d/\d.length<=5/\ay.length=d.length/\∀x∈ay,0<=x.1/\x.1<=1000000,λ(z:BQ)=>Sp.raised d ay z.1.1)⟩
def qi:PA:=⟨131,[.v (.one (.sl dN iP false)),.v (.one (.sl dN iP false))],[.one (.bool)],λ((a,b,()):EP)=>(True,decide (a=b),())⟩
def rO:XA:=⟨128,[.p (.v (.one (.sl aQ gu false)))],[.one (.c (.sl dN iP true)),.one (.c .bool)],λ((d,()):lM)=>(aX d,λ(z:Oq)=>z.1.2.1=au d/\(z.1.2.1=true->jL d z.1.1)/\(z.1.2.1=false->z.1.1=[]))⟩
def uY:PA:=⟨172,[.v (.one (.sl aQ gu false))],[.one (.bool)],λ((d,()):lM)=>(aX d,au d,())⟩
def oP:PA:=⟨162,[.v (.one (.sl bC iY false))],[.one (.sl bC iY false)],λ((l,()):A8)=>(l.length<=1000,l,())⟩
def CW:PA:=⟨132,[.v (.agg [.str,.sl bC iY false])],[.agg [.str,.sl bC iY false]],λ(((n,q,()),()):(dI×A8)×Unit)=>(q.length<=1000,(n,q,()),())⟩
def wF:PA:=⟨83,[.v (.one (.sl aQ gu false))],[.one (.sl aQ gu false)],λ((d,()):lM)=>(aX d,d,())⟩
def yE:PA:=⟨33,[.v (.one (.sl aQ gu false))],[.one (.sl aQ gu true)],λ((d,()):lM)=>(aX d,d,())⟩
def zF:PA:=⟨138,[.v (.one (.sl bC iY false)),.v (.one (.sl bC iY false))],[.one (.bool)],λ((a,b,()):lH×A8)=>(True,decide (a=b),())⟩
def CX:PA:=⟨89,[.v (.agg [.str,.sl bC iY false]),.v (.agg [.str,.sl bC iY false])],[.one (.bool)],λ((a,b,()):(dI×A8)×(dI×A8)×Unit)=>(True,decide (a=b),())⟩
def BA:PA:=⟨43,[.v (.one (.sl aQ gu false)),.v (.one (.sl aQ gu false))],[.one (.bool)],λ((a,b,()):jS×lM)=>(True,decide (a=b),())⟩
def qj:PA:=⟨53,[.v (.agg [.int .i64,.int .i64,.bool,.int .i64,.sl aT bV false]),.v (.one (.str))],[.agg [.int .i64,.int .i64,.str]],λ(((_,_,_,_,a,()),name,()):IW×lI)=>(True,aF a name,())⟩
def ql:PA:=⟨24,[.v (.agg [.int .i64,.int .i64,.bool,.int .i64,.sl aT bV false]),.v (.one (.str))],[.agg [.int .i64,.int .i64,.str]],λ(((_,_,_,_,a,()),name,()):IW×lI)=>(True,aF a name,())⟩
def yF:PA:=⟨211,[.v (.agg [.int .i64,.int .i64,.bool,.int .i64,.sl aT bV false]),.v (.one (.str))],[.one (.int .i64),.one (.bool)],λ(((_,_,_,_,a,()),name,()):IW×lI)=>(True,(bif (aF a name).1==1 then(aF a name).2.1 else 0),((aF a name).1==1),())⟩
def wG:PA:=⟨203,[.v (.one (.sl dN iP false)),.v (.one (.int .i64))],[.one (.int .i64)],λ((s,v,()):dn×fB)=>(True,Sp.findAt (λx=>x.1==v) s,())⟩
def nV:PA:=⟨186,[.v (.one (.sl dN iP false)),.v (.one (.int .i64))],[.one (.bool)],λ((s,v,()):dn×fB)=>(True,eF s v,())⟩
def qZ:PA:=⟨168,[.v (.one (.sl gW kH false)),.v (.one (.str))],[.one (.int .i64)],λ((s,v,()):Ba×lI)=>(True,Sp.findAt (λx=>x.1==v) s,())⟩
def oQ:PA:=⟨135,[.v (.one (.sl gW kH false)),.v (.one (.str))],[.one (.bool)],λ((s,v,()):Ba×lI)=>(True,gm s v,())⟩
def rX:PA:=⟨212,[.v (.one (.sl dN iP false)),.v (.one (.int .i64))],[.one (.bool)],λ((s,v,()):dn×fB)=>(True,eF s v,())⟩
def o8:PA:=⟨175,[.v (.one (.sl dN iP false)),.v (.one (.int .i64))],[.one (.bool)],λ((s,v,()):dn×fB)=>(True,eF s v,())⟩
def qI:PA:=⟨88,[.v (.one (.sl dN iP false))],[.one (.sl dN iP false)],λ((l,()):jP)=>(l.length<=1000,l,())⟩
def nN:PA:=⟨42,[.v (.one (.sl aC bD false)),.v (.one (.str))],[.one (.sl dN iP false)],λ((r,name,()):jO×lI)=>(aY r,eG r name,())⟩
def nO:PA:=⟨151,[.v (.one (.sl aC bD false)),.v (.one (.str))],[.one (.sl dN iP true)],λ((r,name,()):jO×lI)=>(aY r,eG r name,())⟩
def JG:List iq:=[.v (.one (.sl bC iY false)),.v (.one (.int .i64)),.v (.agg [.int .i64,.int .i64,.bool,.int .i64,.sl aT bV false]),.v (.one (.sl aC bD false))]
def IX:List pF:=[.one (.bool)]
def Zc:jZ JG->Prop×qB IX:=λ(q,at',(i,o,s,l,a,()),r,())=>(bF q=true/\0<=at'/\at'<q.length/\aY r,Sp.val q (i,o,s,l,a,()) (bg r) at'.toNat,())
def IY:KZ:=vH JG IX Zc
def D7:List iq:=[.v (.one (.sl bC iY false)),.v (.one (.int .i64)),.v (.agg [.int .i64,.int .i64,.bool,.int .i64,.sl aT bV false]),.v (.one (.sl aC bD false))]
def DF:List pF:=[.one (.bool)]
def Fa[qF]:jZ D7->Prop×qB DF:=λ(q,at',(i,o,s,l,a,()),r,())=>((bF q=true/\0<=at'/\at'<q.length/\aY r)/\at'.toNat<qf,Sp.val q (i,o,s,l,a,()) (bg r) at'.toNat,())
def vI[qF]:KZ:=vH D7 DF Fa
def vJ:List iq:=[.v (.one (.sl bC iY false)),.v (.one (.int .i64)),.v (.agg [.int .i64,.int .i64,.bool,.int .i64,.sl aT bV false]),.v (.one (.sl aC bD false))]
def BR:List pF:=[.one (.bool)]
def D8[qF]:jZ vJ->Prop×qB BR:=λ(q,at',(i,o,s,l,a,()),r,())=>((bF q=true/\0<=at'/\at'<q.length/\aY r)/\at'.toNat<qf+1,Sp.val q (i,o,s,l,a,()) (bg r) at'.toNat,())
def BU[qF]:KZ:=vH vJ BR D8
def Nv:List iq:=[.v (.one (.sl bC iY false)),.v (.one (.int .i64)),.v (.agg [.int .i64,.int .i64,.bool,.int .i64,.sl aT bV false]),.v (.one (.sl aC bD false))]
def La:List pF:=[.one (.bool)]
def adv:jZ Nv->Prop×qB La:=λ(q,at',(i,o,s,l,a,()),r,())=>(bF q=true/\0<=at'/\at'<q.length/\aY r,Sp.val q (i,o,s,l,a,()) (bg r) at'.toNat,())
def Lc:KZ:=vH Nv La adv
def FV:List iq:=[.v (.one (.sl bC iY false)),.v (.one (.int .i64)),.v (.agg [.int .i64,.int .i64,.bool,.int .i64,.sl aT bV false]),.v (.one (.sl aC bD false))]
def Fb:List pF:=[.one (.bool)]
def Hl[qF]:jZ FV->Prop×qB Fb:=λ(q,at',(i,o,s,l,a,()),r,())=>((bF q=true/\0<=at'/\at'<q.length/\aY r)/\at'.toNat<qf,Sp.val q (i,o,s,l,a,()) (bg r) at'.toNat,())
def yG[qF]:KZ:=vH FV Fb Hl
def yH:List iq:=[.v (.one (.sl bC iY false)),.v (.one (.int .i64)),.v (.agg [.int .i64,.int .i64,.bool,.int .i64,.sl aT bV false]),.v (.one (.sl aC bD false))]
def D9:List pF:=[.one (.bool)]
def FW[qF]:jZ yH->Prop×qB D9:=λ(q,at',(i,o,s,l,a,()),r,())=>((bF q=true/\0<=at'/\at'<q.length/\aY r)/\at'.toNat<qf+1,Sp.val q (i,o,s,l,a,()) (bg r) at'.toNat,())
def Ea[qF]:KZ:=vH yH D9 FW
def CY:PA:=⟨170,[.v (.one (.sl bC iY false)),.v (.agg [.int .i64,.int .i64,.bool,.int .i64,.sl aT bV false]),.v (.one (.sl aC bD false))],[.one (.bool)],λ((q,f,r,()):lH×IW×mJ)=>(q.length<=1000/\aY r,lN q f (bg r),())⟩
def CZ:PA:=⟨161,[.v (.one (.sl bC iY false)),.v (.agg [.int .i64,.int .i64,.bool,.int .i64,.sl aT bV false]),.v (.one (.sl aC bD false))],[.one (.bool)],λ((q,f,r,()):lH×IW×mJ)=>(q.length<=1000/\aY r,lN q f (bg r),())⟩
def wH:PA:=⟨137,[.v (.agg [.sl ax aV false,.sl aH bH false,.int .i64]),.v (.one (.sl bC iY false)),.v (.one (.sl aC bD false))],[.one (.sl dN iP true)],λ((s,q,r,()):qx×lH×mJ)=>(aU s/\q.length<=1000/\aY r,Sp.sel s.2.1 q (bg r),())⟩
def qJ:PA:=⟨130,[.v (.agg [.sl ax aV false,.sl aH bH false,.int .i64]),.v (.one (.sl bC iY false)),.v (.one (.sl aC bD false))],[.one (.sl dN iP true)],λ((s,q,r,()):qx×lH×mJ)=>(aU s/\q.length<=1000/\aY r,Sp.sel s.2.1 q (bg r),())⟩
def qK:PA:=⟨127,[.v (.one (.sl dN iP false)),.v (.one (.sl dN iP false))],[.one (.bool)],λ((a,b,()):EP)=>(True,decide (a=b),())⟩
def nX:PA:=⟨126,[.v (.agg [.str,.sl dN iP false]),.v (.agg [.str,.sl dN iP false])],[.one (.bool)],λ((a,b,()):(dI×jP)×(dI×jP)×Unit)=>(True,decide (a=b),())⟩
def dP:PA:=⟨125,[.v (.one (.sl aC bD false)),.v (.one (.sl aC bD false)),.fn 126 []],[.one (.bool)],λ((a,b,_,()):jO×jO×lK)=>(True,decide (a=b),())⟩
def uZ:PA:=⟨78,[.v (.one (.sl aC bD false)),.v (.one (.sl aC bD false))],[.one (.bool)],λ((a,b,()):jO×mJ)=>(True,decide (a=b),())⟩
def ve:PA:=⟨112,[.v (.one (.sl aC bD false)),.v (.one (.sl aC bD false))],[.one (.bool)],λ((a,b,()):jO×mJ)=>(True,decide (a=b),())⟩
def zG:XA:=⟨169,[.p (.v (.one (.sl dN iP false)))],[.one (.c (.int .i64))],λ((l,()):jP)=>(0<l.length,λ(z:fF)=>(∀x∈l,x.1<=z.1.1)/\(z.1.1,())∈l)⟩
def xW:XA:=⟨136,[.p (.v (.one (.sl aQ gu false)))],[.one (.c (.int .i64))],λ((d,()):lM)=>(aX d,λ(z:fF)=>UU d z.1.1)⟩
def rY:XA:=⟨129,[.p (.v (.one (.sl aQ gu false)))],[.one (.c (.int .i64))],λ((d,()):lM)=>(aX d,λ(z:fF)=>UU d z.1.1)⟩
def wI:PA:=⟨40,[.v (.one (.sl aQ gu false))],[.one (.sl gW kH true)],λ((d,()):lM)=>(d.length<=1000,iw d,())⟩
def BB:PA:=⟨61,[.v (.one (.sl aQ gu false))],[.one (.sl gW kH true)],λ((d,()):lM)=>(d.length<=1000,iw d,())⟩
def uy:XA:=⟨87,[.p (.v (.agg [.sl ax aV false,.sl aH bH false,.int .i64])),.p (.v (.one (.sl aQ gu false))),.p (.v (.one (.sl aC bD false))),.p (.v (.one (.sl gW kH false)))],[.one (.c (.sl aC bD false)),.one (.c (.int .i64)),.one (.c .bool)],λ((s,d,r,names,()):qx×jS×jO×H8)=>(aU s/\aX d/\aY r,λ(z:Za)=>z.1.2.2.1=(au d&&ak s)/\(z.1.2.2.1=true->gX s.2.1 d r (gm names) z.1.1))⟩
def BD:XA:=⟨41,[.p (.v (.agg [.sl ax aV false,.sl aH bH false,.int .i64])),.p (.v (.one (.sl aQ gu false)))],[.one (.c (.sl aC bD false)),.one (.c .bool)],λ((s,d,()):qx×lM)=>(aU s/\aX d,λ(z:H9)=>z.1.2.1=(au d&&ak s)/\(z.1.2.1=true->gX s.2.1 d [] (λ_=>true) z.1.1))⟩
def xX:XA:=⟨85,[.p (.v (.agg [.sl ax aV false,.sl aH bH false,.int .i64])),.p (.v (.one (.sl aQ gu false))),.p (.v (.one (.sl aC bD false))),.p (.v (.one (.sl gW kH false)))],[.one (.c (.sl aC bD false)),.one (.c .bool)],λ((s,d,r,names,()):qx×jS×jO×H8)=>(aU s/\aX d/\aY r,λ(z:H9)=>z.1.2.1=(au d&&ak s)/\(z.1.2.1=true->gX s.2.1 d r (gm names) z.1.1))⟩
def EF:XA:=⟨80,[.p (.v (.agg [.sl ax aV false,.sl aH bH false,.int .i64])),.p (.v (.one (.sl aQ gu false)))],[.one (.own aC bD false),.one (.c (.int .i64)),.one (.c .bool)],λ((s,d,()):qx×lM)=>(aU s/\aX d,λ(z:Za)=>z.1.2.2.1=(au d&&ak s)/\(z.1.2.2.1=true->gX s.2.1 d [] (λ_=>true) z.1.1))⟩
def wJ:XA:=⟨31,[.p (.v (.agg [.sl ax aV false,.sl aH bH false,.int .i64])),.p (.v (.one (.sl aQ gu false)))],[.one (.own aC bD false),.one (.c .bool)],λ((s,d,()):qx×lM)=>(aU s/\aX d,λ(z:H9)=>z.1.2.1=(au d&&ak s)/\(z.1.2.1=true->gX s.2.1 d [] (λ_=>true) z.1.1))⟩
def xY:XA:=⟨113,[.p (.v (.agg [.sl ax aV false,.sl aH bH false,.int .i64])),.p (.v (.one (.sl aQ gu false))),.p (.v (.one (.sl aC bD false))),.p (.v (.one (.sl gW kH false)))],[.one (.c (.sl aC bD false)),.one (.c .bool)],λ((s,d,r,names,()):qx×jS×jO×H8)=>(aU s/\aX d/\aY r,λ(z:H9)=>z.1.2.1=(au d&&ak s)/\(z.1.2.1=true->gX s.2.1 d r (gm names) z.1.1))⟩
def xZ:XA:=⟨8,[.p (.v (.agg [.sl ax aV false,.sl aH bH false,.int .i64])),.p (.v (.one (.sl aQ gu false)))],[.agg [.c (.sl ax aV false),.c (.sl aH bH false),.c (.int .i64),.c (.sl aQ gu false),.own aC bD false],.one (.c .bool)],λ((s,d,()):qx×lM)=>(aU s/\aX d,λ(z:(FN×bP)×Unit)=>z.1.2.1=(au d&&ak s)/\(z.1.2.1=true->(z.1.1.1,z.1.1.2.1,z.1.1.2.2.1,())=s/\z.1.1.2.2.2.1=d/\gX s.2.1 d [] (λ_=>true) z.1.1.2.2.2.2.1)/\(z.1.2.1=false->(z.1.1.1,z.1.1.2.1,z.1.1.2.2.1,z.1.1.2.2.2.1,z.1.1.2.2.2.2.1,())=([],[],0,[],[],())))⟩
def uz:PA:=⟨28,[.v (.agg [.sl ax aV false,.sl aH bH false,.int .i64,.sl aQ gu false,.sl aC bD false])],[.one (.bool)],λ((c,()):zB)=>(kJ c,iM c,())⟩
def zH:PA:=⟨59,[.v (.agg [.sl ax aV false,.sl aH bH false,.int .i64,.sl aQ gu false,.sl aC bD false])],[.one (.bool)],λ((c,()):zB)=>(kJ c,iM c,())⟩
def BF:PA:=⟨75,[.v (.agg [.sl ax aV false,.sl aH bH false,.int .i64]),.v (.one (.int .i64))],[.agg [.int .i64,.int .i64,.bool,.int .i64,.sl aT bV false],.one (.bool)],λ((s,id,()):qx×fB)=>(aU s,(fC s id).1,(fC s id).2,())⟩
def EG:PA:=⟨152,[.v (.one (.sl gW kH false)),.v (.one (.str))],[.one (.bool)],λ((l,s,()):Ba×lI)=>(True,gm l s,())⟩
def pR:XA:=⟨88,[.p (.v (.one (.sl dN iP false)))],[.one (.own dN iP false)],λ((l,()):jP)=>(l.length<=1000,λ(z:BQ)=>z.1.1=l)⟩
def qm:PA:=⟨185,[.v (.one (.int .i64)),.kp [.sl dN iP false]],[.one (.bool)],λ((x,b,()):Int×BQ)=>(True,eF b.1 x,())⟩
def iU:PA:=⟨202,[.v (.one (.sl dN iP false)),.fn 185 [[.sl dN iP false]]],[.one (.int .i64)],λ((l,((b,()),()),()):dn×BQ×Unit)=>(True,Sp.findAt (λx=>eF b x.1) l,())⟩
def iO:XA:=⟨184,[.own dN iP,.p (.fn 185 [[.sl dN iP false]])],[.one (.own dN iP false)],λ((s,((b,()),()),()):dn×BQ×Unit)=>(s.length<=1000,λ(z:BQ)=>z.1.1=s.filter λx=>!eF b x.1)⟩
def C9:XA:=⟨163,[.p (.v (.one (.sl dN iP false))),.p (.v (.one (.sl dN iP false)))],[.one (.own dN iP false)],λ((a,b,()):EP)=>(a.length<=1000,λ(z:BQ)=>z.1.1=Sp.without a b)⟩
def Dc:XA:=⟨133,[.p (.v (.one (.sl dN iP false))),.p (.v (.one (.sl dN iP false)))],[.one (.c (.sl dN iP false)),.one (.c (.sl dN iP false))],λ((a,b,()):EP)=>(a.length<=1000/\b.length<=1000,λ(z:EP×Unit)=>z.1.1=Sp.without b a/\z.1.2.1=Sp.without a b)⟩
def Df:XA:=⟨153,[.p (.v (.one (.sl dN iP false))),.p (.v (.one (.sl dN iP false)))],[.one (.c (.sl dN iP false)),.one (.c (.sl dN iP false))],λ((a,b,()):EP)=>(a.length<=1000/\b.length<=1000,λ(z:EP×Unit)=>z.1.1=Sp.without b a/\z.1.2.1=Sp.without a b)⟩
def wK:XA:=⟨86,[.p (.v (.one (.sl aC bD false))),.p (.v (.one (.sl aC bD false)))],[.one (.c (.sl oH x9 false))],λ((a,b,()):jO×mJ)=>(aY a/\aY b,λ(z:adu)=>z.1.1=Iq a b)⟩
def wL:XA:=⟨114,[.p (.v (.one (.sl aC bD false))),.p (.v (.one (.sl aC bD false)))],[.one (.c (.sl oH x9 false))],λ((a,b,()):jO×mJ)=>(aY a/\aY b,λ(z:adu)=>z.1.1=Iq a b)⟩
def wM:XA:=⟨84,[.p (.v (.one (.sl aC bD false)))],[.one (.c (.sl aC bD false))],λ((r,()):mJ)=>(aY r,λ(z:mJ×Unit)=>z.1.1=r)⟩
def qL:XA:=⟨38,[.p (.v (.agg [.sl ax aV false,.sl aH bH false,.int .i64,.sl aQ gu false,.sl aC bD false]))],[.agg [.c (.sl ax aV false),.c (.sl aH bH false),.c (.int .i64),.c (.sl aQ gu false),.c (.sl aC bD false)]],λ((c,()):zB)=>(kJ c,λ(z:zB×Unit)=>(z.1.1.1,z.1.1.2.1,z.1.1.2.2.1,z.1.1.2.2.2.1,z.1.1.2.2.2.2.1,())=c)⟩
def yc:XA:=⟨111,[.p (.v (.one (.sl aC bD false)))],[.one (.c (.sl aC bD false))],λ((r,()):mJ)=>(aY r,λ(z:mJ×Unit)=>z.1.1=r)⟩
def Dh:XA:=⟨58,[.p (.v (.agg [.sl ax aV false,.sl aH bH false,.int .i64,.sl aQ gu false,.sl aC bD false]))],[.agg [.c (.sl ax aV false),.c (.sl aH bH false),.c (.int .i64),.c (.sl aQ gu false),.c (.sl aC bD false)]],λ((c,()):zB)=>(kJ c,λ(z:zB×Unit)=>(z.1.1.1,z.1.1.2.1,z.1.1.2.2.1,z.1.1.2.2.2.1,z.1.1.2.2.2.2.1,())=c)⟩
def zI:XA:=⟨39,[.p (.v (.agg [.sl ax aV false,.sl aH bH false,.int .i64,.sl aQ gu false,.sl aC bD false])),.p (.v (.agg [.sl ax aV false,.sl aH bH false,.int .i64])),.p (.v (.one (.sl aQ gu false))),.p (.v (.one (.sl gW kH false)))],[.agg [.c (.sl ax aV false),.c (.sl aH bH false),.c (.int .i64),.c (.sl aQ gu false),.c (.sl aC bD false)],.one (.c (.sl oH x9 false)),.one (.c .bool)],λ((c,s,d,names,()):FN×qx×jS×H8)=>(kJ c/\aU s/\aX d,λ(z:(FN×FO×bP)×Unit)=>Sp.turned c s d (gm names) (z.1.1.1,z.1.1.2.1,z.1.1.2.2.1,z.1.1.2.2.2.1,z.1.1.2.2.2.2.1,()) z.1.2.1 z.1.2.2.1)⟩
def Di:XA:=⟨60,[.p (.v (.agg [.sl ax aV false,.sl aH bH false,.int .i64,.sl aQ gu false,.sl aC bD false])),.p (.v (.agg [.sl ax aV false,.sl aH bH false,.int .i64])),.p (.v (.one (.sl aQ gu false))),.p (.v (.one (.sl gW kH false)))],[.agg [.c (.sl ax aV false),.c (.sl aH bH false),.c (.int .i64),.c (.sl aQ gu false),.c (.sl aC bD false)],.one (.c (.sl oH x9 false))],λ((c,s,d,names,()):FN×qx×jS×H8)=>(kJ c/\aU s/\aX d/\(au d&&ak s)=true,λ(z:(FN×FO×Unit)×Unit)=>Sp.turned c s d (gm names) (z.1.1.1,z.1.1.2.1,z.1.1.2.2.1,z.1.1.2.2.2.1,z.1.1.2.2.2.2.1,()) z.1.2.1 true)⟩
def rq:PA:=⟨22,[.v (.one (.sl dN iP false)),.v (.one (.sl dN iP false))],[.one (.bool)],λ((a,b,()):EP)=>(True,decide (a=b),())⟩
def yg:PA:=⟨90,[.v (.agg [.str,.sl dN iP false]),.v (.agg [.str,.sl dN iP false])],[.one (.bool)],λ((a,b,()):(dI×jP)×(dI×jP)×Unit)=>(True,decide (a=b),())⟩
def wO:PA:=⟨44,[.v (.one (.sl aC bD false)),.v (.one (.sl aC bD false))],[.one (.bool)],λ((a,b,()):jO×mJ)=>(True,decide (a=b),())⟩
def wP:PA:=⟨12,[.v (.agg [.sl ax aV false,.sl aH bH false,.int .i64,.sl aQ gu false,.sl aC bD false]),.v (.agg [.sl ax aV false,.sl aH bH false,.int .i64,.sl aQ gu false,.sl aC bD false])],[.one (.bool)],λ((a,b,()):FN×zB)=>(True,decide (a=b),())⟩
def Dj:XA:=⟨108,[.ptr [.sl dZ jr false,.int .i64,.int .i64]],[.agg [.c (.sl ax aV false),.c (.sl aH bH false),.c (.int .i64),.c (.sl aQ gu false),.own aC bD false]],λ(((_,i,_,()),()):iL)=>(0<=i,λ(z:zB×iL)=>0<=z.2.1.2.1/\Xr (z.1.1.1,z.1.1.2.1,z.1.1.2.2.1,z.1.1.2.2.2.1,z.1.1.2.2.2.2.1,())/\0<z.1.1.2.2.2.1.length)⟩
def ru:XA:=⟨37,[.p (.v (.agg [.int .i64,.int .i64,.bool,.int .i64,.sl aT bV false])),.p (.v (.one (.str))),.p (.v (.agg [.int .i64,.int .i64,.str]))],[.agg [.c (.int .i64),.c (.int .i64),.c .bool,.c (.int .i64),.c (.sl aT bV true)]],λ(((i,o,s,l,a,()),name,(k,n,w,()),()):IW×dI×rM)=>(a.length<=1000,λ(z:zA)=>z.1.1.1=i/\z.1.1.2.1=o/\z.1.1.2.2.1=s/\z.1.1.2.2.2.1=l/\z.1.1.2.2.2.2.1=dO a name k n w)⟩
def EH:XA:=⟨109,[.ptr [.sl dZ jr false,.int .i64,.int .i64]],[.one (.c (.sl dN iP false))],λ(((_,i,_,()),()):iL)=>(0<=i,λ(z:jP×iL)=>0<=z.2.1.2.1/\z.1.1.length<=7)⟩
def EI:XA:=⟨57,[.ptr [.sl dZ jr false,.int .i64,.int .i64]],[.agg [.c (.sl ax aV false),.c (.sl aH bH false),.c (.int .i64),.c (.sl aQ gu false),.c (.sl aC bD false)]],λ(((_,i,_,()),()):iL)=>(0<=i,λ(z:zB×iL)=>0<=z.2.1.2.1/\Ot (z.1.1.1,z.1.1.2.1,z.1.1.2.2.1,z.1.1.2.2.2.1,z.1.1.2.2.2.2.1,()))⟩
def BG:PA:=⟨74,[.v (.agg [.str,.sl dN iP false,.sl dN iP false]),.v (.agg [.str,.sl dN iP false,.sl dN iP false])],[.one (.bool)],λ((a,b,()):(dI×EP)×(dI×EP)×Unit)=>(True,decide (a=b),())⟩
def zJ:PA:=⟨23,[.v (.one (.sl oH x9 false)),.v (.one (.sl oH x9 false))],[.one (.bool)],λ((a,b,()):FO×FO×Unit)=>(True,decide (a=b),())⟩
def wQ:PA:=⟨65,[.v (.one (.str))],[.agg [.int .i64,.int .i64,.str]],λ((w,()):lI)=>(True,(2,0,w,()),())⟩
def kD:XA:=⟨144,[.p (.v (.one (.sl aT bV false)))],[.one (.own aT bV false)],λ((l,()):BO)=>(l.length<=1000,λ(z:BO×Unit)=>z.1.1=l)⟩
def sH:XA:=⟨102,[.p (.v (.agg [.int .i64,.int .i64,.bool,.int .i64,.sl aT bV false]))],[.agg [.c (.int .i64),.c (.int .i64),.c .bool,.c (.int .i64),.own aT bV false]],λ(((i,o,s,l,a,()),()):Jm)=>(a.length<=1000,λ(z:zA)=>z.1.1.1=i/\z.1.1.2.1=o/\z.1.1.2.2.1=s/\z.1.1.2.2.2.1=l/\z.1.1.2.2.2.2.1=a)⟩
def qo:PA:=⟨104,[.v (.agg [.str,.int .i64,.int .i64,.str]),.kp [.str]],[.one (.bool)],λ(((nm,_,_,_,()),name,()):Ty0×lI×Unit)=>(True,(nm==name.1),())⟩
def gQ:PA:=⟨105,[.v (.one (.sl aT bV false)),.fn 104 [[.str]]],[.one (.int .i64)],λ((l,((name,()),()),()):lJ×adt)=>(True,Sp.findAt (λx=>x.1==name) l,())⟩
def gG:XA:=⟨103,[.own aT bV,.p (.fn 104 [[.str]])],[.one (.own aT bV false)],λ((s,((name,()),()),()):lJ×adt)=>(s.length<=1000,λ(z:BO×Unit)=>z.1.1=s.filter λx=>!(x.1==name))⟩
def uD:PA:=⟨106,[.v (.agg [.str,.int .i64,.int .i64,.str]),.kp [.str]],[.one (.bool)],λ(((nm,_,_,_,()),name,()):Ty0×lI×Unit)=>(True,Op.bytesLess name.1 nm,())⟩
def gU:PA:=⟨105,[.v (.one (.sl aT bV false)),.fn 106 [[.str]]],[.one (.int .i64)],λ((l,((name,()),()),()):lJ×adt)=>(True,Sp.findAt (λx=>Op.bytesLess name x.1) l,())⟩
def mZ:List fV:=[.own aT bV,.p (.v (.one (.int .i64))),.own aT bV]
def zk:List pW:=[.one (.own aT bV false)]
def JV:jq mZ->Prop×(lT zk×kY mZ->Prop):=λ(s,i,v,())=>(0<=i/\i<=s.length/\s.length<=1000/\v.length=1,λ((r,()),())=>r=s.take i.toNat++(v++s.drop i.toNat))
def zl:FT:=pK mZ zk JV
def Dk:XA:=⟨54,[.p (.v (.agg [.int .i64,.int .i64,.bool,.int .i64,.sl aT bV false])),.p (.v (.one (.str))),.p (.v (.agg [.int .i64,.int .i64,.str]))],[.agg [.c (.int .i64),.c (.int .i64),.c .bool,.c (.int .i64),.c (.sl aT bV false)]],λ(((i,o,s,l,a,()),name,(k,n,w,()),()):IW×dI×rM)=>(a.length<=900,λ(z:zA)=>z.1.1.1=i/\z.1.1.2.1=o/\z.1.1.2.2.1=s/\z.1.1.2.2.2.1=l/\z.1.1.2.2.2.2.1=dO a name k n w)⟩
def EJ:PA:=⟨25,[.v (.agg [.sl ax aV false,.sl aH bH false,.int .i64]),.v (.one (.int .i64))],[.agg [.int .i64,.int .i64,.bool,.int .i64,.sl aT bV false]],λ((s,id,()):qx×fB)=>(aU s,(fC s id).1,())⟩
def BH:PA:=⟨68,[.v (.one (.int .i64))],[.agg [.int .i64,.int .i64,.str]],λ((n,()):fB)=>(True,(1,n,[],()),())⟩
def sJ:List iq:=[.v (.one (.int .i64))]
def Ai:List pF:=[.one (.str)]
def Ld:jZ sJ->Prop×qB Ai:=λ(n,())=>(True,fJ n,())
def rP:KZ:=vH sJ Ai Ld
def qM:List iq:=[.v (.one (.str))]
def yI:List pF:=[.one (.int .i64),.one (.bool)]
def Jo:jZ qM->Prop×qB yI:=λ(s,())=>(s.length<=1000,(dR s).1,(dR s).2,())
def qp:KZ:=vH qM yI Jo
def pX:PA:=⟨19,[.v (.agg [.int .i64,.int .i64,.str]),.v (.one (.int .i64))],[.agg [.int .i64,.int .i64,.str],.one (.bool)],λ((v,to,()):KW×fB)=>(v.2.2.1.length<=1000,(bQ v to).1,(bQ v to).2,())⟩
def o9:PA:=⟨101,[.v (.agg [.str,.int .i64]),.kp [.str]],[.one (.bool)],λ(((a,_,()),name,()):(dI×fB)×lI×Unit)=>(True,(a==name.1),())⟩
def gq:PA:=⟨143,[.v (.one (.sl ax aV false)),.fn 101 [[.str]]],[.one (.int .i64)],λ((l,((name,()),()),()):eY×adt)=>(True,Sp.fieldPlace l name,())⟩
def fM:PA:=⟨100,[.v (.one (.sl ax aV false)),.fn 101 [[.str]]],[.one (.bool)],λ((l,((name,()),()),()):eY×adt)=>(True,!decide (Sp.fieldPlace l name<0),())⟩
def BI:PA:=⟨52,[.v (.one (.sl ax aV false)),.v (.one (.str))],[.one (.bool)],λ((l,name,()):eY×lI)=>(True,!decide (Sp.fieldPlace l name<0),())⟩
def ku:XA:=⟨95,[.p (.v (.one (.sl ax aV false)))],[.one (.own ax aV false)],λ((l,()):xK)=>(l.length<=1000,λ(z:xK×Unit)=>z.1.1=l)⟩
def rC:XA:=⟨50,[.p (.v (.agg [.sl ax aV false,.sl aH bH false,.int .i64]))],[.agg [.own ax aV false,.own aH bH false,.c (.int .i64)]],λ((s,()):qx×Unit)=>(aU s,λ(z:BP)=>(z.1.1.1,z.1.1.2.1,z.1.1.2.2.1,())=s)⟩
def mP:XA:=⟨14,[.p (.v (.agg [.sl ax aV false,.sl aH bH false,.int .i64])),.p (.v (.one (.str))),.p (.v (.one (.int .i64)))],[.agg [.c (.sl ax aV false),.c (.sl aH bH false),.c (.int .i64)],.one (.c (.sl dN iP false)),.one (.c .bool)],λ((s,name,kind,()):qx×dI×fB)=>(aU s,λ(z:UR)=>(z.1.1.1,z.1.1.2.1,z.1.1.2.2.1,())=(aP s name kind).1/\z.1.2.1=(aP s name kind).2.1/\z.1.2.2.1=(aP s name kind).2.2)⟩
def kE:XA:=⟨10,[.p (.v (.agg [.sl ax aV false,.sl aH bH false,.int .i64,.sl aQ gu false,.sl aC bD false])),.p (.v (.one (.str))),.p (.v (.one (.int .i64)))],[.agg [.c (.sl ax aV false),.c (.sl aH bH false),.c (.int .i64),.c (.sl aQ gu false),.c (.sl aC bD false)],.one (.c (.sl oH x9 false)),.one (.c (.sl dN iP false)),.one (.c .bool)],λ((c,name,kind,()):FN×dI×fB)=>(kJ c,λ(z:ads)=>Sp.became c (aP (dX c) name kind).1 (je c) (iM c&&(aP (dX c) name kind).2.2) (z.1.1.1,z.1.1.2.1,z.1.1.2.2.1,z.1.1.2.2.2.1,z.1.1.2.2.2.2.1,()) z.1.2.1 z.1.2.2.2.1/\z.1.2.2.1=bif z.1.2.2.2.1 then(aP (dX c) name kind).2.1 else[])⟩
def aju:PA:=⟨3,[.v (.one (.sl dZ jr false))],[.one (.bool)],λ(_,())=>(True,true,())⟩
def zK:PA:=⟨157,[.v (.one (.int .i64))],[.one (.int .u8)],λ((x,()):fB)=>(0<=x/\x<10,48+x,())⟩
def ES:PA:=⟨120,[.v (.one (.int .i64))],[.one (.str)],λ((n,()):fB)=>(True,Lib.itoa n,())⟩
def sK:List iq:=[.v (.one (.int .i64))]
def Aj:List pF:=[.one (.str)]
def Le:jZ sK->Prop×qB Aj:=λ(n,())=>(True,fJ n,())
def ng:KZ:=vH sK Aj Le
def ni:PA:=⟨71,[.v (.one (.str))],[.one (.int .i64),.one (.bool)],λ((w,()):lI)=>(True,(dR w).1,(dR w).2,())⟩
def pY:PA:=⟨20,[.v (.agg [.int .i64,.int .i64,.str]),.v (.one (.int .i64))],[.agg [.int .i64,.int .i64,.str],.one (.bool)],λ((v,to,()):KW×fB)=>(v.2.2.1.length<=1000,(bQ v to).1,(bQ v to).2,())⟩
def mQ:XA:=⟨15,[.p (.v (.agg [.sl ax aV false,.sl aH bH false,.int .i64])),.p (.v (.one (.str))),.p (.v (.one (.int .i64)))],[.agg [.c (.sl ax aV false),.c (.sl aH bH false),.c (.int .i64)],.one (.c (.sl dN iP false)),.one (.c .bool)],λ((s,name,kind,()):qx×dI×fB)=>(aU s,λ(z:UR)=>(z.1.1.1,z.1.1.2.1,z.1.1.2.2.1,())=(aP s name kind).1/\z.1.2.1=(aP s name kind).2.1/\z.1.2.2.1=(aP s name kind).2.2)⟩
def kG:XA:=⟨17,[.p (.v (.agg [.sl ax aV false,.sl aH bH false,.int .i64,.sl aQ gu false,.sl aC bD false])),.p (.v (.one (.str))),.p (.v (.one (.int .i64)))],[.agg [.c (.sl ax aV false),.c (.sl aH bH false),.c (.int .i64),.c (.sl aQ gu false),.c (.sl aC bD false)],.one (.c (.sl oH x9 false)),.one (.c (.sl dN iP false)),.one (.c .bool)],λ((c,name,kind,()):FN×dI×fB)=>(Ot c,λ(z:ads)=>Sp.became c (aP (dX c) name kind).1 (je c) (iM c&&(aP (dX c) name kind).2.2) (z.1.1.1,z.1.1.2.1,z.1.1.2.2.1,z.1.1.2.2.2.1,z.1.1.2.2.2.2.1,()) z.1.2.1 z.1.2.2.2.1/\z.1.2.2.1=bif z.1.2.2.2.1 then(aP (dX c) name kind).2.1 else[])⟩
def wR:XA:=⟨45,[.ptr [.sl dZ jr false,.int .i64,.int .i64]],[.agg [.c (.sl ax aV false),.own aH bH false,.c (.int .i64)]],λ(((_,i,_,()),()):iL)=>(0<=i,λ(z:KX)=>0<=z.2.1.2.1/\aU (z.1.1.1,z.1.1.2.1,z.1.1.2.2.1,())/\∀f∈z.1.1.2.1,f.2.2.2.2.1.length<=400)⟩
def ny:XA:=⟨13,[.p (.v (.one (.sl dZ jr false)))],[.agg [.c (.sl ax aV false),.c (.sl aH bH false),.c (.int .i64)],.one (.c .str),.one (.c (.int .i64))],λ((code,()):jP)=>(code.length<=1048576,λ(z:(qx×dI×fB)×Unit)=>aU (z.1.1.1,z.1.1.2.1,z.1.1.2.2.1,()))⟩
def jC:XA:=⟨16,[.p (.v (.one (.sl dZ jr false)))],[.agg [.c (.sl ax aV false),.c (.sl aH bH false),.c (.int .i64),.c (.sl aQ gu false),.c (.sl aC bD false)],.one (.c .str),.one (.c (.int .i64))],λ((code,()):jP)=>(code.length<=1048576,λ(z:(FN×dI×fB)×Unit)=>Ot (z.1.1.1,z.1.1.2.1,z.1.1.2.2.1,z.1.1.2.2.2.1,z.1.1.2.2.2.2.1,()))⟩
def pU:XA:=⟨18,[.p (.v (.one (.sl dZ jr false)))],[.agg [.c (.int .i64),.c (.int .i64),.c .str],.one (.c (.int .i64))],λ((code,()):jP)=>(code.length<=1048576,λ(z:(KW×fB)×Unit)=>z.1.1.2.2.1.length<=10)⟩
def FX:PA:=⟨4,[.v (.one (.sl dZ jr false))],[.one (.bool)],λ(_,())=>(True,true,())⟩
def QI[qF]:kz:=JW [(vw,.eff (IZ oN) yA),bY.e,tV.e,jQ.e]
def Ou[qF]:kz:=JW [rX.e,nN.e,(rD,.pure vI),yF.e,qj.e]
def QJ[qF]:kz:=JW [o8.e,nO.e,(vz,.pure yG),ql.e]
end
end Go.Proofs.Tryz
