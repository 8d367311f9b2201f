import Derived.Test.YtlbkigkbmeckbaaGreatN
import Derived.Test.YtlbkigkbmeckbaaGreatSp
namespace Go.Proofs.Tryz
open Go Go.Fw
abbrev fV:=List UInt8
abbrev jY:=fV×Unit
abbrev Ty0:=fV×Int×Int×jY
abbrev gX:=Int×Unit
abbrev fZ:=List (fV×gX)
abbrev ig:=List Ty0
abbrev EK:=ig×Unit
abbrev BJ:=Int×Int×Bool×Int×EK
abbrev iq:=List BJ
abbrev aeH:=Int×Int×Int×Ty0
abbrev kN:=List aeH
abbrev zx:=kN×Unit
abbrev iR:=List (fV×zx)
abbrev dS:=List gX
abbrev kW:=dS×Unit
abbrev jS:=List (fV×kW)
abbrev qi:=jS×Unit
abbrev DX:=fZ×iq×Int×iR×qi
abbrev Bl:=Int×gX
abbrev Es:=dS×Bl
abbrev iQ:=Es×Unit
abbrev uz:=List jY
abbrev Gy:=uz×Unit
abbrev gY:=Gy×Unit
abbrev qj:=fZ×iq×gX
abbrev dA:=Bool×Unit
abbrev zV:=Unit×Unit
abbrev YO:=Unit×Es×(Int×Int×Bool×Int×zV)×EK
abbrev Bo:=(Int×Int×jY)×Unit
abbrev Ju:=dS×kW
abbrev aeI:=List (fV×Ju)
abbrev fU:=gX×Unit
abbrev yH:=Unit×gX
abbrev H8:=yH×Gy
abbrev fK:=gX×iQ
abbrev oJ:=BJ×Unit
abbrev BP:=zx×iQ
abbrev FI:=(DX×dA)×Unit
abbrev FK:=(DX×Unit)×Unit
abbrev Gz:=(qj×Unit)×Unit
abbrev Nw:=(DX×aeI×dA)×Unit
abbrev nY:=iR×Unit
abbrev Jv:=(jS×dA)×Unit
abbrev sJ:=jY×iQ
abbrev Qm:=(dS×dA)×Unit
abbrev Uu:=(qj×dA)×Unit
abbrev aeJ:=(jS×Int×dA)×Unit
abbrev Qn:=(DX×Unit)×iQ
abbrev EL:=kW×Unit
abbrev FM:=oJ×Unit
abbrev YP:=(qj×Unit)×iQ
abbrev YQ:=(uz×gX)×Unit
abbrev GH:=dA×iQ
abbrev Jw:=fZ×Unit
abbrev akl:=(aeI×Unit)×Unit
abbrev arn:=(DX×Int×fV×gX)×iQ
abbrev aou:=DX×Int×Int×jY
abbrev Ny:=aeH×Unit
abbrev aro:=(qj×Int×dA)×Unit
abbrev Qo:=dA×Unit
class vX where n:Nat
abbrev uY [vX]:Nat:=vX.n
noncomputable section
def uh:QA:=⟨42,[.p (.v (.one (.sl eG jM false)))],[.sl eG jM false, .int .i64, .int .i64],fun ((code,()):kW)=>(code.length≤1048576,fun (z:Es)=>z.2.1=0)⟩
def uZ:XA:=⟨154,[.ptr [.sl eG jM false, .int .i64, .int .i64]],[.one (.c (.int .i64))],fun (((_,i,_,()),()):iQ)=>(0≤i,fun (z:fK)=>0≤z.2.1.2.1∧0≤z.1.1∧z.1.1≤255)⟩
def dn:XA:=⟨74,[.ptr [.sl eG jM false, .int .i64, .int .i64], .p (.v (.one (.int .i64)))],[.one (.c (.int .i64))],fun (((_,i,_,()),n,()):Es×gX)=>(0≤i,fun (z:fK)=>0≤z.2.1.2.1∧0≤z.1.1∧(0<n→z.1.1<n)∧(n≤0→z.1.1=0))⟩
def jZ:XA:=⟨44,[.ptr [.sl eG jM false, .int .i64, .int .i64], .p (.v (.one (.int .i64)))],[.one (.c .bool)],fun (((_,i,_,()),_,()):Es×gX)=>(0≤i,fun (z:GH)=>0≤z.2.1.2.1)⟩
def gI:XA:=⟨47,[.ptr [.sl eG jM false, .int .i64, .int .i64], .p (.v (.one (.sl bY eH false)))],[.one (.c .str)],fun (((_,i,_,()),list,()):Es×Gy)=>(0≤i∧list≠[],fun (z:sJ)=>0≤z.2.1.2.1∧(z.1.1,())∈list)⟩
def iL:XA:=⟨105,[.ptr [.sl eG jM false, .int .i64, .int .i64], .p (.v (.one (.sl fE jU false)))],[.one (.c (.int .i64))],fun (((_,i,_,()),list,()):Es×kW)=>(0≤i∧list≠[],fun (z:fK)=>0≤z.2.1.2.1∧(z.1.1,())∈list)⟩
def pq:XA:=⟨201,[],[.one (.own aC aX true)],fun (())=>(True,fun (z:Jw×Unit)=>z.1.1=Sp.usual)⟩
def rq:XA:=⟨155,[.ptr [.sl eG jM false, .int .i64, .int .i64]],[.one (.c .str)],fun (((_,i,_,()),()):iQ)=>(0≤i,fun (z:sJ)=>0≤z.2.1.2.1∧z.1.1.length≤1)⟩
def xM:XA:=⟨177,[.ptr [.sl eG jM false, .int .i64, .int .i64]],[.one (.c (.sl aC aX true))],fun (((_,i,_,()),()):iQ)=>(0≤i,fun (z:Jw×iQ)=>0≤z.2.1.2.1∧z.1.1.length≤6)⟩
def sN:XA:=⟨179,[.ptr [.sl eG jM false, .int .i64, .int .i64]],[.agg [.c (.int .i64), .c (.int .i64), .c .str]],fun (((_,i,_,()),()):iQ)=>(0≤i,fun (z:Bo×iQ)=>0≤z.2.1.2.1∧z.1.1.2.2.1.length≤10)⟩
def uj:XA:=⟨107,[.ptr [.sl eG jM false, .int .i64, .int .i64]],[.agg [.c (.int .i64), .c (.int .i64), .c .str]],fun (((_,i,_,()),()):iQ)=>(0≤i,fun (z:Bo×iQ)=>0≤z.2.1.2.1∧z.1.1.2.2.1.length≤10)⟩
def sO:PA:=⟨153,[.v (.one (.int .i64))],[.agg [.int .i64, .int .i64, .str]],fun ((n,()):gX)=>(True,(1,n,[],()),())⟩
def jH:PA:=⟨97,[.v (.one (.str))],[.agg [.int .i64, .int .i64, .str]],fun ((w,()):jY)=>(True,(2,0,w,()),())⟩
def jc:PA:=⟨100,[.v (.one (.int .i64)), .v (.one (.int .i64)), .v (.one (.int .i64))],[.one (.bool)],fun ((x,a,b,()):Int×Bl)=>(True,(decide (a≤x)&&decide (x≤b)),())⟩
def lD:PA:=⟨217,[.v (.one (.int .i64)), .v (.one (.int .i64)), .v (.one (.int .i64))],[.one (.bool)],fun ((x,a,b,()):Int×Bl)=>(True,(decide (a≤x)&&decide (x≤b)),())⟩
def yY:PA:=⟨208,[.v (.one (.str)), .v (.one (.int .i64))],[.one (.bool)],fun ((s,m,()):fV×gX)=>(True,(Sp.lower s&&decide (1≤(s.length:Int))&&decide ((s.length:Int)≤m)),())⟩
def kX:PA:=⟨150,[.v (.one (.str))],[.one (.bool)],fun ((s,()):jY)=>(True,Sp.iV s,())⟩
def kY:PA:=⟨184,[.v (.one (.str))],[.one (.bool)],fun ((s,()):jY)=>(True,Sp.iV s,())⟩
def qc:PA:=⟨246,[.v (.agg [.int .i64, .int .i64, .str])],[.one (.bool)],fun (((k,n,s,()),()):Bo)=>(True,Sp.ku k n s,())⟩
def qf:PA:=⟨249,[.v (.agg [.int .i64, .int .i64, .str])],[.one (.bool)],fun (((k,n,s,()),()):Bo)=>(True,Sp.ku k n s,())⟩
def lF:PA:=⟨245,[.v (.one (.str))],[.one (.bool)],fun ((s,()):jY)=>(True,Sp.jT s,())⟩
def lG:PA:=⟨248,[.v (.one (.str))],[.one (.bool)],fun ((s,()):jY)=>(True,Sp.jT s,())⟩
def zy:PA:=⟨255,[.v (.one (.sl aC aX false)), .v (.one (.str))],[.one (.int .i64)],fun ((fs,s,()):fZ×jY)=>(True,Sp.kindOf fs s,())⟩
def zA:PA:=⟨250,[.v (.one (.sl aC aX false)), .v (.one (.str))],[.one (.int .i64)],fun ((fs,s,()):fZ×jY)=>(True,Sp.kindOf fs s,())⟩
def nZ:PA:=⟨226,[.v (.one (.sl aC aX false))],[.one (.bool)],fun ((fs,()):Jw)=>(True,Sp.fM fs,())⟩
def oh:PA:=⟨216,[.v (.one (.sl aC aX false))],[.one (.bool)],fun ((fs,()):Jw)=>(True,Sp.fM fs,())⟩
def sQ:PA:=⟨227,[.v (.one (.sl aC aX false)), .v (.one (.str)), .v (.agg [.int .i64, .int .i64, .str])],[.one (.bool)],fun ((fs,s,(k,n,w,()),()):fZ×fV×Bo)=>(True,Sp.jD fs s k n w,())⟩
def sS:PA:=⟨218,[.v (.one (.sl aC aX false)), .v (.one (.str)), .v (.agg [.int .i64, .int .i64, .str])],[.one (.bool)],fun ((fs,s,(k,n,w,()),()):fZ×fV×Bo)=>(True,Sp.jD fs s k n w,())⟩
def ni:PA:=⟨163,[.v (.one (.sl aC aX false)), .v (.agg [.int .i64, .int .i64, .bool, .int .i64, .sl aO aZ false])],[.one (.bool)],fun ((fs,f,()):fZ×oJ)=>(True,Sp.cO fs f,())⟩
def ru:PA:=⟨158,[.v (.one (.sl aC aX false)), .v (.agg [.int .i64, .int .i64, .bool, .int .i64, .sl aO aZ false])],[.one (.bool)],fun ((fs,f,()):fZ×oJ)=>(True,Sp.cO fs f,())⟩
def jA:PA:=⟨162,[.v (.agg [.sl aC aX false, .sl aJ bP false, .int .i64])],[.one (.bool)],fun ((s,()):qj×Unit)=>(True,Sp.aH s,())⟩
def qg:PA:=⟨157,[.v (.agg [.sl aC aX false, .sl aJ bP false, .int .i64])],[.one (.bool)],fun ((s,()):qj×Unit)=>(True,Sp.aH s,())⟩
def yw:PA:=⟨136,[.v (.one (.sl aC aX false)), .v (.one (.sl aC aX false))],[.one (.bool)],fun ((a,b,()):fZ×Jw)=>(True,decide (a=b),())⟩
def zB:PA:=⟨244,[.v (.one (.sl aO aZ false)), .v (.one (.sl aO aZ false))],[.one (.bool)],fun ((a,b,()):ig×EK)=>(True,decide (a=b),())⟩
def Ah:PA:=⟨204,[.v (.agg [.int .i64, .int .i64, .bool, .int .i64, .sl aO aZ false]), .v (.agg [.int .i64, .int .i64, .bool, .int .i64, .sl aO aZ false])],[.one (.bool)],fun ((a,b,()):BJ×oJ)=>(True,decide (a=b),())⟩
def zC:PA:=⟨137,[.v (.one (.sl aJ bP false)), .v (.one (.sl aJ bP false))],[.one (.bool)],fun ((a,b,()):iq×iq×Unit)=>(True,decide (a=b),())⟩
def zD:PA:=⟨64,[.v (.agg [.sl aC aX false, .sl aJ bP false, .int .i64]), .v (.agg [.sl aC aX false, .sl aJ bP false, .int .i64])],[.one (.bool)],fun ((a,b,()):qj×qj×Unit)=>(True,decide (a=b),())⟩
def rC:PA:=⟨135,[.v (.agg [.int .i64, .int .i64, .bool, .int .i64, .sl aO aZ false])],[.agg [.int .i64, .int .i64, .bool, .int .i64, .sl aO aZ true]],fun ((f,()):oJ)=>(Sp.bW f,f,())⟩
def sU:PA:=⟨159,[.v (.agg [.int .i64, .int .i64, .bool, .int .i64, .sl aO aZ false])],[.agg [.int .i64, .int .i64, .bool, .int .i64, .sl aO aZ false]],fun ((f,()):oJ)=>(Sp.bW f,f,())⟩
def xO:PA:=⟨170,[.v (.one (.int .i64))],[.one (.bool)],fun ((u,()):gX)=>(True,(decide (0≤u)&&decide (u≤2)),())⟩
def sV:PA:=⟨161,[.v (.agg [.sl aC aX false, .sl aJ bP false, .int .i64]), .v (.one (.int .i64))],[.one (.int .i64)],fun (((_,fs,_,()),id,()):qj×gX)=>(True,Sp.place fs id,())⟩
def mV:PA:=⟨132,[.v (.one (.sl aC aX false))],[.one (.sl aC aX false)],fun ((l,()):Jw)=>(l.length≤1000,l,())⟩
def ny:PA:=⟨219,[.v (.one (.sl aO aZ false))],[.one (.sl aO aZ false)],fun ((l,()):EK)=>(l.length≤1000,l,())⟩
def rD:XA:=⟨96,[.p (.v (.agg [.int .i64, .int .i64, .bool, .int .i64, .sl aO aZ false])), .p (.v (.one (.str))), .p (.v (.agg [.int .i64, .int .i64, .str]))],[.agg [.c (.int .i64), .c (.int .i64), .c .bool, .c (.int .i64), .own aO aZ true]],fun (((i,o,s,l,a,()),name,(k,n,w,()),()):BJ×fV×Bo)=>(a.length≤1000,fun (z:FM)=>z.1.1.1=i∧z.1.1.2.1=o∧z.1.1.2.2.1=s∧z.1.1.2.2.2.1=l∧z.1.1.2.2.2.2.1=Sp.fH a name k n w)⟩
def oq:XA:=⟨73,[.ptr [.sl eG jM false, .int .i64, .int .i64], .p (.v (.one (.int .i64)))],[.agg [.c (.int .i64), .c (.int .i64), .c .bool, .c (.int .i64), .own aO aZ true]],fun (((_,i,_,()),id,()):Es×gX)=>(0≤i,fun (z:oJ×iQ)=>0≤z.2.1.2.1∧z.1.1.1=id∧0≤z.1.1.2.1∧z.1.1.2.1≤2∧0≤z.1.1.2.2.2.1∧z.1.1.2.2.2.1≤6∧Sp.lH Sp.usual z.1.1.2.2.2.2.1=true∧z.1.1.2.2.2.2.1.length≤4)⟩
def xP:XA:=⟨75,[.ptr [.sl eG jM false, .int .i64, .int .i64]],[.agg [.c (.int .i64), .c (.int .i64), .c .bool, .c (.int .i64), .c (.sl aO aZ true)]],fun (((_,i,_,()),()):iQ)=>(0≤i,fun (z:oJ×iQ)=>0≤z.2.1.2.1∧z.1.1.2.2.2.2.1.length≤10)⟩
def sW:XA:=⟨200,[.p (.v (.one (.sl aC aX false)))],[.agg [.own aC aX true, .own aJ bP true, .c (.int .i64)]],fun ((s,()):Jw)=>(s.length≤1000,fun (z:Gz)=>z.1.1.1=s∧z.1.1.2.1=[]∧z.1.1.2.2.1=1)⟩
def kz:XA:=⟨62,[.p (.v (.agg [.sl aC aX false, .sl aJ bP false, .int .i64]))],[.agg [.own aC aX true, .own aJ bP true, .c (.int .i64)]],fun ((s,()):qj×Unit)=>(Sp.bG s,fun (z:Gz)=>(z.1.1.1,z.1.1.2.1,z.1.1.2.2.1,())=s)⟩
def lN:XA:=⟨84,[.p (.v (.agg [.sl aC aX false, .sl aJ bP false, .int .i64])), .p (.v (.agg [.int .i64, .int .i64, .bool, .int .i64, .sl aO aZ false]))],[.agg [.own aC aX true, .own aJ bP true, .c (.int .i64)], .one (.c (.int .i64)), .one (.c .bool)],fun ((s,f,()):qj×oJ)=>(Sp.bG s∧Sp.bW f,fun (z:aro)=>z.1.1.1=(Sp.dD s f).1.1∧z.1.1.2.1=(Sp.dD s f).1.2.1∧z.1.1.2.2.1=(Sp.dD s f).1.2.2.1∧z.1.2.1=(Sp.dD s f).2.1∧z.1.2.2.1=(Sp.dD s f).2.2)⟩
def oK:XA:=⟨88,[.p (.v (.agg [.sl aC aX false, .sl aJ bP false, .int .i64])), .p (.v (.one (.int .i64)))],[.agg [.own aC aX true, .own aJ bP true, .c (.int .i64)], .one (.c .bool)],fun ((s,id,()):qj×gX)=>(Sp.bG s,fun (z:Uu)=>z.1.1.1=(Sp.fP s id).1.1∧z.1.1.2.1=(Sp.fP s id).1.2.1∧z.1.1.2.2.1=(Sp.fP s id).1.2.2.1∧z.1.2.1=(Sp.fP s id).2)⟩
def mW:XA:=⟨129,[.ptr [.sl eG jM false, .int .i64, .int .i64]],[.agg [.own aC aX true, .own aJ bP true, .c (.int .i64)]],fun (((_,i,_,()),()):iQ)=>(0≤i,fun (z:YP)=>0≤z.2.1.2.1∧z.1.1.1=Sp.usual∧Sp.aH (z.1.1.1,z.1.1.2.1,z.1.1.2.2.1,())=true∧z.1.1.2.2.1≤z.1.1.2.1.length+2∧Sp.bG (z.1.1.1,z.1.1.2.1,z.1.1.2.2.1,())∧0<z.1.1.2.1.length)⟩
def xQ:XA:=⟨104,[.ptr [.sl eG jM false, .int .i64, .int .i64]],[.agg [.c (.sl aC aX false), .c (.sl aJ bP false), .c (.int .i64)]],fun (((_,i,_,()),()):iQ)=>(0≤i,fun (z:YP)=>0≤z.2.1.2.1∧Sp.bG (z.1.1.1,z.1.1.2.1,z.1.1.2.2.1,())∧∀ f∈z.1.1.2.1,f.2.2.2.2.1.length≤400)⟩
def H9:PA:=⟨6,[.v (.one (.sl eG jM false))],[.one (.bool)],fun ((code,()):kW)=>(True,decide (1048576<(code.length:Int)),())⟩
def qI:XA:=⟨133,[.p (.v (.one (.sl aJ bP false)))],[.one (.own aJ bP false)],fun ((l,()):iq×Unit)=>(l.length≤1000∧∀ f∈l,Sp.bW f,fun (z:(iq×Unit)×Unit)=>z.1.1=l)⟩
def kZ:XA:=⟨59,[.p (.v (.agg [.sl aC aX false, .sl aJ bP false, .int .i64]))],[.agg [.c (.sl aC aX false), .own aJ bP false, .c (.int .i64)]],fun ((s,()):qj×Unit)=>(Sp.bG s,fun (z:Gz)=>(z.1.1.1,z.1.1.2.1,z.1.1.2.2.1,())=s)⟩
def oL:XA:=⟨178,[.ptr [.sl eG jM false, .int .i64, .int .i64]],[.one (.c .str)],fun (((_,i,_,()),()):iQ)=>(0≤i,fun (z:sJ)=>0≤z.2.1.2.1∧z.1.1.length≤10)⟩
def rE:XA:=⟨106,[.ptr [.sl eG jM false, .int .i64, .int .i64]],[.agg [.c (.int .i64), .c (.int .i64), .c (.int .i64), .c .str, .c (.int .i64), .c (.int .i64), .c .str]],fun (((_,i,_,()),()):iQ)=>(0≤i,fun (z:Ny×iQ)=>0≤z.2.1.2.1∧True)⟩
def Ia:List gZ:=[.ptr [.sl eG jM false, .int .i64, .int .i64], .own bg dG, .p (.v (.one (.int .i64))), .p (.v (.one (.bool)))]
def Nz:List uI:=[.one (.own bg dG false)]
def RN:jV Ia→Prop×(pz Nz×ou Ia→Prop):=fun ((_,i,_,()),q,deep,_,())=>(0≤i∧0≤deep∧deep≤4∧q.length+2*deep.toNat≤900,fun ((r,()),((_,i',_,()),()))=>0≤i'∧q.length<r.length∧r.length≤q.length+2*deep.toNat+1)
def aeK:Ib:=uD Ia Nz RN
def yI:List gZ:=[.ptr [.sl eG jM false, .int .i64, .int .i64], .own bg dG, .p (.v (.one (.int .i64))), .p (.v (.one (.bool)))]
def G5:List uI:=[.one (.own bg dG false)]
def Jf [vX]:jV yI→Prop×(pz G5×ou yI→Prop):=fun ((_,i,_,()),q,deep,_,())=>((0≤i∧0≤deep∧deep≤4∧q.length+2*deep.toNat≤900)∧deep.toNat<uY,fun ((r,()),((_,i',_,()),()))=>0≤i'∧q.length<r.length∧r.length≤q.length+2*deep.toNat+1)
def G6 [vX]:Ib:=uD yI G5 Jf
def xk:List gZ:=[.ptr [.sl eG jM false, .int .i64, .int .i64], .own bg dG, .p (.v (.one (.int .i64))), .p (.v (.one (.bool)))]
def FW:List uI:=[.one (.own bg dG false)]
def yJ [vX]:jV xk→Prop×(pz FW×ou xk→Prop):=fun ((_,i,_,()),q,deep,_,())=>((0≤i∧0≤deep∧deep≤4∧q.length+2*deep.toNat≤900)∧deep.toNat<uY+1,fun ((r,()),((_,i',_,()),()))=>0≤i'∧q.length<r.length∧r.length≤q.length+2*deep.toNat+1)
def FX [vX]:Ib:=uD xk FW yJ
def sZ:List gZ:=[.ptr [.sl eG jM false, .int .i64, .int .i64], .p (.v (.one .nil)), .p (.v (.one (.int .i64))), .p (.v (.one (.bool)))]
def G7:List uI:=[.one (.own bg dG false)]
def Jg:jV sZ→Prop×(pz G7×ou sZ→Prop):=fun ((_,i,_,()),(),deep,_,())=>(0≤i∧0≤deep∧deep≤4,fun ((r,()),((_,i',_,()),()))=>0≤i'∧0<r.length∧r.length≤0+2*deep.toNat+1)
def BQ:Ib:=uD sZ G7 Jg
def nC:XA:=⟨48,[.ptr [.sl eG jM false, .int .i64, .int .i64]],[.one (.own bg dG false)],fun (((_,i,_,()),()):iQ)=>(0≤i,fun (z:BP)=>0≤z.2.1.2.1∧0<z.1.1.length∧z.1.1.length≤9)⟩
def iG:XA:=⟨48,[.ptr [.sl eG jM false, .int .i64, .int .i64]],[.one (.c (.sl bg dG false))],fun (((_,i,_,()),()):iQ)=>(0≤i,fun (z:BP)=>0≤z.2.1.2.1∧0<z.1.1.length∧z.1.1.length≤9)⟩
def xR:XA:=⟨46,[.ptr [.sl eG jM false, .int .i64, .int .i64]],[.one (.c (.sl bg dG false))],fun (((_,i,_,()),()):iQ)=>(0≤i,fun (z:BP)=>0≤z.2.1.2.1∧z.1.1.length≤10)⟩
def rF:XA:=⟨176,[.ptr [.sl eG jM false, .int .i64, .int .i64]],[.one (.own aS bF false)],fun (((_,i,_,()),()):iQ)=>(0≤i,fun (z:nY×iQ)=>0≤z.2.1.2.1∧0<z.1.1.length∧z.1.1.length≤4∧Sp.aV z.1.1)⟩
def xU:XA:=⟨103,[.ptr [.sl eG jM false, .int .i64, .int .i64]],[.one (.c (.sl aS bF false))],fun (((_,i,_,()),()):iQ)=>(0≤i,fun (z:nY×iQ)=>0≤z.2.1.2.1∧z.1.1.length≤10∧Sp.aV z.1.1)⟩
def rG:XA:=⟨130,[.ptr [.sl eG jM false, .int .i64, .int .i64]],[.one (.c (.sl aS bF false))],fun (((_,i,_,()),()):iQ)=>(0≤i,fun (z:nY×iQ)=>0≤z.2.1.2.1∧z.1.1.length≤10∧Sp.aV z.1.1∧Sp.aF z.1.1=true∧0<z.1.1.length)⟩
def vY:PA:=⟨209,[.v (.agg [.int .i64, .int .i64, .int .i64, .str, .int .i64, .int .i64, .str]), .v (.one (.int .i64))],[.one (.bool)],fun (((o,l,r,nm,vk,vi,vs,()),at',()):aeH×gX)=>(True,Sp.kS (o,l,r,nm,vk,vi,vs,()) at',())⟩
def vZ:PA:=⟨234,[.v (.agg [.int .i64, .int .i64, .int .i64, .str, .int .i64, .int .i64, .str]), .v (.one (.int .i64))],[.one (.bool)],fun (((o,l,r,nm,vk,vi,vs,()),at',()):aeH×gX)=>(True,Sp.kS (o,l,r,nm,vk,vi,vs,()) at',())⟩
def ql:PA:=⟨210,[.v (.one (.sl bg dG false)), .v (.one (.int .i64))],[.one (.int .i64)],fun ((q,at',()):kN×gX)=>(q.length≤1000000,(Sp.pF q at':Int),())⟩
def qm:PA:=⟨235,[.v (.one (.sl bg dG false)), .v (.one (.int .i64))],[.one (.int .i64)],fun ((q,at',()):kN×gX)=>(q.length≤1000000,(Sp.pF q at':Int),())⟩
def lX:PA:=⟨151,[.v (.one (.sl bg dG false))],[.one (.bool)],fun ((q,()):zx)=>(q.length≤1000000,Sp.bQ q,())⟩
def lY:PA:=⟨185,[.v (.one (.sl bg dG false))],[.one (.bool)],fun ((q,()):zx)=>(q.length≤1000000,Sp.bQ q,())⟩
def wo:PA:=⟨71,[.v (.one (.sl aS bF false))],[.one (.bool)],fun ((d,()):nY)=>(Sp.aV d,Sp.gV d,())⟩
def wu:PA:=⟨114,[.v (.one (.sl aS bF false))],[.one (.bool)],fun ((d,()):nY)=>(Sp.aV d,Sp.gV d,())⟩
def xq:PA:=⟨238,[.v (.agg [.int .i64, .int .i64, .int .i64, .str, .int .i64, .int .i64, .str])],[.one (.bool)],fun (((o,_,_,_,_,_,_,()),()):Ny)=>(True,(o==8||o==9),())⟩
def uJ:PA:=⟨276,[.v (.one (.sl bg dG false))],[.one (.sl ag6 R_4 true)],fun ((q,()):zx)=>(q.length≤1000,Sp.negated q,())⟩
def uK:PA:=⟨259,[.v (.one (.sl bg dG false))],[.one (.sl ag6 R_4 true)],fun ((q,()):zx)=>(q.length≤1000,Sp.negated q,())⟩
def jI:List gZ:=[.p (.v (.one (.sl bY eH false)))]
def Et:List uI:=[.one (.c (.sl bY eH true))]
def LG:jV jI→Prop×(pz Et×ou jI→Prop):=fun (l,())=>(l.length≤1000,fun ((r,()),())=>r.length≤l.length∧∀ s,s∈r↔s∈l)
def lZ:Ib:=uD jI Et LG
def nD:XA:=⟨236,[.p (.v (.one (.sl bg dG false))), .p (.v (.one (.bool)))],[.one (.c (.sl bY eH true))],fun ((q,neg,()):kN×dA)=>(q.length≤1000,fun (z:gY)=>Sp.dB z.1.1 (Sp.fC q neg))⟩
def l7:XA:=⟨187,[.p (.v (.one (.sl bg dG false)))],[.one (.c (.sl bY eH true))],fun ((q,()):zx)=>(q.length≤1000,fun (z:gY)=>Sp.dB z.1.1 (Sp.fC q false))⟩
def l9:XA:=⟨188,[.p (.v (.one (.sl bg dG false)))],[.one (.c (.sl bY eH true))],fun ((q,()):zx)=>(q.length≤1000,fun (z:gY)=>Sp.dB z.1.1 (Sp.fC q true))⟩
def qy:PA:=⟨126,[.v (.one (.sl bY eH false)), .v (.one (.str))],[.one (.sl bY eH false)],fun ((l,s,()):uz×jY)=>(l.length≤1000,Sp.BR l s,())⟩
def pG:XA:=⟨247,[.p (.v (.one (.sl bg dG false))), .p (.v (.one (.bool)))],[.one (.c (.sl bY eH true))],fun ((q,neg,()):kN×dA)=>(q.length≤1000,fun (z:gY)=>Sp.dB z.1.1 (Sp.fC q neg))⟩
def mg:XA:=⟨211,[.p (.v (.one (.sl bg dG false)))],[.one (.c (.sl bY eH true))],fun ((q,()):zx)=>(q.length≤1000,fun (z:gY)=>Sp.dB z.1.1 (Sp.fC q false))⟩
def mr:XA:=⟨213,[.p (.v (.one (.sl bg dG false)))],[.one (.c (.sl bY eH true))],fun ((q,()):zx)=>(q.length≤1000,fun (z:gY)=>Sp.dB z.1.1 (Sp.fC q true))⟩
def yZ:PA:=⟨180,[.v (.agg [.str, .sl bg dG false]), .kp [.str]],[.one (.bool)],fun (((nm,_,()),name,()):(fV×zx)×jY×Unit)=>(True,(nm==name.1),())⟩
def gQ:PA:=⟨111,[.v (.one (.sl aS bF false)), .fn 180 [[.str]]],[.one (.int .i64)],fun ((d,((name,()),()),()):iR×(jY×Unit)×Unit)=>(True,Sp.aU d name,())⟩
def EM:PA:=⟨109,[.v (.one (.sl aS bF false)), .v (.one (.str))],[.one (.int .i64)],fun ((d,name,()):iR×jY)=>(True,Sp.aU d name,())⟩
def Ai:PA:=⟨212,[.v (.one (.sl aS bF false)), .v (.one (.str))],[.one (.int .i64)],fun ((d,name,()):iR×jY)=>(True,Sp.aU d name,())⟩
def wz:PA:=⟨186,[.v (.one (.sl aS bF false)), .v (.one (.sl fE jU false)), .v (.one (.sl bY eH false)), .v (.one (.int .i64))],[.one (.int .i64)],fun ((d,aG,names,more,()):iR×dS×uz×gX)=>(d.length≤aG.length∧names.length≤1000∧0≤more∧more≤1∧∀ x∈aG,0≤x.1∧x.1≤1000000,Sp.Aj d aG more names,())⟩
def um:XA:=⟨115,[.p (.v (.one (.sl aS bF false)))],[.one (.c (.sl fE jU true)), .one (.c .bool)],fun ((d,()):nY)=>(Sp.aV d,fun (z:Qm)=>z.1.2.1=Sp.aF d∧(z.1.2.1=true→Sp.lg d z.1.1))⟩
def mX:XA:=⟨152,[.p (.v (.one (.sl aS bF false))), .p (.v (.one (.sl fE jU false)))],[.one (.own fE jU true)],fun ((d,aG,()):iR×kW)=>(Sp.aV d∧d.length≤5∧aG.length=d.length∧∀ x∈aG,0≤x.1∧x.1≤1000000,fun (z:EL)=>Sp.raised d aG z.1.1)⟩
def rH:PA:=⟨149,[.v (.one (.sl fE jU false)), .v (.one (.sl fE jU false))],[.one (.bool)],fun ((a,b,()):Ju)=>(True,decide (a=b),())⟩
def nU:XA:=⟨72,[.p (.v (.one (.sl aS bF false)))],[.one (.c (.sl fE jU true)), .one (.c .bool)],fun ((d,()):nY)=>(Sp.aV d,fun (z:Qm)=>z.1.2.1=Sp.aF d∧(z.1.2.1=true→Sp.lg d z.1.1)∧(z.1.2.1=false→z.1.1=[]))⟩
def uM:PA:=⟨20,[.v (.one (.sl aS bF false))],[.one (.bool)],fun ((d,()):nY)=>(Sp.aV d,Sp.aF d,())⟩
def nG:PA:=⟨181,[.v (.one (.sl bg dG false))],[.one (.sl bg dG false)],fun ((l,()):zx)=>(l.length≤1000,l,())⟩
def BU:PA:=⟨110,[.v (.agg [.str, .sl bg dG false])],[.agg [.str, .sl bg dG false]],fun (((n,q,()),()):(fV×zx)×Unit)=>(q.length≤1000,(n,q,()),())⟩
def xu:PA:=⟨60,[.v (.one (.sl aS bF false))],[.one (.sl aS bF false)],fun ((d,()):nY)=>(Sp.aV d,d,())⟩
def zf:PA:=⟨63,[.v (.one (.sl aS bF false))],[.one (.sl aS bF true)],fun ((d,()):nY)=>(Sp.aV d,d,())⟩
def zF:PA:=⟨205,[.v (.one (.sl bg dG false)), .v (.one (.sl bg dG false))],[.one (.bool)],fun ((a,b,()):kN×zx)=>(True,decide (a=b),())⟩
def BV:PA:=⟨138,[.v (.agg [.str, .sl bg dG false]), .v (.agg [.str, .sl bg dG false])],[.one (.bool)],fun ((a,b,()):(fV×zx)×(fV×zx)×Unit)=>(True,decide (a=b),())⟩
def Ak:PA:=⟨65,[.v (.one (.sl aS bF false)), .v (.one (.sl aS bF false))],[.one (.bool)],fun ((a,b,()):iR×nY)=>(True,decide (a=b),())⟩
def ve:PA:=⟨252,[.v (.agg [.int .i64, .int .i64, .bool, .int .i64, .sl aO aZ false]), .v (.one (.str))],[.agg [.int .i64, .int .i64, .str]],fun (((_,_,_,_,a,()),name,()):BJ×jY)=>(True,Sp.bM a name,())⟩
def vw:PA:=⟨99,[.v (.agg [.int .i64, .int .i64, .bool, .int .i64, .sl aO aZ false]), .v (.one (.str))],[.agg [.int .i64, .int .i64, .str]],fun (((_,_,_,_,a,()),name,()):BJ×jY)=>(True,Sp.bM a name,())⟩
def BZ:PA:=⟨286,[.v (.agg [.int .i64, .int .i64, .bool, .int .i64, .sl aO aZ false]), .v (.one (.str))],[.one (.int .i64), .one (.bool)],fun (((_,_,_,_,a,()),name,()):BJ×jY)=>(True,(bif (Sp.bM a name).1==1 then (Sp.bM a name).2.1 else 0),((Sp.bM a name).1==1),())⟩
def wB:PA:=⟨279,[.v (.one (.sl fE jU false)), .v (.one (.int .i64))],[.one (.int .i64)],fun ((s,v,()):dS×gX)=>(True,Sp.findAt (fun x=>x.1==v) s,())⟩
def mZ:PA:=⟨262,[.v (.one (.sl fE jU false)), .v (.one (.int .i64))],[.one (.bool)],fun ((s,v,()):dS×gX)=>(True,Sp.fF s v,())⟩
def rJ:PA:=⟨193,[.v (.one (.sl bY eH false)), .v (.one (.str))],[.one (.int .i64)],fun ((s,v,()):uz×jY)=>(True,Sp.findAt (fun x=>x.1==v) s,())⟩
def iM:PA:=⟨121,[.v (.one (.sl bY eH false)), .v (.one (.str))],[.one (.bool)],fun ((s,v,()):uz×jY)=>(True,Sp.dQ s v,())⟩
def yx:PA:=⟨287,[.v (.one (.sl fE jU false)), .v (.one (.int .i64))],[.one (.bool)],fun ((s,v,()):dS×gX)=>(True,Sp.fF s v,())⟩
def tY:PA:=⟨166,[.v (.one (.sl fE jU false)), .v (.one (.int .i64))],[.one (.bool)],fun ((s,v,()):dS×gX)=>(True,Sp.fF s v,())⟩
def rM:PA:=⟨189,[.v (.one (.sl fE jU false))],[.one (.sl fE jU false)],fun ((l,()):kW)=>(l.length≤1000,l,())⟩
def qJ:PA:=⟨191,[.v (.one (.sl aI bn false)), .v (.one (.str))],[.one (.sl fE jU false)],fun ((r,name,()):jS×jY)=>(Sp.bH r,Sp.fG r name,())⟩
def qK:PA:=⟨196,[.v (.one (.sl aI bn false)), .v (.one (.str))],[.one (.sl fE jU true)],fun ((r,name,()):jS×jY)=>(Sp.bH r,Sp.fG r name,())⟩
def LH:List jr:=[.v (.one (.sl bg dG false)), .v (.one (.int .i64)), .v (.agg [.int .i64, .int .i64, .bool, .int .i64, .sl aO aZ false]), .v (.one (.sl aI bn false))]
def J8:List wC:=[.one (.bool)]
def aeL:pI LH→Prop×zS J8:=fun (q,at',(i,o,s,l,a,()),r,())=>(Sp.bQ q=true∧0≤at'∧at'<q.length∧Sp.bH r,Sp.val q (i,o,s,l,a,()) (Sp.bD r) at'.toNat,())
def J9:WL:=FN LH J8 aeL
def FY:List jr:=[.v (.one (.sl bg dG false)), .v (.one (.int .i64)), .v (.agg [.int .i64, .int .i64, .bool, .int .i64, .sl aO aZ false]), .v (.one (.sl aI bn false))]
def FB:List wC:=[.one (.bool)]
def G8 [vX]:pI FY→Prop×zS FB:=fun (q,at',(i,o,s,l,a,()),r,())=>((Sp.bQ q=true∧0≤at'∧at'<q.length∧Sp.bH r)∧at'.toNat<uY,Sp.val q (i,o,s,l,a,()) (Sp.bD r) at'.toNat,())
def FC [vX]:WL:=FN FY FB G8
def zW:List jr:=[.v (.one (.sl bg dG false)), .v (.one (.int .i64)), .v (.agg [.int .i64, .int .i64, .bool, .int .i64, .sl aO aZ false]), .v (.one (.sl aI bn false))]
def EN:List wC:=[.one (.bool)]
def FZ [vX]:pI zW→Prop×zS EN:=fun (q,at',(i,o,s,l,a,()),r,())=>((Sp.bQ q=true∧0≤at'∧at'<q.length∧Sp.bH r)∧at'.toNat<uY+1,Sp.val q (i,o,s,l,a,()) (Sp.bD r) at'.toNat,())
def EO [vX]:WL:=FN zW EN FZ
def Py:List jr:=[.v (.one (.sl bg dG false)), .v (.one (.int .i64)), .v (.agg [.int .i64, .int .i64, .bool, .int .i64, .sl aO aZ false]), .v (.one (.sl aI bn false))]
def NC:List wC:=[.one (.bool)]
def akm:pI Py→Prop×zS NC:=fun (q,at',(i,o,s,l,a,()),r,())=>(Sp.bQ q=true∧0≤at'∧at'<q.length∧Sp.bH r,Sp.val q (i,o,s,l,a,()) (Sp.bD r) at'.toNat,())
def ND:WL:=FN Py NC akm
def Ic:List jr:=[.v (.one (.sl bg dG false)), .v (.one (.int .i64)), .v (.agg [.int .i64, .int .i64, .bool, .int .i64, .sl aO aZ false]), .v (.one (.sl aI bn false))]
def G9:List wC:=[.one (.bool)]
def Jh [vX]:pI Ic→Prop×zS G9:=fun (q,at',(i,o,s,l,a,()),r,())=>((Sp.bQ q=true∧0≤at'∧at'<q.length∧Sp.bH r)∧at'.toNat<uY,Sp.val q (i,o,s,l,a,()) (Sp.bD r) at'.toNat,())
def He [vX]:WL:=FN Ic G9 Jh
def Cb:List jr:=[.v (.one (.sl bg dG false)), .v (.one (.int .i64)), .v (.agg [.int .i64, .int .i64, .bool, .int .i64, .sl aO aZ false]), .v (.one (.sl aI bn false))]
def F5:List wC:=[.one (.bool)]
def Ie [vX]:pI Cb→Prop×zS F5:=fun (q,at',(i,o,s,l,a,()),r,())=>((Sp.bQ q=true∧0≤at'∧at'<q.length∧Sp.bH r)∧at'.toNat<uY+1,Sp.val q (i,o,s,l,a,()) (Sp.bD r) at'.toNat,())
def F6 [vX]:WL:=FN Cb F5 Ie
def Cc:PA:=⟨243,[.v (.one (.sl bg dG false)), .v (.agg [.int .i64, .int .i64, .bool, .int .i64, .sl aO aZ false]), .v (.one (.sl aI bn false))],[.one (.bool)],fun ((q,f,r,()):kN×BJ×qi)=>(q.length≤1000∧Sp.bH r,Sp.iW q f (Sp.bD r),())⟩
def Ce:PA:=⟨241,[.v (.one (.sl bg dG false)), .v (.agg [.int .i64, .int .i64, .bool, .int .i64, .sl aO aZ false]), .v (.one (.sl aI bn false))],[.one (.bool)],fun ((q,f,r,()):kN×BJ×qi)=>(q.length≤1000∧Sp.bH r,Sp.iW q f (Sp.bD r),())⟩
def wE:PA:=⟨203,[.v (.agg [.sl aC aX false, .sl aJ bP false, .int .i64]), .v (.one (.sl bg dG false)), .v (.one (.sl aI bn false))],[.one (.sl fE jU true)],fun ((s,q,r,()):qj×kN×qi)=>(Sp.bG s∧q.length≤1000∧Sp.bH r,Sp.sel s.2.1 q (Sp.bD r),())⟩
def rO:PA:=⟨198,[.v (.agg [.sl aC aX false, .sl aJ bP false, .int .i64]), .v (.one (.sl bg dG false)), .v (.one (.sl aI bn false))],[.one (.sl fE jU true)],fun ((s,q,r,()):qj×kN×qi)=>(Sp.bG s∧q.length≤1000∧Sp.bH r,Sp.sel s.2.1 q (Sp.bD r),())⟩
def rP:PA:=⟨148,[.v (.one (.sl fE jU false)), .v (.one (.sl fE jU false))],[.one (.bool)],fun ((a,b,()):Ju)=>(True,decide (a=b),())⟩
def ng:PA:=⟨147,[.v (.agg [.str, .sl fE jU false]), .v (.agg [.str, .sl fE jU false])],[.one (.bool)],fun ((a,b,()):(fV×kW)×(fV×kW)×Unit)=>(True,decide (a=b),())⟩
def dF:PA:=⟨146,[.v (.one (.sl aI bn false)), .v (.one (.sl aI bn false)), .fn 147 []],[.one (.bool)],fun ((a,b,_,()):jS×jS×zV)=>(True,decide (a=b),())⟩
def uN:PA:=⟨69,[.v (.one (.sl aI bn false)), .v (.one (.sl aI bn false))],[.one (.bool)],fun ((a,b,()):jS×qi)=>(True,decide (a=b),())⟩
def uO:PA:=⟨70,[.v (.one (.sl aI bn false)), .v (.one (.sl aI bn false))],[.one (.bool)],fun ((a,b,()):jS×qi)=>(True,decide (a=b),())⟩
def qL:XA:=⟨242,[.p (.v (.one (.sl fE jU false)))],[.one (.c (.int .i64))],fun ((l,()):kW)=>(0<l.length,fun (z:fU)=>(∀ x∈l,x.1≤z.1.1)∧(z.1.1,())∈l)⟩
def oM:XA:=⟨202,[.p (.v (.one (.sl aS bF false)))],[.one (.c (.int .i64))],fun ((d,()):nY)=>(Sp.aV d,fun (z:fU)=>Sp.YR d z.1.1)⟩
def lQ:XA:=⟨197,[.p (.v (.one (.sl aS bF false)))],[.one (.c (.int .i64))],fun ((d,()):nY)=>(Sp.aV d,fun (z:fU)=>Sp.YR d z.1.1)⟩
def xw:PA:=⟨83,[.v (.one (.sl aS bF false))],[.one (.sl bY eH true)],fun ((d,()):nY)=>(d.length≤1000,Sp.iY d,())⟩
def Am:PA:=⟨85,[.v (.one (.sl aS bF false))],[.one (.sl bY eH true)],fun ((d,()):nY)=>(d.length≤1000,Sp.iY d,())⟩
def nH:XA:=⟨131,[.p (.v (.agg [.sl aC aX false, .sl aJ bP false, .int .i64])), .p (.v (.one (.sl aS bF false))), .p (.v (.one (.sl aI bn false))), .p (.v (.one (.sl bY eH false)))],[.one (.c (.sl aI bn false)), .one (.c (.int .i64)), .one (.c .bool)],fun ((s,d,r,names,()):qj×iR×jS×Gy)=>(Sp.bG s∧Sp.aV d∧Sp.bH r,fun (z:aeJ)=>z.1.2.2.1=(Sp.aF d&&Sp.aH s)∧(z.1.2.2.1=true→Sp.iD s.2.1 d r (Sp.dQ names) z.1.1))⟩
def tq:XA:=⟨58,[.p (.v (.agg [.sl aC aX false, .sl aJ bP false, .int .i64])), .p (.v (.one (.sl aS bF false)))],[.one (.c (.sl aI bn false)), .one (.c .bool)],fun ((s,d,()):qj×nY)=>(Sp.bG s∧Sp.aV d,fun (z:Jv)=>z.1.2.1=(Sp.aF d&&Sp.aH s)∧(z.1.2.1=true→Sp.iD s.2.1 d [] (fun _=>true) z.1.1))⟩
def oN:XA:=⟨117,[.p (.v (.agg [.sl aC aX false, .sl aJ bP false, .int .i64])), .p (.v (.one (.sl aS bF false))), .p (.v (.one (.sl aI bn false))), .p (.v (.one (.sl bY eH false)))],[.one (.c (.sl aI bn false)), .one (.c .bool)],fun ((s,d,r,names,()):qj×iR×jS×Gy)=>(Sp.bG s∧Sp.aV d∧Sp.bH r,fun (z:Jv)=>z.1.2.1=(Sp.aF d&&Sp.aH s)∧(z.1.2.1=true→Sp.iD s.2.1 d r (Sp.dQ names) z.1.1))⟩
def xW:XA:=⟨134,[.p (.v (.agg [.sl aC aX false, .sl aJ bP false, .int .i64])), .p (.v (.one (.sl aS bF false)))],[.one (.own aI bn false), .one (.c (.int .i64)), .one (.c .bool)],fun ((s,d,()):qj×nY)=>(Sp.bG s∧Sp.aV d,fun (z:aeJ)=>z.1.2.2.1=(Sp.aF d&&Sp.aH s)∧(z.1.2.2.1=true→Sp.iD s.2.1 d [] (fun _=>true) z.1.1))⟩
def pJ:XA:=⟨61,[.p (.v (.agg [.sl aC aX false, .sl aJ bP false, .int .i64])), .p (.v (.one (.sl aS bF false)))],[.one (.own aI bn false), .one (.c .bool)],fun ((s,d,()):qj×nY)=>(Sp.bG s∧Sp.aV d,fun (z:Jv)=>z.1.2.1=(Sp.aF d&&Sp.aH s)∧(z.1.2.1=true→Sp.iD s.2.1 d [] (fun _=>true) z.1.1))⟩
def oO:XA:=⟨124,[.p (.v (.agg [.sl aC aX false, .sl aJ bP false, .int .i64])), .p (.v (.one (.sl aS bF false))), .p (.v (.one (.sl aI bn false))), .p (.v (.one (.sl bY eH false)))],[.one (.c (.sl aI bn false)), .one (.c .bool)],fun ((s,d,r,names,()):qj×iR×jS×Gy)=>(Sp.bG s∧Sp.aV d∧Sp.bH r,fun (z:Jv)=>z.1.2.1=(Sp.aF d&&Sp.aH s)∧(z.1.2.1=true→Sp.iD s.2.1 d r (Sp.dQ names) z.1.1))⟩
def lS:XA:=⟨12,[.p (.v (.agg [.sl aC aX false, .sl aJ bP false, .int .i64])), .p (.v (.one (.sl aS bF false)))],[.agg [.c (.sl aC aX false), .c (.sl aJ bP false), .c (.int .i64), .c (.sl aS bF false), .own aI bn false], .one (.c .bool)],fun ((s,d,()):qj×nY)=>(Sp.bG s∧Sp.aV d,fun (z:FI)=>z.1.2.1=(Sp.aF d&&Sp.aH s)∧(z.1.2.1=true→(z.1.1.1,z.1.1.2.1,z.1.1.2.2.1,())=s∧z.1.1.2.2.2.1=d∧Sp.iD s.2.1 d [] (fun _=>true) z.1.1.2.2.2.2.1)∧(z.1.2.1=false→(z.1.1.1,z.1.1.2.1,z.1.1.2.2.1,z.1.1.2.2.2.1,z.1.1.2.2.2.2.1,())=([],[],0,[],[],())))⟩
def vz:PA:=⟨17,[.v (.agg [.sl aC aX false, .sl aJ bP false, .int .i64, .sl aS bF false, .sl aI bn false])],[.one (.bool)],fun ((c,()):DX×Unit)=>(Sp.iy c,Sp.iH c,())⟩
def vC:PA:=⟨18,[.v (.agg [.sl aC aX false, .sl aJ bP false, .int .i64, .sl aS bF false, .sl aI bn false])],[.one (.bool)],fun ((c,()):DX×Unit)=>(Sp.iy c,Sp.iH c,())⟩
def Aa:PA:=⟨156,[.v (.agg [.sl aC aX false, .sl aJ bP false, .int .i64]), .v (.one (.int .i64))],[.one (.int .i64)],fun (((_,fs,_,()),id,()):qj×gX)=>(True,Sp.place fs id,())⟩
def xA:PA:=⟨215,[.v (.agg [.int .i64, .int .i64, .bool, .int .i64, .sl aO aZ false]), .kp [.int .i64]],[.one (.bool)],fun (((i,_,_,_,_,()),id,()):BJ×fU)=>(True,decide (i=id.1),())⟩
def gB:PA:=⟨214,[.v (.one (.sl aJ bP false)), .fn 215 [[.int .i64]]],[.one (.int .i64)],fun ((l,((id,()),()),()):iq×fU×Unit)=>(True,Sp.place l id,())⟩
def tu:PA:=⟨77,[.v (.agg [.sl aC aX false, .sl aJ bP false, .int .i64]), .v (.one (.int .i64))],[.agg [.int .i64, .int .i64, .bool, .int .i64, .sl aO aZ false], .one (.bool)],fun ((s,id,()):qj×gX)=>(Sp.bG s,(Sp.au s id).1,(Sp.au s id).2,())⟩
def pK:PA:=⟨79,[.v (.agg [.sl aC aX false, .sl aJ bP false, .int .i64]), .v (.one (.int .i64))],[.agg [.int .i64, .int .i64, .bool, .int .i64, .sl aO aZ false], .one (.bool)],fun ((s,id,()):qj×gX)=>(Sp.bG s,(Sp.au s id).1,(Sp.au s id).2,())⟩
def nI:XA:=⟨76,[.p (.v (.agg [.sl aC aX false, .sl aJ bP false, .int .i64])), .p (.v (.agg [.int .i64, .int .i64, .bool, .int .i64, .sl aO aZ false]))],[.agg [.c (.sl aC aX false), .own aJ bP false, .c (.int .i64)], .one (.c .bool)],fun ((s,f,()):qj×oJ)=>(Sp.bG s∧Sp.bW f,fun (z:Uu)=>z.1.1.1=(Sp.aP s f).1.1∧z.1.1.2.1=(Sp.aP s f).1.2.1∧z.1.1.2.2.1=(Sp.aP s f).1.2.2.1∧z.1.2.1=(Sp.aP s f).2)⟩
def nJ:XA:=⟨80,[.p (.v (.agg [.sl aC aX false, .sl aJ bP false, .int .i64])), .p (.v (.agg [.int .i64, .int .i64, .bool, .int .i64, .sl aO aZ false]))],[.agg [.own aC aX true, .own aJ bP true, .c (.int .i64)], .one (.c .bool)],fun ((s,f,()):qj×oJ)=>(Sp.bG s∧Sp.bW f,fun (z:Uu)=>z.1.1.1=(Sp.aP s f).1.1∧z.1.1.2.1=(Sp.aP s f).1.2.1∧z.1.1.2.2.1=(Sp.aP s f).1.2.2.1∧z.1.2.1=(Sp.aP s f).2)⟩
def Dx:PA:=⟨251,[.v (.agg [.int .i64, .int .i64, .bool, .int .i64, .sl aO aZ false])],[.one (.sl bY eH true)],fun (((_,_,_,_,a,()),()):oJ)=>(a.length≤1000,Sp.fQ a,())⟩
def mD:XA:=⟨220,[.p (.v (.agg [.int .i64, .int .i64, .bool, .int .i64, .sl aO aZ false])), .p (.v (.agg [.int .i64, .int .i64, .bool, .int .i64, .sl aO aZ false]))],[.one (.c (.sl bY eH true))],fun ((f,g,()):BJ×oJ)=>(Sp.bW f∧Sp.bW g∧f.2.2.2.2.1.length+g.2.2.2.2.1.length≤1000,fun (z:gY)=>Sp.dB z.1.1 (Sp.jv f g))⟩
def mF:XA:=⟨228,[.p (.v (.agg [.int .i64, .int .i64, .bool, .int .i64, .sl aO aZ false])), .p (.v (.agg [.int .i64, .int .i64, .bool, .int .i64, .sl aO aZ false]))],[.one (.c (.sl bY eH true))],fun ((f,g,()):BJ×oJ)=>(Sp.bW f∧Sp.bW g∧f.2.2.2.2.1.length+g.2.2.2.2.1.length≤1000,fun (z:gY)=>Sp.dB z.1.1 (Sp.jv f g))⟩
def oP:XA:=⟨221,[.p (.v (.one (.sl bg dG false)))],[.one (.c (.sl bY eH true))],fun ((q,()):zx)=>(q.length≤1000,fun (z:gY)=>Sp.dB z.1.1 (Sp.lI q))⟩
def oQ:XA:=⟨230,[.p (.v (.one (.sl bg dG false)))],[.one (.c (.sl bY eH true))],fun ((q,()):zx)=>(q.length≤1000,fun (z:gY)=>Sp.dB z.1.1 (Sp.lI q))⟩
def qM:XA:=⟨192,[.p (.v (.one (.sl bg dG false)))],[.one (.c (.sl bY eH true))],fun ((q,()):zx)=>(q.length≤1000,fun (z:gY)=>Sp.dB z.1.1 (Sp.rQ q))⟩
def qN:XA:=⟨127,[.p (.v (.one (.sl bg dG false)))],[.one (.c (.sl bY eH true))],fun ((q,()):zx)=>(q.length≤1000,fun (z:gY)=>Sp.dB z.1.1 (Sp.rQ q))⟩
def xX:PA:=⟨128,[.v (.one (.sl bY eH false)), .v (.one (.str))],[.one (.bool)],fun ((l,s,()):uz×jY)=>(True,Sp.dQ l s,())⟩
def oU:XA:=⟨120,[.p (.v (.one (.sl aS bF false))), .p (.v (.one (.str)))],[.one (.c (.sl bY eH true))],fun ((d,name,()):iR×jY)=>(Sp.aV d,fun (z:gY)=>z.1.1=Sp.asking d name)⟩
def iO:XA:=⟨53,[.p (.v (.one (.sl aS bF false))), .p (.v (.one (.sl bY eH false)))],[.one (.c (.sl bY eH true))],fun ((d,names,()):iR×Gy)=>(Sp.aV d∧d.length≤5∧names.length≤900,fun (z:gY)=>Sp.reached d names z.1.1)⟩
def iP:XA:=⟨56,[.p (.v (.one (.sl aS bF false))), .p (.v (.one (.sl bY eH false)))],[.one (.c (.sl bY eH true))],fun ((d,names,()):iR×Gy)=>(Sp.aV d∧d.length≤5∧names.length≤900,fun (z:gY)=>Sp.reached d names z.1.1)⟩
def je:PA:=⟨225,[.v (.agg [.int .i64, .int .i64, .int .i64, .str, .int .i64, .int .i64, .str])],[.one (.bool)],fun (((o,_,_,_,_,_,_,()),()):Ny)=>(True,(o==9),())⟩
def dZ:PA:=⟨254,[.v (.one (.sl bg dG false)), .fn 225 []],[.one (.int .i64)],fun ((q,_,()):kN×zV)=>(True,Sp.findAt (fun n=>n.1==9) q,())⟩
def dU:PA:=⟨224,[.v (.one (.sl bg dG false)), .fn 225 []],[.one (.bool)],fun ((q,_,()):kN×zV)=>(True,Sp.linked q,())⟩
def zG:PA:=⟨229,[.v (.one (.sl bg dG false))],[.one (.bool)],fun ((q,()):zx)=>(True,Sp.linked q,())⟩
def jE:XA:=⟨160,[.p (.v (.one (.sl aS bF false))), .p (.v (.agg [.int .i64, .int .i64, .bool, .int .i64, .sl aO aZ false])), .p (.v (.agg [.int .i64, .int .i64, .bool, .int .i64, .sl aO aZ false]))],[.one (.c (.sl bY eH true))],fun ((d,f,g,()):iR×BJ×oJ)=>(Sp.aV d∧Sp.bW f∧Sp.bW g∧f.2.2.2.2.1.length+g.2.2.2.2.1.length≤1000,fun (z:gY)=>Sp.touched d f g z.1.1)⟩
def jF:XA:=⟨164,[.p (.v (.one (.sl aS bF false))), .p (.v (.agg [.int .i64, .int .i64, .bool, .int .i64, .sl aO aZ false])), .p (.v (.agg [.int .i64, .int .i64, .bool, .int .i64, .sl aO aZ false]))],[.one (.c (.sl bY eH true))],fun ((d,f,g,()):iR×BJ×oJ)=>(Sp.aV d∧Sp.bW f∧Sp.bW g∧f.2.2.2.2.1.length+g.2.2.2.2.1.length≤1000,fun (z:gY)=>Sp.touched d f g z.1.1)⟩
def jf:PA:=⟨223,[.v (.one (.str)), .kp [.sl bY eH false]],[.one (.bool)],fun ((nm,attrs,()):fV×gY)=>(True,Sp.dQ attrs.1 nm,())⟩
def fB:PA:=⟨253,[.v (.one (.sl bY eH false)), .fn 223 [[.sl bY eH false]]],[.one (.int .i64)],fun ((l,((attrs,()),()),()):uz×gY×Unit)=>(True,Sp.findAt (fun x=>Sp.dQ attrs x.1) l,())⟩
def eF:PA:=⟨222,[.v (.one (.sl bY eH false)), .fn 223 [[.sl bY eH false]]],[.one (.bool)],fun ((l,((attrs,()),()),()):uz×gY×Unit)=>(True,l.any fun x=>Sp.dQ attrs x.1,())⟩
def iZ:XA:=⟨119,[.p (.v (.one (.sl bY eH false)))],[.one (.own bY eH false)],fun ((l,()):Gy)=>(l.length≤1000,fun (z:gY)=>z.1.1=l)⟩
def jG:XA:=⟨189,[.p (.v (.one (.sl fE jU false)))],[.one (.own fE jU false)],fun ((l,()):kW)=>(l.length≤1000,fun (z:EL)=>z.1.1=l)⟩
def qO:PA:=⟨261,[.v (.one (.int .i64)), .kp [.sl fE jU false]],[.one (.bool)],fun ((x,b,()):Int×EL)=>(True,Sp.fF b.1 x,())⟩
def iE:PA:=⟨278,[.v (.one (.sl fE jU false)), .fn 261 [[.sl fE jU false]]],[.one (.int .i64)],fun ((l,((b,()),()),()):dS×EL×Unit)=>(True,Sp.findAt (fun x=>Sp.fF b x.1) l,())⟩
def eU:XA:=⟨260,[.own fE jU, .p (.fn 261 [[.sl fE jU false]])],[.one (.own fE jU false)],fun ((s,((b,()),()),()):dS×EL×Unit)=>(s.length≤1000,fun (z:EL)=>z.1.1=s.filter fun x=>!Sp.fF b x.1)⟩
def vF:XA:=⟨237,[.p (.v (.one (.sl fE jU false))), .p (.v (.one (.sl fE jU false)))],[.one (.own fE jU false)],fun ((a,b,()):Ju)=>(a.length≤1000,fun (z:EL)=>z.1.1=Sp.without a b)⟩
def vG:XA:=⟨190,[.p (.v (.one (.sl fE jU false))), .p (.v (.one (.sl fE jU false)))],[.one (.c (.sl fE jU false)), .one (.c (.sl fE jU false))],fun ((a,b,()):Ju)=>(a.length≤1000∧b.length≤1000,fun (z:Ju×Unit)=>z.1.1=Sp.without b a∧z.1.2.1=Sp.without a b)⟩
def vH:XA:=⟨199,[.p (.v (.one (.sl fE jU false))), .p (.v (.one (.sl fE jU false)))],[.one (.c (.sl fE jU false)), .one (.c (.sl fE jU false))],fun ((a,b,()):Ju)=>(a.length≤1000∧b.length≤1000,fun (z:Ju×Unit)=>z.1.1=Sp.without b a∧z.1.2.1=Sp.without a b)⟩
def nK:XA:=⟨118,[.p (.v (.one (.sl aI bn false))), .p (.v (.one (.sl aI bn false)))],[.one (.c (.sl yT KW false))],fun ((a,b,()):jS×qi)=>(Sp.bH a∧Sp.bH b,fun (z:akl)=>z.1.1=Sp.Gu a b)⟩
def nM:XA:=⟨125,[.p (.v (.one (.sl aI bn false))), .p (.v (.one (.sl aI bn false)))],[.one (.c (.sl yT KW false))],fun ((a,b,()):jS×qi)=>(Sp.bH a∧Sp.bH b,fun (z:akl)=>z.1.1=Sp.Gu a b)⟩
def nN:XA:=⟨116,[.p (.v (.one (.sl aI bn false)))],[.one (.c (.sl aI bn false))],fun ((r,()):qi)=>(Sp.bH r,fun (z:qi×Unit)=>z.1.1=r)⟩
def jh:XA:=⟨51,[.p (.v (.agg [.sl aC aX false, .sl aJ bP false, .int .i64, .sl aS bF false, .sl aI bn false]))],[.agg [.c (.sl aC aX false), .c (.sl aJ bP false), .c (.int .i64), .c (.sl aS bF false), .c (.sl aI bn false)]],fun ((c,()):DX×Unit)=>(Sp.iy c,fun (z:FK)=>(z.1.1.1,z.1.1.2.1,z.1.1.2.2.1,z.1.1.2.2.2.1,z.1.1.2.2.2.2.1,())=c)⟩
def oV:XA:=⟨123,[.p (.v (.one (.sl aI bn false)))],[.one (.c (.sl aI bn false))],fun ((r,()):qi)=>(Sp.bH r,fun (z:qi×Unit)=>z.1.1=r)⟩
def oz:XA:=⟨54,[.p (.v (.agg [.sl aC aX false, .sl aJ bP false, .int .i64, .sl aS bF false, .sl aI bn false]))],[.agg [.c (.sl aC aX false), .c (.sl aJ bP false), .c (.int .i64), .c (.sl aS bF false), .c (.sl aI bn false)]],fun ((c,()):DX×Unit)=>(Sp.iy c,fun (z:FK)=>(z.1.1.1,z.1.1.2.1,z.1.1.2.2.1,z.1.1.2.2.2.1,z.1.1.2.2.2.2.1,())=c)⟩
def mG:XA:=⟨78,[.p (.v (.one (.sl aS bF false))), .p (.v (.agg [.int .i64, .int .i64, .bool, .int .i64, .sl aO aZ false])), .p (.v (.agg [.int .i64, .int .i64, .bool, .int .i64, .sl aO aZ false]))],[.one (.c (.sl bY eH true))],fun ((d,f,g,()):iR×BJ×oJ)=>(Sp.aV d∧d.length≤5∧Sp.bW f∧Sp.bW g∧f.2.2.2.2.1.length+g.2.2.2.2.1.length≤1000,fun (z:gY)=>Sp.isSet z.1.1 (Sp.WM d f g))⟩
def mJ:XA:=⟨81,[.p (.v (.one (.sl aS bF false))), .p (.v (.agg [.int .i64, .int .i64, .bool, .int .i64, .sl aO aZ false])), .p (.v (.agg [.int .i64, .int .i64, .bool, .int .i64, .sl aO aZ false]))],[.one (.c (.sl bY eH true))],fun ((d,f,g,()):iR×BJ×oJ)=>(Sp.aV d∧d.length≤5∧Sp.bW f∧Sp.bW g∧f.2.2.2.2.1.length+g.2.2.2.2.1.length≤1000,fun (z:gY)=>Sp.isSet z.1.1 (Sp.WM d f g))⟩
def qP:XA:=⟨52,[.p (.v (.agg [.sl aC aX false, .sl aJ bP false, .int .i64, .sl aS bF false, .sl aI bn false])), .p (.v (.agg [.sl aC aX false, .sl aJ bP false, .int .i64])), .p (.v (.one (.sl aS bF false))), .p (.v (.one (.sl bY eH false)))],[.agg [.c (.sl aC aX false), .c (.sl aJ bP false), .c (.int .i64), .c (.sl aS bF false), .c (.sl aI bn false)], .one (.c (.sl yT KW false)), .one (.c .bool)],fun ((c,s,d,names,()):DX×qj×iR×Gy)=>(Sp.iy c∧Sp.bG s∧Sp.aV d,fun (z:Nw)=>Sp.turned c s d (Sp.dQ names) (z.1.1.1,z.1.1.2.1,z.1.1.2.2.1,z.1.1.2.2.2.1,z.1.1.2.2.2.2.1,()) z.1.2.1 z.1.2.2.1)⟩
def vI:XA:=⟨55,[.p (.v (.agg [.sl aC aX false, .sl aJ bP false, .int .i64, .sl aS bF false, .sl aI bn false])), .p (.v (.agg [.sl aC aX false, .sl aJ bP false, .int .i64])), .p (.v (.one (.sl aS bF false))), .p (.v (.one (.sl bY eH false)))],[.agg [.c (.sl aC aX false), .c (.sl aJ bP false), .c (.int .i64), .c (.sl aS bF false), .c (.sl aI bn false)], .one (.c (.sl yT KW false))],fun ((c,s,d,names,()):DX×qj×iR×Gy)=>(Sp.iy c∧Sp.bG s∧Sp.aV d∧(Sp.aF d&&Sp.aH s)=true,fun (z:(DX×aeI×Unit)×Unit)=>Sp.turned c s d (Sp.dQ names) (z.1.1.1,z.1.1.2.1,z.1.1.2.2.1,z.1.1.2.2.2.1,z.1.1.2.2.2.2.1,()) z.1.2.1 true)⟩
def lT:XA:=⟨22,[.p (.v (.agg [.sl aC aX false, .sl aJ bP false, .int .i64, .sl aS bF false, .sl aI bn false])), .p (.v (.agg [.int .i64, .int .i64, .bool, .int .i64, .sl aO aZ false]))],[.agg [.c (.sl aC aX false), .c (.sl aJ bP false), .c (.int .i64), .c (.sl aS bF false), .c (.sl aI bn false)], .one (.c (.sl yT KW false)), .one (.c .bool)],fun ((c,f,()):DX×oJ)=>(Sp.iy c∧Sp.bW f∧Sp.JS c∧Sp.Ig f,fun (z:Nw)=>Sp.updated c f (z.1.1.1,z.1.1.2.1,z.1.1.2.2.1,z.1.1.2.2.2.1,z.1.1.2.2.2.2.1,()) z.1.2.1 z.1.2.2.1)⟩
def lU:XA:=⟨23,[.p (.v (.agg [.sl aC aX false, .sl aJ bP false, .int .i64, .sl aS bF false, .sl aI bn false])), .p (.v (.agg [.int .i64, .int .i64, .bool, .int .i64, .sl aO aZ false]))],[.agg [.c (.sl aC aX false), .c (.sl aJ bP false), .c (.int .i64), .c (.sl aS bF false), .c (.sl aI bn false)], .one (.c (.sl yT KW false)), .one (.c .bool)],fun ((c,f,()):DX×oJ)=>(Sp.iy c∧Sp.bW f∧Sp.JS c∧Sp.Ig f,fun (z:Nw)=>Sp.updated c f (z.1.1.1,z.1.1.2.1,z.1.1.2.2.1,z.1.1.2.2.2.1,z.1.1.2.2.2.2.1,()) z.1.2.1 z.1.2.2.1)⟩
def Ap:PA:=⟨139,[.v (.one (.sl fE jU false)), .v (.one (.sl fE jU false))],[.one (.bool)],fun ((a,b,()):Ju)=>(True,decide (a=b),())⟩
def yA:PA:=⟨89,[.v (.agg [.str, .sl fE jU false]), .v (.agg [.str, .sl fE jU false])],[.one (.bool)],fun ((a,b,()):(fV×kW)×(fV×kW)×Unit)=>(True,decide (a=b),())⟩
def wF:PA:=⟨30,[.v (.one (.sl aI bn false)), .v (.one (.sl aI bn false))],[.one (.bool)],fun ((a,b,()):jS×qi)=>(True,decide (a=b),())⟩
def wG:PA:=⟨14,[.v (.agg [.sl aC aX false, .sl aJ bP false, .int .i64, .sl aS bF false, .sl aI bn false]), .v (.agg [.sl aC aX false, .sl aJ bP false, .int .i64, .sl aS bF false, .sl aI bn false])],[.one (.bool)],fun ((a,b,()):DX×DX×Unit)=>(True,decide (a=b),())⟩
def vJ:XA:=⟨101,[.ptr [.sl eG jM false, .int .i64, .int .i64]],[.agg [.c (.sl aC aX false), .c (.sl aJ bP false), .c (.int .i64), .c (.sl aS bF false), .own aI bn false]],fun (((_,i,_,()),()):iQ)=>(0≤i,fun (z:Qn)=>0≤z.2.1.2.1∧Sp.LX (z.1.1.1,z.1.1.2.1,z.1.1.2.2.1,z.1.1.2.2.2.1,z.1.1.2.2.2.2.1,())∧0<z.1.1.2.2.2.1.length)⟩
def kC:XA:=⟨251,[.p (.v (.agg [.int .i64, .int .i64, .bool, .int .i64, .sl aO aZ false]))],[.one (.own bY eH true)],fun (((_,_,_,_,a,()),()):oJ)=>(a.length≤1000,fun (z:gY)=>z.1.1=Sp.fQ a)⟩
def kD:XA:=⟨256,[.p (.v (.agg [.int .i64, .int .i64, .bool, .int .i64, .sl aO aZ false]))],[.one (.own bY eH true)],fun (((_,_,_,_,a,()),()):oJ)=>(a.length≤1000,fun (z:gY)=>z.1.1=Sp.fQ a)⟩
def kE:XA:=⟨96,[.p (.v (.agg [.int .i64, .int .i64, .bool, .int .i64, .sl aO aZ false])), .p (.v (.one (.str))), .p (.v (.agg [.int .i64, .int .i64, .str]))],[.agg [.c (.int .i64), .c (.int .i64), .c .bool, .c (.int .i64), .c (.sl aO aZ true)]],fun (((i,o,s,l,a,()),name,(k,n,w,()),()):BJ×fV×Bo)=>(a.length≤1000,fun (z:FM)=>z.1.1.1=i∧z.1.1.2.1=o∧z.1.1.2.2.1=s∧z.1.1.2.2.2.1=l∧z.1.1.2.2.2.2.1=Sp.fH a name k n w)⟩
def vK:XA:=⟨45,[.ptr [.sl eG jM false, .int .i64, .int .i64]],[.one (.c .str)],fun (((_,i,_,()),()):iQ)=>(0≤i,fun (z:sJ)=>0≤z.2.1.2.1∧z.1.1.length≤10)⟩
def wH:XA:=⟨86,[.ptr [.sl eG jM false, .int .i64, .int .i64]],[.one (.c (.int .i64))],fun (((_,i,_,()),()):iQ)=>(0≤i,fun (z:fK)=>0≤z.2.1.2.1)⟩
def xY:XA:=⟨102,[.ptr [.sl eG jM false, .int .i64, .int .i64]],[.one (.c (.sl fE jU false))],fun (((_,i,_,()),()):iQ)=>(0≤i,fun (z:kW×iQ)=>0≤z.2.1.2.1∧z.1.1.length≤7)⟩
def xZ:XA:=⟨43,[.ptr [.sl eG jM false, .int .i64, .int .i64]],[.agg [.c (.sl aC aX false), .c (.sl aJ bP false), .c (.int .i64), .c (.sl aS bF false), .c (.sl aI bn false)]],fun (((_,i,_,()),()):iQ)=>(0≤i,fun (z:Qn)=>0≤z.2.1.2.1∧Sp.uF (z.1.1.1,z.1.1.2.1,z.1.1.2.2.1,z.1.1.2.2.2.1,z.1.1.2.2.2.2.1,()))⟩
def ap4:PA:=⟨3,[.v (.one (.sl eG jM false))],[.one (.bool)],fun (_,())=>(True,true,())⟩
def zh:PA:=⟨41,[.v (.agg [.int .i64, .int .i64, .bool, .int .i64, .sl aO aZ false]), .v (.one (.int .i64))],[.one (.bool)],fun ((f,u,()):BJ×gX)=>(True,Sp.xB f u,())⟩
def Ci:PA:=⟨98,[.v (.agg [.int .i64, .int .i64, .bool, .int .i64, .sl aO aZ false]), .v (.one (.int .i64))],[.one (.bool)],fun ((f,u,()):BJ×gX)=>(True,Sp.xB f u,())⟩
def xC:PA:=⟨40,[.v (.agg [.int .i64, .int .i64, .bool, .int .i64, .sl aO aZ false]), .v (.one (.int .i64))],[.one (.bool)],fun ((f,u,()):BJ×gX)=>(True,Sp.mM f u,())⟩
def xE:PA:=⟨92,[.v (.agg [.int .i64, .int .i64, .bool, .int .i64, .sl aO aZ false]), .v (.one (.int .i64))],[.one (.bool)],fun ((f,u,()):BJ×gX)=>(True,Sp.mM f u,())⟩
def wI:PA:=⟨94,[.v (.one (.str))],[.agg [.int .i64, .int .i64, .str]],fun ((w,()):jY)=>(True,(2,0,w,()),())⟩
def iC:XA:=⟨219,[.p (.v (.one (.sl aO aZ false)))],[.one (.own aO aZ false)],fun ((l,()):EK)=>(l.length≤1000,fun (z:EK×Unit)=>z.1.1=l)⟩
def lq:XA:=⟨159,[.p (.v (.agg [.int .i64, .int .i64, .bool, .int .i64, .sl aO aZ false]))],[.agg [.c (.int .i64), .c (.int .i64), .c .bool, .c (.int .i64), .own aO aZ false]],fun (((i,o,s,l,a,()),()):oJ)=>(a.length≤1000,fun (z:FM)=>z.1.1.1=i∧z.1.1.2.1=o∧z.1.1.2.2.1=s∧z.1.1.2.2.2.1=l∧z.1.1.2.2.2.2.1=a)⟩
def qQ:PA:=⟨172,[.v (.agg [.str, .int .i64, .int .i64, .str]), .kp [.str]],[.one (.bool)],fun (((nm,_,_,_,()),name,()):Ty0×jY×Unit)=>(True,(nm==name.1),())⟩
def gm:PA:=⟨173,[.v (.one (.sl aO aZ false)), .fn 172 [[.str]]],[.one (.int .i64)],fun ((l,((name,()),()),()):ig×(jY×Unit)×Unit)=>(True,Sp.findAt (fun x=>x.1==name) l,())⟩
def dL:XA:=⟨171,[.own aO aZ, .p (.fn 172 [[.str]])],[.one (.own aO aZ false)],fun ((s,((name,()),()),()):ig×(jY×Unit)×Unit)=>(s.length≤1000,fun (z:EK×Unit)=>z.1.1=s.filter fun x=>!(x.1==name))⟩
def vM:PA:=⟨174,[.v (.agg [.str, .int .i64, .int .i64, .str]), .kp [.str]],[.one (.bool)],fun (((nm,_,_,_,()),name,()):Ty0×jY×Unit)=>(True,Op.bytesLess name.1 nm,())⟩
def gq:PA:=⟨173,[.v (.one (.sl aO aZ false)), .fn 174 [[.str]]],[.one (.int .i64)],fun ((l,((name,()),()),()):ig×(jY×Unit)×Unit)=>(True,Sp.findAt (fun x=>Op.bytesLess name x.1) l,())⟩
def qA:List gZ:=[.own aO aZ, .p (.v (.one (.int .i64))), .own aO aZ]
def Dn:List uI:=[.one (.own aO aZ false)]
def LY:jV qA→Prop×(pz Dn×ou qA→Prop):=fun (s,i,v,())=>(0≤i∧i≤s.length∧s.length≤1000∧v.length=1,fun ((r,()),())=>r=s.take i.toNat++(v++s.drop i.toNat))
def Dp:Ib:=uD qA Dn LY
def vN:XA:=⟨93,[.p (.v (.agg [.int .i64, .int .i64, .bool, .int .i64, .sl aO aZ false])), .p (.v (.one (.str))), .p (.v (.agg [.int .i64, .int .i64, .str]))],[.agg [.c (.int .i64), .c (.int .i64), .c .bool, .c (.int .i64), .c (.sl aO aZ false)]],fun (((i,o,s,l,a,()),name,(k,n,w,()),()):BJ×fV×Bo)=>(a.length≤900,fun (z:FM)=>z.1.1.1=i∧z.1.1.2.1=o∧z.1.1.2.2.1=s∧z.1.1.2.2.2.1=l∧z.1.1.2.2.2.2.1=Sp.fH a name k n w)⟩
def Aq:PA:=⟨38,[.v (.agg [.int .i64, .int .i64, .bool, .int .i64, .sl aO aZ false])],[.one (.str)],fun ((f,()):oJ)=>(True,Sp.baseName f,())⟩
def uP:PA:=⟨169,[.v (.agg [.sl aC aX false, .sl aJ bP false, .int .i64]), .v (.one (.int .i64))],[.one (.sl fE jU true)],fun (((_,fs,_,()),u,()):qj×gX)=>(fs.length≤1000,Sp.Hf fs u,())⟩
def DY:PA:=⟨39,[.v (.agg [.sl aC aX false, .sl aJ bP false, .int .i64]), .v (.one (.int .i64))],[.agg [.int .i64, .int .i64, .bool, .int .i64, .sl aO aZ false]],fun ((s,id,()):qj×gX)=>(Sp.bG s,(Sp.au s id).1,())⟩
def vO:XA:=⟨168,[.ptr [.sl eG jM false, .int .i64, .int .i64]],[.one (.c (.int .i64))],fun (((_,i,_,()),()):iQ)=>(0≤i,fun (z:fK)=>0≤z.2.1.2.1)⟩
def kF:XA:=⟨101,[.ptr [.sl eG jM false, .int .i64, .int .i64]],[.agg [.c (.sl aC aX false), .c (.sl aJ bP false), .c (.int .i64), .c (.sl aS bF false), .c (.sl aI bn false)]],fun (((_,i,_,()),()):iQ)=>(0≤i,fun (z:Qn)=>0≤z.2.1.2.1∧Sp.LX (z.1.1.1,z.1.1.2.1,z.1.1.2.2.1,z.1.1.2.2.2.1,z.1.1.2.2.2.2.1,())∧0<z.1.1.2.2.2.1.length)⟩
def rU:XA:=⟨91,[.ptr [.sl eG jM false, .int .i64, .int .i64]],[.agg [.c (.sl aC aX false), .c (.sl aJ bP false), .c (.int .i64), .c (.sl aS bF false), .c (.sl aI bn false)], .one (.c (.int .i64)), .one (.c .str), .one (.c (.int .i64))],fun (((_,i,_,()),()):iQ)=>(0≤i,fun (z:arn)=>0≤z.2.1.2.1∧Sp.uF (z.1.1.1,z.1.1.2.1,z.1.1.2.2.1,z.1.1.2.2.2.1,z.1.1.2.2.2.2.1,()))⟩
def zi:PA:=⟨95,[.v (.agg [.sl aC aX false, .sl aJ bP false, .int .i64, .sl aS bF false, .sl aI bn false]), .v (.one (.int .i64)), .v (.one (.int .i64))],[.agg [.int .i64, .int .i64, .bool, .int .i64, .sl aO aZ false], .one (.bool)],fun ((c,u,id,()):DX×Bl)=>(Sp.iy c,(Sp.au (Sp.aY c) id).1,(Sp.gJ c u id&&Sp.iH c),())⟩
def oW:XA:=⟨33,[.p (.v (.agg [.sl aC aX false, .sl aJ bP false, .int .i64, .sl aS bF false, .sl aI bn false])), .p (.v (.one (.int .i64))), .p (.v (.one (.int .i64))), .p (.v (.one (.str)))],[.agg [.c (.sl aC aX false), .c (.sl aJ bP false), .c (.int .i64), .c (.sl aS bF false), .c (.sl aI bn false)], .one (.c .bool)],fun ((c,u,id,w,()):aou)=>(Sp.uF c,fun (z:FI)=>Sp.changed c (Sp.named (Sp.au (Sp.aY c) id).1 w) (Sp.gJ c u id) (z.1.1.1,z.1.1.2.1,z.1.1.2.2.1,z.1.1.2.2.2.1,z.1.1.2.2.2.2.1,()) z.1.2.1)⟩
def oZ:XA:=⟨34,[.p (.v (.agg [.sl aC aX false, .sl aJ bP false, .int .i64, .sl aS bF false, .sl aI bn false])), .p (.v (.one (.int .i64))), .p (.v (.one (.int .i64))), .p (.v (.one (.str)))],[.agg [.c (.sl aC aX false), .c (.sl aJ bP false), .c (.int .i64), .c (.sl aS bF false), .c (.sl aI bn false)], .one (.c .bool)],fun ((c,u,id,w,()):aou)=>(Sp.uF c,fun (z:FI)=>Sp.changed c (Sp.named (Sp.au (Sp.aY c) id).1 w) (Sp.gJ c u id) (z.1.1.1,z.1.1.2.1,z.1.1.2.2.1,z.1.1.2.2.2.1,z.1.1.2.2.2.2.1,()) z.1.2.1)⟩
def o5:XA:=⟨36,[.p (.v (.agg [.sl aC aX false, .sl aJ bP false, .int .i64, .sl aS bF false, .sl aI bn false])), .p (.v (.one (.int .i64))), .p (.v (.one (.int .i64))), .p (.v (.one (.int .i64)))],[.agg [.c (.sl aC aX false), .c (.sl aJ bP false), .c (.int .i64), .c (.sl aS bF false), .c (.sl aI bn false)], .one (.c .bool)],fun ((c,u,id,n,()):DX×Int×Bl)=>(Sp.uF c,fun (z:FI)=>Sp.changed c (Sp.tC (Sp.au (Sp.aY c) id).1 n) (Sp.gJ c u id&&Sp.tZ c u n) (z.1.1.1,z.1.1.2.1,z.1.1.2.2.1,z.1.1.2.2.2.1,z.1.1.2.2.2.2.1,()) z.1.2.1)⟩
def o6:XA:=⟨37,[.p (.v (.agg [.sl aC aX false, .sl aJ bP false, .int .i64, .sl aS bF false, .sl aI bn false])), .p (.v (.one (.int .i64))), .p (.v (.one (.int .i64))), .p (.v (.one (.int .i64)))],[.agg [.c (.sl aC aX false), .c (.sl aJ bP false), .c (.int .i64), .c (.sl aS bF false), .c (.sl aI bn false)], .one (.c .bool)],fun ((c,u,id,n,()):DX×Int×Bl)=>(Sp.uF c,fun (z:FI)=>Sp.changed c (Sp.tC (Sp.au (Sp.aY c) id).1 n) (Sp.gJ c u id&&Sp.tZ c u n) (z.1.1.1,z.1.1.2.1,z.1.1.2.2.1,z.1.1.2.2.2.1,z.1.1.2.2.2.2.1,()) z.1.2.1)⟩
def kG:XA:=⟨32,[.p (.v (.one (.sl eG jM false)))],[.agg [.c (.sl aC aX false), .c (.sl aJ bP false), .c (.int .i64), .c (.sl aS bF false), .c (.sl aI bn false)], .one (.c (.int .i64)), .one (.c (.int .i64)), .one (.c .str)],fun ((code,()):kW)=>(code.length≤1048576,fun (z:aou×Unit)=>Sp.uF (z.1.1.1,z.1.1.2.1,z.1.1.2.2.1,z.1.1.2.2.2.1,z.1.1.2.2.2.2.1,()))⟩
def kH:XA:=⟨35,[.p (.v (.one (.sl eG jM false)))],[.agg [.c (.sl aC aX false), .c (.sl aJ bP false), .c (.int .i64), .c (.sl aS bF false), .c (.sl aI bn false)], .one (.c (.int .i64)), .one (.c (.int .i64)), .one (.c (.int .i64))],fun ((code,()):kW)=>(code.length≤1048576,fun (z:(DX×Int×Bl)×Unit)=>Sp.uF (z.1.1.1,z.1.1.2.1,z.1.1.2.2.1,z.1.1.2.2.2.1,z.1.1.2.2.2.2.1,()))⟩
def EF:PA:=⟨5,[.v (.one (.sl eG jM false))],[.one (.bool)],fun (_,())=>(True,true,())⟩
def anp:aB:=ay []
def akn:aB:=ay []
def ag7:aB:=ay [uZ.e]
def ako:aB:=ay [dn.e]
def akp:aB:=ay [dn.e]
def acn:aB:=ay [dn.e]
def ag8:aB:=ay []
def akq:aB:=ay [gI.e]
def anq:aB:=ay [gI.e,rq.e,dn.e,pq.e]
def ag9:aB:=ay [jH.e,gI.e,sO.e,dn.e]
def anr:aB:=ay [gI.e,iL.e,dn.e,sN.e]
def aha:aB:=ay []
def YS:aB:=ay []
def aov:aB:=ay []
def ant:aB:=ay []
def akr:aB:=ay [jc.e]
def Uw:aB:=ay [yY.e]
def Ux:aB:=ay [lD.e]
def Xd:aB:=ay [kX.e,jc.e]
def Xe:aB:=ay [kY.e,lD.e]
def Qp:aB:=ay [yY.e]
def Qq:aB:=ay []
def aeM:aB:=ay []
def aeN:aB:=ay []
def Uy:aB:=ay [jc.e,lF.e]
def Uz:aB:=ay [lG.e]
def UA:aB:=ay [zy.e,qc.e]
def UB:aB:=ay [zA.e,qf.e]
def YT:aB:=ay [jc.e,nZ.e,sQ.e]
def YU:aB:=ay [oh.e,xO.e,lD.e,sS.e]
def Xf:aB:=ay [jc.e,nZ.e,ni.e]
def Xg:aB:=ay [lD.e,oh.e,ru.e]
def aco:aB:=ay []
def aeO:aB:=ay []
def ahb:aB:=ay [zB.e]
def aeP:aB:=ay [Ah.e]
def aeQ:aB:=ay [zC.e,yw.e]
def aks:aB:=ay []
def ahc:aB:=ay [ny.e]
def anu:aB:=ay [lD.e]
def ahd:aB:=ay []
def LZ:aB:=ay []
def NG:aB:=ay []
def akt:aB:=ay []
def aku:aB:=ay [jH.e,gI.e,rD.e,sO.e,jZ.e,dn.e]
def anv:aB:=ay [rD.e,jH.e,uj.e,rq.e,iL.e,oq.e,dn.e]
def ahe:aB:=ay []
def akv:aB:=ay [rC.e]
def acp:aB:=ay [ni.e,jA.e,rC.e,kz.e]
def acr:aB:=ay [jA.e,sV.e,kz.e]
def ahf:aB:=ay [oK.e,jZ.e,lN.e,oq.e,dn.e,sW.e,pq.e]
def anw:aB:=ay [lN.e,oq.e,xM.e,xP.e,iL.e,dn.e,mW.e]
def arp:aB:=ay []
def aeR:aB:=ay [sU.e]
def aeS:aB:=ay [qI.e,mV.e]
def acs:aB:=ay [gI.e]
def akw:aB:=ay [oL.e,jH.e,sO.e,gI.e,dn.e]
def UC [vX]:aB:=ay [(Eu, .eff (EP yI) G6),dn.e,rE.e,jZ.e]
def YV:aB:=ay [(zT, .eff (EP sZ) BQ),dn.e]
def L6:aB:=ay [(zT, .eff (EP sZ) BQ),dn.e]
def anx:aB:=ay [uj.e,rE.e,gI.e,iL.e,dn.e,nC.e]
def akx:aB:=ay [iG.e,dn.e]
def anz:aB:=ay [iG.e,xR.e,gI.e,dn.e,rF.e]
def aky:aB:=ay [uM.e,rF.e]
def YW:aB:=ay [kX.e,qc.e,lF.e,jc.e]
def YX:aB:=ay [kY.e,lD.e,qf.e,lG.e]
def Qr:aB:=ay []
def Qs:aB:=ay []
def Xh:aB:=ay [jc.e,ql.e,vY.e]
def Xi:aB:=ay [lD.e,qm.e,vZ.e]
def YZ:aB:=ay [lX.e,kX.e]
def Y0:aB:=ay [lY.e,kY.e]
def ahg:aB:=ay []
def Xj:aB:=ay [lX.e]
def Xk:aB:=ay [lY.e]
def aeT:aB:=ay [(o7, .eff (EP jI) lZ),xq.e,uK.e]
def Xl:aB:=ay [nD.e]
def Xm:aB:=ay [nD.e]
def anA:aB:=ay []
def ahh:aB:=ay [qy.e,jc.e,uJ.e]
def Xn:aB:=ay [pG.e]
def Xo:aB:=ay [pG.e]
def akz:aB:=ay []
def Dk:aB:=ay [yZ.e]
def aow:aB:=ay [gQ.e,yZ.e]
def ahi:aB:=ay []
def Y3:aB:=ay [EM.e]
def anB:aB:=ay [l9.e,wz.e,l7.e,wu.e]
def ahj:aB:=ay [mr.e,Ai.e,mg.e]
def akA:aB:=ay []
def anC:aB:=ay [rH.e,mX.e,wo.e]
def Xp:aB:=ay [nU.e]
def NH:aB:=ay []
def akB:aB:=ay [nG.e]
def ahk:aB:=ay [BU.e]
def akC:aB:=ay []
def aeU:aB:=ay []
def akD:aB:=ay [zF.e]
def ahl:aB:=ay [BV.e]
def akE:aB:=ay []
def akF:aB:=ay []
def akG:aB:=ay [ve.e]
def Y4:aB:=ay []
def RP:aB:=ay [wB.e]
def RQ:aB:=ay []
def NI:aB:=ay [rJ.e]
def acu:aB:=ay [mZ.e]
def acv:aB:=ay []
def Y5:aB:=ay []
def aeV:aB:=ay [rM.e]
def aeW:aB:=ay []
def Qu [vX]:aB:=ay [yx.e,qJ.e,(Cj, .pure FC),BZ.e,ve.e]
def UD [vX]:aB:=ay [tY.e,qK.e,(Ew, .pure He),vw.e]
def akH:aB:=ay [(GI, .pure J9),lY.e]
def akI:aB:=ay [(Jy, .pure ND),lX.e]
def Y6:aB:=ay [Cc.e]
def Y7:aB:=ay [Ce.e]
def Y8:aB:=ay []
def RS:aB:=ay [rP.e]
def rV:aB:=ay [ng.e]
def Xq:aB:=ay [ng.e,dF.e]
def Xr:aB:=ay [rH.e]
def aeX:aB:=ay []
def acw:aB:=ay [qL.e,um.e]
def acy:aB:=ay [nU.e]
def ahm:aB:=ay []
def ahn:aB:=ay []
def aeY:aB:=ay [rP.e,wE.e,oM.e,qJ.e,iM.e,qg.e,um.e]
def aho:aB:=ay [nH.e,xw.e]
def acz:aB:=ay [nH.e]
def anD:aB:=ay [rH.e,rO.e,lQ.e,jA.e,nU.e]
def ahp:aB:=ay [xW.e]
def acA:aB:=ay [rH.e,rO.e,lQ.e,xX.e,qK.e,jA.e,nU.e]
def acB:aB:=ay [zf.e,kz.e,pJ.e]
def aeZ:aB:=ay [uN.e,tq.e]
def ae0:aB:=ay [uO.e,pJ.e]
def anE:aB:=ay [gB.e,xA.e]
def ahq:aB:=ay []
def BL:aB:=ay [xA.e]
def ahr:aB:=ay [sU.e,Aa.e]
def ahs:aB:=ay [rC.e,sV.e]
def Y9:aB:=ay [sU.e,ru.e,qg.e,Aa.e,kZ.e]
def Za:aB:=ay [rC.e,ni.e,jA.e,sV.e,kz.e]
def ae1:aB:=ay []
def Xt:aB:=ay [(o7, .eff (EP jI) lZ),ve.e,kC.e]
def Xu:aB:=ay [qy.e,vw.e,kD.e]
def acC:aB:=ay [(o7, .eff (EP jI) lZ)]
def acD:aB:=ay [qy.e,jc.e]
def ae2:aB:=ay [(o7, .eff (EP jI) lZ),xq.e]
def ae3:aB:=ay [qy.e,jc.e]
def anF:aB:=ay []
def acE:aB:=ay [iM.e,qM.e]
def Ko:aB:=ay [(o7, .eff (EP jI) lZ),iM.e,oU.e,iZ.e]
def Kq:aB:=ay [xX.e,qN.e,qy.e]
def L8:aB:=ay []
def wY:aB:=ay [je.e]
def vP:aB:=ay [dZ.e,je.e]
def ae4:aB:=ay []
def OZ:aB:=ay [je.e,dU.e,eF.e,jf.e,oP.e,mD.e,xw.e]
def O0:aB:=ay [xX.e,oQ.e,zG.e,mF.e,Am.e]
def L9:aB:=ay [iM.e]
def yK:aB:=ay [jf.e]
def wZ:aB:=ay [fB.e,jf.e]
def KX:aB:=ay []
def O1:aB:=ay []
def ae5:aB:=ay [mZ.e]
def Ey:aB:=ay [qO.e]
def DZ:aB:=ay [iE.e,qO.e]
def akJ:aB:=ay [eU.e,qO.e,jG.e]
def akK:aB:=ay [vF.e]
def akL:aB:=ay [tY.e]
def Zb:aB:=ay [vG.e,qJ.e]
def Zc:aB:=ay [vH.e,qK.e]
def Zd:aB:=ay [rM.e]
def Ze:aB:=ay [nN.e,xu.e,kZ.e]
def acF:aB:=ay []
def akM:aB:=ay [oV.e,zf.e,kz.e]
def Xv:aB:=ay [iO.e,jE.e]
def Xw:aB:=ay [iP.e,jF.e]
def ae6:aB:=ay [nK.e,xu.e,kZ.e,jh.e,oN.e]
def akN:aB:=ay [nM.e,oO.e]
def acG:aB:=ay [qP.e,mG.e,tu.e,jh.e,vz.e,nI.e]
def acH:aB:=ay [vI.e,mJ.e,vC.e,nJ.e,pK.e,oz.e]
def aht:aB:=ay []
def acI:aB:=ay [Ap.e]
def Zf:aB:=ay [yA.e]
def Zg:aB:=ay [wF.e,Ak.e,zD.e]
def akO:aB:=ay [lS.e,rG.e,mW.e]
def RU:aB:=ay []
def RV:aB:=ay []
def RX:aB:=ay []
def akP:aB:=ay [gI.e]
def aox:aB:=ay [iL.e]
def anG:aB:=ay [jZ.e]
def anH:aB:=ay [xQ.e,xU.e,xY.e,dn.e,vJ.e]
def akQ:aB:=ay [jc.e]
def akR:aB:=ay [xO.e]
def ahu:aB:=ay [jc.e]
def ahv:aB:=ay [xO.e]
def Zh:aB:=ay []
def Jd:aB:=ay []
def UE:aB:=ay [iC.e]
def ae7:aB:=ay []
def Bq:aB:=ay [qQ.e]
def Ar:aB:=ay [gm.e,qQ.e]
def ae8:aB:=ay []
def Bz:aB:=ay [vM.e]
def akS:aB:=ay [(yL, .eff (EP qA) Dp),gq.e,vM.e,dL.e,qQ.e,lq.e]
def ahw:aB:=ay [vw.e]
def Xx:aB:=ay []
def anI:aB:=ay [pK.e]
def akT:aB:=ay [iL.e]
def RY:aB:=ay [lS.e,rG.e,mW.e]
def akU:aB:=ay [xZ.e,vK.e,dn.e,jZ.e,uP.e,wH.e,vO.e,kF.e]
def akV:aB:=ay [vC.e,xC.e,pK.e]
def acJ:aB:=ay [lT.e,vN.e,wI.e,jh.e,xE.e,tu.e]
def acK:aB:=ay [lU.e,kE.e,jH.e,zi.e,oz.e]
def acL:aB:=ay [lT.e,jh.e,Ci.e,xE.e,tu.e]
def acM:aB:=ay [zh.e,lU.e,pK.e,zi.e,oz.e]
def RZ:aB:=ay [gI.e,rU.e,uh.e]
def Si:aB:=ay [wH.e,rU.e,uh.e]
def ahx:aB:=ay [zh.e,vz.e,xC.e,Aq.e,DY.e,wG.e,o6.e,o5.e,kH.e,oZ.e,oW.e,kG.e,H9.e]
end
end Go.Proofs.Tryz
