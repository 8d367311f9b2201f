import Derived.Test.YtlbkigkbmeckbaaGreatN
import Derived.Test.YtlbkigkbmeckbaaGreatSp
namespace Go.Proofs.Tryz
open Go Go.Fw
abbrev gZ:=List UInt8
abbrev ou:=gZ×Unit
abbrev Ty0:=gZ×Int×Int×ou
abbrev gV:=Int×Unit
abbrev gq:=List (gZ×gV)
abbrev iK:=List Ty0
abbrev ER:=Int×Int×Bool×Int×iK×Unit
abbrev gY:=List ER
abbrev adA:=Int×Int×Int×Ty0
abbrev kF:=List adA
abbrev yR:=kF×Unit
abbrev iQ:=List (gZ×yR)
abbrev dK:=List gV
abbrev jV:=dK×Unit
abbrev jI:=List (gZ×jV)
abbrev uj:=jI×Unit
abbrev zD:=gq×gY×Int×iQ×uj
abbrev FN:=Int×gV
abbrev BR:=dK×FN
abbrev ji:=BR×Unit
abbrev um:=List ou
abbrev FO:=um×Unit
abbrev gX:=FO×Unit
abbrev wZ:=gq×gY×gV
abbrev EI:=dK×jV
abbrev adB:=List (gZ×EI)
abbrev dG:=Bool×Unit
abbrev AO:=Unit×Unit
abbrev Xz:=Unit×BR×(Int×Int×Bool×Int×AO)×iK×Unit
abbrev fZ:=gV×Unit
abbrev Dx:=(Int×Int×ou)×Unit
abbrev DX:=(zD×adB×dG)×Unit
abbrev yS:=Unit×gV
abbrev Gv:=yS×FO
abbrev gW:=gV×ji
abbrev oz:=ER×Unit
abbrev AP:=yR×ji
abbrev Gw:=wZ×Unit
abbrev DY:=Gw×Unit
abbrev Gx:=(zD×Unit)×Unit
abbrev Io:=(wZ×dG)×Unit
abbrev oC:=iQ×Unit
abbrev Ip:=(jI×dG)×Unit
abbrev XB:=(wZ×Int×dG)×Unit
abbrev xg:=ou×ji
abbrev O5:=(dK×dG)×Unit
abbrev aiZ:=(zD×Int×adB×dG)×Unit
abbrev adC:=(jI×Int×dG)×Unit
abbrev DZ:=jV×Unit
abbrev XC:=(um×gV)×Unit
abbrev FP:=adB×Unit
abbrev FQ:=uj×Unit
abbrev XD:=(zD×Unit)×ji
abbrev Iq:=gq×Unit
abbrev ai0:=(gY×Unit)×Unit
abbrev ai1:=(zD×oz)×Unit
abbrev LM:=adA×Unit
abbrev JG:=dG×ji
abbrev JH:=oz×ji
abbrev O6:=dG×Unit
class vI where n:Nat
abbrev uO [vI]:Nat:=vI.n
noncomputable section
def qp:QA:=⟨42,[.p (.v (.one (.sl fG kG false)))],[.sl fG kG false, .int .i64, .int .i64],fun ((code,()):jV)=>(code.length≤1048576,fun (z:BR)=>z.2.1=0)⟩
def uP:XA:=⟨154,[.ptr [.sl fG kG false, .int .i64, .int .i64]],[.one (.c (.int .i64))],fun (((_,i,_,()),()):ji)=>(0≤i,fun (z:gW)=>0≤z.2.1.2.1∧0≤z.1.1∧z.1.1≤255)⟩
def dA:XA:=⟨74,[.ptr [.sl fG kG false, .int .i64, .int .i64], .p (.v (.one (.int .i64)))],[.one (.c (.int .i64))],fun (((_,i,_,()),n,()):BR×gV)=>(0≤i,fun (z:gW)=>0≤z.2.1.2.1∧0≤z.1.1∧(0<n→z.1.1<n)∧(n≤0→z.1.1=0))⟩
def jW:XA:=⟨44,[.ptr [.sl fG kG false, .int .i64, .int .i64], .p (.v (.one (.int .i64)))],[.one (.c .bool)],fun (((_,i,_,()),_,()):BR×gV)=>(0≤i,fun (z:JG)=>0≤z.2.1.2.1)⟩
def iy:XA:=⟨47,[.ptr [.sl fG kG false, .int .i64, .int .i64], .p (.v (.one (.sl cu eP false)))],[.one (.c .str)],fun (((_,i,_,()),list,()):BR×FO)=>(0≤i∧list≠[],fun (z:xg)=>0≤z.2.1.2.1∧(z.1.1,())∈list)⟩
def iT:XA:=⟨105,[.ptr [.sl fG kG false, .int .i64, .int .i64], .p (.v (.one (.sl dZ ja false)))],[.one (.c (.int .i64))],fun (((_,i,_,()),list,()):BR×jV)=>(0≤i∧list≠[],fun (z:gW)=>0≤z.2.1.2.1∧(z.1.1,())∈list)⟩
def pq:XA:=⟨201,[],[.one (.own ay aY true)],fun (())=>(True,fun (z:Iq×Unit)=>z.1.1=Sp.usual)⟩
def qX:XA:=⟨155,[.ptr [.sl fG kG false, .int .i64, .int .i64]],[.one (.c .str)],fun (((_,i,_,()),()):ji)=>(0≤i,fun (z:xg)=>0≤z.2.1.2.1∧z.1.1.length≤1)⟩
def xk:XA:=⟨177,[.ptr [.sl fG kG false, .int .i64, .int .i64]],[.one (.c (.sl ay aY true))],fun (((_,i,_,()),()):ji)=>(0≤i,fun (z:Iq×ji)=>0≤z.2.1.2.1∧z.1.1.length≤6)⟩
def sH:XA:=⟨179,[.ptr [.sl fG kG false, .int .i64, .int .i64]],[.agg [.c (.int .i64), .c (.int .i64), .c .str]],fun (((_,i,_,()),()):ji)=>(0≤i,fun (z:Dx×ji)=>0≤z.2.1.2.1∧z.1.1.2.2.1.length≤10)⟩
def tX:XA:=⟨107,[.ptr [.sl fG kG false, .int .i64, .int .i64]],[.agg [.c (.int .i64), .c (.int .i64), .c .str]],fun (((_,i,_,()),()):ji)=>(0≤i,fun (z:Dx×ji)=>0≤z.2.1.2.1∧z.1.1.2.2.1.length≤10)⟩
def sJ:PA:=⟨153,[.v (.one (.int .i64))],[.agg [.int .i64, .int .i64, .str]],fun ((n,()):gV)=>(True,(1,n,[],()),())⟩
def kH:PA:=⟨97,[.v (.one (.str))],[.agg [.int .i64, .int .i64, .str]],fun ((w,()):ou)=>(True,(2,0,w,()),())⟩
def jC:PA:=⟨100,[.v (.one (.int .i64)), .v (.one (.int .i64)), .v (.one (.int .i64))],[.one (.bool)],fun ((x,a,b,()):Int×FN)=>(True,(decide (a≤x)&&decide (x≤b)),())⟩
def lg:PA:=⟨217,[.v (.one (.int .i64)), .v (.one (.int .i64)), .v (.one (.int .i64))],[.one (.bool)],fun ((x,a,b,()):Int×FN)=>(True,(decide (a≤x)&&decide (x≤b)),())⟩
def yH:PA:=⟨208,[.v (.one (.str)), .v (.one (.int .i64))],[.one (.bool)],fun ((s,m,()):gZ×gV)=>(True,(Sp.lower s&&decide (1≤(s.length:Int))&&decide ((s.length:Int)≤m)),())⟩
def kR:PA:=⟨150,[.v (.one (.str))],[.one (.bool)],fun ((s,()):ou)=>(True,Sp.iL s,())⟩
def kS:PA:=⟨184,[.v (.one (.str))],[.one (.bool)],fun ((s,()):ou)=>(True,Sp.iL s,())⟩
def qf:PA:=⟨246,[.v (.agg [.int .i64, .int .i64, .str])],[.one (.bool)],fun (((k,n,s,()),()):Dx)=>(True,Sp.jX k n s,())⟩
def qg:PA:=⟨249,[.v (.agg [.int .i64, .int .i64, .str])],[.one (.bool)],fun (((k,n,s,()),()):Dx)=>(True,Sp.jX k n s,())⟩
def lC:PA:=⟨245,[.v (.one (.str))],[.one (.bool)],fun ((s,()):ou)=>(True,Sp.jQ s,())⟩
def lD:PA:=⟨248,[.v (.one (.str))],[.one (.bool)],fun ((s,()):ou)=>(True,Sp.jQ s,())⟩
def yT:PA:=⟨255,[.v (.one (.sl ay aY false)), .v (.one (.str))],[.one (.int .i64)],fun ((fs,s,()):gq×ou)=>(True,Sp.kindOf fs s,())⟩
def yU:PA:=⟨250,[.v (.one (.sl ay aY false)), .v (.one (.str))],[.one (.int .i64)],fun ((fs,s,()):gq×ou)=>(True,Sp.kindOf fs s,())⟩
def nS:PA:=⟨226,[.v (.one (.sl ay aY false))],[.one (.bool)],fun ((fs,()):Iq)=>(True,Sp.fQ fs,())⟩
def nT:PA:=⟨216,[.v (.one (.sl ay aY false))],[.one (.bool)],fun ((fs,()):Iq)=>(True,Sp.fQ fs,())⟩
def sK:PA:=⟨227,[.v (.one (.sl ay aY false)), .v (.one (.str)), .v (.agg [.int .i64, .int .i64, .str])],[.one (.bool)],fun ((fs,s,(k,n,w,()),()):gq×gZ×Dx)=>(True,Sp.jw fs s k n w,())⟩
def sN:PA:=⟨218,[.v (.one (.sl ay aY false)), .v (.one (.str)), .v (.agg [.int .i64, .int .i64, .str])],[.one (.bool)],fun ((fs,s,(k,n,w,()),()):gq×gZ×Dx)=>(True,Sp.jw fs s k n w,())⟩
def mP:PA:=⟨163,[.v (.one (.sl ay aY false)), .v (.agg [.int .i64, .int .i64, .bool, .int .i64, .sl aW bP false])],[.one (.bool)],fun ((fs,f,()):gq×oz)=>(True,Sp.bY fs f,())⟩
def mQ:PA:=⟨158,[.v (.one (.sl ay aY false)), .v (.agg [.int .i64, .int .i64, .bool, .int .i64, .sl aW bP false])],[.one (.bool)],fun ((fs,f,()):gq×oz)=>(True,Sp.bY fs f,())⟩
def jq:PA:=⟨162,[.v (.agg [.sl ay aY false, .sl aJ bM false, .int .i64])],[.one (.bool)],fun ((s,()):Gw)=>(True,Sp.aB s,())⟩
def jS:PA:=⟨157,[.v (.agg [.sl ay aY false, .sl aJ bM false, .int .i64])],[.one (.bool)],fun ((s,()):Gw)=>(True,Sp.aB s,())⟩
def xP:PA:=⟨136,[.v (.one (.sl ay aY false)), .v (.one (.sl ay aY false))],[.one (.bool)],fun ((a,b,()):gq×Iq)=>(True,decide (a=b),())⟩
def yV:PA:=⟨244,[.v (.one (.sl aW bP false)), .v (.one (.sl aW bP false))],[.one (.bool)],fun ((a,b,()):iK×iK×Unit)=>(True,decide (a=b),())⟩
def zL:PA:=⟨204,[.v (.agg [.int .i64, .int .i64, .bool, .int .i64, .sl aW bP false]), .v (.agg [.int .i64, .int .i64, .bool, .int .i64, .sl aW bP false])],[.one (.bool)],fun ((a,b,()):ER×oz)=>(True,decide (a=b),())⟩
def yX:PA:=⟨137,[.v (.one (.sl aJ bM false)), .v (.one (.sl aJ bM false))],[.one (.bool)],fun ((a,b,()):gY×gY×Unit)=>(True,decide (a=b),())⟩
def yY:PA:=⟨64,[.v (.agg [.sl ay aY false, .sl aJ bM false, .int .i64]), .v (.agg [.sl ay aY false, .sl aJ bM false, .int .i64])],[.one (.bool)],fun ((a,b,()):wZ×Gw)=>(True,decide (a=b),())⟩
def qY:PA:=⟨135,[.v (.agg [.int .i64, .int .i64, .bool, .int .i64, .sl aW bP false])],[.agg [.int .i64, .int .i64, .bool, .int .i64, .sl aW bP true]],fun ((f,()):oz)=>(Sp.bU f,f,())⟩
def pz:PA:=⟨159,[.v (.agg [.int .i64, .int .i64, .bool, .int .i64, .sl aW bP false])],[.agg [.int .i64, .int .i64, .bool, .int .i64, .sl aW bP false]],fun ((f,()):oz)=>(Sp.bU f,f,())⟩
def CU:PA:=⟨170,[.v (.one (.int .i64))],[.one (.bool)],fun ((u,()):gV)=>(True,(decide (0≤u)&&decide (u≤2)),())⟩
def sO:PA:=⟨161,[.v (.agg [.sl ay aY false, .sl aJ bM false, .int .i64]), .v (.one (.int .i64))],[.one (.int .i64)],fun (((_,fs,_,()),id,()):wZ×gV)=>(True,Sp.place fs id,())⟩
def mD:PA:=⟨132,[.v (.one (.sl ay aY false))],[.one (.sl ay aY false)],fun ((l,()):Iq)=>(l.length≤1000,l,())⟩
def mV:PA:=⟨219,[.v (.one (.sl aW bP false))],[.one (.sl aW bP false)],fun ((l,()):iK×Unit)=>(l.length≤1000,l,())⟩
def qZ:XA:=⟨96,[.p (.v (.agg [.int .i64, .int .i64, .bool, .int .i64, .sl aW bP false])), .p (.v (.one (.str))), .p (.v (.agg [.int .i64, .int .i64, .str]))],[.agg [.c (.int .i64), .c (.int .i64), .c .bool, .c (.int .i64), .own aW bP true]],fun (((i,o,s,l,a,()),name,(k,n,w,()),()):ER×gZ×Dx)=>(a.length≤1000,fun (z:oz×Unit)=>z.1.1.1=i∧z.1.1.2.1=o∧z.1.1.2.2.1=s∧z.1.1.2.2.2.1=l∧z.1.1.2.2.2.2.1=Sp.mJ a name k n w)⟩
def lF:XA:=⟨73,[.ptr [.sl fG kG false, .int .i64, .int .i64], .p (.v (.one (.int .i64)))],[.agg [.c (.int .i64), .c (.int .i64), .c .bool, .c (.int .i64), .own aW bP true]],fun (((_,i,_,()),id,()):BR×gV)=>(0≤i,fun (z:JH)=>0≤z.2.1.2.1∧z.1.1.1=id∧0≤z.1.1.2.1∧z.1.1.2.1≤2∧0≤z.1.1.2.2.2.1∧z.1.1.2.2.2.1≤6∧Sp.kP Sp.usual z.1.1.2.2.2.2.1=true∧z.1.1.2.2.2.2.1.length≤4)⟩
def qw:XA:=⟨75,[.ptr [.sl fG kG false, .int .i64, .int .i64]],[.agg [.c (.int .i64), .c (.int .i64), .c .bool, .c (.int .i64), .c (.sl aW bP true)]],fun (((_,i,_,()),()):ji)=>(0≤i,fun (z:JH)=>0≤z.2.1.2.1∧z.1.1.2.2.2.2.1.length≤10)⟩
def sQ:XA:=⟨200,[.p (.v (.one (.sl ay aY false)))],[.agg [.own ay aY true, .own aJ bM true, .c (.int .i64)]],fun ((s,()):Iq)=>(s.length≤1000,fun (z:DY)=>z.1.1.1=s∧z.1.1.2.1=[]∧z.1.1.2.2.1=1)⟩
def jY:XA:=⟨62,[.p (.v (.agg [.sl ay aY false, .sl aJ bM false, .int .i64]))],[.agg [.own ay aY true, .own aJ bM true, .c (.int .i64)]],fun ((s,()):Gw)=>(Sp.bI s,fun (z:DY)=>(z.1.1.1,z.1.1.2.1,z.1.1.2.2.1,())=s)⟩
def jT:XA:=⟨84,[.p (.v (.agg [.sl ay aY false, .sl aJ bM false, .int .i64])), .p (.v (.agg [.int .i64, .int .i64, .bool, .int .i64, .sl aW bP false]))],[.agg [.own ay aY true, .own aJ bM true, .c (.int .i64)], .one (.c (.int .i64)), .one (.c .bool)],fun ((s,f,()):wZ×oz)=>(Sp.bI s∧Sp.bU f,fun (z:XB)=>z.1.1.1=(Sp.aH s f).1.1∧z.1.1.2.1=(Sp.aH s f).1.2.1∧z.1.1.2.2.1=(Sp.aH s f).1.2.2.1∧z.1.2.1=(Sp.aH s f).2.1∧z.1.2.2.1=(Sp.aH s f).2.2)⟩
def lI:XA:=⟨88,[.p (.v (.agg [.sl ay aY false, .sl aJ bM false, .int .i64])), .p (.v (.one (.int .i64)))],[.agg [.own ay aY true, .own aJ bM true, .c (.int .i64)], .one (.c .bool)],fun ((s,id,()):wZ×gV)=>(Sp.bI s,fun (z:Io)=>z.1.1.1=(Sp.aT s id).1.1∧z.1.1.2.1=(Sp.aT s id).1.2.1∧z.1.1.2.2.1=(Sp.aT s id).1.2.2.1∧z.1.2.1=(Sp.aT s id).2)⟩
def pF:XA:=⟨129,[.ptr [.sl fG kG false, .int .i64, .int .i64]],[.agg [.own ay aY true, .own aJ bM true, .c (.int .i64)]],fun (((_,i,_,()),()):ji)=>(0≤i,fun (z:Gw×ji)=>0≤z.2.1.2.1∧z.1.1.1=Sp.usual∧Sp.aB (z.1.1.1,z.1.1.2.1,z.1.1.2.2.1,())=true∧z.1.1.2.2.1≤z.1.1.2.1.length+2∧Sp.bI (z.1.1.1,z.1.1.2.1,z.1.1.2.2.1,())∧0<z.1.1.2.1.length)⟩
def xq:XA:=⟨104,[.ptr [.sl fG kG false, .int .i64, .int .i64]],[.agg [.c (.sl ay aY false), .c (.sl aJ bM false), .c (.int .i64)]],fun (((_,i,_,()),()):ji)=>(0≤i,fun (z:Gw×ji)=>0≤z.2.1.2.1∧Sp.bI (z.1.1.1,z.1.1.2.1,z.1.1.2.2.1,())∧∀ f∈z.1.1.2.1,f.2.2.2.2.1.length≤400)⟩
def Gy:PA:=⟨6,[.v (.one (.sl fG kG false))],[.one (.bool)],fun ((code,()):jV)=>(True,decide (1048576<(code.length:Int)),())⟩
def qH:XA:=⟨133,[.p (.v (.one (.sl aJ bM false)))],[.one (.own aJ bM false)],fun ((l,()):gY×Unit)=>(l.length≤1000∧∀ f∈l,Sp.bU f,fun (z:ai0)=>z.1.1=l)⟩
def jk:XA:=⟨59,[.p (.v (.agg [.sl ay aY false, .sl aJ bM false, .int .i64]))],[.agg [.c (.sl ay aY false), .own aJ bM false, .c (.int .i64)]],fun ((s,()):Gw)=>(Sp.bI s,fun (z:DY)=>(z.1.1.1,z.1.1.2.1,z.1.1.2.2.1,())=s)⟩
def oD:XA:=⟨178,[.ptr [.sl fG kG false, .int .i64, .int .i64]],[.one (.c .str)],fun (((_,i,_,()),()):ji)=>(0≤i,fun (z:xg)=>0≤z.2.1.2.1∧z.1.1.length≤10)⟩
def rq:XA:=⟨106,[.ptr [.sl fG kG false, .int .i64, .int .i64]],[.agg [.c (.int .i64), .c (.int .i64), .c (.int .i64), .c .str, .c (.int .i64), .c (.int .i64), .c .str]],fun (((_,i,_,()),()):ji)=>(0≤i,fun (z:LM×ji)=>0≤z.2.1.2.1∧True)⟩
def Gz:List jl:=[.ptr [.sl fG kG false, .int .i64, .int .i64], .own bg dJ, .p (.v (.one (.int .i64))), .p (.v (.one (.bool)))]
def LQ:List vJ:=[.one (.own bg dJ false)]
def Qw:kT Gz→Prop×(su LQ×qx Gz→Prop):=fun ((_,i,_,()),q,deep,_,())=>(0≤i∧0≤deep∧deep≤4∧q.length+2*deep.toNat≤900,fun ((r,()),((_,i',_,()),()))=>0≤i'∧q.length<r.length∧r.length≤q.length+2*deep.toNat+1)
def adD:Ir:=xu Gz LQ Qw
def yc:List jl:=[.ptr [.sl fG kG false, .int .i64, .int .i64], .own bg dJ, .p (.v (.one (.int .i64))), .p (.v (.one (.bool)))]
def F6:List vJ:=[.one (.own bg dJ false)]
def H7 [vI]:kT yc→Prop×(su F6×qx yc→Prop):=fun ((_,i,_,()),q,deep,_,())=>((0≤i∧0≤deep∧deep≤4∧q.length+2*deep.toNat≤900)∧deep.toNat<uO,fun ((r,()),((_,i',_,()),()))=>0≤i'∧q.length<r.length∧r.length≤q.length+2*deep.toNat+1)
def F7 [vI]:Ir:=xu yc F6 H7
def wL:List jl:=[.ptr [.sl fG kG false, .int .i64, .int .i64], .own bg dJ, .p (.v (.one (.int .i64))), .p (.v (.one (.bool)))]
def ES:List vJ:=[.one (.own bg dJ false)]
def yg [vI]:kT wL→Prop×(su ES×qx wL→Prop):=fun ((_,i,_,()),q,deep,_,())=>((0≤i∧0≤deep∧deep≤4∧q.length+2*deep.toNat≤900)∧deep.toNat<uO+1,fun ((r,()),((_,i',_,()),()))=>0≤i'∧q.length<r.length∧r.length≤q.length+2*deep.toNat+1)
def ET [vI]:Ir:=xu wL ES yg
def sS:List jl:=[.ptr [.sl fG kG false, .int .i64, .int .i64], .p (.v (.one .nil)), .p (.v (.one (.int .i64))), .p (.v (.one (.bool)))]
def F8:List vJ:=[.one (.own bg dJ false)]
def H8:kT sS→Prop×(su F8×qx sS→Prop):=fun ((_,i,_,()),(),deep,_,())=>(0≤i∧0≤deep∧deep≤4,fun ((r,()),((_,i',_,()),()))=>0≤i'∧0<r.length∧r.length≤0+2*deep.toNat+1)
def AQ:Ir:=xu sS F8 H8
def mW:XA:=⟨48,[.ptr [.sl fG kG false, .int .i64, .int .i64]],[.one (.own bg dJ false)],fun (((_,i,_,()),()):ji)=>(0≤i,fun (z:AP)=>0≤z.2.1.2.1∧0<z.1.1.length∧z.1.1.length≤9)⟩
def iw:XA:=⟨48,[.ptr [.sl fG kG false, .int .i64, .int .i64]],[.one (.c (.sl bg dJ false))],fun (((_,i,_,()),()):ji)=>(0≤i,fun (z:AP)=>0≤z.2.1.2.1∧0<z.1.1.length∧z.1.1.length≤9)⟩
def xw:XA:=⟨46,[.ptr [.sl fG kG false, .int .i64, .int .i64]],[.one (.c (.sl bg dJ false))],fun (((_,i,_,()),()):ji)=>(0≤i,fun (z:AP)=>0≤z.2.1.2.1∧z.1.1.length≤10)⟩
def ru:XA:=⟨176,[.ptr [.sl fG kG false, .int .i64, .int .i64]],[.one (.own aP bD false)],fun (((_,i,_,()),()):ji)=>(0≤i,fun (z:oC×ji)=>0≤z.2.1.2.1∧0<z.1.1.length∧z.1.1.length≤4∧Sp.aS z.1.1)⟩
def xA:XA:=⟨103,[.ptr [.sl fG kG false, .int .i64, .int .i64]],[.one (.c (.sl aP bD false))],fun (((_,i,_,()),()):ji)=>(0≤i,fun (z:oC×ji)=>0≤z.2.1.2.1∧z.1.1.length≤10∧Sp.aS z.1.1)⟩
def uQ:XA:=⟨130,[.ptr [.sl fG kG false, .int .i64, .int .i64]],[.one (.c (.sl aP bD false))],fun (((_,i,_,()),()):ji)=>(0≤i,fun (z:oC×ji)=>0≤z.2.1.2.1∧z.1.1.length≤10∧Sp.aS z.1.1∧Sp.aF z.1.1=true∧0<z.1.1.length)⟩
def vK:PA:=⟨209,[.v (.agg [.int .i64, .int .i64, .int .i64, .str, .int .i64, .int .i64, .str]), .v (.one (.int .i64))],[.one (.bool)],fun (((o,l,r,nm,vk,vi,vs,()),at',()):adA×gV)=>(True,Sp.kJ (o,l,r,nm,vk,vi,vs,()) at',())⟩
def vM:PA:=⟨234,[.v (.agg [.int .i64, .int .i64, .int .i64, .str, .int .i64, .int .i64, .str]), .v (.one (.int .i64))],[.one (.bool)],fun (((o,l,r,nm,vk,vi,vs,()),at',()):adA×gV)=>(True,Sp.kJ (o,l,r,nm,vk,vi,vs,()) at',())⟩
def qi:PA:=⟨210,[.v (.one (.sl bg dJ false)), .v (.one (.int .i64))],[.one (.int .i64)],fun ((q,at',()):kF×gV)=>(q.length≤1000000,(Sp.pG q at':Int),())⟩
def qj:PA:=⟨235,[.v (.one (.sl bg dJ false)), .v (.one (.int .i64))],[.one (.int .i64)],fun ((q,at',()):kF×gV)=>(q.length≤1000000,(Sp.pG q at':Int),())⟩
def lN:PA:=⟨151,[.v (.one (.sl bg dJ false))],[.one (.bool)],fun ((q,()):yR)=>(q.length≤1000000,Sp.bQ q,())⟩
def lQ:PA:=⟨185,[.v (.one (.sl bg dJ false))],[.one (.bool)],fun ((q,()):yR)=>(q.length≤1000000,Sp.bQ q,())⟩
def vN:PA:=⟨71,[.v (.one (.sl aP bD false))],[.one (.bool)],fun ((d,()):oC)=>(Sp.aS d,Sp.gB d,())⟩
def vO:PA:=⟨114,[.v (.one (.sl aP bD false))],[.one (.bool)],fun ((d,()):oC)=>(Sp.aS d,Sp.gB d,())⟩
def wM:PA:=⟨238,[.v (.agg [.int .i64, .int .i64, .int .i64, .str, .int .i64, .int .i64, .str])],[.one (.bool)],fun (((o,_,_,_,_,_,_,()),()):LM)=>(True,(o==8||o==9),())⟩
def uy:PA:=⟨276,[.v (.one (.sl bg dJ false))],[.one (.sl afR R_4 true)],fun ((q,()):yR)=>(q.length≤1000,Sp.negated q,())⟩
def uz:PA:=⟨259,[.v (.one (.sl bg dJ false))],[.one (.sl afR R_4 true)],fun ((q,()):yR)=>(q.length≤1000,Sp.negated q,())⟩
def jD:List jl:=[.p (.v (.one (.sl cu eP false)))]
def Dy:List vJ:=[.one (.c (.sl cu eP true))]
def J9:kT jD→Prop×(su Dy×qx jD→Prop):=fun (l,())=>(l.length≤1000,fun ((r,()),())=>r.length≤l.length∧∀ s,s∈r↔s∈l)
def lS:Ir:=xu jD Dy J9
def mX:XA:=⟨236,[.p (.v (.one (.sl bg dJ false))), .p (.v (.one (.bool)))],[.one (.c (.sl cu eP true))],fun ((q,neg,()):kF×dG)=>(q.length≤1000,fun (z:gX)=>Sp.dD z.1.1 (Sp.fE q neg))⟩
def lT:XA:=⟨187,[.p (.v (.one (.sl bg dJ false)))],[.one (.c (.sl cu eP true))],fun ((q,()):yR)=>(q.length≤1000,fun (z:gX)=>Sp.dD z.1.1 (Sp.fE q false))⟩
def lU:XA:=⟨188,[.p (.v (.one (.sl bg dJ false)))],[.one (.c (.sl cu eP true))],fun ((q,()):yR)=>(q.length≤1000,fun (z:gX)=>Sp.dD z.1.1 (Sp.fE q true))⟩
def qy:PA:=⟨126,[.v (.one (.sl cu eP false)), .v (.one (.str))],[.one (.sl cu eP false)],fun ((l,s,()):um×ou)=>(l.length≤1000,Sp.AU l s,())⟩
def pI:XA:=⟨247,[.p (.v (.one (.sl bg dJ false))), .p (.v (.one (.bool)))],[.one (.c (.sl cu eP true))],fun ((q,neg,()):kF×dG)=>(q.length≤1000,fun (z:gX)=>Sp.dD z.1.1 (Sp.fE q neg))⟩
def lV:XA:=⟨211,[.p (.v (.one (.sl bg dJ false)))],[.one (.c (.sl cu eP true))],fun ((q,()):yR)=>(q.length≤1000,fun (z:gX)=>Sp.dD z.1.1 (Sp.fE q false))⟩
def lW:XA:=⟨213,[.p (.v (.one (.sl bg dJ false)))],[.one (.c (.sl cu eP true))],fun ((q,()):yR)=>(q.length≤1000,fun (z:gX)=>Sp.dD z.1.1 (Sp.fE q true))⟩
def yI:PA:=⟨180,[.v (.agg [.str, .sl bg dJ false]), .kp [.str]],[.one (.bool)],fun (((nm,_,()),name,()):(gZ×yR)×ou×Unit)=>(True,(nm==name.1),())⟩
def gJ:PA:=⟨111,[.v (.one (.sl aP bD false)), .fn 180 [[.str]]],[.one (.int .i64)],fun ((d,((name,()),()),()):iQ×(ou×Unit)×Unit)=>(True,Sp.aV d name,())⟩
def D5:PA:=⟨109,[.v (.one (.sl aP bD false)), .v (.one (.str))],[.one (.int .i64)],fun ((d,name,()):iQ×ou)=>(True,Sp.aV d name,())⟩
def zM:PA:=⟨212,[.v (.one (.sl aP bD false)), .v (.one (.str))],[.one (.int .i64)],fun ((d,name,()):iQ×ou)=>(True,Sp.aV d name,())⟩
def vP:PA:=⟨186,[.v (.one (.sl aP bD false)), .v (.one (.sl dZ ja false)), .v (.one (.sl cu eP false)), .v (.one (.int .i64))],[.one (.int .i64)],fun ((d,aG,names,more,()):iQ×dK×um×gV)=>(d.length≤aG.length∧names.length≤1000∧0≤more∧more≤1∧∀ x∈aG,0≤x.1∧x.1≤1000000,Sp.zN d aG more names,())⟩
def tY:XA:=⟨115,[.p (.v (.one (.sl aP bD false)))],[.one (.c (.sl dZ ja true)), .one (.c .bool)],fun ((d,()):oC)=>(Sp.aS d,fun (z:O5)=>z.1.2.1=Sp.aF d∧(z.1.2.1=true→Sp.kU d z.1.1))⟩
def mF:XA:=⟨152,[.p (.v (.one (.sl aP bD false))), .p (.v (.one (.sl dZ ja false)))],[.one (.own dZ ja true)],fun ((d,aG,()):iQ×jV)=>(Sp.aS d∧d.length≤5∧aG.length=d.length∧∀ x∈aG,0≤x.1∧x.1≤1000000,fun (z:DZ)=>Sp.raised d aG z.1.1)⟩
def rC:PA:=⟨149,[.v (.one (.sl dZ ja false)), .v (.one (.sl dZ ja false))],[.one (.bool)],fun ((a,b,()):EI)=>(True,decide (a=b),())⟩
def nN:XA:=⟨72,[.p (.v (.one (.sl aP bD false)))],[.one (.c (.sl dZ ja true)), .one (.c .bool)],fun ((d,()):oC)=>(Sp.aS d,fun (z:O5)=>z.1.2.1=Sp.aF d∧(z.1.2.1=true→Sp.kU d z.1.1)∧(z.1.2.1=false→z.1.1=[]))⟩
def uD:PA:=⟨20,[.v (.one (.sl aP bD false))],[.one (.bool)],fun ((d,()):oC)=>(Sp.aS d,Sp.aF d,())⟩
def mY:PA:=⟨181,[.v (.one (.sl bg dJ false))],[.one (.sl bg dJ false)],fun ((l,()):yR)=>(l.length≤1000,l,())⟩
def AX:PA:=⟨110,[.v (.agg [.str, .sl bg dJ false])],[.agg [.str, .sl bg dJ false]],fun (((n,q,()),()):(gZ×yR)×Unit)=>(q.length≤1000,(n,q,()),())⟩
def wO:PA:=⟨60,[.v (.one (.sl aP bD false))],[.one (.sl aP bD false)],fun ((d,()):oC)=>(Sp.aS d,d,())⟩
def yJ:PA:=⟨63,[.v (.one (.sl aP bD false))],[.one (.sl aP bD true)],fun ((d,()):oC)=>(Sp.aS d,d,())⟩
def yZ:PA:=⟨205,[.v (.one (.sl bg dJ false)), .v (.one (.sl bg dJ false))],[.one (.bool)],fun ((a,b,()):kF×yR)=>(True,decide (a=b),())⟩
def AY:PA:=⟨138,[.v (.agg [.str, .sl bg dJ false]), .v (.agg [.str, .sl bg dJ false])],[.one (.bool)],fun ((a,b,()):(gZ×yR)×(gZ×yR)×Unit)=>(True,decide (a=b),())⟩
def zO:PA:=⟨65,[.v (.one (.sl aP bD false)), .v (.one (.sl aP bD false))],[.one (.bool)],fun ((a,b,()):iQ×oC)=>(True,decide (a=b),())⟩
def uS:PA:=⟨252,[.v (.agg [.int .i64, .int .i64, .bool, .int .i64, .sl aW bP false]), .v (.one (.str))],[.agg [.int .i64, .int .i64, .str]],fun (((_,_,_,_,a,()),name,()):ER×ou)=>(True,Sp.cO a name,())⟩
def yK:PA:=⟨99,[.v (.agg [.int .i64, .int .i64, .bool, .int .i64, .sl aW bP false]), .v (.one (.str))],[.agg [.int .i64, .int .i64, .str]],fun (((_,_,_,_,a,()),name,()):ER×ou)=>(True,Sp.cO a name,())⟩
def AZ:PA:=⟨286,[.v (.agg [.int .i64, .int .i64, .bool, .int .i64, .sl aW bP false]), .v (.one (.str))],[.one (.int .i64), .one (.bool)],fun (((_,_,_,_,a,()),name,()):ER×ou)=>(True,(bif (Sp.cO a name).1==1 then (Sp.cO a name).2.1 else 0),((Sp.cO a name).1==1),())⟩
def vS:PA:=⟨279,[.v (.one (.sl dZ ja false)), .v (.one (.int .i64))],[.one (.int .i64)],fun ((s,v,()):dK×gV)=>(True,Sp.findAt (fun x=>x.1==v) s,())⟩
def mM:PA:=⟨262,[.v (.one (.sl dZ ja false)), .v (.one (.int .i64))],[.one (.bool)],fun ((s,v,()):dK×gV)=>(True,Sp.dw s v,())⟩
def rD:PA:=⟨193,[.v (.one (.sl cu eP false)), .v (.one (.str))],[.one (.int .i64)],fun ((s,v,()):um×ou)=>(True,Sp.findAt (fun x=>x.1==v) s,())⟩
def iG:PA:=⟨121,[.v (.one (.sl cu eP false)), .v (.one (.str))],[.one (.bool)],fun ((s,v,()):um×ou)=>(True,Sp.dF s v,())⟩
def xQ:PA:=⟨287,[.v (.one (.sl dZ ja false)), .v (.one (.int .i64))],[.one (.bool)],fun ((s,v,()):dK×gV)=>(True,Sp.dw s v,())⟩
def oG:PA:=⟨166,[.v (.one (.sl dZ ja false)), .v (.one (.int .i64))],[.one (.bool)],fun ((s,v,()):dK×gV)=>(True,Sp.dw s v,())⟩
def rE:PA:=⟨189,[.v (.one (.sl dZ ja false))],[.one (.sl dZ ja false)],fun ((l,()):jV)=>(l.length≤1000,l,())⟩
def qI:PA:=⟨191,[.v (.one (.sl aI aZ false)), .v (.one (.str))],[.one (.sl dZ ja false)],fun ((r,name,()):jI×ou)=>(Sp.bF r,Sp.fM r name,())⟩
def qJ:PA:=⟨196,[.v (.one (.sl aI aZ false)), .v (.one (.str))],[.one (.sl dZ ja true)],fun ((r,name,()):jI×ou)=>(Sp.bF r,Sp.fM r name,())⟩
def Ko:List jE:=[.v (.one (.sl bg dJ false)), .v (.one (.int .i64)), .v (.agg [.int .i64, .int .i64, .bool, .int .i64, .sl aW bP false]), .v (.one (.sl aI aZ false))]
def Ji:List yD:=[.one (.bool)]
def adE:pJ Ko→Prop×zy Ji:=fun (q,at',(i,o,s,l,a,()),r,())=>(Sp.bQ q=true∧0≤at'∧at'<q.length∧Sp.bF r,Sp.val q (i,o,s,l,a,()) (Sp.bC r) at'.toNat,())
def Jj:Vl:=EJ Ko Ji adE
def EU:List jE:=[.v (.one (.sl bg dJ false)), .v (.one (.int .i64)), .v (.agg [.int .i64, .int .i64, .bool, .int .i64, .sl aW bP false]), .v (.one (.sl aI aZ false))]
def ED:List yD:=[.one (.bool)]
def F9 [vI]:pJ EU→Prop×zy ED:=fun (q,at',(i,o,s,l,a,()),r,())=>((Sp.bQ q=true∧0≤at'∧at'<q.length∧Sp.bF r)∧at'.toNat<uO,Sp.val q (i,o,s,l,a,()) (Sp.bC r) at'.toNat,())
def EF [vI]:Vl:=EJ EU ED F9
def zF:List jE:=[.v (.one (.sl bg dJ false)), .v (.one (.int .i64)), .v (.agg [.int .i64, .int .i64, .bool, .int .i64, .sl aW bP false]), .v (.one (.sl aI aZ false))]
def D6:List yD:=[.one (.bool)]
def EW [vI]:pJ zF→Prop×zy D6:=fun (q,at',(i,o,s,l,a,()),r,())=>((Sp.bQ q=true∧0≤at'∧at'<q.length∧Sp.bF r)∧at'.toNat<uO+1,Sp.val q (i,o,s,l,a,()) (Sp.bC r) at'.toNat,())
def D7 [vI]:Vl:=EJ zF D6 EW
def Oq:List jE:=[.v (.one (.sl bg dJ false)), .v (.one (.int .i64)), .v (.agg [.int .i64, .int .i64, .bool, .int .i64, .sl aW bP false]), .v (.one (.sl aI aZ false))]
def LU:List yD:=[.one (.bool)]
def ai2:pJ Oq→Prop×zy LU:=fun (q,at',(i,o,s,l,a,()),r,())=>(Sp.bQ q=true∧0≤at'∧at'<q.length∧Sp.bF r,Sp.val q (i,o,s,l,a,()) (Sp.bC r) at'.toNat,())
def LV:Vl:=EJ Oq LU ai2
def GH:List jE:=[.v (.one (.sl bg dJ false)), .v (.one (.int .i64)), .v (.agg [.int .i64, .int .i64, .bool, .int .i64, .sl aW bP false]), .v (.one (.sl aI aZ false))]
def Gf:List yD:=[.one (.bool)]
def H9 [vI]:pJ GH→Prop×zy Gf:=fun (q,at',(i,o,s,l,a,()),r,())=>((Sp.bQ q=true∧0≤at'∧at'<q.length∧Sp.bF r)∧at'.toNat<uO,Sp.val q (i,o,s,l,a,()) (Sp.bC r) at'.toNat,())
def Gg [vI]:Vl:=EJ GH Gf H9
def A7:List jE:=[.v (.one (.sl bg dJ false)), .v (.one (.int .i64)), .v (.agg [.int .i64, .int .i64, .bool, .int .i64, .sl aW bP false]), .v (.one (.sl aI aZ false))]
def EX:List yD:=[.one (.bool)]
def GI [vI]:pJ A7→Prop×zy EX:=fun (q,at',(i,o,s,l,a,()),r,())=>((Sp.bQ q=true∧0≤at'∧at'<q.length∧Sp.bF r)∧at'.toNat<uO+1,Sp.val q (i,o,s,l,a,()) (Sp.bC r) at'.toNat,())
def EY [vI]:Vl:=EJ A7 EX GI
def A8:PA:=⟨243,[.v (.one (.sl bg dJ false)), .v (.agg [.int .i64, .int .i64, .bool, .int .i64, .sl aW bP false]), .v (.one (.sl aI aZ false))],[.one (.bool)],fun ((q,f,r,()):kF×ER×uj)=>(q.length≤1000∧Sp.bF r,Sp.iM q f (Sp.bC r),())⟩
def Ba:PA:=⟨241,[.v (.one (.sl bg dJ false)), .v (.agg [.int .i64, .int .i64, .bool, .int .i64, .sl aW bP false]), .v (.one (.sl aI aZ false))],[.one (.bool)],fun ((q,f,r,()):kF×ER×uj)=>(q.length≤1000∧Sp.bF r,Sp.iM q f (Sp.bC r),())⟩
def vT:PA:=⟨203,[.v (.agg [.sl ay aY false, .sl aJ bM false, .int .i64]), .v (.one (.sl bg dJ false)), .v (.one (.sl aI aZ false))],[.one (.sl dZ ja true)],fun ((s,q,r,()):wZ×kF×uj)=>(Sp.bI s∧q.length≤1000∧Sp.bF r,Sp.sel s.2.1 q (Sp.bC r),())⟩
def rF:PA:=⟨198,[.v (.agg [.sl ay aY false, .sl aJ bM false, .int .i64]), .v (.one (.sl bg dJ false)), .v (.one (.sl aI aZ false))],[.one (.sl dZ ja true)],fun ((s,q,r,()):wZ×kF×uj)=>(Sp.bI s∧q.length≤1000∧Sp.bF r,Sp.sel s.2.1 q (Sp.bC r),())⟩
def rG:PA:=⟨148,[.v (.one (.sl dZ ja false)), .v (.one (.sl dZ ja false))],[.one (.bool)],fun ((a,b,()):EI)=>(True,decide (a=b),())⟩
def mO:PA:=⟨147,[.v (.agg [.str, .sl dZ ja false]), .v (.agg [.str, .sl dZ ja false])],[.one (.bool)],fun ((a,b,()):(gZ×jV)×(gZ×jV)×Unit)=>(True,decide (a=b),())⟩
def dH:PA:=⟨146,[.v (.one (.sl aI aZ false)), .v (.one (.sl aI aZ false)), .fn 147 []],[.one (.bool)],fun ((a,b,_,()):jI×jI×AO)=>(True,decide (a=b),())⟩
def uF:PA:=⟨69,[.v (.one (.sl aI aZ false)), .v (.one (.sl aI aZ false))],[.one (.bool)],fun ((a,b,()):jI×uj)=>(True,decide (a=b),())⟩
def uG:PA:=⟨70,[.v (.one (.sl aI aZ false)), .v (.one (.sl aI aZ false))],[.one (.bool)],fun ((a,b,()):jI×uj)=>(True,decide (a=b),())⟩
def qK:XA:=⟨242,[.p (.v (.one (.sl dZ ja false)))],[.one (.c (.int .i64))],fun ((l,()):jV)=>(0<l.length,fun (z:fZ)=>(∀ x∈l,x.1≤z.1.1)∧(z.1.1,())∈l)⟩
def oH:XA:=⟨202,[.p (.v (.one (.sl aP bD false)))],[.one (.c (.int .i64))],fun ((d,()):oC)=>(Sp.aS d,fun (z:fZ)=>Sp.XF d z.1.1)⟩
def lJ:XA:=⟨197,[.p (.v (.one (.sl aP bD false)))],[.one (.c (.int .i64))],fun ((d,()):oC)=>(Sp.aS d,fun (z:fZ)=>Sp.XF d z.1.1)⟩
def pK:PA:=⟨83,[.v (.one (.sl aP bD false))],[.one (.sl cu eP true)],fun ((d,()):oC)=>(d.length≤1000,Sp.fJ d,())⟩
def sU:PA:=⟨85,[.v (.one (.sl aP bD false))],[.one (.sl cu eP true)],fun ((d,()):oC)=>(d.length≤1000,Sp.fJ d,())⟩
def mZ:XA:=⟨131,[.p (.v (.agg [.sl ay aY false, .sl aJ bM false, .int .i64])), .p (.v (.one (.sl aP bD false))), .p (.v (.one (.sl aI aZ false))), .p (.v (.one (.sl cu eP false)))],[.one (.c (.sl aI aZ false)), .one (.c (.int .i64)), .one (.c .bool)],fun ((s,d,r,names,()):wZ×iQ×jI×FO)=>(Sp.bI s∧Sp.aS d∧Sp.bF r,fun (z:adC)=>z.1.2.2.1=(Sp.aF d&&Sp.aB s)∧(z.1.2.2.1=true→Sp.gQ s.2.1 d r (Sp.dF names) z.1.1))⟩
def sV:XA:=⟨58,[.p (.v (.agg [.sl ay aY false, .sl aJ bM false, .int .i64])), .p (.v (.one (.sl aP bD false)))],[.one (.c (.sl aI aZ false)), .one (.c .bool)],fun ((s,d,()):wZ×oC)=>(Sp.bI s∧Sp.aS d,fun (z:Ip)=>z.1.2.1=(Sp.aF d&&Sp.aB s)∧(z.1.2.1=true→Sp.gQ s.2.1 d [] (fun _=>true) z.1.1))⟩
def oI:XA:=⟨117,[.p (.v (.agg [.sl ay aY false, .sl aJ bM false, .int .i64])), .p (.v (.one (.sl aP bD false))), .p (.v (.one (.sl aI aZ false))), .p (.v (.one (.sl cu eP false)))],[.one (.c (.sl aI aZ false)), .one (.c .bool)],fun ((s,d,r,names,()):wZ×iQ×jI×FO)=>(Sp.bI s∧Sp.aS d∧Sp.bF r,fun (z:Ip)=>z.1.2.1=(Sp.aF d&&Sp.aB s)∧(z.1.2.1=true→Sp.gQ s.2.1 d r (Sp.dF names) z.1.1))⟩
def xB:XA:=⟨134,[.p (.v (.agg [.sl ay aY false, .sl aJ bM false, .int .i64])), .p (.v (.one (.sl aP bD false)))],[.one (.own aI aZ false), .one (.c (.int .i64)), .one (.c .bool)],fun ((s,d,()):wZ×oC)=>(Sp.bI s∧Sp.aS d,fun (z:adC)=>z.1.2.2.1=(Sp.aF d&&Sp.aB s)∧(z.1.2.2.1=true→Sp.gQ s.2.1 d [] (fun _=>true) z.1.1))⟩
def pO:XA:=⟨61,[.p (.v (.agg [.sl ay aY false, .sl aJ bM false, .int .i64])), .p (.v (.one (.sl aP bD false)))],[.one (.own aI aZ false), .one (.c .bool)],fun ((s,d,()):wZ×oC)=>(Sp.bI s∧Sp.aS d,fun (z:Ip)=>z.1.2.1=(Sp.aF d&&Sp.aB s)∧(z.1.2.1=true→Sp.gQ s.2.1 d [] (fun _=>true) z.1.1))⟩
def oJ:XA:=⟨124,[.p (.v (.agg [.sl ay aY false, .sl aJ bM false, .int .i64])), .p (.v (.one (.sl aP bD false))), .p (.v (.one (.sl aI aZ false))), .p (.v (.one (.sl cu eP false)))],[.one (.c (.sl aI aZ false)), .one (.c .bool)],fun ((s,d,r,names,()):wZ×iQ×jI×FO)=>(Sp.bI s∧Sp.aS d∧Sp.bF r,fun (z:Ip)=>z.1.2.1=(Sp.aF d&&Sp.aB s)∧(z.1.2.1=true→Sp.gQ s.2.1 d r (Sp.dF names) z.1.1))⟩
def oK:XA:=⟨12,[.p (.v (.agg [.sl ay aY false, .sl aJ bM false, .int .i64])), .p (.v (.one (.sl aP bD false)))],[.agg [.c (.sl ay aY false), .c (.sl aJ bM false), .c (.int .i64), .c (.sl aP bD false), .own aI aZ false], .one (.c .bool)],fun ((s,d,()):wZ×oC)=>(Sp.bI s∧Sp.aS d,fun (z:(zD×dG)×Unit)=>z.1.2.1=(Sp.aF d&&Sp.aB s)∧(z.1.2.1=true→(z.1.1.1,z.1.1.2.1,z.1.1.2.2.1,())=s∧z.1.1.2.2.2.1=d∧Sp.gQ s.2.1 d [] (fun _=>true) z.1.1.2.2.2.2.1)∧(z.1.2.1=false→(z.1.1.1,z.1.1.2.1,z.1.1.2.2.1,z.1.1.2.2.2.1,z.1.1.2.2.2.2.1,())=([],[],0,[],[],())))⟩
def ng:PA:=⟨17,[.v (.agg [.sl ay aY false, .sl aJ bM false, .int .i64, .sl aP bD false, .sl aI aZ false])],[.one (.bool)],fun ((c,()):zD×Unit)=>(Sp.fK c,Sp.dS c,())⟩
def qL:PA:=⟨18,[.v (.agg [.sl ay aY false, .sl aJ bM false, .int .i64, .sl aP bD false, .sl aI aZ false])],[.one (.bool)],fun ((c,()):zD×Unit)=>(Sp.fK c,Sp.dS c,())⟩
def xC:PA:=⟨156,[.v (.agg [.sl ay aY false, .sl aJ bM false, .int .i64]), .v (.one (.int .i64))],[.one (.int .i64)],fun (((_,fs,_,()),id,()):wZ×gV)=>(True,Sp.place fs id,())⟩
def wP:PA:=⟨215,[.v (.agg [.int .i64, .int .i64, .bool, .int .i64, .sl aW bP false]), .kp [.int .i64]],[.one (.bool)],fun (((i,_,_,_,_,()),id,()):ER×fZ)=>(True,decide (i=id.1),())⟩
def gy:PA:=⟨214,[.v (.one (.sl aJ bM false)), .fn 215 [[.int .i64]]],[.one (.int .i64)],fun ((l,((id,()),()),()):gY×fZ×Unit)=>(True,Sp.place l id,())⟩
def zQ:PA:=⟨77,[.v (.agg [.sl ay aY false, .sl aJ bM false, .int .i64]), .v (.one (.int .i64))],[.agg [.int .i64, .int .i64, .bool, .int .i64, .sl aW bP false], .one (.bool)],fun ((s,id,()):wZ×gV)=>(Sp.bI s,(Sp.eu s id).1,(Sp.eu s id).2,())⟩
def zS:PA:=⟨79,[.v (.agg [.sl ay aY false, .sl aJ bM false, .int .i64]), .v (.one (.int .i64))],[.agg [.int .i64, .int .i64, .bool, .int .i64, .sl aW bP false], .one (.bool)],fun ((s,id,()):wZ×gV)=>(Sp.bI s,(Sp.eu s id).1,(Sp.eu s id).2,())⟩
def ni:XA:=⟨76,[.p (.v (.agg [.sl ay aY false, .sl aJ bM false, .int .i64])), .p (.v (.agg [.int .i64, .int .i64, .bool, .int .i64, .sl aW bP false]))],[.agg [.c (.sl ay aY false), .own aJ bM false, .c (.int .i64)], .one (.c .bool)],fun ((s,f,()):wZ×oz)=>(Sp.bI s∧Sp.bU f,fun (z:Io)=>z.1.1.1=(Sp.aU s f).1.1∧z.1.1.2.1=(Sp.aU s f).1.2.1∧z.1.1.2.2.1=(Sp.aU s f).1.2.2.1∧z.1.2.1=(Sp.aU s f).2)⟩
def ny:XA:=⟨80,[.p (.v (.agg [.sl ay aY false, .sl aJ bM false, .int .i64])), .p (.v (.agg [.int .i64, .int .i64, .bool, .int .i64, .sl aW bP false]))],[.agg [.own ay aY true, .own aJ bM true, .c (.int .i64)], .one (.c .bool)],fun ((s,f,()):wZ×oz)=>(Sp.bI s∧Sp.bU f,fun (z:Io)=>z.1.1.1=(Sp.aU s f).1.1∧z.1.1.2.1=(Sp.aU s f).1.2.1∧z.1.1.2.2.1=(Sp.aU s f).1.2.2.1∧z.1.2.1=(Sp.aU s f).2)⟩
def BU:PA:=⟨251,[.v (.agg [.int .i64, .int .i64, .bool, .int .i64, .sl aW bP false])],[.one (.sl cu eP true)],fun (((_,_,_,_,a,()),()):oz)=>(a.length≤1000,Sp.fU a,())⟩
def lX:XA:=⟨220,[.p (.v (.agg [.int .i64, .int .i64, .bool, .int .i64, .sl aW bP false])), .p (.v (.agg [.int .i64, .int .i64, .bool, .int .i64, .sl aW bP false]))],[.one (.c (.sl cu eP true))],fun ((f,g,()):ER×oz)=>(Sp.bU f∧Sp.bU g∧f.2.2.2.2.1.length+g.2.2.2.2.1.length≤1000,fun (z:gX)=>Sp.dD z.1.1 (Sp.jm f g))⟩
def lY:XA:=⟨228,[.p (.v (.agg [.int .i64, .int .i64, .bool, .int .i64, .sl aW bP false])), .p (.v (.agg [.int .i64, .int .i64, .bool, .int .i64, .sl aW bP false]))],[.one (.c (.sl cu eP true))],fun ((f,g,()):ER×oz)=>(Sp.bU f∧Sp.bU g∧f.2.2.2.2.1.length+g.2.2.2.2.1.length≤1000,fun (z:gX)=>Sp.dD z.1.1 (Sp.jm f g))⟩
def oL:XA:=⟨221,[.p (.v (.one (.sl bg dJ false)))],[.one (.c (.sl cu eP true))],fun ((q,()):yR)=>(q.length≤1000,fun (z:gX)=>Sp.dD z.1.1 (Sp.lG q))⟩
def oM:XA:=⟨230,[.p (.v (.one (.sl bg dJ false)))],[.one (.c (.sl cu eP true))],fun ((q,()):yR)=>(q.length≤1000,fun (z:gX)=>Sp.dD z.1.1 (Sp.lG q))⟩
def qM:XA:=⟨192,[.p (.v (.one (.sl bg dJ false)))],[.one (.c (.sl cu eP true))],fun ((q,()):yR)=>(q.length≤1000,fun (z:gX)=>Sp.dD z.1.1 (Sp.rH q))⟩
def qN:XA:=⟨127,[.p (.v (.one (.sl bg dJ false)))],[.one (.c (.sl cu eP true))],fun ((q,()):yR)=>(q.length≤1000,fun (z:gX)=>Sp.dD z.1.1 (Sp.rH q))⟩
def xE:PA:=⟨128,[.v (.one (.sl cu eP false)), .v (.one (.str))],[.one (.bool)],fun ((l,s,()):um×ou)=>(True,Sp.dF l s,())⟩
def oN:XA:=⟨120,[.p (.v (.one (.sl aP bD false))), .p (.v (.one (.str)))],[.one (.c (.sl cu eP true))],fun ((d,name,()):iQ×ou)=>(Sp.aS d,fun (z:gX)=>z.1.1=Sp.asking d name)⟩
def iH:XA:=⟨53,[.p (.v (.one (.sl aP bD false))), .p (.v (.one (.sl cu eP false)))],[.one (.c (.sl cu eP true))],fun ((d,names,()):iQ×FO)=>(Sp.aS d∧d.length≤5∧names.length≤900,fun (z:gX)=>Sp.reached d names z.1.1)⟩
def iI:XA:=⟨56,[.p (.v (.one (.sl aP bD false))), .p (.v (.one (.sl cu eP false)))],[.one (.c (.sl cu eP true))],fun ((d,names,()):iQ×FO)=>(Sp.aS d∧d.length≤5∧names.length≤900,fun (z:gX)=>Sp.reached d names z.1.1)⟩
def iV:PA:=⟨225,[.v (.agg [.int .i64, .int .i64, .int .i64, .str, .int .i64, .int .i64, .str])],[.one (.bool)],fun (((o,_,_,_,_,_,_,()),()):LM)=>(True,(o==9),())⟩
def eG:PA:=⟨254,[.v (.one (.sl bg dJ false)), .fn 225 []],[.one (.int .i64)],fun ((q,_,()):kF×AO)=>(True,Sp.findAt (fun n=>n.1==9) q,())⟩
def dW:PA:=⟨224,[.v (.one (.sl bg dJ false)), .fn 225 []],[.one (.bool)],fun ((q,_,()):kF×AO)=>(True,Sp.linked q,())⟩
def zf:PA:=⟨229,[.v (.one (.sl bg dJ false))],[.one (.bool)],fun ((q,()):yR)=>(True,Sp.linked q,())⟩
def jy:XA:=⟨160,[.p (.v (.one (.sl aP bD false))), .p (.v (.agg [.int .i64, .int .i64, .bool, .int .i64, .sl aW bP false])), .p (.v (.agg [.int .i64, .int .i64, .bool, .int .i64, .sl aW bP false]))],[.one (.c (.sl cu eP true))],fun ((d,f,g,()):iQ×ER×oz)=>(Sp.aS d∧Sp.bU f∧Sp.bU g∧f.2.2.2.2.1.length+g.2.2.2.2.1.length≤1000,fun (z:gX)=>Sp.touched d f g z.1.1)⟩
def jA:XA:=⟨164,[.p (.v (.one (.sl aP bD false))), .p (.v (.agg [.int .i64, .int .i64, .bool, .int .i64, .sl aW bP false])), .p (.v (.agg [.int .i64, .int .i64, .bool, .int .i64, .sl aW bP false]))],[.one (.c (.sl cu eP true))],fun ((d,f,g,()):iQ×ER×oz)=>(Sp.aS d∧Sp.bU f∧Sp.bU g∧f.2.2.2.2.1.length+g.2.2.2.2.1.length≤1000,fun (z:gX)=>Sp.touched d f g z.1.1)⟩
def iW:PA:=⟨223,[.v (.one (.str)), .kp [.sl cu eP false]],[.one (.bool)],fun ((nm,attrs,()):gZ×gX)=>(True,Sp.dF attrs.1 nm,())⟩
def fD:PA:=⟨253,[.v (.one (.sl cu eP false)), .fn 223 [[.sl cu eP false]]],[.one (.int .i64)],fun ((l,((attrs,()),()),()):um×gX×Unit)=>(True,Sp.findAt (fun x=>Sp.dF attrs x.1) l,())⟩
def eH:PA:=⟨222,[.v (.one (.sl cu eP false)), .fn 223 [[.sl cu eP false]]],[.one (.bool)],fun ((l,((attrs,()),()),()):um×gX×Unit)=>(True,l.any fun x=>Sp.dF attrs x.1,())⟩
def iO:XA:=⟨119,[.p (.v (.one (.sl cu eP false)))],[.one (.own cu eP false)],fun ((l,()):FO)=>(l.length≤1000,fun (z:gX)=>z.1.1=l)⟩
def jB:XA:=⟨189,[.p (.v (.one (.sl dZ ja false)))],[.one (.own dZ ja false)],fun ((l,()):jV)=>(l.length≤1000,fun (z:DZ)=>z.1.1=l)⟩
def qO:PA:=⟨261,[.v (.one (.int .i64)), .kp [.sl dZ ja false]],[.one (.bool)],fun ((x,b,()):Int×DZ)=>(True,Sp.dw b.1 x,())⟩
def ig:PA:=⟨278,[.v (.one (.sl dZ ja false)), .fn 261 [[.sl dZ ja false]]],[.one (.int .i64)],fun ((l,((b,()),()),()):dK×DZ×Unit)=>(True,Sp.findAt (fun x=>Sp.dw b x.1) l,())⟩
def eY:XA:=⟨260,[.own dZ ja, .p (.fn 261 [[.sl dZ ja false]])],[.one (.own dZ ja false)],fun ((s,((b,()),()),()):dK×DZ×Unit)=>(s.length≤1000,fun (z:DZ)=>z.1.1=s.filter fun x=>!Sp.dw b x.1)⟩
def uT:XA:=⟨237,[.p (.v (.one (.sl dZ ja false))), .p (.v (.one (.sl dZ ja false)))],[.one (.own dZ ja false)],fun ((a,b,()):EI)=>(a.length≤1000,fun (z:DZ)=>z.1.1=Sp.without a b)⟩
def uU:XA:=⟨190,[.p (.v (.one (.sl dZ ja false))), .p (.v (.one (.sl dZ ja false)))],[.one (.c (.sl dZ ja false)), .one (.c (.sl dZ ja false))],fun ((a,b,()):EI)=>(a.length≤1000∧b.length≤1000,fun (z:EI×Unit)=>z.1.1=Sp.without b a∧z.1.2.1=Sp.without a b)⟩
def uV:XA:=⟨199,[.p (.v (.one (.sl dZ ja false))), .p (.v (.one (.sl dZ ja false)))],[.one (.c (.sl dZ ja false)), .one (.c (.sl dZ ja false))],fun ((a,b,()):EI)=>(a.length≤1000∧b.length≤1000,fun (z:EI×Unit)=>z.1.1=Sp.without b a∧z.1.2.1=Sp.without a b)⟩
def nC:XA:=⟨118,[.p (.v (.one (.sl aI aZ false))), .p (.v (.one (.sl aI aZ false)))],[.one (.c (.sl jK vU false))],fun ((a,b,()):jI×uj)=>(Sp.bF a∧Sp.bF b,fun (z:FP×Unit)=>z.1.1=Sp.wQ a b)⟩
def nD:XA:=⟨125,[.p (.v (.one (.sl aI aZ false))), .p (.v (.one (.sl aI aZ false)))],[.one (.c (.sl jK vU false))],fun ((a,b,()):jI×uj)=>(Sp.bF a∧Sp.bF b,fun (z:FP×Unit)=>z.1.1=Sp.wQ a b)⟩
def nG:XA:=⟨116,[.p (.v (.one (.sl aI aZ false)))],[.one (.c (.sl aI aZ false))],fun ((r,()):uj)=>(Sp.bF r,fun (z:FQ)=>z.1.1=r)⟩
def jb:XA:=⟨51,[.p (.v (.agg [.sl ay aY false, .sl aJ bM false, .int .i64, .sl aP bD false, .sl aI aZ false]))],[.agg [.c (.sl ay aY false), .c (.sl aJ bM false), .c (.int .i64), .c (.sl aP bD false), .c (.sl aI aZ false)]],fun ((c,()):zD×Unit)=>(Sp.fK c,fun (z:Gx)=>(z.1.1.1,z.1.1.2.1,z.1.1.2.2.1,z.1.1.2.2.2.1,z.1.1.2.2.2.2.1,())=c)⟩
def oO:XA:=⟨123,[.p (.v (.one (.sl aI aZ false)))],[.one (.c (.sl aI aZ false))],fun ((r,()):uj)=>(Sp.bF r,fun (z:FQ)=>z.1.1=r)⟩
def nU:XA:=⟨54,[.p (.v (.agg [.sl ay aY false, .sl aJ bM false, .int .i64, .sl aP bD false, .sl aI aZ false]))],[.agg [.c (.sl ay aY false), .c (.sl aJ bM false), .c (.int .i64), .c (.sl aP bD false), .c (.sl aI aZ false)]],fun ((c,()):zD×Unit)=>(Sp.fK c,fun (z:Gx)=>(z.1.1.1,z.1.1.2.1,z.1.1.2.2.1,z.1.1.2.2.2.1,z.1.1.2.2.2.2.1,())=c)⟩
def lZ:XA:=⟨78,[.p (.v (.one (.sl aP bD false))), .p (.v (.agg [.int .i64, .int .i64, .bool, .int .i64, .sl aW bP false])), .p (.v (.agg [.int .i64, .int .i64, .bool, .int .i64, .sl aW bP false]))],[.one (.c (.sl cu eP true))],fun ((d,f,g,()):iQ×ER×oz)=>(Sp.aS d∧d.length≤5∧Sp.bU f∧Sp.bU g∧f.2.2.2.2.1.length+g.2.2.2.2.1.length≤1000,fun (z:gX)=>Sp.isSet z.1.1 (Sp.Vm d f g))⟩
def l7:XA:=⟨81,[.p (.v (.one (.sl aP bD false))), .p (.v (.agg [.int .i64, .int .i64, .bool, .int .i64, .sl aW bP false])), .p (.v (.agg [.int .i64, .int .i64, .bool, .int .i64, .sl aW bP false]))],[.one (.c (.sl cu eP true))],fun ((d,f,g,()):iQ×ER×oz)=>(Sp.aS d∧d.length≤5∧Sp.bU f∧Sp.bU g∧f.2.2.2.2.1.length+g.2.2.2.2.1.length≤1000,fun (z:gX)=>Sp.isSet z.1.1 (Sp.Vm d f g))⟩
def kV:XA:=⟨52,[.p (.v (.agg [.sl ay aY false, .sl aJ bM false, .int .i64, .sl aP bD false, .sl aI aZ false])), .p (.v (.agg [.sl ay aY false, .sl aJ bM false, .int .i64])), .p (.v (.one (.sl aP bD false))), .p (.v (.one (.sl cu eP false)))],[.agg [.c (.sl ay aY false), .c (.sl aJ bM false), .c (.int .i64), .c (.sl aP bD false), .c (.sl aI aZ false)], .one (.c (.sl jK vU false)), .one (.c .bool)],fun ((c,s,d,names,()):zD×wZ×iQ×FO)=>(Sp.fK c∧Sp.bI s∧Sp.aS d,fun (z:DX)=>Sp.turned c s d (Sp.dF names) (z.1.1.1,z.1.1.2.1,z.1.1.2.2.1,z.1.1.2.2.2.1,z.1.1.2.2.2.2.1,()) z.1.2.1 z.1.2.2.1)⟩
def nV:XA:=⟨55,[.p (.v (.agg [.sl ay aY false, .sl aJ bM false, .int .i64, .sl aP bD false, .sl aI aZ false])), .p (.v (.agg [.sl ay aY false, .sl aJ bM false, .int .i64])), .p (.v (.one (.sl aP bD false))), .p (.v (.one (.sl cu eP false)))],[.agg [.c (.sl ay aY false), .c (.sl aJ bM false), .c (.int .i64), .c (.sl aP bD false), .c (.sl aI aZ false)], .one (.c (.sl jK vU false))],fun ((c,s,d,names,()):zD×wZ×iQ×FO)=>(Sp.fK c∧Sp.bI s∧Sp.aS d∧(Sp.aF d&&Sp.aB s)=true,fun (z:(zD×FP)×Unit)=>Sp.turned c s d (Sp.dF names) (z.1.1.1,z.1.1.2.1,z.1.1.2.2.1,z.1.1.2.2.2.1,z.1.1.2.2.2.2.1,()) z.1.2.1 true)⟩
def oP:XA:=⟨22,[.p (.v (.agg [.sl ay aY false, .sl aJ bM false, .int .i64, .sl aP bD false, .sl aI aZ false])), .p (.v (.agg [.int .i64, .int .i64, .bool, .int .i64, .sl aW bP false]))],[.agg [.c (.sl ay aY false), .c (.sl aJ bM false), .c (.int .i64), .c (.sl aP bD false), .c (.sl aI aZ false)], .one (.c (.sl jK vU false)), .one (.c .bool)],fun ((c,f,()):zD×oz)=>(Sp.fK c∧Sp.bU f∧Sp.SI c∧Sp.Ot f,fun (z:DX)=>Sp.updated c f (z.1.1.1,z.1.1.2.1,z.1.1.2.2.1,z.1.1.2.2.2.1,z.1.1.2.2.2.2.1,()) z.1.2.1 z.1.2.2.1)⟩
def oQ:XA:=⟨23,[.p (.v (.agg [.sl ay aY false, .sl aJ bM false, .int .i64, .sl aP bD false, .sl aI aZ false])), .p (.v (.agg [.int .i64, .int .i64, .bool, .int .i64, .sl aW bP false]))],[.agg [.c (.sl ay aY false), .c (.sl aJ bM false), .c (.int .i64), .c (.sl aP bD false), .c (.sl aI aZ false)], .one (.c (.sl jK vU false)), .one (.c .bool)],fun ((c,f,()):zD×oz)=>(Sp.fK c∧Sp.bU f∧Sp.SI c∧Sp.Ot f,fun (z:DX)=>Sp.updated c f (z.1.1.1,z.1.1.2.1,z.1.1.2.2.1,z.1.1.2.2.2.1,z.1.1.2.2.2.2.1,()) z.1.2.1 z.1.2.2.1)⟩
def wR:PA:=⟨139,[.v (.one (.sl dZ ja false)), .v (.one (.sl dZ ja false))],[.one (.bool)],fun ((a,b,()):EI)=>(True,decide (a=b),())⟩
def xR:PA:=⟨89,[.v (.agg [.str, .sl dZ ja false]), .v (.agg [.str, .sl dZ ja false])],[.one (.bool)],fun ((a,b,()):(gZ×jV)×(gZ×jV)×Unit)=>(True,decide (a=b),())⟩
def rJ:PA:=⟨30,[.v (.one (.sl aI aZ false)), .v (.one (.sl aI aZ false))],[.one (.bool)],fun ((a,b,()):jI×uj)=>(True,decide (a=b),())⟩
def vV:PA:=⟨14,[.v (.agg [.sl ay aY false, .sl aJ bM false, .int .i64, .sl aP bD false, .sl aI aZ false]), .v (.agg [.sl ay aY false, .sl aJ bM false, .int .i64, .sl aP bD false, .sl aI aZ false])],[.one (.bool)],fun ((a,b,()):zD×zD×Unit)=>(True,decide (a=b),())⟩
def uX:XA:=⟨101,[.ptr [.sl fG kG false, .int .i64, .int .i64]],[.agg [.c (.sl ay aY false), .c (.sl aJ bM false), .c (.int .i64), .c (.sl aP bD false), .own aI aZ false]],fun (((_,i,_,()),()):ji)=>(0≤i,fun (z:XD)=>0≤z.2.1.2.1∧Sp.aaN (z.1.1.1,z.1.1.2.1,z.1.1.2.2.1,z.1.1.2.2.2.1,z.1.1.2.2.2.2.1,())∧0<z.1.1.2.2.2.1.length)⟩
def zT:PA:=⟨167,[.v (.one (.sl dZ ja false)), .v (.one (.int .i64))],[.one (.sl dZ ja false)],fun ((l,n,()):dK×gV)=>(l.length≤1000,Sp.Dz l n,())⟩
def rM:PA:=⟨90,[.v (.one (.sl dZ ja false)), .v (.agg [.str, .sl dZ ja false, .sl dZ ja false])],[.one (.sl dZ ja true)],fun ((l,(_,x,y,()),()):dK×(gZ×EI)×Unit)=>(l.length≤400∧x.length≤400,Sp.zh l x y,())⟩
def oU:XA:=⟨31,[.p (.v (.one (.sl aI aZ false))), .p (.v (.one (.sl jK vU false)))],[.one (.c (.sl aI aZ false))],fun ((a,d,()):jI×FP)=>(Sp.wS a∧Sp.wU d,fun (z:FQ)=>z.1.1=Sp.iE a d)⟩
def jZ:XA:=⟨251,[.p (.v (.agg [.int .i64, .int .i64, .bool, .int .i64, .sl aW bP false]))],[.one (.own cu eP true)],fun (((_,_,_,_,a,()),()):oz)=>(a.length≤1000,fun (z:gX)=>z.1.1=Sp.fU a)⟩
def ku:XA:=⟨256,[.p (.v (.agg [.int .i64, .int .i64, .bool, .int .i64, .sl aW bP false]))],[.one (.own cu eP true)],fun (((_,_,_,_,a,()),()):oz)=>(a.length≤1000,fun (z:gX)=>z.1.1=Sp.fU a)⟩
def zi:XA:=⟨86,[.ptr [.sl fG kG false, .int .i64, .int .i64]],[.one (.c (.int .i64))],fun (((_,i,_,()),()):ji)=>(0≤i,fun (z:gW)=>0≤z.2.1.2.1)⟩
def xG:XA:=⟨102,[.ptr [.sl fG kG false, .int .i64, .int .i64]],[.one (.c (.sl dZ ja false))],fun (((_,i,_,()),()):ji)=>(0≤i,fun (z:jV×ji)=>0≤z.2.1.2.1∧z.1.1.length≤7)⟩
def qA:XA:=⟨43,[.ptr [.sl fG kG false, .int .i64, .int .i64]],[.agg [.c (.sl ay aY false), .c (.sl aJ bM false), .c (.int .i64), .c (.sl aP bD false), .c (.sl aI aZ false)]],fun (((_,i,_,()),()):ji)=>(0≤i,fun (z:XD)=>0≤z.2.1.2.1∧Sp.yh (z.1.1.1,z.1.1.2.1,z.1.1.2.2.1,z.1.1.2.2.2.1,z.1.1.2.2.2.2.1,()))⟩
def kz:XA:=⟨21,[.p (.v (.one (.sl fG kG false)))],[.agg [.c (.sl ay aY false), .c (.sl aJ bM false), .c (.int .i64), .c (.sl aP bD false), .c (.sl aI aZ false)], .agg [.c (.int .i64), .c (.int .i64), .c .bool, .c (.int .i64), .c (.sl aW bP false)]],fun ((code,()):jV)=>(code.length≤1048576,fun (z:ai1)=>Sp.yh (z.1.1.1,z.1.1.2.1,z.1.1.2.2.1,z.1.1.2.2.2.1,z.1.1.2.2.2.2.1,())∧z.1.2.1.2.2.2.2.1.length≤10)⟩
def nH:XA:=⟨24,[.p (.v (.one (.sl fG kG false)))],[.agg [.c (.sl ay aY false), .c (.sl aJ bM false), .c (.int .i64), .c (.sl aP bD false), .c (.sl aI aZ false)], .agg [.c (.int .i64), .c (.int .i64), .c .bool, .c (.int .i64), .c (.sl aW bP false)]],fun ((code,()):jV)=>(code.length≤1048576,fun (z:ai1)=>Sp.yh (z.1.1.1,z.1.1.2.1,z.1.1.2.2.1,z.1.1.2.2.2.1,z.1.1.2.2.2.2.1,())∧z.1.2.1.2.2.2.2.1.length≤10)⟩
def kC:XA:=⟨27,[.p (.v (.one (.sl fG kG false)))],[.agg [.c (.sl ay aY false), .c (.sl aJ bM false), .c (.int .i64), .c (.sl aP bD false), .c (.sl aI aZ false)], .one (.c (.int .i64))],fun ((code,()):jV)=>(code.length≤1048576,fun (z:(zD×gV)×Unit)=>Sp.yh (z.1.1.1,z.1.1.2.1,z.1.1.2.2.1,z.1.1.2.2.2.1,z.1.1.2.2.2.2.1,()))⟩
def oV:XA:=⟨82,[.p (.v (.agg [.sl ay aY false, .sl aJ bM false, .int .i64])), .p (.v (.agg [.int .i64, .int .i64, .bool, .int .i64, .sl aW bP false]))],[.agg [.c (.sl ay aY false), .own aJ bM false, .c (.int .i64)], .one (.c (.int .i64)), .one (.c .bool)],fun ((s,f,()):wZ×oz)=>(Sp.bI s∧Sp.bU f,fun (z:XB)=>z.1.1.1=(Sp.aH s f).1.1∧z.1.1.2.1=(Sp.aH s f).1.2.1∧z.1.1.2.2.1=(Sp.aH s f).1.2.2.1∧z.1.2.1=(Sp.aH s f).2.1∧z.1.2.2.1=(Sp.aH s f).2.2)⟩
def iY:XA:=⟨165,[.own aJ bM, .p (.v (.one (.int .i64))), .p (.v (.one (.int .i64)))],[.one (.own aJ bM false)],fun ((s,i,j,()):gY×FN)=>(0≤i∧i≤j∧j≤s.length,fun (z:ai0)=>z.1.1=s.take i.toNat++s.drop j.toNat)⟩
def oW:XA:=⟨87,[.p (.v (.agg [.sl ay aY false, .sl aJ bM false, .int .i64])), .p (.v (.one (.int .i64)))],[.agg [.c (.sl ay aY false), .own aJ bM false, .c (.int .i64)], .one (.c .bool)],fun ((s,id,()):wZ×gV)=>(Sp.bI s,fun (z:Io)=>z.1.1.1=(Sp.aT s id).1.1∧z.1.1.2.1=(Sp.aT s id).1.2.1∧z.1.1.2.2.1=(Sp.aT s id).1.2.2.1∧z.1.2.1=(Sp.aT s id).2)⟩
def uY:XA:=⟨25,[.p (.v (.agg [.sl ay aY false, .sl aJ bM false, .int .i64, .sl aP bD false, .sl aI aZ false])), .p (.v (.agg [.int .i64, .int .i64, .bool, .int .i64, .sl aW bP false]))],[.agg [.c (.sl ay aY false), .c (.sl aJ bM false), .c (.int .i64), .c (.sl aP bD false), .c (.sl aI aZ false)], .one (.c (.int .i64)), .one (.c (.sl jK vU false)), .one (.c .bool)],fun ((c,f,()):zD×oz)=>(Sp.yh c∧Sp.bU f,fun (z:aiZ)=>Sp.became c (Sp.aH (Sp.bJ c) f).1 (Sp.fF c) (Sp.dS c&&(Sp.aH (Sp.bJ c) f).2.2) (z.1.1.1,z.1.1.2.1,z.1.1.2.2.1,z.1.1.2.2.2.1,z.1.1.2.2.2.2.1,()) z.1.2.2.1 z.1.2.2.2.1∧z.1.2.1=(bif z.1.2.2.2.1 then (Sp.aH (Sp.bJ c) f).2.1 else 0))⟩
def uZ:XA:=⟨26,[.p (.v (.agg [.sl ay aY false, .sl aJ bM false, .int .i64, .sl aP bD false, .sl aI aZ false])), .p (.v (.agg [.int .i64, .int .i64, .bool, .int .i64, .sl aW bP false]))],[.agg [.c (.sl ay aY false), .c (.sl aJ bM false), .c (.int .i64), .c (.sl aP bD false), .c (.sl aI aZ false)], .one (.c (.int .i64)), .one (.c (.sl jK vU false)), .one (.c .bool)],fun ((c,f,()):zD×oz)=>(Sp.yh c∧Sp.bU f,fun (z:aiZ)=>Sp.became c (Sp.aH (Sp.bJ c) f).1 (Sp.fF c) (Sp.dS c&&(Sp.aH (Sp.bJ c) f).2.2) (z.1.1.1,z.1.1.2.1,z.1.1.2.2.1,z.1.1.2.2.2.1,z.1.1.2.2.2.2.1,()) z.1.2.2.1 z.1.2.2.2.1∧z.1.2.1=(bif z.1.2.2.2.1 then (Sp.aH (Sp.bJ c) f).2.1 else 0))⟩
def oZ:XA:=⟨28,[.p (.v (.agg [.sl ay aY false, .sl aJ bM false, .int .i64, .sl aP bD false, .sl aI aZ false])), .p (.v (.one (.int .i64)))],[.agg [.c (.sl ay aY false), .c (.sl aJ bM false), .c (.int .i64), .c (.sl aP bD false), .c (.sl aI aZ false)], .one (.c (.sl jK vU false)), .one (.c .bool)],fun ((c,id,()):zD×gV)=>(Sp.yh c,fun (z:DX)=>Sp.became c (Sp.aT (Sp.bJ c) id).1 (Sp.fF c) (Sp.dS c&&(Sp.aT (Sp.bJ c) id).2) (z.1.1.1,z.1.1.2.1,z.1.1.2.2.1,z.1.1.2.2.2.1,z.1.1.2.2.2.2.1,()) z.1.2.1 z.1.2.2.1)⟩
def o5:XA:=⟨29,[.p (.v (.agg [.sl ay aY false, .sl aJ bM false, .int .i64, .sl aP bD false, .sl aI aZ false])), .p (.v (.one (.int .i64)))],[.agg [.c (.sl ay aY false), .c (.sl aJ bM false), .c (.int .i64), .c (.sl aP bD false), .c (.sl aI aZ false)], .one (.c (.sl jK vU false)), .one (.c .bool)],fun ((c,id,()):zD×gV)=>(Sp.yh c,fun (z:DX)=>Sp.became c (Sp.aT (Sp.bJ c) id).1 (Sp.fF c) (Sp.dS c&&(Sp.aT (Sp.bJ c) id).2) (z.1.1.1,z.1.1.2.1,z.1.1.2.2.1,z.1.1.2.2.2.1,z.1.1.2.2.2.2.1,()) z.1.2.1 z.1.2.2.1)⟩
def zU:PA:=⟨66,[.v (.agg [.str, .sl dZ ja false, .sl dZ ja false]), .v (.agg [.str, .sl dZ ja false, .sl dZ ja false])],[.one (.bool)],fun ((a,b,()):(gZ×EI)×(gZ×EI)×Unit)=>(True,decide (a=b),())⟩
def zk:PA:=⟨15,[.v (.one (.sl jK vU false)), .v (.one (.sl jK vU false))],[.one (.bool)],fun ((a,b,()):adB×FP)=>(True,decide (a=b),())⟩
def aoh:PA:=⟨3,[.v (.one (.sl fG kG false))],[.one (.bool)],fun (_,())=>(True,true,())⟩
def vF:PA:=⟨4,[.v (.one (.sl fG kG false))],[.one (.bool)],fun (_,())=>(True,true,())⟩
def alM:aC:=aA []
def ai3:aC:=aA []
def afS:aC:=aA [uP.e]
def ai4:aC:=aA [dA.e]
def ai5:aC:=aA [dA.e]
def aa8:aC:=aA [dA.e]
def afT:aC:=aA []
def ai6:aC:=aA [iy.e]
def alN:aC:=aA [iy.e,qX.e,dA.e,pq.e]
def afU:aC:=aA [kH.e,iy.e,sJ.e,dA.e]
def alO:aC:=aA [iy.e,iT.e,dA.e,sH.e]
def afV:aC:=aA []
def XG:aC:=aA []
def amP:aC:=aA []
def alP:aC:=aA []
def ai7:aC:=aA [jC.e]
def SK:aC:=aA [yH.e]
def SL:aC:=aA [lg.e]
def VD:aC:=aA [kR.e,jC.e]
def VE:aC:=aA [kS.e,lg.e]
def O7:aC:=aA [yH.e]
def O8:aC:=aA []
def adF:aC:=aA []
def adG:aC:=aA []
def SN:aC:=aA [jC.e,lC.e]
def SQ:aC:=aA [lD.e]
def SS:aC:=aA [yT.e,qf.e]
def SX:aC:=aA [yU.e,qg.e]
def XH:aC:=aA [jC.e,nS.e,sK.e]
def XI:aC:=aA [nT.e,CU.e,lg.e,sN.e]
def VF:aC:=aA [jC.e,nS.e,mP.e]
def VG:aC:=aA [lg.e,nT.e,mQ.e]
def aa9:aC:=aA []
def adH:aC:=aA []
def afW:aC:=aA [yV.e]
def adI:aC:=aA [zL.e]
def adJ:aC:=aA [yX.e,xP.e]
def ai8:aC:=aA []
def afX:aC:=aA [mV.e]
def alQ:aC:=aA [lg.e]
def afY:aC:=aA []
def Kv:aC:=aA []
def LW:aC:=aA []
def ai9:aC:=aA []
def aja:aC:=aA [kH.e,iy.e,qZ.e,sJ.e,jW.e,dA.e]
def alR:aC:=aA [qZ.e,kH.e,tX.e,qX.e,iT.e,lF.e,dA.e]
def afZ:aC:=aA []
def ajb:aC:=aA [qY.e]
def abb:aC:=aA [mP.e,jq.e,qY.e,jY.e]
def abd:aC:=aA [jq.e,sO.e,jY.e]
def af0:aC:=aA [lI.e,jW.e,jT.e,lF.e,dA.e,sQ.e,pq.e]
def alS:aC:=aA [jT.e,lF.e,xk.e,qw.e,iT.e,dA.e,pF.e]
def apy:aC:=aA []
def adK:aC:=aA [pz.e]
def adL:aC:=aA [qH.e,mD.e]
def abe:aC:=aA [iy.e]
def ajc:aC:=aA [oD.e,kH.e,sJ.e,iy.e,dA.e]
def SY [vI]:aC:=aA [(DC, .eff (EZ yc) F7),dA.e,rq.e,jW.e]
def XJ:aC:=aA [(zA, .eff (EZ sS) AQ),dA.e]
def Kw:aC:=aA [(zA, .eff (EZ sS) AQ),dA.e]
def alT:aC:=aA [tX.e,rq.e,iy.e,iT.e,dA.e,mW.e]
def ajd:aC:=aA [iw.e,dA.e]
def alU:aC:=aA [iw.e,xw.e,iy.e,dA.e,ru.e]
def aje:aC:=aA [uD.e,ru.e]
def XK:aC:=aA [kR.e,qf.e,lC.e,jC.e]
def XL:aC:=aA [kS.e,lg.e,qg.e,lD.e]
def O9:aC:=aA []
def Pe:aC:=aA []
def VH:aC:=aA [jC.e,qi.e,vK.e]
def VI:aC:=aA [lg.e,qj.e,vM.e]
def XM:aC:=aA [lN.e,kR.e]
def XO:aC:=aA [lQ.e,kS.e]
def af2:aC:=aA []
def VJ:aC:=aA [lN.e]
def VK:aC:=aA [lQ.e]
def adM:aC:=aA [(o6, .eff (EZ jD) lS),wM.e,uz.e]
def VL:aC:=aA [mX.e]
def VN:aC:=aA [mX.e]
def alV:aC:=aA []
def af4:aC:=aA [qy.e,jC.e,uy.e]
def VO:aC:=aA [pI.e]
def VP:aC:=aA [pI.e]
def ajf:aC:=aA []
def BK:aC:=aA [yI.e]
def amQ:aC:=aA [gJ.e,yI.e]
def af5:aC:=aA []
def XP:aC:=aA [D5.e]
def alW:aC:=aA [lU.e,vP.e,lT.e,vO.e]
def af6:aC:=aA [lW.e,zM.e,lV.e]
def ajg:aC:=aA []
def alX:aC:=aA [rC.e,mF.e,vN.e]
def VQ:aC:=aA [nN.e]
def LX:aC:=aA []
def ajh:aC:=aA [mY.e]
def af7:aC:=aA [AX.e]
def aji:aC:=aA []
def adN:aC:=aA []
def ajj:aC:=aA [yZ.e]
def af8:aC:=aA [AY.e]
def ajk:aC:=aA []
def ajl:aC:=aA []
def ajm:aC:=aA [uS.e]
def XQ:aC:=aA []
def Qx:aC:=aA [vS.e]
def Qy:aC:=aA []
def LY:aC:=aA [rD.e]
def abf:aC:=aA [mM.e]
def abg:aC:=aA []
def XR:aC:=aA []
def adO:aC:=aA [rE.e]
def adP:aC:=aA []
def Pg [vI]:aC:=aA [xQ.e,qI.e,(Bc, .pure EF),AZ.e,uS.e]
def S9 [vI]:aC:=aA [oG.e,qJ.e,(DF, .pure Gg),yK.e]
def ajn:aC:=aA [(FT, .pure Jj),lQ.e]
def ajo:aC:=aA [(Iu, .pure LV),lN.e]
def XT:aC:=aA [A8.e]
def XU:aC:=aA [Ba.e]
def XV:aC:=aA []
def Qz:aC:=aA [rG.e]
def rO:aC:=aA [mO.e]
def VR:aC:=aA [mO.e,dH.e]
def VS:aC:=aA [rC.e]
def adQ:aC:=aA []
def abh:aC:=aA [qK.e,tY.e]
def abj:aC:=aA [nN.e]
def af9:aC:=aA []
def aga:aC:=aA []
def adR:aC:=aA [rG.e,vT.e,oH.e,qI.e,iG.e,jS.e,tY.e]
def agb:aC:=aA [mZ.e,pK.e]
def abk:aC:=aA [mZ.e]
def alY:aC:=aA [rC.e,rF.e,lJ.e,jq.e,nN.e]
def agc:aC:=aA [xB.e]
def abl:aC:=aA [rC.e,rF.e,lJ.e,xE.e,qJ.e,jq.e,nN.e]
def abm:aC:=aA [yJ.e,jY.e,pO.e]
def adS:aC:=aA [uF.e,sV.e]
def adT:aC:=aA [uG.e,pO.e]
def alZ:aC:=aA [gy.e,wP.e]
def agd:aC:=aA []
def Aw:aC:=aA [wP.e]
def agf:aC:=aA [pz.e,xC.e]
def agh:aC:=aA [qY.e,sO.e]
def XW:aC:=aA [pz.e,mQ.e,jS.e,xC.e,jk.e]
def XY:aC:=aA [qY.e,mP.e,jq.e,sO.e,jY.e]
def adU:aC:=aA []
def VT:aC:=aA [(o6, .eff (EZ jD) lS),uS.e,jZ.e]
def VU:aC:=aA [qy.e,yK.e,ku.e]
def abn:aC:=aA [(o6, .eff (EZ jD) lS)]
def abo:aC:=aA [qy.e,jC.e]
def adV:aC:=aA [(o6, .eff (EZ jD) lS),wM.e]
def adW:aC:=aA [qy.e,jC.e]
def al0:aC:=aA []
def abp:aC:=aA [iG.e,qM.e]
def Jk:aC:=aA [(o6, .eff (EZ jD) lS),iG.e,oN.e,iO.e]
def Jl:aC:=aA [xE.e,qN.e,qy.e]
def Ky:aC:=aA []
def wI:aC:=aA [iV.e]
def ve:aC:=aA [eG.e,iV.e]
def adX:aC:=aA []
def NQ:aC:=aA [iV.e,dW.e,eH.e,iW.e,oL.e,lX.e,pK.e]
def NR:aC:=aA [xE.e,oM.e,zf.e,lY.e,sU.e]
def Kz:aC:=aA [iG.e]
def yj:aC:=aA [iW.e]
def wJ:aC:=aA [fD.e,iW.e]
def JI:aC:=aA []
def NS:aC:=aA []
def adY:aC:=aA [mM.e]
def DI:aC:=aA [qO.e]
def CV:aC:=aA [ig.e,qO.e]
def ajp:aC:=aA [eY.e,qO.e,jB.e]
def ajq:aC:=aA [uT.e]
def ajr:aC:=aA [oG.e]
def XZ:aC:=aA [uU.e,qI.e]
def X0:aC:=aA [uV.e,qJ.e]
def X3:aC:=aA [rE.e]
def X4:aC:=aA [nG.e,wO.e,jk.e]
def abq:aC:=aA []
def ajs:aC:=aA [oO.e,yJ.e,jY.e]
def VW:aC:=aA [iH.e,jy.e]
def VX:aC:=aA [iI.e,jA.e]
def adZ:aC:=aA [nC.e,wO.e,jk.e,jb.e,oI.e]
def ajt:aC:=aA [nD.e,oJ.e]
def abr:aC:=aA [kV.e,lZ.e,zQ.e,jb.e,ng.e,ni.e]
def abt:aC:=aA [nV.e,l7.e,qL.e,ny.e,zS.e,nU.e]
def agi:aC:=aA []
def abu:aC:=aA [wR.e]
def X5:aC:=aA [xR.e]
def X6:aC:=aA [rJ.e,zO.e,yY.e]
def aju:aC:=aA [oK.e,uQ.e,pF.e]
def agj:aC:=aA []
def QB:aC:=aA [zT.e,oG.e]
def abv:aC:=aA [rM.e]
def QC:aC:=aA []
def QD:aC:=aA []
def amR:aC:=aA [iT.e]
def al1:aC:=aA [jW.e]
def al2:aC:=aA [xq.e,xA.e,xG.e,dA.e,uX.e]
def QE:aC:=aA [qw.e,lF.e,dA.e,jW.e,qA.e,qp.e]
def X7:aC:=aA [qw.e,qA.e,qp.e]
def QF:aC:=aA [zi.e,qA.e,qp.e]
def abw:aC:=aA [mQ.e,jS.e,pz.e,jk.e]
def KA:aC:=aA []
def abx:aC:=aA [iY.e,jS.e,xC.e,jk.e]
def ajv:aC:=aA [kV.e,pK.e,jb.e,ng.e,oV.e]
def ajw:aC:=aA [nV.e,sU.e,qL.e,jT.e,nU.e]
def aby:aC:=aA [kV.e,pK.e,jb.e,ng.e,oW.e]
def abz:aC:=aA [nV.e,sU.e,qL.e,lI.e,nU.e]
def agk:aC:=aA [wR.e]
def ad1:aC:=aA [zU.e]
def Ph:aC:=aA [rJ.e,oU.e,ng.e,zk.e,vV.e,o5.e,oZ.e,kC.e,uZ.e,uY.e,nH.e,oQ.e,oP.e,kz.e,Gy.e]
end
end Go.Proofs.Tryz
