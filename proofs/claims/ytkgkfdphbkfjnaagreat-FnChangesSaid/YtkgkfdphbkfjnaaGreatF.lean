import Derived.Test.YtkgkfdphbkfjnaaGreatN
import Derived.Test.YtkgkfdphbkfjnaaGreatSp
namespace Go.Proofs.Tryz
open Go Go.Fw Sp
abbrev gI:=List UInt8
abbrev gU:=Int×Unit
abbrev fC:=List (gI×gU)
abbrev lD:=gI×Unit
abbrev Ty1:=gI×Int×Int×lD
abbrev gK:=List Ty1
abbrev Eb:=Int×Int×Bool×Int×gK×Unit
abbrev gy:=List Eb
abbrev abu:=Int×Int×Int×Ty1
abbrev iO:=List abu
abbrev DX:=iO×Unit
abbrev LK:=gI×DX
abbrev dP:=List LK
abbrev dV:=List gU
abbrev kL:=dV×Unit
abbrev iZ:=List (gI×kL)
abbrev nN:=iZ×Unit
abbrev qY:=fC×gy×Int×dP×nN
abbrev FT:=Int×gU
abbrev BO:=dV×FT
abbrev gY:=BO×Unit
abbrev qP:=List lD
abbrev G9:=qP×Unit
abbrev gV:=G9×Unit
abbrev He:=dV×kL
abbrev JG:=List (gI×He)
abbrev mM:=fC×gy×gU
abbrev dh:=Bool×Unit
abbrev lI:=(qY×JG×dh)×Unit
abbrev abv:=Int×Int×Int×Bool×Int×gK×Int×LK
abbrev nO:=Unit×Unit
abbrev Wv:=Unit×BO×(Int×Int×Bool×Int×nO)×gK×Unit
abbrev pW:=(qY×Unit)×Unit
abbrev fV:=gU×Unit
abbrev jQ:=dP×Unit
abbrev DY:=(Int×Int×lD)×Unit
abbrev uM:=Unit×gU
abbrev Iy:=uM×G9
abbrev fH:=gU×gY
abbrev zI:=DX×gY
abbrev Ey:=(mM×Unit)×Unit
abbrev jR:=Eb×Unit
abbrev anR:=(Int×qY×abv×Unit×Unit×Unit×JG×Unit)×(Unit×Unit×Int×Unit×nO)×qY×qY×Unit
abbrev JH:=(mM×dh)×Unit
abbrev JI:=(iZ×dh)×Unit
abbrev KY:=(dP×dh)×Unit
abbrev pX:=lD×gY
abbrev Ny:=(dV×dh)×Unit
abbrev Wx:=(mM×Int×dh)×Unit
abbrev afx:=(qY×Int×JG×dh)×Unit
abbrev abw:=(qY×JG×Unit)×Unit
abbrev abx:=(iZ×Int×dh)×Unit
abbrev BP:=dh×Unit
abbrev Ez:=kL×Unit
abbrev Td:=(qY×Unit)×gY
abbrev Wy:=(mM×Unit)×gY
abbrev FU:=jQ×Unit
abbrev WA:=(qP×gU)×Unit
abbrev anS:=Int×Int×Int×Bool×Int×Unit×Int×gI×nO
abbrev afy:=qY×Int×abv×Unit
abbrev FV:=dh×gY
abbrev JJ:=fC×Unit
abbrev afz:=(gy×Unit)×Unit
abbrev afA:=(JG×Unit)×Unit
abbrev apI:=Unit×BO×(Int×Int×Int×Bool×Int×Unit×Int×LK)×gK×Unit
abbrev Nz:=abu×Unit
class sK where n:Nat
abbrev rH [sK]:Nat:=sK.n
noncomputable section
def GI:QA:=⟨36,[.p (.v (.one (.sl eP jB false)))],[.sl eP jB false, .int .i64, .int .i64],fun ((code,()):kL)=>(code.length≤1048576,fun (z:BO)=>z.2.1=0)⟩
def EW:XA:=⟨163,[.ptr [.sl eP jB false, .int .i64, .int .i64]],[.one (.c (.int .i64))],fun (((_,i,_,()),()):gY)=>(0≤i,fun (z:fH)=>0≤z.2.1.2.1∧0≤z.1.1∧z.1.1≤255)⟩
def dR:XA:=⟨87,[.ptr [.sl eP jB false, .int .i64, .int .i64], .p (.v (.one (.int .i64)))],[.one (.c (.int .i64))],fun (((_,i,_,()),n,()):BO×gU)=>(0≤i,fun (z:fH)=>0≤z.2.1.2.1∧0≤z.1.1∧(0<n→z.1.1<n)∧(n≤0→z.1.1=0))⟩
def kQ:XA:=⟨86,[.ptr [.sl eP jB false, .int .i64, .int .i64], .p (.v (.one (.int .i64)))],[.one (.c .bool)],fun (((_,i,_,()),_,()):BO×gU)=>(0≤i,fun (z:FV)=>0≤z.2.1.2.1)⟩
def iE:XA:=⟨120,[.ptr [.sl eP jB false, .int .i64, .int .i64], .p (.v (.one (.sl dw dZ false)))],[.one (.c .str)],fun (((_,i,_,()),list,()):BO×G9)=>(0≤i∧list≠[],fun (z:pX)=>0≤z.2.1.2.1∧(z.1.1,())∈list)⟩
def jk:XA:=⟨75,[.ptr [.sl eP jB false, .int .i64, .int .i64], .p (.v (.one (.sl eX jo false)))],[.one (.c (.int .i64))],fun (((_,i,_,()),list,()):BO×kL)=>(0≤i∧list≠[],fun (z:fH)=>0≤z.2.1.2.1∧(z.1.1,())∈list)⟩
def yx:XA:=⟨217,[],[.one (.own ak aS true)],fun (())=>(True,fun (z:JJ×Unit)=>z.1.1=Sp.usual)⟩
def Ap:XA:=⟨267,[.ptr [.sl eP jB false, .int .i64, .int .i64]],[.one (.c .str)],fun (((_,i,_,()),()):gY)=>(0≤i,fun (z:pX)=>0≤z.2.1.2.1∧z.1.1.length≤1)⟩
def GK:XA:=⟨221,[.ptr [.sl eP jB false, .int .i64, .int .i64]],[.one (.c (.sl ak aS true))],fun (((_,i,_,()),()):gY)=>(0≤i,fun (z:JJ×gY)=>0≤z.2.1.2.1∧z.1.1.length≤6)⟩
def Ec:XA:=⟨301,[.ptr [.sl eP jB false, .int .i64, .int .i64]],[.agg [.c (.int .i64), .c (.int .i64), .c .str]],fun (((_,i,_,()),()):gY)=>(0≤i,fun (z:DY×gY)=>0≤z.2.1.2.1∧z.1.1.2.2.1.length≤10)⟩
def Dn:XA:=⟨266,[.ptr [.sl eP jB false, .int .i64, .int .i64]],[.agg [.c (.int .i64), .c (.int .i64), .c .str]],fun (((_,i,_,()),()):gY)=>(0≤i,fun (z:DY×gY)=>0≤z.2.1.2.1∧z.1.1.2.2.1.length≤10)⟩
def uf:PA:=⟨190,[.v (.one (.int .i64))],[.agg [.int .i64, .int .i64, .str]],fun ((n,()):gU)=>(True,(1,n,[],()),())⟩
def lJ:PA:=⟨191,[.v (.one (.str))],[.agg [.int .i64, .int .i64, .str]],fun ((w,()):lD)=>(True,(2,0,w,()),())⟩
def iL:PA:=⟨51,[.v (.one (.int .i64)), .v (.one (.int .i64)), .v (.one (.int .i64))],[.one (.bool)],fun ((x,a,b,()):Int×FT)=>(True,(decide (a≤x)&&decide (x≤b)),())⟩
def kM:PA:=⟨72,[.v (.one (.int .i64)), .v (.one (.int .i64)), .v (.one (.int .i64))],[.one (.bool)],fun ((x,a,b,()):Int×FT)=>(True,(decide (a≤x)&&decide (x≤b)),())⟩
def Aq:PA:=⟨299,[.v (.one (.str)), .v (.one (.int .i64))],[.one (.bool)],fun ((s,m,()):gI×gU)=>(True,(Sp.lower s&&decide (1≤(s.length:Int))&&decide ((s.length:Int)≤m)),())⟩
def l9:PA:=⟨263,[.v (.one (.str))],[.one (.bool)],fun ((s,()):lD)=>(True,iq s,())⟩
def mg:PA:=⟨204,[.v (.one (.str))],[.one (.bool)],fun ((s,()):lD)=>(True,iq s,())⟩
def qZ:PA:=⟨277,[.v (.agg [.int .i64, .int .i64, .str])],[.one (.bool)],fun (((k,n,s,()),()):DY)=>(True,jS k n s,())⟩
def rq:PA:=⟨269,[.v (.agg [.int .i64, .int .i64, .str])],[.one (.bool)],fun (((k,n,s,()),()):DY)=>(True,jS k n s,())⟩
def nP:PA:=⟨276,[.v (.one (.str))],[.one (.bool)],fun ((s,()):lD)=>(True,jK s,())⟩
def nR:PA:=⟨268,[.v (.one (.str))],[.one (.bool)],fun ((s,()):lD)=>(True,jK s,())⟩
def BQ:PA:=⟨278,[.v (.one (.sl ak aS false)), .v (.one (.str))],[.one (.int .i64)],fun ((fs,s,()):fC×lD)=>(True,Sp.kindOf fs s,())⟩
def BR:PA:=⟨283,[.v (.one (.sl ak aS false)), .v (.one (.str))],[.one (.int .i64)],fun ((fs,s,()):fC×lD)=>(True,Sp.kindOf fs s,())⟩
def qc:PA:=⟨234,[.v (.one (.sl ak aS false))],[.one (.bool)],fun ((fs,()):JJ)=>(True,fQ fs,())⟩
def qf:PA:=⟨223,[.v (.one (.sl ak aS false))],[.one (.bool)],fun ((fs,()):JJ)=>(True,fQ fs,())⟩
def vK:PA:=⟨240,[.v (.one (.sl ak aS false)), .v (.one (.str)), .v (.agg [.int .i64, .int .i64, .str])],[.one (.bool)],fun ((fs,s,(k,n,w,()),()):fC×gI×DY)=>(True,jm fs s k n w,())⟩
def vM:PA:=⟨249,[.v (.one (.sl ak aS false)), .v (.one (.str)), .v (.agg [.int .i64, .int .i64, .str])],[.one (.bool)],fun ((fs,s,(k,n,w,()),()):fC×gI×DY)=>(True,jm fs s k n w,())⟩
def oL:PA:=⟨182,[.v (.one (.sl ak aS false)), .v (.agg [.int .i64, .int .i64, .bool, .int .i64, .sl aP bZ false])],[.one (.bool)],fun ((fs,f,()):fC×jR)=>(True,dm fs f,())⟩
def oM:PA:=⟨195,[.v (.one (.sl ak aS false)), .v (.agg [.int .i64, .int .i64, .bool, .int .i64, .sl aP bZ false])],[.one (.bool)],fun ((fs,f,()):fC×jR)=>(True,dm fs f,())⟩
def jO:PA:=⟨177,[.v (.agg [.sl ak aS false, .sl aF bg false, .int .i64])],[.one (.bool)],fun ((s,()):mM×Unit)=>(True,ax s,())⟩
def kW:PA:=⟨170,[.v (.agg [.sl ak aS false, .sl aF bg false, .int .i64])],[.one (.bool)],fun ((s,()):mM×Unit)=>(True,ax s,())⟩
def zT:PA:=⟨107,[.v (.one (.sl ak aS false)), .v (.one (.sl ak aS false))],[.one (.bool)],fun ((a,b,()):fC×JJ)=>(True,decide (a=b),())⟩
def BU:PA:=⟨15,[.v (.one (.sl aP bZ false)), .v (.one (.sl aP bZ false))],[.one (.bool)],fun ((a,b,()):gK×gK×Unit)=>(True,decide (a=b),())⟩
def yA:PA:=⟨30,[.v (.agg [.int .i64, .int .i64, .bool, .int .i64, .sl aP bZ false]), .v (.agg [.int .i64, .int .i64, .bool, .int .i64, .sl aP bZ false])],[.one (.bool)],fun ((a,b,()):Eb×jR)=>(True,decide (a=b),())⟩
def BV:PA:=⟨108,[.v (.one (.sl aF bg false)), .v (.one (.sl aF bg false))],[.one (.bool)],fun ((a,b,()):gy×gy×Unit)=>(True,decide (a=b),())⟩
def BZ:PA:=⟨39,[.v (.agg [.sl ak aS false, .sl aF bg false, .int .i64]), .v (.agg [.sl ak aS false, .sl aF bg false, .int .i64])],[.one (.bool)],fun ((a,b,()):mM×mM×Unit)=>(True,decide (a=b),())⟩
def rJ:PA:=⟨74,[.v (.agg [.int .i64, .int .i64, .bool, .int .i64, .sl aP bZ false])],[.agg [.int .i64, .int .i64, .bool, .int .i64, .sl aP bZ true]],fun ((f,()):jR)=>(cu f,f,())⟩
def qg:PA:=⟨127,[.v (.agg [.int .i64, .int .i64, .bool, .int .i64, .sl aP bZ false])],[.agg [.int .i64, .int .i64, .bool, .int .i64, .sl aP bZ false]],fun ((f,()):jR)=>(cu f,f,())⟩
def xX:PA:=⟨54,[.v (.one (.int .i64))],[.one (.bool)],fun ((u,()):gU)=>(True,(decide (0≤u)&&decide (u≤2)),())⟩
def ug:PA:=⟨73,[.v (.agg [.sl ak aS false, .sl aF bg false, .int .i64]), .v (.one (.int .i64))],[.one (.int .i64)],fun (((_,fs,_,()),id,()):mM×gU)=>(True,Sp.place fs id,())⟩
def pO:PA:=⟨168,[.v (.one (.sl ak aS false))],[.one (.sl ak aS false)],fun ((l,()):JJ)=>(l.length≤1000,l,())⟩
def qh:PA:=⟨98,[.v (.one (.sl aP bZ false))],[.one (.sl aP bZ false)],fun ((l,()):gK×Unit)=>(l.length≤1000,l,())⟩
def Ar:XA:=⟨181,[.p (.v (.agg [.int .i64, .int .i64, .bool, .int .i64, .sl aP bZ false])), .p (.v (.one (.str))), .p (.v (.agg [.int .i64, .int .i64, .str]))],[.agg [.c (.int .i64), .c (.int .i64), .c .bool, .c (.int .i64), .own aP bZ true]],fun (((i,o,s,l,a,()),name,(k,n,w,()),()):Eb×gI×DY)=>(a.length≤1000,fun (z:jR×Unit)=>z.1.1.1=i∧z.1.1.2.1=o∧z.1.1.2.2.1=s∧z.1.1.2.2.2.1=l∧z.1.1.2.2.2.2.1=kR a name k n w)⟩
def rM:XA:=⟨119,[.ptr [.sl eP jB false, .int .i64, .int .i64], .p (.v (.one (.int .i64)))],[.agg [.c (.int .i64), .c (.int .i64), .c .bool, .c (.int .i64), .own aP bZ true]],fun (((_,i,_,()),id,()):BO×gU)=>(0≤i,fun (z:jR×gY)=>0≤z.2.1.2.1∧z.1.1.1=id∧0≤z.1.1.2.1∧z.1.1.2.1≤2∧0≤z.1.1.2.2.2.1∧z.1.1.2.2.2.1≤6∧jT Sp.usual z.1.1.2.2.2.2.1=true∧z.1.1.2.2.2.2.1.length≤4)⟩
def GL:XA:=⟨220,[.ptr [.sl eP jB false, .int .i64, .int .i64]],[.agg [.c (.int .i64), .c (.int .i64), .c .bool, .c (.int .i64), .c (.sl aP bZ true)]],fun (((_,i,_,()),()):gY)=>(0≤i,fun (z:jR×gY)=>0≤z.2.1.2.1∧z.1.1.2.2.2.2.1.length≤10)⟩
def Ed:XA:=⟨216,[.p (.v (.one (.sl ak aS false)))],[.agg [.own ak aS true, .own aF bg true, .c (.int .i64)]],fun ((s,()):JJ)=>(s.length≤1000,fun (z:Ey)=>z.1.1.1=s∧z.1.1.2.1=[]∧z.1.1.2.2.1=1)⟩
def oN:XA:=⟨141,[.p (.v (.agg [.sl ak aS false, .sl aF bg false, .int .i64]))],[.agg [.own ak aS true, .own aF bg true, .c (.int .i64)]],fun ((s,()):mM×Unit)=>(bn s,fun (z:Ey)=>(z.1.1.1,z.1.1.2.1,z.1.1.2.2.1,())=s)⟩
def qG:XA:=⟨144,[.p (.v (.agg [.sl ak aS false, .sl aF bg false, .int .i64])), .p (.v (.agg [.int .i64, .int .i64, .bool, .int .i64, .sl aP bZ false]))],[.agg [.own ak aS true, .own aF bg true, .c (.int .i64)], .one (.c (.int .i64)), .one (.c .bool)],fun ((s,f,()):mM×jR)=>(bn s∧cu f,fun (z:Wx)=>z.1.1.1=(aH s f).1.1∧z.1.1.2.1=(aH s f).1.2.1∧z.1.1.2.2.1=(aH s f).1.2.2.1∧z.1.2.1=(aH s f).2.1∧z.1.2.2.1=(aH s f).2.2)⟩
def uY:XA:=⟨148,[.p (.v (.agg [.sl ak aS false, .sl aF bg false, .int .i64])), .p (.v (.one (.int .i64)))],[.agg [.own ak aS true, .own aF bg true, .c (.int .i64)], .one (.c .bool)],fun ((s,id,()):mM×gU)=>(bn s,fun (z:JH)=>z.1.1.1=(aX s id).1.1∧z.1.1.2.1=(aX s id).1.2.1∧z.1.1.2.2.1=(aX s id).1.2.2.1∧z.1.2.1=(aX s id).2)⟩
def uh:XA:=⟨161,[.ptr [.sl eP jB false, .int .i64, .int .i64]],[.agg [.own ak aS true, .own aF bg true, .c (.int .i64)]],fun (((_,i,_,()),()):gY)=>(0≤i,fun (z:Wy)=>0≤z.2.1.2.1∧z.1.1.1=Sp.usual∧ax (z.1.1.1,z.1.1.2.1,z.1.1.2.2.1,())=true∧z.1.1.2.2.1≤z.1.1.2.1.length+2∧bn (z.1.1.1,z.1.1.2.1,z.1.1.2.2.1,())∧0<z.1.1.2.1.length)⟩
def GN:XA:=⟨166,[.ptr [.sl eP jB false, .int .i64, .int .i64]],[.agg [.c (.sl ak aS false), .c (.sl aF bg false), .c (.int .i64)]],fun (((_,i,_,()),()):gY)=>(0≤i,fun (z:Wy)=>0≤z.2.1.2.1∧bn (z.1.1.1,z.1.1.2.1,z.1.1.2.2.1,())∧∀ f∈z.1.1.2.1,f.2.2.2.2.1.length≤400)⟩
def LY:PA:=⟨7,[.v (.one (.sl eP jB false))],[.one (.bool)],fun ((code,()):kL)=>(True,decide (1048576<(code.length:Int)),())⟩
def Cb:XA:=⟨193,[.p (.v (.one (.sl aF bg false)))],[.one (.own aF bg false)],fun ((l,()):gy×Unit)=>(l.length≤1000∧∀ f∈l,cu f,fun (z:afz)=>z.1.1=l)⟩
def lK:XA:=⟨122,[.p (.v (.agg [.sl ak aS false, .sl aF bg false, .int .i64]))],[.agg [.c (.sl ak aS false), .own aF bg false, .c (.int .i64)]],fun ((s,()):mM×Unit)=>(bn s,fun (z:Ey)=>(z.1.1.1,z.1.1.2.1,z.1.1.2.2.1,())=s)⟩
def zU:XA:=⟨282,[.ptr [.sl eP jB false, .int .i64, .int .i64]],[.one (.c .str)],fun (((_,i,_,()),()):gY)=>(0≤i,fun (z:pX)=>0≤z.2.1.2.1∧z.1.1.length≤10)⟩
def wB:XA:=⟨248,[.ptr [.sl eP jB false, .int .i64, .int .i64]],[.agg [.c (.int .i64), .c (.int .i64), .c (.int .i64), .c .str, .c (.int .i64), .c (.int .i64), .c .str]],fun (((_,i,_,()),()):gY)=>(0≤i,fun (z:Nz×gY)=>0≤z.2.1.2.1∧True)⟩
def Iz:List gX:=[.ptr [.sl eP jB false, .int .i64, .int .i64], .own aU bP, .p (.v (.one (.int .i64))), .p (.v (.one (.bool)))]
def NC:List ru:=[.one (.own aU bP false)]
def QU:jP Iz→Prop×(mX NC×mr Iz→Prop):=fun ((_,i,_,()),q,deep,_,())=>(0≤i∧0≤deep∧deep≤4∧q.length+2*deep.toNat≤900,fun ((r,()),((_,i',_,()),()))=>0≤i'∧q.length<r.length∧r.length≤q.length+2*deep.toNat+1)
def aby:IA:=qQ Iz NC QU
def qi:List gX:=[.ptr [.sl eP jB false, .int .i64, .int .i64], .own aU bP, .p (.v (.one (.int .i64))), .p (.v (.one (.bool)))]
def H7:List ru:=[.one (.own aU bP false)]
def Jr [sK]:jP qi→Prop×(mX H7×mr qi→Prop):=fun ((_,i,_,()),q,deep,_,())=>((0≤i∧0≤deep∧deep≤4∧q.length+2*deep.toNat≤900)∧deep.toNat<rH,fun ((r,()),((_,i',_,()),()))=>0≤i'∧q.length<r.length∧r.length≤q.length+2*deep.toNat+1)
def Au [sK]:IA:=qQ qi H7 Jr
def uj:List gX:=[.ptr [.sl eP jB false, .int .i64, .int .i64], .own aU bP, .p (.v (.one (.int .i64))), .p (.v (.one (.bool)))]
def F6:List ru:=[.one (.own aU bP false)]
def vN [sK]:jP uj→Prop×(mX F6×mr uj→Prop):=fun ((_,i,_,()),q,deep,_,())=>((0≤i∧0≤deep∧deep≤4∧q.length+2*deep.toNat≤900)∧deep.toNat<rH+1,fun ((r,()),((_,i',_,()),()))=>0≤i'∧q.length<r.length∧r.length≤q.length+2*deep.toNat+1)
def F7 [sK]:IA:=qQ uj F6 vN
def qj:List gX:=[.ptr [.sl eP jB false, .int .i64, .int .i64], .p (.v (.one .nil)), .p (.v (.one (.int .i64))), .p (.v (.one (.bool)))]
def H8:List ru:=[.one (.own aU bP false)]
def Js:jP qj→Prop×(mX H8×mr qj→Prop):=fun ((_,i,_,()),(),deep,_,())=>(0≤i∧0≤deep∧deep≤4,fun ((r,()),((_,i',_,()),()))=>0≤i'∧0<r.length∧r.length≤0+2*deep.toNat+1)
def Aw:IA:=qQ qj H8 Js
def sN:XA:=⟨121,[.ptr [.sl eP jB false, .int .i64, .int .i64]],[.one (.own aU bP false)],fun (((_,i,_,()),()):gY)=>(0≤i,fun (z:zI)=>0≤z.2.1.2.1∧0<z.1.1.length∧z.1.1.length≤9)⟩
def lC:XA:=⟨121,[.ptr [.sl eP jB false, .int .i64, .int .i64]],[.one (.c (.sl aU bP false))],fun (((_,i,_,()),()):gY)=>(0≤i,fun (z:zI)=>0≤z.2.1.2.1∧0<z.1.1.length∧z.1.1.length≤9)⟩
def GR:XA:=⟨219,[.ptr [.sl eP jB false, .int .i64, .int .i64]],[.one (.c (.sl aU bP false))],fun (((_,i,_,()),()):gY)=>(0≤i,fun (z:zI)=>0≤z.2.1.2.1∧z.1.1.length≤10)⟩
def Az:XA:=⟨218,[.ptr [.sl eP jB false, .int .i64, .int .i64]],[.one (.own aG aW false)],fun (((_,i,_,()),()):gY)=>(0≤i,fun (z:jQ×gY)=>0≤z.2.1.2.1∧0<z.1.1.length∧z.1.1.length≤4∧aA z.1.1)⟩
def GU:XA:=⟨165,[.ptr [.sl eP jB false, .int .i64, .int .i64]],[.one (.c (.sl aG aW false))],fun (((_,i,_,()),()):gY)=>(0≤i,fun (z:jQ×gY)=>0≤z.2.1.2.1∧z.1.1.length≤10∧aA z.1.1)⟩
def AA:XA:=⟨162,[.ptr [.sl eP jB false, .int .i64, .int .i64]],[.one (.c (.sl aG aW false))],fun (((_,i,_,()),()):gY)=>(0≤i,fun (z:jQ×gY)=>0≤z.2.1.2.1∧z.1.1.length≤10∧aA z.1.1∧ai z.1.1=true∧0<z.1.1.length)⟩
def yB:PA:=⟨235,[.v (.agg [.int .i64, .int .i64, .int .i64, .str, .int .i64, .int .i64, .str]), .v (.one (.int .i64))],[.one (.bool)],fun (((o,l,r,nm,vk,vi,vs,()),at',()):abu×gU)=>(True,kD (o,l,r,nm,vk,vi,vs,()) at',())⟩
def yC:PA:=⟨224,[.v (.agg [.int .i64, .int .i64, .int .i64, .str, .int .i64, .int .i64, .str]), .v (.one (.int .i64))],[.one (.bool)],fun (((o,l,r,nm,vk,vi,vs,()),at',()):abu×gU)=>(True,kD (o,l,r,nm,vk,vi,vs,()) at',())⟩
def rZ:PA:=⟨236,[.v (.one (.sl aU bP false)), .v (.one (.int .i64))],[.one (.int .i64)],fun ((q,at',()):iO×gU)=>(q.length≤1000000,(mY q at':Int),())⟩
def su:PA:=⟨225,[.v (.one (.sl aU bP false)), .v (.one (.int .i64))],[.one (.int .i64)],fun ((q,at',()):iO×gU)=>(q.length≤1000000,(mY q at':Int),())⟩
def nI:PA:=⟨179,[.v (.one (.sl aU bP false))],[.one (.bool)],fun ((q,()):DX)=>(q.length≤1000000,bQ q,())⟩
def nJ:PA:=⟨171,[.v (.one (.sl aU bP false))],[.one (.bool)],fun ((q,()):DX)=>(q.length≤1000000,bQ q,())⟩
def oO:PA:=⟨211,[.v (.one (.sl aG aW false))],[.one (.bool)],fun ((d,()):jQ)=>(aA d,bF d,())⟩
def oP:PA:=⟨134,[.v (.one (.sl aG aW false))],[.one (.bool)],fun ((d,()):jQ)=>(aA d,bF d,())⟩
def yD:PA:=⟨258,[.v (.agg [.int .i64, .int .i64, .int .i64, .str, .int .i64, .int .i64, .str])],[.one (.bool)],fun (((o,_,_,_,_,_,_,()),()):Nz)=>(True,(o==8||o==9),())⟩
def wY:PA:=⟨313,[.v (.one (.sl aU bP false))],[.one (.sl adh R_4 true)],fun ((q,()):DX)=>(q.length≤1000,Sp.negated q,())⟩
def wZ:PA:=⟨304,[.v (.one (.sl aU bP false))],[.one (.sl adh R_4 true)],fun ((q,()):DX)=>(q.length≤1000,Sp.negated q,())⟩
def jr:List gX:=[.p (.v (.one (.sl dw dZ false)))]
def DZ:List ru:=[.one (.c (.sl dw dZ true))]
def LM:jP jr→Prop×(mX DZ×mr jr→Prop):=fun (l,())=>(l.length≤1000,fun ((r,()),())=>r.length≤l.length∧∀ s,s∈r↔s∈l)
def kX:IA:=qQ jr DZ LM
def wM:XA:=⟨281,[.p (.v (.one (.sl aU bP false))), .p (.v (.one (.bool)))],[.one (.c (.sl dw dZ true))],fun ((q,neg,()):iO×dh)=>(q.length≤1000,fun (z:gV)=>dK z.1.1 (fB q neg))⟩
def xg:XA:=⟨244,[.p (.v (.one (.sl aU bP false)))],[.one (.c (.sl dw dZ true))],fun ((q,()):DX)=>(q.length≤1000,fun (z:gV)=>dK z.1.1 (fB q false))⟩
def xk:XA:=⟨245,[.p (.v (.one (.sl aU bP false)))],[.one (.c (.sl dw dZ true))],fun ((q,()):DX)=>(q.length≤1000,fun (z:gV)=>dK z.1.1 (fB q true))⟩
def qL:PA:=⟨48,[.v (.one (.sl dw dZ false)), .v (.one (.str))],[.one (.sl dw dZ false)],fun ((l,s,()):qP×lD)=>(l.length≤1000,AB l s,())⟩
def yE:XA:=⟨303,[.p (.v (.one (.sl aU bP false))), .p (.v (.one (.bool)))],[.one (.c (.sl dw dZ true))],fun ((q,neg,()):iO×dh)=>(q.length≤1000,fun (z:gV)=>dK z.1.1 (fB q neg))⟩
def xq:XA:=⟨279,[.p (.v (.one (.sl aU bP false)))],[.one (.c (.sl dw dZ true))],fun ((q,()):DX)=>(q.length≤1000,fun (z:gV)=>dK z.1.1 (fB q false))⟩
def xu:XA:=⟨280,[.p (.v (.one (.sl aU bP false)))],[.one (.c (.sl dw dZ true))],fun ((q,()):DX)=>(q.length≤1000,fun (z:gV)=>dK z.1.1 (fB q true))⟩
def AL:PA:=⟨203,[.v (.agg [.str, .sl aU bP false]), .kp [.str]],[.one (.bool)],fun (((nm,_,()),name,()):LK×lD×Unit)=>(True,(nm==name.1),())⟩
def iK:PA:=⟨200,[.v (.one (.sl aG aW false)), .fn 203 [[.str]]],[.one (.int .i64)],fun ((d,((name,()),()),()):dP×(lD×Unit)×Unit)=>(True,aJ d name,())⟩
def AO:PA:=⟨133,[.v (.one (.sl aG aW false)), .v (.one (.str))],[.one (.int .i64)],fun ((d,name,()):dP×lD)=>(True,aJ d name,())⟩
def yF:PA:=⟨176,[.v (.one (.sl aG aW false)), .v (.one (.str))],[.one (.int .i64)],fun ((d,name,()):dP×lD)=>(True,aJ d name,())⟩
def yG:PA:=⟨243,[.v (.one (.sl aG aW false)), .v (.one (.sl eX jo false)), .v (.one (.sl dw dZ false)), .v (.one (.int .i64))],[.one (.int .i64)],fun ((d,aI,names,more,()):dP×dV×qP×gU)=>(d.length≤aI.length∧names.length≤1000∧0≤more∧more≤1∧∀ x∈aI,0≤x.1∧x.1≤1000000,yH d aI more names,())⟩
def xY:XA:=⟨187,[.p (.v (.one (.sl aG aW false)))],[.one (.c (.sl eX jo true)), .one (.c .bool)],fun ((d,()):jQ)=>(aA d,fun (z:Ny)=>z.1.2.1=ai d∧(z.1.2.1=true→ku d z.1.1))⟩
def xw:PA:=⟨132,[.v (.one (.sl aG aW false))],[.one (.bool)],fun ((d,()):jQ)=>(aA d,ai d,())⟩
def um:XA:=⟨241,[.p (.v (.one (.sl aG aW false))), .p (.v (.one (.sl eX jo false)))],[.one (.own eX jo true)],fun ((d,aI,()):dP×kL)=>(aA d∧d.length≤5∧aI.length=d.length∧∀ x∈aI,0≤x.1∧x.1≤1000000,fun (z:Ez)=>Sp.raised d aI z.1.1)⟩
def rO:PA:=⟨113,[.v (.one (.sl eX jo false)), .v (.one (.sl eX jo false))],[.one (.bool)],fun ((a,b,()):He)=>(True,decide (a=b),())⟩
def uN:XA:=⟨184,[.p (.v (.one (.sl aG aW false)))],[.one (.c (.sl eX jo true)), .one (.c .bool)],fun ((d,()):jQ)=>(aA d,fun (z:Ny)=>z.1.2.1=ai d∧(z.1.2.1=true→ku d z.1.1)∧(z.1.2.1=false→z.1.1=[]))⟩
def rC:PA:=⟨150,[.v (.one (.sl aG aW false))],[.one (.bool)],fun ((d,()):jQ)=>(aA d,ai d,())⟩
def ql:PA:=⟨222,[.v (.one (.sl aU bP false))],[.one (.sl aU bP false)],fun ((l,()):DX)=>(l.length≤1000,l,())⟩
def wC:PA:=⟨167,[.v (.agg [.str, .sl aU bP false])],[.agg [.str, .sl aU bP false]],fun (((n,q,()),()):LK×Unit)=>(q.length≤1000,(n,q,()),())⟩
def yI:PA:=⟨123,[.v (.one (.sl aG aW false))],[.one (.sl aG aW false)],fun ((d,()):jQ)=>(aA d,d,())⟩
def rP:PA:=⟨142,[.v (.one (.sl aG aW false))],[.one (.sl aG aW true)],fun ((d,()):jQ)=>(aA d,d,())⟩
def Cc:PA:=⟨183,[.v (.one (.sl aU bP false)), .v (.one (.sl aU bP false))],[.one (.bool)],fun ((a,b,()):iO×DX)=>(True,decide (a=b),())⟩
def EX:PA:=⟨109,[.v (.agg [.str, .sl aU bP false]), .v (.agg [.str, .sl aU bP false])],[.one (.bool)],fun ((a,b,()):LK×LK×Unit)=>(True,decide (a=b),())⟩
def Ee:PA:=⟨40,[.v (.one (.sl aG aW false)), .v (.one (.sl aG aW false))],[.one (.bool)],fun ((a,b,()):dP×jQ)=>(True,decide (a=b),())⟩
def rQ:PA:=⟨270,[.v (.agg [.int .i64, .int .i64, .bool, .int .i64, .sl aP bZ false]), .v (.one (.str))],[.agg [.int .i64, .int .i64, .str]],fun (((_,_,_,_,a,()),name,()):Eb×lD)=>(True,dB a name,())⟩
def wE:PA:=⟨47,[.v (.agg [.int .i64, .int .i64, .bool, .int .i64, .sl aP bZ false]), .v (.one (.str))],[.agg [.int .i64, .int .i64, .str]],fun (((_,_,_,_,a,()),name,()):Eb×lD)=>(True,dB a name,())⟩
def AP:PA:=⟨271,[.v (.agg [.int .i64, .int .i64, .bool, .int .i64, .sl aP bZ false]), .v (.one (.str))],[.one (.int .i64), .one (.bool)],fun (((_,_,_,_,a,()),name,()):Eb×lD)=>(True,(bif (dB a name).1==1 then (dB a name).2.1 else 0),((dB a name).1==1),())⟩
def yJ:PA:=⟨275,[.v (.one (.sl eX jo false)), .v (.one (.int .i64))],[.one (.int .i64)],fun ((s,v,()):dV×gU)=>(True,Sp.findAt (fun x=>x.1==v) s,())⟩
def oQ:PA:=⟨233,[.v (.one (.sl eX jo false)), .v (.one (.int .i64))],[.one (.bool)],fun ((s,v,()):dV×gU)=>(True,fG s v,())⟩
def uo:PA:=⟨206,[.v (.one (.sl dw dZ false)), .v (.one (.str))],[.one (.int .i64)],fun ((s,v,()):qP×lD)=>(True,Sp.findAt (fun x=>x.1==v) s,())⟩
def ja:PA:=⟨139,[.v (.one (.sl dw dZ false)), .v (.one (.str))],[.one (.bool)],fun ((s,v,()):qP×lD)=>(True,dA s v,())⟩
def uZ:PA:=⟨174,[.v (.one (.sl eX jo false)), .v (.one (.int .i64))],[.one (.bool)],fun ((s,v,()):dV×gU)=>(True,fG s v,())⟩
def qH:PA:=⟨42,[.v (.one (.sl eX jo false)), .v (.one (.int .i64))],[.one (.bool)],fun ((s,v,()):dV×gU)=>(True,fG s v,())⟩
def sO:PA:=⟨194,[.v (.one (.sl eX jo false))],[.one (.sl eX jo false)],fun ((l,()):kL)=>(l.length≤1000,l,())⟩
def oD:PA:=⟨157,[.v (.one (.sl aB aY false)), .v (.one (.str))],[.one (.sl eX jo false)],fun ((r,name,()):iZ×lD)=>(bH r,fK r name,())⟩
def oG:PA:=⟨111,[.v (.one (.sl aB aY false)), .v (.one (.str))],[.one (.sl eX jo true)],fun ((r,name,()):iZ×lD)=>(bH r,fK r name,())⟩
def LQ:List jb:=[.v (.one (.sl aU bP false)), .v (.one (.int .i64)), .v (.agg [.int .i64, .int .i64, .bool, .int .i64, .sl aP bZ false]), .v (.one (.sl aB aY false))]
def Ky:List sQ:=[.one (.bool)]
def abz:mZ LQ→Prop×xA Ky:=fun (q,at',(i,o,s,l,a,()),r,())=>(bQ q=true∧0≤at'∧at'<q.length∧bH r,Sp.val q (i,o,s,l,a,()) (bD r) at'.toNat,())
def Kz:Va:=FW LQ Ky abz
def F8:List jb:=[.v (.one (.sl aU bP false)), .v (.one (.int .i64)), .v (.agg [.int .i64, .int .i64, .bool, .int .i64, .sl aP bZ false]), .v (.one (.sl aB aY false))]
def FN:List sQ:=[.one (.bool)]
def H9 [sK]:mZ F8→Prop×xA FN:=fun (q,at',(i,o,s,l,a,()),r,())=>((bQ q=true∧0≤at'∧at'<q.length∧bH r)∧at'.toNat<rH,Sp.val q (i,o,s,l,a,()) (bD r) at'.toNat,())
def xU [sK]:Va:=FW F8 FN H9
def xW:List jb:=[.v (.one (.sl aU bP false)), .v (.one (.int .i64)), .v (.agg [.int .i64, .int .i64, .bool, .int .i64, .sl aP bZ false]), .v (.one (.sl aB aY false))]
def EC:List sQ:=[.one (.bool)]
def F9 [sK]:mZ xW→Prop×xA EC:=fun (q,at',(i,o,s,l,a,()),r,())=>((bQ q=true∧0≤at'∧at'<q.length∧bH r)∧at'.toNat<rH+1,Sp.val q (i,o,s,l,a,()) (bD r) at'.toNat,())
def ED [sK]:Va:=FW xW EC F9
def Pm:List jb:=[.v (.one (.sl aU bP false)), .v (.one (.int .i64)), .v (.agg [.int .i64, .int .i64, .bool, .int .i64, .sl aP bZ false]), .v (.one (.sl aB aY false))]
def ND:List sQ:=[.one (.bool)]
def afB:mZ Pm→Prop×xA ND:=fun (q,at',(i,o,s,l,a,()),r,())=>(bQ q=true∧0≤at'∧at'<q.length∧bH r,Sp.val q (i,o,s,l,a,()) (bD r) at'.toNat,())
def NG:Va:=FW Pm ND afB
def IB:List jb:=[.v (.one (.sl aU bP false)), .v (.one (.int .i64)), .v (.agg [.int .i64, .int .i64, .bool, .int .i64, .sl aP bZ false]), .v (.one (.sl aB aY false))]
def Ia:List sQ:=[.one (.bool)]
def Jt [sK]:mZ IB→Prop×xA Ia:=fun (q,at',(i,o,s,l,a,()),r,())=>((bQ q=true∧0≤at'∧at'<q.length∧bH r)∧at'.toNat<rH,Sp.val q (i,o,s,l,a,()) (bD r) at'.toNat,())
def AQ [sK]:Va:=FW IB Ia Jt
def AU:List jb:=[.v (.one (.sl aU bP false)), .v (.one (.int .i64)), .v (.agg [.int .i64, .int .i64, .bool, .int .i64, .sl aP bZ false]), .v (.one (.sl aB aY false))]
def Gf:List sQ:=[.one (.bool)]
def IC [sK]:mZ AU→Prop×xA Gf:=fun (q,at',(i,o,s,l,a,()),r,())=>((bQ q=true∧0≤at'∧at'<q.length∧bH r)∧at'.toNat<rH+1,Sp.val q (i,o,s,l,a,()) (bD r) at'.toNat,())
def Gg [sK]:Va:=FW AU Gf IC
def EY:PA:=⟨247,[.v (.one (.sl aU bP false)), .v (.agg [.int .i64, .int .i64, .bool, .int .i64, .sl aP bZ false]), .v (.one (.sl aB aY false))],[.one (.bool)],fun ((q,f,r,()):iO×Eb×nN)=>(q.length≤1000∧bH r,iI q f (bD r),())⟩
def EZ:PA:=⟨242,[.v (.one (.sl aU bP false)), .v (.agg [.int .i64, .int .i64, .bool, .int .i64, .sl aP bZ false]), .v (.one (.sl aB aY false))],[.one (.bool)],fun ((q,f,r,()):iO×Eb×nN)=>(q.length≤1000∧bH r,iI q f (bD r),())⟩
def yK:PA:=⟨189,[.v (.agg [.sl ak aS false, .sl aF bg false, .int .i64]), .v (.one (.sl aU bP false)), .v (.one (.sl aB aY false))],[.one (.sl eX jo true)],fun ((s,q,r,()):mM×iO×nN)=>(bn s∧q.length≤1000∧bH r,Sp.sel s.2.1 q (bD r),())⟩
def sS:PA:=⟨186,[.v (.agg [.sl ak aS false, .sl aF bg false, .int .i64]), .v (.one (.sl aU bP false)), .v (.one (.sl aB aY false))],[.one (.sl eX jo true)],fun ((s,q,r,()):mM×iO×nN)=>(bn s∧q.length≤1000∧bH r,Sp.sel s.2.1 q (bD r),())⟩
def sU:PA:=⟨118,[.v (.one (.sl eX jo false)), .v (.one (.sl eX jo false))],[.one (.bool)],fun ((a,b,()):He)=>(True,decide (a=b),())⟩
def oU:PA:=⟨117,[.v (.agg [.str, .sl eX jo false]), .v (.agg [.str, .sl eX jo false])],[.one (.bool)],fun ((a,b,()):(gI×kL)×(gI×kL)×Unit)=>(True,decide (a=b),())⟩
def eF:PA:=⟨116,[.v (.one (.sl aB aY false)), .v (.one (.sl aB aY false)), .fn 117 []],[.one (.bool)],fun ((a,b,_,()):iZ×iZ×nO)=>(True,decide (a=b),())⟩
def xB:PA:=⟨50,[.v (.one (.sl aB aY false)), .v (.one (.sl aB aY false))],[.one (.bool)],fun ((a,b,()):iZ×nN)=>(True,decide (a=b),())⟩
def xC:PA:=⟨45,[.v (.one (.sl aB aY false)), .v (.one (.sl aB aY false))],[.one (.bool)],fun ((a,b,()):iZ×nN)=>(True,decide (a=b),())⟩
def Ce:XA:=⟨246,[.p (.v (.one (.sl eX jo false)))],[.one (.c (.int .i64))],fun ((l,()):kL)=>(0<l.length,fun (z:fV)=>(∀ x∈l,x.1≤z.1.1)∧(z.1.1,())∈l)⟩
def zV:XA:=⟨188,[.p (.v (.one (.sl aG aW false)))],[.one (.c (.int .i64))],fun ((d,()):jQ)=>(aA d,fun (z:fV)=>WB d z.1.1)⟩
def ve:XA:=⟨185,[.p (.v (.one (.sl aG aW false)))],[.one (.c (.int .i64))],fun ((d,()):jQ)=>(aA d,fun (z:fV)=>WB d z.1.1)⟩
def qm:PA:=⟨115,[.v (.one (.sl aG aW false))],[.one (.sl dw dZ true)],fun ((d,()):jQ)=>(d.length≤1000,fE d,())⟩
def uq:PA:=⟨146,[.v (.one (.sl aG aW false))],[.one (.sl dw dZ true)],fun ((d,()):jQ)=>(d.length≤1000,fE d,())⟩
def wO:XA:=⟨114,[.p (.v (.agg [.sl ak aS false, .sl aF bg false, .int .i64])), .p (.v (.one (.sl aG aW false))), .p (.v (.one (.sl aB aY false))), .p (.v (.one (.sl dw dZ false)))],[.one (.c (.sl aB aY false)), .one (.c (.int .i64)), .one (.c .bool)],fun ((s,d,r,names,()):mM×dP×iZ×G9)=>(bn s∧aA d∧bH r,fun (z:abx)=>z.1.2.2.1=(ai d&&ax s)∧(z.1.2.2.1=true→fM s.2.1 d r (dA names) z.1.1))⟩
def Ef:XA:=⟨49,[.p (.v (.agg [.sl ak aS false, .sl aF bg false, .int .i64])), .p (.v (.one (.sl aG aW false)))],[.one (.c (.sl aB aY false)), .one (.c .bool)],fun ((s,d,()):mM×jQ)=>(bn s∧aA d,fun (z:JI)=>z.1.2.1=(ai d&&ax s)∧(z.1.2.1=true→fM s.2.1 d [] (fun _=>true) z.1.1))⟩
def zW:XA:=⟨136,[.p (.v (.agg [.sl ak aS false, .sl aF bg false, .int .i64])), .p (.v (.one (.sl aG aW false))), .p (.v (.one (.sl aB aY false))), .p (.v (.one (.sl dw dZ false)))],[.one (.c (.sl aB aY false)), .one (.c .bool)],fun ((s,d,r,names,()):mM×dP×iZ×G9)=>(bn s∧aA d∧bH r,fun (z:JI)=>z.1.2.1=(ai d&&ax s)∧(z.1.2.1=true→fM s.2.1 d r (dA names) z.1.1))⟩
def GV:XA:=⟨112,[.p (.v (.agg [.sl ak aS false, .sl aF bg false, .int .i64])), .p (.v (.one (.sl aG aW false)))],[.one (.own aB aY false), .one (.c (.int .i64)), .one (.c .bool)],fun ((s,d,()):mM×jQ)=>(bn s∧aA d,fun (z:abx)=>z.1.2.2.1=(ai d&&ax s)∧(z.1.2.2.1=true→fM s.2.1 d [] (fun _=>true) z.1.1))⟩
def yL:XA:=⟨44,[.p (.v (.agg [.sl ak aS false, .sl aF bg false, .int .i64])), .p (.v (.one (.sl aG aW false)))],[.one (.own aB aY false), .one (.c .bool)],fun ((s,d,()):mM×jQ)=>(bn s∧aA d,fun (z:JI)=>z.1.2.1=(ai d&&ax s)∧(z.1.2.1=true→fM s.2.1 d [] (fun _=>true) z.1.1))⟩
def zX:XA:=⟨209,[.p (.v (.agg [.sl ak aS false, .sl aF bg false, .int .i64])), .p (.v (.one (.sl aG aW false))), .p (.v (.one (.sl aB aY false))), .p (.v (.one (.sl dw dZ false)))],[.one (.c (.sl aB aY false)), .one (.c .bool)],fun ((s,d,r,names,()):mM×dP×iZ×G9)=>(bn s∧aA d∧bH r,fun (z:JI)=>z.1.2.1=(ai d&&ax s)∧(z.1.2.1=true→fM s.2.1 d r (dA names) z.1.1))⟩
def vw:XA:=⟨160,[.p (.v (.agg [.sl ak aS false, .sl aF bg false, .int .i64])), .p (.v (.one (.sl aG aW false)))],[.agg [.c (.sl ak aS false), .c (.sl aF bg false), .c (.int .i64), .c (.sl aG aW false), .own aB aY false], .one (.c .bool)],fun ((s,d,()):mM×jQ)=>(bn s∧aA d,fun (z:(qY×dh)×Unit)=>z.1.2.1=(ai d&&ax s)∧(z.1.2.1=true→(z.1.1.1,z.1.1.2.1,z.1.1.2.2.1,())=s∧z.1.1.2.2.2.1=d∧fM s.2.1 d [] (fun _=>true) z.1.1.2.2.2.2.1)∧(z.1.2.1=false→(z.1.1.1,z.1.1.2.1,z.1.1.2.2.1,z.1.1.2.2.2.1,z.1.1.2.2.2.2.1,())=([],[],0,[],[],())))⟩
def kJ:PA:=⟨20,[.v (.agg [.sl ak aS false, .sl aF bg false, .int .i64, .sl aG aW false, .sl aB aY false])],[.one (.bool)],fun ((c,()):qY×Unit)=>(dO c,dF c,())⟩
def lM:PA:=⟨17,[.v (.agg [.sl ak aS false, .sl aF bg false, .int .i64, .sl aG aW false, .sl aB aY false])],[.one (.bool)],fun ((c,()):qY×Unit)=>(dO c,dF c,())⟩
def xZ:PA:=⟨126,[.v (.agg [.sl ak aS false, .sl aF bg false, .int .i64]), .v (.one (.int .i64))],[.one (.int .i64)],fun (((_,fs,_,()),id,()):mM×gU)=>(True,Sp.place fs id,())⟩
def yM:PA:=⟨197,[.v (.agg [.int .i64, .int .i64, .bool, .int .i64, .sl aP bZ false]), .kp [.int .i64]],[.one (.bool)],fun (((i,_,_,_,_,()),id,()):Eb×fV)=>(True,decide (i=id.1),())⟩
def iD:PA:=⟨196,[.v (.one (.sl aF bg false)), .fn 197 [[.int .i64]]],[.one (.int .i64)],fun ((l,((id,()),()),()):gy×fV×Unit)=>(True,Sp.place l id,())⟩
def yN:PA:=⟨57,[.v (.agg [.sl ak aS false, .sl aF bg false, .int .i64]), .v (.one (.int .i64))],[.agg [.int .i64, .int .i64, .bool, .int .i64, .sl aP bZ false], .one (.bool)],fun ((s,id,()):mM×gU)=>(bn s,(aO s id).1,(aO s id).2,())⟩
def uw:PA:=⟨29,[.v (.agg [.sl ak aS false, .sl aF bg false, .int .i64]), .v (.one (.int .i64))],[.agg [.int .i64, .int .i64, .bool, .int .i64, .sl aP bZ false], .one (.bool)],fun ((s,id,()):mM×gU)=>(bn s,(aO s id).1,(aO s id).2,())⟩
def yO:XA:=⟨128,[.p (.v (.agg [.sl ak aS false, .sl aF bg false, .int .i64])), .p (.v (.agg [.int .i64, .int .i64, .bool, .int .i64, .sl aP bZ false]))],[.agg [.c (.sl ak aS false), .own aF bg false, .c (.int .i64)], .one (.c .bool)],fun ((s,f,()):mM×jR)=>(bn s∧cu f,fun (z:JH)=>z.1.1.1=(aV s f).1.1∧z.1.1.2.1=(aV s f).1.2.1∧z.1.1.2.2.1=(aV s f).1.2.2.1∧z.1.2.1=(aV s f).2)⟩
def yP:XA:=⟨106,[.p (.v (.agg [.sl ak aS false, .sl aF bg false, .int .i64])), .p (.v (.agg [.int .i64, .int .i64, .bool, .int .i64, .sl aP bZ false]))],[.agg [.own ak aS true, .own aF bg true, .c (.int .i64)], .one (.c .bool)],fun ((s,f,()):mM×jR)=>(bn s∧cu f,fun (z:JH)=>z.1.1.1=(aV s f).1.1∧z.1.1.2.1=(aV s f).1.2.1∧z.1.1.2.2.1=(aV s f).1.2.2.1∧z.1.2.1=(aV s f).2)⟩
def Hf:PA:=⟨284,[.v (.agg [.int .i64, .int .i64, .bool, .int .i64, .sl aP bZ false])],[.one (.sl dw dZ true)],fun (((_,_,_,_,a,()),()):jR)=>(a.length≤1000,fU a,())⟩
def xE:XA:=⟨250,[.p (.v (.agg [.int .i64, .int .i64, .bool, .int .i64, .sl aP bZ false])), .p (.v (.agg [.int .i64, .int .i64, .bool, .int .i64, .sl aP bZ false]))],[.one (.c (.sl dw dZ true))],fun ((f,g,()):Eb×jR)=>(cu f∧cu g∧f.2.2.2.2.1.length+g.2.2.2.2.1.length≤1000,fun (z:gV)=>dK z.1.1 (jc f g))⟩
def xG:XA:=⟨19,[.p (.v (.agg [.int .i64, .int .i64, .bool, .int .i64, .sl aP bZ false])), .p (.v (.agg [.int .i64, .int .i64, .bool, .int .i64, .sl aP bZ false]))],[.one (.c (.sl dw dZ true))],fun ((f,g,()):Eb×jR)=>(cu f∧cu g∧f.2.2.2.2.1.length+g.2.2.2.2.1.length≤1000,fun (z:gV)=>dK z.1.1 (jc f g))⟩
def zY:XA:=⟨251,[.p (.v (.one (.sl aU bP false)))],[.one (.c (.sl dw dZ true))],fun ((q,()):DX)=>(q.length≤1000,fun (z:gV)=>dK z.1.1 (kS q))⟩
def zZ:XA:=⟨262,[.p (.v (.one (.sl aU bP false)))],[.one (.c (.sl dw dZ true))],fun ((q,()):DX)=>(q.length≤1000,fun (z:gV)=>dK z.1.1 (kS q))⟩
def Ci:XA:=⟨205,[.p (.v (.one (.sl aU bP false)))],[.one (.c (.sl dw dZ true))],fun ((q,()):DX)=>(q.length≤1000,fun (z:gV)=>dK z.1.1 (nS q))⟩
def Cj:XA:=⟨212,[.p (.v (.one (.sl aU bP false)))],[.one (.c (.sl dw dZ true))],fun ((q,()):DX)=>(q.length≤1000,fun (z:gV)=>dK z.1.1 (nS q))⟩
def x9:PA:=⟨213,[.v (.one (.sl dw dZ false)), .v (.one (.str))],[.one (.bool)],fun ((l,s,()):qP×lD)=>(True,dA l s,())⟩
def Aa:XA:=⟨138,[.p (.v (.one (.sl aG aW false))), .p (.v (.one (.str)))],[.one (.c (.sl dw dZ true))],fun ((d,name,()):dP×lD)=>(aA d,fun (z:gV)=>z.1.1=Sp.asking d name)⟩
def jf:XA:=⟨64,[.p (.v (.one (.sl aG aW false))), .p (.v (.one (.sl dw dZ false)))],[.one (.c (.sl dw dZ true))],fun ((d,names,()):dP×G9)=>(aA d∧d.length≤5∧names.length≤900,fun (z:gV)=>Sp.reached d names z.1.1)⟩
def jg:XA:=⟨151,[.p (.v (.one (.sl aG aW false))), .p (.v (.one (.sl dw dZ false)))],[.one (.c (.sl dw dZ true))],fun ((d,names,()):dP×G9)=>(aA d∧d.length≤5∧names.length≤900,fun (z:gV)=>Sp.reached d names z.1.1)⟩
def jG:PA:=⟨255,[.v (.agg [.int .i64, .int .i64, .int .i64, .str, .int .i64, .int .i64, .str])],[.one (.bool)],fun (((o,_,_,_,_,_,_,()),()):Nz)=>(True,(o==9),())⟩
def gq:PA:=⟨286,[.v (.one (.sl aU bP false)), .fn 255 []],[.one (.int .i64)],fun ((q,_,()):iO×nO)=>(True,Sp.findAt (fun n=>n.1==9) q,())⟩
def fO:PA:=⟨254,[.v (.one (.sl aU bP false)), .fn 255 []],[.one (.bool)],fun ((q,_,()):iO×nO)=>(True,Sp.linked q,())⟩
def Cm:PA:=⟨261,[.v (.one (.sl aU bP false))],[.one (.bool)],fun ((q,()):DX)=>(True,Sp.linked q,())⟩
def qU:XA:=⟨198,[.p (.v (.one (.sl aG aW false))), .p (.v (.agg [.int .i64, .int .i64, .bool, .int .i64, .sl aP bZ false])), .p (.v (.agg [.int .i64, .int .i64, .bool, .int .i64, .sl aP bZ false]))],[.one (.c (.sl dw dZ true))],fun ((d,f,g,()):dP×Eb×jR)=>(aA d∧cu f∧cu g∧f.2.2.2.2.1.length+g.2.2.2.2.1.length≤1000,fun (z:gV)=>Sp.touched d f g z.1.1)⟩
def qV:XA:=⟨210,[.p (.v (.one (.sl aG aW false))), .p (.v (.agg [.int .i64, .int .i64, .bool, .int .i64, .sl aP bZ false])), .p (.v (.agg [.int .i64, .int .i64, .bool, .int .i64, .sl aP bZ false]))],[.one (.c (.sl dw dZ true))],fun ((d,f,g,()):dP×Eb×jR)=>(aA d∧cu f∧cu g∧f.2.2.2.2.1.length+g.2.2.2.2.1.length≤1000,fun (z:gV)=>Sp.touched d f g z.1.1)⟩
def jH:PA:=⟨253,[.v (.one (.str)), .kp [.sl dw dZ false]],[.one (.bool)],fun ((nm,attrs,()):gI×gV)=>(True,dA attrs.1 nm,())⟩
def gQ:PA:=⟨285,[.v (.one (.sl dw dZ false)), .fn 253 [[.sl dw dZ false]]],[.one (.int .i64)],fun ((l,((attrs,()),()),()):qP×gV×Unit)=>(True,Sp.findAt (fun x=>dA attrs x.1) l,())⟩
def gu:PA:=⟨252,[.v (.one (.sl dw dZ false)), .fn 253 [[.sl dw dZ false]]],[.one (.bool)],fun ((l,((attrs,()),()),()):qP×gV×Unit)=>(True,l.any fun x=>dA attrs x.1,())⟩
def nY:XA:=⟨137,[.p (.v (.one (.sl dw dZ false)))],[.one (.own dw dZ false)],fun ((l,()):G9)=>(l.length≤1000,fun (z:gV)=>z.1.1=l)⟩
def qW:XA:=⟨194,[.p (.v (.one (.sl eX jo false)))],[.one (.own eX jo false)],fun ((l,()):kL)=>(l.length≤1000,fun (z:Ez)=>z.1.1=l)⟩
def rU:PA:=⟨265,[.v (.one (.int .i64)), .kp [.sl eX jo false]],[.one (.bool)],fun ((x,b,()):Int×Ez)=>(True,fG b.1 x,())⟩
def je:PA:=⟨300,[.v (.one (.sl eX jo false)), .fn 265 [[.sl eX jo false]]],[.one (.int .i64)],fun ((l,((b,()),()),()):dV×Ez×Unit)=>(True,Sp.findAt (fun x=>fG b x.1) l,())⟩
def iY:XA:=⟨264,[.own eX jo, .p (.fn 265 [[.sl eX jo false]])],[.one (.own eX jo false)],fun ((s,((b,()),()),()):dV×Ez×Unit)=>(s.length≤1000,fun (z:Ez)=>z.1.1=s.filter fun x=>!fG b x.1)⟩
def E5:XA:=⟨215,[.p (.v (.one (.sl eX jo false))), .p (.v (.one (.sl eX jo false)))],[.one (.own eX jo false)],fun ((a,b,()):He)=>(a.length≤1000,fun (z:Ez)=>z.1.1=Sp.without a b)⟩
def E8:XA:=⟨156,[.p (.v (.one (.sl eX jo false))), .p (.v (.one (.sl eX jo false)))],[.one (.c (.sl eX jo false)), .one (.c (.sl eX jo false))],fun ((a,b,()):He)=>(a.length≤1000∧b.length≤1000,fun (z:He×Unit)=>z.1.1=Sp.without b a∧z.1.2.1=Sp.without a b)⟩
def Fa:XA:=⟨158,[.p (.v (.one (.sl eX jo false))), .p (.v (.one (.sl eX jo false)))],[.one (.c (.sl eX jo false)), .one (.c (.sl eX jo false))],fun ((a,b,()):He)=>(a.length≤1000∧b.length≤1000,fun (z:He×Unit)=>z.1.1=Sp.without b a∧z.1.2.1=Sp.without a b)⟩
def yQ:XA:=⟨78,[.p (.v (.one (.sl aB aY false))), .p (.v (.one (.sl aB aY false)))],[.one (.c (.sl iC kP false))],fun ((a,b,()):iZ×nN)=>(bH a∧bH b,fun (z:afA)=>z.1.1=Fb a b)⟩
def yR:XA:=⟨79,[.p (.v (.one (.sl aB aY false))), .p (.v (.one (.sl aB aY false)))],[.one (.c (.sl iC kP false))],fun ((a,b,()):iZ×nN)=>(bH a∧bH b,fun (z:afA)=>z.1.1=Fb a b)⟩
def yS:XA:=⟨124,[.p (.v (.one (.sl aB aY false)))],[.one (.c (.sl aB aY false))],fun ((r,()):nN)=>(bH r,fun (z:nN×Unit)=>z.1.1=r)⟩
def jv:XA:=⟨55,[.p (.v (.agg [.sl ak aS false, .sl aF bg false, .int .i64, .sl aG aW false, .sl aB aY false]))],[.agg [.c (.sl ak aS false), .c (.sl aF bg false), .c (.int .i64), .c (.sl aG aW false), .c (.sl aB aY false)]],fun ((c,()):qY×Unit)=>(dO c,fun (z:pW)=>(z.1.1.1,z.1.1.2.1,z.1.1.2.2.1,z.1.1.2.2.2.1,z.1.1.2.2.2.2.1,())=c)⟩
def Ac:XA:=⟨143,[.p (.v (.one (.sl aB aY false)))],[.one (.c (.sl aB aY false))],fun ((r,()):nN)=>(bH r,fun (z:nN×Unit)=>z.1.1=r)⟩
def oV:XA:=⟨65,[.p (.v (.agg [.sl ak aS false, .sl aF bg false, .int .i64, .sl aG aW false, .sl aB aY false]))],[.agg [.c (.sl ak aS false), .c (.sl aF bg false), .c (.int .i64), .c (.sl aG aW false), .c (.sl aB aY false)]],fun ((c,()):qY×Unit)=>(dO c,fun (z:pW)=>(z.1.1.1,z.1.1.2.1,z.1.1.2.2.1,z.1.1.2.2.2.1,z.1.1.2.2.2.2.1,())=c)⟩
def xH:XA:=⟨129,[.p (.v (.one (.sl aG aW false))), .p (.v (.agg [.int .i64, .int .i64, .bool, .int .i64, .sl aP bZ false])), .p (.v (.agg [.int .i64, .int .i64, .bool, .int .i64, .sl aP bZ false]))],[.one (.c (.sl dw dZ true))],fun ((d,f,g,()):dP×Eb×jR)=>(aA d∧d.length≤5∧cu f∧cu g∧f.2.2.2.2.1.length+g.2.2.2.2.1.length≤1000,fun (z:gV)=>Sp.isSet z.1.1 (Vb d f g))⟩
def xI:XA:=⟨147,[.p (.v (.one (.sl aG aW false))), .p (.v (.agg [.int .i64, .int .i64, .bool, .int .i64, .sl aP bZ false])), .p (.v (.agg [.int .i64, .int .i64, .bool, .int .i64, .sl aP bZ false]))],[.one (.c (.sl dw dZ true))],fun ((d,f,g,()):dP×Eb×jR)=>(aA d∧d.length≤5∧cu f∧cu g∧f.2.2.2.2.1.length+g.2.2.2.2.1.length≤1000,fun (z:gV)=>Sp.isSet z.1.1 (Vb d f g))⟩
def lN:XA:=⟨63,[.p (.v (.agg [.sl ak aS false, .sl aF bg false, .int .i64, .sl aG aW false, .sl aB aY false])), .p (.v (.agg [.sl ak aS false, .sl aF bg false, .int .i64])), .p (.v (.one (.sl aG aW false))), .p (.v (.one (.sl dw dZ false)))],[.agg [.c (.sl ak aS false), .c (.sl aF bg false), .c (.int .i64), .c (.sl aG aW false), .c (.sl aB aY false)], .one (.c (.sl iC kP false)), .one (.c .bool)],fun ((c,s,d,names,()):qY×mM×dP×G9)=>(dO c∧bn s∧aA d,fun (z:lI)=>Sp.turned c s d (dA names) (z.1.1.1,z.1.1.2.1,z.1.1.2.2.1,z.1.1.2.2.2.1,z.1.1.2.2.2.2.1,()) z.1.2.1 z.1.2.2.1)⟩
def oW:XA:=⟨145,[.p (.v (.agg [.sl ak aS false, .sl aF bg false, .int .i64, .sl aG aW false, .sl aB aY false])), .p (.v (.agg [.sl ak aS false, .sl aF bg false, .int .i64])), .p (.v (.one (.sl aG aW false))), .p (.v (.one (.sl dw dZ false)))],[.agg [.c (.sl ak aS false), .c (.sl aF bg false), .c (.int .i64), .c (.sl aG aW false), .c (.sl aB aY false)], .one (.c (.sl iC kP false))],fun ((c,s,d,names,()):qY×mM×dP×G9)=>(dO c∧bn s∧aA d∧(ai d&&ax s)=true,fun (z:abw)=>Sp.turned c s d (dA names) (z.1.1.1,z.1.1.2.1,z.1.1.2.2.1,z.1.1.2.2.2.1,z.1.1.2.2.2.2.1,()) z.1.2.1 true)⟩
def Ad:XA:=⟨59,[.p (.v (.agg [.sl ak aS false, .sl aF bg false, .int .i64, .sl aG aW false, .sl aB aY false])), .p (.v (.agg [.int .i64, .int .i64, .bool, .int .i64, .sl aP bZ false]))],[.agg [.c (.sl ak aS false), .c (.sl aF bg false), .c (.int .i64), .c (.sl aG aW false), .c (.sl aB aY false)], .one (.c (.sl iC kP false)), .one (.c .bool)],fun ((c,f,()):qY×jR)=>(dO c∧cu f∧Zb c∧Tf f,fun (z:lI)=>Sp.updated c f (z.1.1.1,z.1.1.2.1,z.1.1.2.2.1,z.1.1.2.2.2.1,z.1.1.2.2.2.2.1,()) z.1.2.1 z.1.2.2.1)⟩
def Ae:XA:=⟨67,[.p (.v (.agg [.sl ak aS false, .sl aF bg false, .int .i64, .sl aG aW false, .sl aB aY false])), .p (.v (.agg [.int .i64, .int .i64, .bool, .int .i64, .sl aP bZ false]))],[.agg [.c (.sl ak aS false), .c (.sl aF bg false), .c (.int .i64), .c (.sl aG aW false), .c (.sl aB aY false)], .one (.c (.sl iC kP false)), .one (.c .bool)],fun ((c,f,()):qY×jR)=>(dO c∧cu f∧Zb c∧Tf f,fun (z:lI)=>Sp.updated c f (z.1.1.1,z.1.1.2.1,z.1.1.2.2.1,z.1.1.2.2.2.1,z.1.1.2.2.2.2.1,()) z.1.2.1 z.1.2.2.1)⟩
def yT:PA:=⟨153,[.v (.one (.sl eX jo false)), .v (.one (.sl eX jo false))],[.one (.bool)],fun ((a,b,()):He)=>(True,decide (a=b),())⟩
def Af:PA:=⟨110,[.v (.agg [.str, .sl eX jo false]), .v (.agg [.str, .sl eX jo false])],[.one (.bool)],fun ((a,b,()):(gI×kL)×(gI×kL)×Unit)=>(True,decide (a=b),())⟩
def yU:PA:=⟨41,[.v (.one (.sl aB aY false)), .v (.one (.sl aB aY false))],[.one (.bool)],fun ((a,b,()):iZ×nN)=>(True,decide (a=b),())⟩
def yV:PA:=⟨14,[.v (.agg [.sl ak aS false, .sl aF bg false, .int .i64, .sl aG aW false, .sl aB aY false]), .v (.agg [.sl ak aS false, .sl aF bg false, .int .i64, .sl aG aW false, .sl aB aY false])],[.one (.bool)],fun ((a,b,()):qY×qY×Unit)=>(True,decide (a=b),())⟩
def Fe:XA:=⟨82,[.ptr [.sl eP jB false, .int .i64, .int .i64]],[.agg [.c (.sl ak aS false), .c (.sl aF bg false), .c (.int .i64), .c (.sl aG aW false), .own aB aY false]],fun (((_,i,_,()),()):gY)=>(0≤i,fun (z:Td)=>0≤z.2.1.2.1∧Pn (z.1.1.1,z.1.1.2.1,z.1.1.2.2.1,z.1.1.2.2.2.1,z.1.1.2.2.2.2.1,())∧0<z.1.1.2.2.2.1.length)⟩
def uy:XA:=⟨284,[.p (.v (.agg [.int .i64, .int .i64, .bool, .int .i64, .sl aP bZ false]))],[.one (.own dw dZ true)],fun (((_,_,_,_,a,()),()):jR)=>(a.length≤1000,fun (z:gV)=>z.1.1=fU a)⟩
def uz:XA:=⟨46,[.p (.v (.agg [.int .i64, .int .i64, .bool, .int .i64, .sl aP bZ false]))],[.one (.own dw dZ true)],fun (((_,_,_,_,a,()),()):jR)=>(a.length≤1000,fun (z:gV)=>z.1.1=fU a)⟩
def Fg:XA:=⟨88,[.ptr [.sl eP jB false, .int .i64, .int .i64]],[.one (.c .str)],fun (((_,i,_,()),()):gY)=>(0≤i,fun (z:pX)=>0≤z.2.1.2.1∧z.1.1.length≤10)⟩
def IE:XA:=⟨84,[.ptr [.sl eP jB false, .int .i64, .int .i64]],[.one (.c (.int .i64))],fun (((_,i,_,()),()):gY)=>(0≤i,fun (z:fH)=>0≤z.2.1.2.1)⟩
def GX:XA:=⟨164,[.ptr [.sl eP jB false, .int .i64, .int .i64]],[.one (.c (.sl eX jo false))],fun (((_,i,_,()),()):gY)=>(0≤i,fun (z:kL×gY)=>0≤z.2.1.2.1∧z.1.1.length≤7)⟩
def GY:XA:=⟨89,[.ptr [.sl eP jB false, .int .i64, .int .i64]],[.agg [.c (.sl ak aS false), .c (.sl aF bg false), .c (.int .i64), .c (.sl aG aW false), .c (.sl aB aY false)]],fun (((_,i,_,()),()):gY)=>(0≤i,fun (z:Td)=>0≤z.2.1.2.1∧jM (z.1.1.1,z.1.1.2.1,z.1.1.2.2.1,z.1.1.2.2.2.1,z.1.1.2.2.2.2.1,()))⟩
def yX:PA:=⟨201,[.v (.agg [.str, .sl aU bP false]), .kp [.str, .sl aU bP false]],[.one (.bool)],fun (((nm,_,()),x,()):LK×LK×Unit)=>(True,Op.bytesLess x.1 nm,())⟩
def iF:PA:=⟨200,[.v (.one (.sl aG aW false)), .fn 201 [[.str, .sl aU bP false]]],[.one (.int .i64)],fun ((d,((nm,_,()),()),()):dP×(LK×Unit)×Unit)=>(True,Sp.findAt (fun o=>Op.bytesLess nm o.1) d,())⟩
def pR:List gX:=[.own aG aW, .p (.v (.one (.int .i64))), .own aG aW]
def Dp:List ru:=[.one (.own aG aW false)]
def NH:jP pR→Prop×(mX Dp×mr pR→Prop):=fun (s,i,v,())=>(0≤i∧i≤s.length∧s.length≤1000∧v.length=1,fun ((r,()),())=>r=s.take i.toNat++(v++s.drop i.toNat))
def Dq:IA:=qQ pR Dp NH
def qo:XA:=⟨123,[.p (.v (.one (.sl aG aW false)))],[.one (.own aG aW false)],fun ((d,()):jQ)=>(aA d,fun (z:FU)=>z.1.1=d)⟩
def GZ:XA:=⟨131,[.p (.v (.one (.sl aG aW false))), .p (.v (.agg [.str, .sl aU bP false]))],[.one (.c (.sl aG aW false)), .one (.c .bool)],fun ((d,x,()):dP×LK×Unit)=>(aA d∧d.length≤900∧x.2.1.length≤1000,fun (z:KY)=>z.1.1=(bY d x).1∧z.1.2.1=(bY d x).2)⟩
def G5:XA:=⟨149,[.p (.v (.one (.sl aG aW false))), .p (.v (.agg [.str, .sl aU bP false]))],[.one (.c (.sl aG aW false)), .one (.c .bool)],fun ((d,x,()):dP×LK×Unit)=>(aA d∧d.length≤900∧x.2.1.length≤1000,fun (z:KY)=>z.1.1=(bY d x).1∧z.1.2.1=(bY d x).2)⟩
def CB:XA:=⟨61,[.p (.v (.agg [.sl ak aS false, .sl aF bg false, .int .i64, .sl aG aW false, .sl aB aY false])), .p (.v (.agg [.str, .sl aU bP false]))],[.agg [.c (.sl ak aS false), .c (.sl aF bg false), .c (.int .i64), .c (.sl aG aW false), .c (.sl aB aY false)], .one (.c (.sl iC kP false)), .one (.c .bool)],fun ((c,x,()):qY×LK×Unit)=>(jM c∧x.2.1.length≤1000,fun (z:lI)=>Sp.became c (aT c) (bY (bJ c) x).1 (dF c&&((bY (bJ c) x).2&&ai (bY (bJ c) x).1)) (z.1.1.1,z.1.1.2.1,z.1.1.2.2.1,z.1.1.2.2.2.1,z.1.1.2.2.2.2.1,()) z.1.2.1 z.1.2.2.1)⟩
def CG:XA:=⟨69,[.p (.v (.agg [.sl ak aS false, .sl aF bg false, .int .i64, .sl aG aW false, .sl aB aY false])), .p (.v (.agg [.str, .sl aU bP false]))],[.agg [.c (.sl ak aS false), .c (.sl aF bg false), .c (.int .i64), .c (.sl aG aW false), .c (.sl aB aY false)], .one (.c (.sl iC kP false)), .one (.c .bool)],fun ((c,x,()):qY×LK×Unit)=>(jM c∧x.2.1.length≤1000,fun (z:lI)=>Sp.became c (aT c) (bY (bJ c) x).1 (dF c&&((bY (bJ c) x).2&&ai (bY (bJ c) x).1)) (z.1.1.1,z.1.1.2.1,z.1.1.2.2.1,z.1.1.2.2.2.1,z.1.1.2.2.2.2.1,()) z.1.2.1 z.1.2.2.1)⟩
def Ag:XA:=⟨125,[.p (.v (.agg [.sl ak aS false, .sl aF bg false, .int .i64])), .p (.v (.agg [.int .i64, .int .i64, .bool, .int .i64, .sl aP bZ false]))],[.agg [.c (.sl ak aS false), .own aF bg false, .c (.int .i64)], .one (.c (.int .i64)), .one (.c .bool)],fun ((s,f,()):mM×jR)=>(bn s∧cu f,fun (z:Wx)=>z.1.1.1=(aH s f).1.1∧z.1.1.2.1=(aH s f).1.2.1∧z.1.1.2.2.1=(aH s f).1.2.2.1∧z.1.2.1=(aH s f).2.1∧z.1.2.2.1=(aH s f).2.2)⟩
def pU:XA:=⟨199,[.own aF bg, .p (.v (.one (.int .i64))), .p (.v (.one (.int .i64)))],[.one (.own aF bg false)],fun ((s,i,j,()):gy×FT)=>(0≤i∧i≤j∧j≤s.length,fun (z:afz)=>z.1.1=s.take i.toNat++s.drop j.toNat)⟩
def Ah:XA:=⟨130,[.p (.v (.agg [.sl ak aS false, .sl aF bg false, .int .i64])), .p (.v (.one (.int .i64)))],[.agg [.c (.sl ak aS false), .own aF bg false, .c (.int .i64)], .one (.c .bool)],fun ((s,id,()):mM×gU)=>(bn s,fun (z:JH)=>z.1.1.1=(aX s id).1.1∧z.1.1.2.1=(aX s id).1.2.1∧z.1.1.2.2.1=(aX s id).1.2.2.1∧z.1.2.1=(aX s id).2)⟩
def Fh:XA:=⟨56,[.p (.v (.agg [.sl ak aS false, .sl aF bg false, .int .i64, .sl aG aW false, .sl aB aY false])), .p (.v (.agg [.int .i64, .int .i64, .bool, .int .i64, .sl aP bZ false]))],[.agg [.c (.sl ak aS false), .c (.sl aF bg false), .c (.int .i64), .c (.sl aG aW false), .c (.sl aB aY false)], .one (.c (.int .i64)), .one (.c (.sl iC kP false)), .one (.c .bool)],fun ((c,f,()):qY×jR)=>(jM c∧cu f,fun (z:afx)=>Sp.became c (aH (aT c) f).1 (bJ c) (dF c&&(aH (aT c) f).2.2) (z.1.1.1,z.1.1.2.1,z.1.1.2.2.1,z.1.1.2.2.2.1,z.1.1.2.2.2.2.1,()) z.1.2.2.1 z.1.2.2.2.1∧z.1.2.1=(bif z.1.2.2.2.1 then (aH (aT c) f).2.1 else 0))⟩
def Fj:XA:=⟨66,[.p (.v (.agg [.sl ak aS false, .sl aF bg false, .int .i64, .sl aG aW false, .sl aB aY false])), .p (.v (.agg [.int .i64, .int .i64, .bool, .int .i64, .sl aP bZ false]))],[.agg [.c (.sl ak aS false), .c (.sl aF bg false), .c (.int .i64), .c (.sl aG aW false), .c (.sl aB aY false)], .one (.c (.int .i64)), .one (.c (.sl iC kP false)), .one (.c .bool)],fun ((c,f,()):qY×jR)=>(jM c∧cu f,fun (z:afx)=>Sp.became c (aH (aT c) f).1 (bJ c) (dF c&&(aH (aT c) f).2.2) (z.1.1.1,z.1.1.2.1,z.1.1.2.2.1,z.1.1.2.2.2.1,z.1.1.2.2.2.2.1,()) z.1.2.2.1 z.1.2.2.2.1∧z.1.2.1=(bif z.1.2.2.2.1 then (aH (aT c) f).2.1 else 0))⟩
def Ai:XA:=⟨60,[.p (.v (.agg [.sl ak aS false, .sl aF bg false, .int .i64, .sl aG aW false, .sl aB aY false])), .p (.v (.one (.int .i64)))],[.agg [.c (.sl ak aS false), .c (.sl aF bg false), .c (.int .i64), .c (.sl aG aW false), .c (.sl aB aY false)], .one (.c (.sl iC kP false)), .one (.c .bool)],fun ((c,id,()):qY×gU)=>(jM c,fun (z:lI)=>Sp.became c (aX (aT c) id).1 (bJ c) (dF c&&(aX (aT c) id).2) (z.1.1.1,z.1.1.2.1,z.1.1.2.2.1,z.1.1.2.2.2.1,z.1.1.2.2.2.2.1,()) z.1.2.1 z.1.2.2.1)⟩
def Aj:XA:=⟨68,[.p (.v (.agg [.sl ak aS false, .sl aF bg false, .int .i64, .sl aG aW false, .sl aB aY false])), .p (.v (.one (.int .i64)))],[.agg [.c (.sl ak aS false), .c (.sl aF bg false), .c (.int .i64), .c (.sl aG aW false), .c (.sl aB aY false)], .one (.c (.sl iC kP false)), .one (.c .bool)],fun ((c,id,()):qY×gU)=>(jM c,fun (z:lI)=>Sp.became c (aX (aT c) id).1 (bJ c) (dF c&&(aX (aT c) id).2) (z.1.1.1,z.1.1.2.1,z.1.1.2.2.1,z.1.1.2.2.2.1,z.1.1.2.2.2.2.1,()) z.1.2.1 z.1.2.2.1)⟩
def Eg:PA:=⟨71,[.v (.agg [.str, .sl eX jo false, .sl eX jo false]), .v (.agg [.str, .sl eX jo false, .sl eX jo false])],[.one (.bool)],fun ((a,b,()):(gI×He)×(gI×He)×Unit)=>(True,decide (a=b),())⟩
def CJ:PA:=⟨25,[.v (.one (.sl iC kP false)), .v (.one (.sl iC kP false))],[.one (.bool)],fun ((a,b,()):JG×JG×Unit)=>(True,decide (a=b),())⟩
def apa:PA:=⟨178,[.v (.agg [.int .i64, .int .i64, .bool, .int .i64, .sl aP bZ false]), .v (.one (.int .i64))],[.one (.bool)],fun ((f,u,()):Eb×gU)=>(True,apb f u,())⟩
def Eh:PA:=⟨21,[.v (.agg [.int .i64, .int .i64, .bool, .int .i64, .sl aP bZ false]), .v (.one (.int .i64))],[.one (.bool)],fun ((f,u,()):Eb×gU)=>(True,kY f u,())⟩
def Ei:PA:=⟨58,[.v (.agg [.int .i64, .int .i64, .bool, .int .i64, .sl aP bZ false]), .v (.one (.int .i64))],[.one (.bool)],fun ((f,u,()):Eb×gU)=>(True,kY f u,())⟩
def xJ:PA:=⟨85,[.v (.agg [.sl ak aS false, .sl aF bg false, .int .i64]), .v (.one (.int .i64))],[.one (.sl eX jo true)],fun (((_,fs,_,()),u,()):mM×gU)=>(fs.length≤1000,wF fs u,())⟩
def Fp:XA:=⟨83,[.ptr [.sl eP jB false, .int .i64, .int .i64]],[.one (.c (.int .i64))],fun (((_,i,_,()),()):gY)=>(0≤i,fun (z:fH)=>0≤z.2.1.2.1)⟩
def uD:XA:=⟨82,[.ptr [.sl eP jB false, .int .i64, .int .i64]],[.agg [.c (.sl ak aS false), .c (.sl aF bg false), .c (.int .i64), .c (.sl aG aW false), .c (.sl aB aY false)]],fun (((_,i,_,()),()):gY)=>(0≤i,fun (z:Td)=>0≤z.2.1.2.1∧Pn (z.1.1.1,z.1.1.2.1,z.1.1.2.2.1,z.1.1.2.2.2.1,z.1.1.2.2.2.2.1,())∧0<z.1.1.2.2.2.1.length)⟩
def vO:PA:=⟨28,[.v (.agg [.int .i64, .int .i64, .int .i64, .bool, .int .i64, .sl aP bZ false, .int .i64, .str, .sl aU bP false])],[.one (.bool)],fun ((x,()):abv×Unit)=>(True,(decide (1≤x.1)&&decide (x.1≤5)),())⟩
def vP:PA:=⟨27,[.v (.agg [.int .i64, .int .i64, .int .i64, .bool, .int .i64, .sl aP bZ false, .int .i64, .str, .sl aU bP false])],[.one (.bool)],fun ((x,()):abv×Unit)=>(True,(decide (1≤x.1)&&decide (x.1≤5)),())⟩
def qp:XA:=⟨135,[.own aG aW, .p (.v (.one (.int .i64))), .p (.v (.one (.int .i64)))],[.one (.own aG aW false)],fun ((s,i,j,()):dP×FT)=>(0≤i∧i≤j∧j≤s.length,fun (z:FU)=>z.1.1=s.take i.toNat++s.drop j.toNat)⟩
def CO:XA:=⟨62,[.p (.v (.one (.sl aG aW false))), .p (.v (.one (.str)))],[.one (.c (.sl aG aW false)), .one (.c .bool)],fun ((d,name,()):dP×lD)=>(aA d,fun (z:KY)=>z.1.1=(Sp.removeDir d name).1∧z.1.2.1=(Sp.removeDir d name).2)⟩
def CP:XA:=⟨152,[.p (.v (.one (.sl aG aW false))), .p (.v (.one (.str)))],[.one (.c (.sl aG aW false)), .one (.c .bool)],fun ((d,name,()):dP×lD)=>(aA d,fun (z:KY)=>z.1.1=(Sp.removeDir d name).1∧z.1.2.1=(Sp.removeDir d name).2)⟩
def CQ:XA:=⟨70,[.p (.v (.agg [.sl ak aS false, .sl aF bg false, .int .i64, .sl aG aW false, .sl aB aY false])), .p (.v (.one (.str)))],[.agg [.c (.sl ak aS false), .c (.sl aF bg false), .c (.int .i64), .c (.sl aG aW false), .c (.sl aB aY false)], .one (.c (.sl iC kP false)), .one (.c .bool)],fun ((c,name,()):qY×lD)=>(jM c∧dF c=true,fun (z:lI)=>Sp.became c (aT c) (Sp.removeDir (bJ c) name).1 (Sp.removeDir (bJ c) name).2 (z.1.1.1,z.1.1.2.1,z.1.1.2.2.1,z.1.1.2.2.2.1,z.1.1.2.2.2.2.1,()) z.1.2.1 z.1.2.2.1)⟩
def sV:XA:=⟨23,[.p (.v (.agg [.sl ak aS false, .sl aF bg false, .int .i64, .sl aG aW false, .sl aB aY false])), .p (.v (.one (.int .i64))), .p (.v (.agg [.int .i64, .int .i64, .int .i64, .bool, .int .i64, .sl aP bZ false, .int .i64, .str, .sl aU bP false]))],[.agg [.c (.sl ak aS false), .c (.sl aF bg false), .c (.int .i64), .c (.sl aG aW false), .c (.sl aB aY false)], .one (.c (.sl iC kP false)), .one (.c .bool)],fun ((c,u,x,()):afy)=>(jM c∧yY x,fun (z:lI)=>Sp.applied c u x (z.1.1.1,z.1.1.2.1,z.1.1.2.2.1,z.1.1.2.2.2.1,z.1.1.2.2.2.2.1,()) z.1.2.1 z.1.2.2.1)⟩
def yZ:XA:=⟨24,[.p (.v (.agg [.sl ak aS false, .sl aF bg false, .int .i64, .sl aG aW false, .sl aB aY false])), .p (.v (.one (.int .i64))), .p (.v (.agg [.int .i64, .int .i64, .int .i64, .bool, .int .i64, .sl aP bZ false, .int .i64, .str, .sl aU bP false]))],[.agg [.c (.sl ak aS false), .c (.sl aF bg false), .c (.int .i64), .c (.sl aG aW false), .c (.sl aB aY false)], .one (.c (.sl iC kP false)), .one (.c .bool)],fun ((c,u,x,()):afy)=>(jM c∧yY x,fun (z:lI)=>Sp.applied c u x (z.1.1.1,z.1.1.2.1,z.1.1.2.2.1,z.1.1.2.2.2.1,z.1.1.2.2.2.2.1,()) z.1.2.1 z.1.2.2.1)⟩
def CS:XA:=⟨26,[.p (.v (.agg [.sl ak aS false, .sl aF bg false, .int .i64, .sl aG aW false, .sl aB aY false])), .p (.v (.one (.int .i64))), .p (.v (.agg [.int .i64, .int .i64, .int .i64, .bool, .int .i64, .sl aP bZ false, .int .i64, .str, .sl aU bP false]))],[.one (.c .bool)],fun ((c,u,x,()):afy)=>(jM c∧yY x,fun (z:BP)=>z.1.1=Hg c u x)⟩
def IG:XA:=⟨53,[.ptr [.sl eP jB false, .int .i64, .int .i64], .p (.v (.agg [.sl ak aS false, .sl aF bg false, .int .i64, .sl aG aW false, .sl aB aY false])), .p (.v (.one (.int .i64)))],[.agg [.c (.int .i64), .c (.int .i64), .c (.int .i64), .c .bool, .c (.int .i64), .c (.sl aP bZ false), .c (.int .i64), .c .str, .c (.sl aU bP false)]],fun (((_,i,_,()),c,_,()):BO×qY×gU)=>(0≤i∧jM c,fun (z:(abv×Unit)×gY)=>0≤z.2.1.2.1∧yY (z.1.1.1,z.1.1.2.1,z.1.1.2.2.1,z.1.1.2.2.2.1,z.1.1.2.2.2.2.1,z.1.1.2.2.2.2.2.1,z.1.1.2.2.2.2.2.2.1,z.1.1.2.2.2.2.2.2.2.1,z.1.1.2.2.2.2.2.2.2.2.1,()))⟩
def Fq:XA:=⟨52,[.ptr [.sl eP jB false, .int .i64, .int .i64]],[.agg [.c (.sl ak aS false), .c (.sl aF bg false), .c (.int .i64), .c (.sl aG aW false), .c (.sl aB aY false)], .one (.c (.int .i64))],fun (((_,i,_,()),()):gY)=>(0≤i,fun (z:(qY×gU)×gY)=>0≤z.2.1.2.1∧jM (z.1.1.1,z.1.1.2.1,z.1.1.2.2.1,z.1.1.2.2.2.1,z.1.1.2.2.2.2.1,()))⟩
def sD:XA:=⟨22,[.p (.v (.one (.sl eP jB false)))],[.agg [.c (.sl ak aS false), .c (.sl aF bg false), .c (.int .i64), .c (.sl aG aW false), .c (.sl aB aY false)], .one (.c (.int .i64)), .agg [.c (.int .i64), .c (.int .i64), .c (.int .i64), .c .bool, .c (.int .i64), .c (.sl aP bZ false), .c (.int .i64), .c .str, .c (.sl aU bP false)]],fun ((code,()):kL)=>(code.length≤1048576,fun (z:afy×Unit)=>jM (z.1.1.1,z.1.1.2.1,z.1.1.2.2.1,z.1.1.2.2.2.1,z.1.1.2.2.2.2.1,())∧yY (z.1.2.2.1.1,z.1.2.2.1.2.1,z.1.2.2.1.2.2.1,z.1.2.2.1.2.2.2.1,z.1.2.2.1.2.2.2.2.1,z.1.2.2.1.2.2.2.2.2.1,z.1.2.2.1.2.2.2.2.2.2.1,z.1.2.2.1.2.2.2.2.2.2.2.1,z.1.2.2.1.2.2.2.2.2.2.2.2.1,()))⟩
def Hl:PA:=⟨4,[.v (.one (.sl eP jB false))],[.one (.bool)],fun (_,())=>(True,true,())⟩
def Ti [sK]:lF:=LZ [(xK, .eff (Dt qi) Au),dR.e,wB.e,kQ.e]
def Qe [sK]:lF:=LZ [uZ.e,oD.e,(uF, .pure xU),AP.e,rQ.e]
def Tj [sK]:lF:=LZ [qH.e,oG.e,(xM, .pure AQ),wE.e]
end
end Go.Proofs.Tryz
