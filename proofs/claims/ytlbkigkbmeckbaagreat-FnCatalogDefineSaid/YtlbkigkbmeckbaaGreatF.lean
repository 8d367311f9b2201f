import Derived.Test.YtlbkigkbmeckbaaGreatN
import Derived.Test.YtlbkigkbmeckbaaGreatSp
namespace Go.Proofs.Tryz
open Go Go.Fw
abbrev dM:=List UInt8
abbrev yx:=dM×Unit
abbrev Ty0:=dM×Int×Int×yx
abbrev gW:=Int×Unit
abbrev iZ:=List (dM×gW)
abbrev lX:=List Ty0
abbrev Na:=Int×Int×Bool×Int×lX×Unit
abbrev gX:=List Na
abbrev ag9:=Int×Int×Int×Ty0
abbrev iP:=List ag9
abbrev vW:=iP×Unit
abbrev gI:=List (dM×vW)
abbrev dF:=List gW
abbrev jV:=dF×Unit
abbrev jC:=List (dM×jV)
abbrev ou:=jC×Unit
abbrev F8:=iZ×gX×Int×gI×ou
abbrev Am:=dF×Int×gW
abbrev iE:=Am×Unit
abbrev bM:=Bool×Unit
abbrev uM:=iZ×gX×gW
abbrev zk:=List yx
abbrev Ap:=zk×Unit
abbrev iW:=Ap×Unit
abbrev Eh:=dF×jV
abbrev Kq:=List (dM×Eh)
abbrev yA:=Unit×Unit
abbrev VX:=Unit×Am×(Int×Int×Bool×Int×yA)×lX×Unit
abbrev fE:=gW×Unit
abbrev sW:=gI×Unit
abbrev BI:=(Int×Int×yx)×Unit
abbrev gV:=gW×iE
abbrev ES:=(uM×Unit)×Unit
abbrev ET:=(jC×bM)×Unit
abbrev Gz:=(dM×vW)×Unit
abbrev QO:=(F8×Kq×bM)×Unit
abbrev qL:=Unit×gW
abbrev Kr:=(dF×bM)×Unit
abbrev BJ:=F8×Unit
abbrev qH:=yx×iE
abbrev wJ:=Na×Unit
abbrev yB:=vW×iE
abbrev abO:=(jC×Int×bM)×Unit
abbrev QS:=(uM×Unit)×iE
abbrev abP:=(zk×gW)×Unit
abbrev BZ:=jV×Unit
abbrev Dq:=bM×iE
abbrev abQ:=(F8×bM)×Unit
abbrev abR:=(gI×bM)×Unit
abbrev aha:=(Kq×Unit)×Unit
abbrev EU:=iZ×Unit
abbrev EW:=sW×iE
abbrev IA:=sW×Unit
abbrev Kt:=uM×sW
abbrev ahb:=(Int×gW)×Unit
abbrev anR:=(uM×Int×bM)×Unit
abbrev NY:=ag9×Unit
abbrev NZ:=BJ×Unit
class uN where n:Nat
abbrev sZ [uN]:Nat:=uN.n
noncomputable section
def oJ:QA:=⟨42,[.p (.v (.one (.sl eF jD false)))],[.sl eF jD false, .int .i64, .int .i64],fun ((code,()):jV)=>(code.length≤1048576,fun (z:Am)=>z.2.1=0)⟩
def tq:XA:=⟨154,[.ptr [.sl eF jD false, .int .i64, .int .i64]],[.one (.c (.int .i64))],fun (((_,i,_,()),()):iE)=>(0≤i,fun (z:gV)=>0≤z.2.1.2.1∧0≤z.1.1∧z.1.1≤255)⟩
def cO:XA:=⟨74,[.ptr [.sl eF jD false, .int .i64, .int .i64], .p (.v (.one (.int .i64)))],[.one (.c (.int .i64))],fun (((_,i,_,()),n,()):Am×gW)=>(0≤i,fun (z:gV)=>0≤z.2.1.2.1∧0≤z.1.1∧(0<n→z.1.1<n)∧(n≤0→z.1.1=0))⟩
def iM:XA:=⟨44,[.ptr [.sl eF jD false, .int .i64, .int .i64], .p (.v (.one (.int .i64)))],[.one (.c .bool)],fun (((_,i,_,()),_,()):Am×gW)=>(0≤i,fun (z:Dq)=>0≤z.2.1.2.1)⟩
def fJ:XA:=⟨47,[.ptr [.sl eF jD false, .int .i64, .int .i64], .p (.v (.one (.sl dY ig false)))],[.one (.c .str)],fun (((_,i,_,()),list,()):Am×Ap)=>(0≤i∧list≠[],fun (z:qH)=>0≤z.2.1.2.1∧(z.1.1,())∈list)⟩
def iY:XA:=⟨105,[.ptr [.sl eF jD false, .int .i64, .int .i64], .p (.v (.one (.sl dW jd false)))],[.one (.c (.int .i64))],fun (((_,i,_,()),list,()):Am×jV)=>(0≤i∧list≠[],fun (z:gV)=>0≤z.2.1.2.1∧(z.1.1,())∈list)⟩
def nD:XA:=⟨201,[],[.one (.own aF aU true)],fun (())=>(True,fun (z:EU×Unit)=>z.1.1=Sp.usual)⟩
def pO:XA:=⟨155,[.ptr [.sl eF jD false, .int .i64, .int .i64]],[.one (.c .str)],fun (((_,i,_,()),()):iE)=>(0≤i,fun (z:qH)=>0≤z.2.1.2.1∧z.1.1.length≤1)⟩
def vX:XA:=⟨177,[.ptr [.sl eF jD false, .int .i64, .int .i64]],[.one (.c (.sl aF aU true))],fun (((_,i,_,()),()):iE)=>(0≤i,fun (z:EU×iE)=>0≤z.2.1.2.1∧z.1.1.length≤6)⟩
def qM:XA:=⟨179,[.ptr [.sl eF jD false, .int .i64, .int .i64]],[.agg [.c (.int .i64), .c (.int .i64), .c .str]],fun (((_,i,_,()),()):iE)=>(0≤i,fun (z:BI×iE)=>0≤z.2.1.2.1∧z.1.1.2.2.1.length≤10)⟩
def rP:XA:=⟨107,[.ptr [.sl eF jD false, .int .i64, .int .i64]],[.agg [.c (.int .i64), .c (.int .i64), .c .str]],fun (((_,i,_,()),()):iE)=>(0≤i,fun (z:BI×iE)=>0≤z.2.1.2.1∧z.1.1.2.2.1.length≤10)⟩
def qN:PA:=⟨153,[.v (.one (.int .i64))],[.agg [.int .i64, .int .i64, .str]],fun ((n,()):gW)=>(True,(1,n,[],()),())⟩
def jG:PA:=⟨97,[.v (.one (.str))],[.agg [.int .i64, .int .i64, .str]],fun ((w,()):yx)=>(True,(2,0,w,()),())⟩
def je:PA:=⟨100,[.v (.one (.int .i64)), .v (.one (.int .i64)), .v (.one (.int .i64))],[.one (.bool)],fun ((x,a,b,()):Int×Int×gW)=>(True,(decide (a≤x)&&decide (x≤b)),())⟩
def jW:PA:=⟨217,[.v (.one (.int .i64)), .v (.one (.int .i64)), .v (.one (.int .i64))],[.one (.bool)],fun ((x,a,b,()):Int×Int×gW)=>(True,(decide (a≤x)&&decide (x≤b)),())⟩
def xg:PA:=⟨208,[.v (.one (.str)), .v (.one (.int .i64))],[.one (.bool)],fun ((s,m,()):dM×gW)=>(True,(Sp.lower s&&decide (1≤(s.length:Int))&&decide ((s.length:Int)≤m)),())⟩
def jP:PA:=⟨150,[.v (.one (.str))],[.one (.bool)],fun ((s,()):yx)=>(True,Sp.iy s,())⟩
def jQ:PA:=⟨184,[.v (.one (.str))],[.one (.bool)],fun ((s,()):yx)=>(True,Sp.iy s,())⟩
def nX:PA:=⟨246,[.v (.agg [.int .i64, .int .i64, .str])],[.one (.bool)],fun (((k,n,s,()),()):BI)=>(True,Sp.jv k n s,())⟩
def nY:PA:=⟨249,[.v (.agg [.int .i64, .int .i64, .str])],[.one (.bool)],fun (((k,n,s,()),()):BI)=>(True,Sp.jv k n s,())⟩
def jX:PA:=⟨245,[.v (.one (.str))],[.one (.bool)],fun ((s,()):yx)=>(True,Sp.jm s,())⟩
def jY:PA:=⟨248,[.v (.one (.str))],[.one (.bool)],fun ((s,()):yx)=>(True,Sp.jm s,())⟩
def xH:PA:=⟨255,[.v (.one (.sl aF aU false)), .v (.one (.str))],[.one (.int .i64)],fun ((fs,s,()):iZ×yx)=>(True,Sp.kindOf fs s,())⟩
def xI:PA:=⟨250,[.v (.one (.sl aF aU false)), .v (.one (.str))],[.one (.int .i64)],fun ((fs,s,()):iZ×yx)=>(True,Sp.kindOf fs s,())⟩
def lY:PA:=⟨226,[.v (.one (.sl aF aU false))],[.one (.bool)],fun ((fs,()):EU)=>(True,Sp.eY fs,())⟩
def lZ:PA:=⟨216,[.v (.one (.sl aF aU false))],[.one (.bool)],fun ((fs,()):EU)=>(True,Sp.eY fs,())⟩
def qO:PA:=⟨227,[.v (.one (.sl aF aU false)), .v (.one (.str)), .v (.agg [.int .i64, .int .i64, .str])],[.one (.bool)],fun ((fs,s,(k,n,w,()),()):iZ×dM×BI)=>(True,Sp.ja fs s k n w,())⟩
def qP:PA:=⟨218,[.v (.one (.sl aF aU false)), .v (.one (.str)), .v (.agg [.int .i64, .int .i64, .str])],[.one (.bool)],fun ((fs,s,(k,n,w,()),()):iZ×dM×BI)=>(True,Sp.ja fs s k n w,())⟩
def pR:PA:=⟨163,[.v (.one (.sl aF aU false)), .v (.agg [.int .i64, .int .i64, .bool, .int .i64, .sl bW eG false])],[.one (.bool)],fun ((fs,f,()):iZ×wJ)=>(True,Sp.dO fs f,())⟩
def uO:PA:=⟨158,[.v (.one (.sl aF aU false)), .v (.agg [.int .i64, .int .i64, .bool, .int .i64, .sl bW eG false])],[.one (.bool)],fun ((fs,f,()):iZ×wJ)=>(True,Sp.dO fs f,())⟩
def jq:PA:=⟨162,[.v (.agg [.sl aF aU false, .sl aP bP false, .int .i64])],[.one (.bool)],fun ((s,()):uM×Unit)=>(True,Sp.aJ s,())⟩
def sJ:PA:=⟨157,[.v (.agg [.sl aF aU false, .sl aP bP false, .int .i64])],[.one (.bool)],fun ((s,()):uM×Unit)=>(True,Sp.aJ s,())⟩
def wE:PA:=⟨136,[.v (.one (.sl aF aU false)), .v (.one (.sl aF aU false))],[.one (.bool)],fun ((a,b,()):iZ×EU)=>(True,decide (a=b),())⟩
def xJ:PA:=⟨244,[.v (.one (.sl bW eG false)), .v (.one (.sl bW eG false))],[.one (.bool)],fun ((a,b,()):lX×lX×Unit)=>(True,decide (a=b),())⟩
def yH:PA:=⟨204,[.v (.agg [.int .i64, .int .i64, .bool, .int .i64, .sl bW eG false]), .v (.agg [.int .i64, .int .i64, .bool, .int .i64, .sl bW eG false])],[.one (.bool)],fun ((a,b,()):Na×wJ)=>(True,decide (a=b),())⟩
def xK:PA:=⟨137,[.v (.one (.sl aP bP false)), .v (.one (.sl aP bP false))],[.one (.bool)],fun ((a,b,()):gX×gX×Unit)=>(True,decide (a=b),())⟩
def xM:PA:=⟨64,[.v (.agg [.sl aF aU false, .sl aP bP false, .int .i64]), .v (.agg [.sl aF aU false, .sl aP bP false, .int .i64])],[.one (.bool)],fun ((a,b,()):uM×uM×Unit)=>(True,decide (a=b),())⟩
def xk:PA:=⟨135,[.v (.agg [.int .i64, .int .i64, .bool, .int .i64, .sl bW eG false])],[.agg [.int .i64, .int .i64, .bool, .int .i64, .sl bW eG true]],fun ((f,()):wJ)=>(Sp.pU f,f,())⟩
def yI:PA:=⟨159,[.v (.agg [.int .i64, .int .i64, .bool, .int .i64, .sl bW eG false])],[.agg [.int .i64, .int .i64, .bool, .int .i64, .sl bW eG false]],fun ((f,()):wJ)=>(Sp.pU f,f,())⟩
def AZ:PA:=⟨170,[.v (.one (.int .i64))],[.one (.bool)],fun ((u,()):gW)=>(True,(decide (0≤u)&&decide (u≤2)),())⟩
def yJ:PA:=⟨161,[.v (.agg [.sl aF aU false, .sl aP bP false, .int .i64]), .v (.one (.int .i64))],[.one (.int .i64)],fun (((_,fs,_,()),id,()):uM×gW)=>(True,Sp.place fs id,())⟩
def kT:PA:=⟨132,[.v (.one (.sl aF aU false))],[.one (.sl aF aU false)],fun ((l,()):EU)=>(l.length≤1000,l,())⟩
def lC:PA:=⟨219,[.v (.one (.sl bW eG false))],[.one (.sl bW eG false)],fun ((l,()):lX×Unit)=>(l.length≤1000,l,())⟩
def pV:XA:=⟨96,[.p (.v (.agg [.int .i64, .int .i64, .bool, .int .i64, .sl bW eG false])), .p (.v (.one (.str))), .p (.v (.agg [.int .i64, .int .i64, .str]))],[.agg [.c (.int .i64), .c (.int .i64), .c .bool, .c (.int .i64), .own bW eG true]],fun (((i,o,s,l,a,()),name,(k,n,w,()),()):Na×dM×BI)=>(a.length≤1000,fun (z:wJ×Unit)=>z.1.1.1=i∧z.1.1.2.1=o∧z.1.1.2.2.1=s∧z.1.1.2.2.2.1=l∧z.1.1.2.2.2.2.1=Sp.kZ a name k n w)⟩
def l7:XA:=⟨73,[.ptr [.sl eF jD false, .int .i64, .int .i64], .p (.v (.one (.int .i64)))],[.agg [.c (.int .i64), .c (.int .i64), .c .bool, .c (.int .i64), .own bW eG true]],fun (((_,i,_,()),id,()):Am×gW)=>(0≤i,fun (z:wJ×iE)=>0≤z.2.1.2.1∧z.1.1.1=id∧0≤z.1.1.2.1∧z.1.1.2.1≤2∧0≤z.1.1.2.2.2.1∧z.1.1.2.2.2.1≤6∧Sp.jZ Sp.usual z.1.1.2.2.2.2.1=true∧z.1.1.2.2.2.2.1.length≤4)⟩
def vY:XA:=⟨75,[.ptr [.sl eF jD false, .int .i64, .int .i64]],[.agg [.c (.int .i64), .c (.int .i64), .c .bool, .c (.int .i64), .c (.sl bW eG true)]],fun (((_,i,_,()),()):iE)=>(0≤i,fun (z:wJ×iE)=>0≤z.2.1.2.1∧z.1.1.2.2.2.2.1.length≤10)⟩
def qQ:XA:=⟨200,[.p (.v (.one (.sl aF aU false)))],[.agg [.own aF aU true, .own aP bP true, .c (.int .i64)]],fun ((s,()):EU)=>(s.length≤1000,fun (z:ES)=>z.1.1.1=s∧z.1.1.2.1=[]∧z.1.1.2.2.1=1)⟩
def ku:XA:=⟨62,[.p (.v (.agg [.sl aF aU false, .sl aP bP false, .int .i64]))],[.agg [.own aF aU true, .own aP bP true, .c (.int .i64)]],fun ((s,()):uM×Unit)=>(Sp.bQ s,fun (z:ES)=>(z.1.1.1,z.1.1.2.1,z.1.1.2.2.1,())=s)⟩
def kC:XA:=⟨84,[.p (.v (.agg [.sl aF aU false, .sl aP bP false, .int .i64])), .p (.v (.agg [.int .i64, .int .i64, .bool, .int .i64, .sl bW eG false]))],[.agg [.own aF aU true, .own aP bP true, .c (.int .i64)], .one (.c (.int .i64)), .one (.c .bool)],fun ((s,f,()):uM×wJ)=>(Sp.bQ s∧Sp.pU f,fun (z:anR)=>z.1.1.1=(Sp.bZ s f).1.1∧z.1.1.2.1=(Sp.bZ s f).1.2.1∧z.1.1.2.2.1=(Sp.bZ s f).1.2.2.1∧z.1.2.1=(Sp.bZ s f).2.1∧z.1.2.2.1=(Sp.bZ s f).2.2)⟩
def mM:XA:=⟨88,[.p (.v (.agg [.sl aF aU false, .sl aP bP false, .int .i64])), .p (.v (.one (.int .i64)))],[.agg [.own aF aU true, .own aP bP true, .c (.int .i64)], .one (.c .bool)],fun ((s,id,()):uM×gW)=>(Sp.bQ s,fun (z:(uM×bM)×Unit)=>z.1.1.1=(Sp.fA s id).1.1∧z.1.1.2.1=(Sp.fA s id).1.2.1∧z.1.1.2.2.1=(Sp.fA s id).1.2.2.1∧z.1.2.1=(Sp.fA s id).2)⟩
def kU:XA:=⟨129,[.ptr [.sl eF jD false, .int .i64, .int .i64]],[.agg [.own aF aU true, .own aP bP true, .c (.int .i64)]],fun (((_,i,_,()),()):iE)=>(0≤i,fun (z:QS)=>0≤z.2.1.2.1∧z.1.1.1=Sp.usual∧Sp.aJ (z.1.1.1,z.1.1.2.1,z.1.1.2.2.1,())=true∧z.1.1.2.2.1≤z.1.1.2.1.length+2∧Sp.bQ (z.1.1.1,z.1.1.2.1,z.1.1.2.2.1,())∧0<z.1.1.2.1.length)⟩
def rQ:XA:=⟨104,[.ptr [.sl eF jD false, .int .i64, .int .i64]],[.agg [.c (.sl aF aU false), .c (.sl aP bP false), .c (.int .i64)]],fun (((_,i,_,()),()):iE)=>(0≤i,fun (z:QS)=>0≤z.2.1.2.1∧Sp.bQ (z.1.1.1,z.1.1.2.1,z.1.1.2.2.1,())∧∀ f∈z.1.1.2.1,f.2.2.2.2.1.length≤500)⟩
def EX:PA:=⟨6,[.v (.one (.sl eF jD false))],[.one (.bool)],fun ((code,()):jV)=>(True,decide (1048576<(code.length:Int)),())⟩
def oU:XA:=⟨133,[.p (.v (.one (.sl aP bP false)))],[.one (.own aP bP false)],fun ((l,()):gX×Unit)=>(l.length≤1000∧∀ f∈l,Sp.pU f,fun (z:(gX×Unit)×Unit)=>z.1.1=l)⟩
def jR:XA:=⟨59,[.p (.v (.agg [.sl aF aU false, .sl aP bP false, .int .i64]))],[.agg [.c (.sl aF aU false), .own aP bP false, .c (.int .i64)]],fun ((s,()):uM×Unit)=>(Sp.bQ s,fun (z:ES)=>(z.1.1.1,z.1.1.2.1,z.1.1.2.2.1,())=s)⟩
def mO:XA:=⟨178,[.ptr [.sl eF jD false, .int .i64, .int .i64]],[.one (.c .str)],fun (((_,i,_,()),()):iE)=>(0≤i,fun (z:qH)=>0≤z.2.1.2.1∧z.1.1.length≤10)⟩
def pW:XA:=⟨106,[.ptr [.sl eF jD false, .int .i64, .int .i64]],[.agg [.c (.int .i64), .c (.int .i64), .c (.int .i64), .c .str, .c (.int .i64), .c (.int .i64), .c .str]],fun (((_,i,_,()),()):iE)=>(0≤i,fun (z:NY×iE)=>0≤z.2.1.2.1∧True)⟩
def EY:List gm:=[.ptr [.sl eF jD false, .int .i64, .int .i64], .own aS bH, .p (.v (.one (.int .i64))), .p (.v (.one (.bool)))]
def Ku:List sK:=[.one (.own aS bH false)]
def OW:jr EY→Prop×(nG Ku×l9 EY→Prop):=fun ((_,i,_,()),q,deep,_,())=>(0≤i∧0≤deep∧deep≤4∧q.length+2*deep.toNat≤900,fun ((r,()),((_,i',_,()),()))=>0≤i'∧q.length<r.length∧r.length≤q.length+2*deep.toNat+1)
def abS:EZ:=sF EY Ku OW
def wK:List gm:=[.ptr [.sl eF jD false, .int .i64, .int .i64], .own aS bH, .p (.v (.one (.int .i64))), .p (.v (.one (.bool)))]
def Eu:List sK:=[.one (.own aS bH false)]
def F9 [uN]:jr wK→Prop×(nG Eu×l9 wK→Prop):=fun ((_,i,_,()),q,deep,_,())=>((0≤i∧0≤deep∧deep≤4∧q.length+2*deep.toNat≤900)∧deep.toNat<sZ,fun ((r,()),((_,i',_,()),()))=>0≤i'∧q.length<r.length∧r.length≤q.length+2*deep.toNat+1)
def Ew [uN]:EZ:=sF wK Eu F9
def vN:List gm:=[.ptr [.sl eF jD false, .int .i64, .int .i64], .own aS bH, .p (.v (.one (.int .i64))), .p (.v (.one (.bool)))]
def DC:List sK:=[.one (.own aS bH false)]
def wL [uN]:jr vN→Prop×(nG DC×l9 vN→Prop):=fun ((_,i,_,()),q,deep,_,())=>((0≤i∧0≤deep∧deep≤4∧q.length+2*deep.toNat≤900)∧deep.toNat<sZ+1,fun ((r,()),((_,i',_,()),()))=>0≤i'∧q.length<r.length∧r.length≤q.length+2*deep.toNat+1)
def DF [uN]:EZ:=sF vN DC wL
def qR:List gm:=[.ptr [.sl eF jD false, .int .i64, .int .i64], .p (.v (.one .nil)), .p (.v (.one (.int .i64))), .p (.v (.one (.bool)))]
def Ey:List sK:=[.one (.own aS bH false)]
def Gf:jr qR→Prop×(nG Ey×l9 qR→Prop):=fun ((_,i,_,()),(),deep,_,())=>(0≤i∧0≤deep∧deep≤4,fun ((r,()),((_,i',_,()),()))=>0≤i'∧0<r.length∧r.length≤0+2*deep.toNat+1)
def zA:EZ:=sF qR Ey Gf
def jH:XA:=⟨48,[.ptr [.sl eF jD false, .int .i64, .int .i64]],[.one (.own aS bH false)],fun (((_,i,_,()),()):iE)=>(0≤i,fun (z:yB)=>0≤z.2.1.2.1∧0<z.1.1.length∧z.1.1.length≤9)⟩
def gJ:XA:=⟨48,[.ptr [.sl eF jD false, .int .i64, .int .i64]],[.one (.c (.sl aS bH false))],fun (((_,i,_,()),()):iE)=>(0≤i,fun (z:yB)=>0≤z.2.1.2.1∧0<z.1.1.length∧z.1.1.length≤9)⟩
def rU:XA:=⟨46,[.ptr [.sl eF jD false, .int .i64, .int .i64]],[.one (.c (.sl aS bH false))],fun (((_,i,_,()),()):iE)=>(0≤i,fun (z:yB)=>0≤z.2.1.2.1∧z.1.1.length≤10)⟩
def pX:XA:=⟨176,[.ptr [.sl eF jD false, .int .i64, .int .i64]],[.one (.own aN aW false)],fun (((_,i,_,()),()):iE)=>(0≤i,fun (z:EW)=>0≤z.2.1.2.1∧0<z.1.1.length∧z.1.1.length≤4∧Sp.aB z.1.1)⟩
def rV:XA:=⟨103,[.ptr [.sl eF jD false, .int .i64, .int .i64]],[.one (.c (.sl aN aW false))],fun (((_,i,_,()),()):iE)=>(0≤i,fun (z:EW)=>0≤z.2.1.2.1∧z.1.1.length≤10∧Sp.aB z.1.1)⟩
def pY:XA:=⟨130,[.ptr [.sl eF jD false, .int .i64, .int .i64]],[.one (.c (.sl aN aW false))],fun (((_,i,_,()),()):iE)=>(0≤i,fun (z:EW)=>0≤z.2.1.2.1∧z.1.1.length≤10∧Sp.aB z.1.1∧Sp.ax z.1.1=true∧0<z.1.1.length)⟩
def uP:PA:=⟨209,[.v (.agg [.int .i64, .int .i64, .int .i64, .str, .int .i64, .int .i64, .str]), .v (.one (.int .i64))],[.one (.bool)],fun (((o,l,r,nm,vk,vi,vs,()),at',()):ag9×gW)=>(True,Sp.jI (o,l,r,nm,vk,vi,vs,()) at',())⟩
def uQ:PA:=⟨234,[.v (.agg [.int .i64, .int .i64, .int .i64, .str, .int .i64, .int .i64, .str]), .v (.one (.int .i64))],[.one (.bool)],fun (((o,l,r,nm,vk,vi,vs,()),at',()):ag9×gW)=>(True,Sp.jI (o,l,r,nm,vk,vi,vs,()) at',())⟩
def oz:PA:=⟨210,[.v (.one (.sl aS bH false)), .v (.one (.int .i64))],[.one (.int .i64)],fun ((q,at',()):iP×gW)=>(q.length≤1000000,(Sp.nH q at':Int),())⟩
def oC:PA:=⟨235,[.v (.one (.sl aS bH false)), .v (.one (.int .i64))],[.one (.int .i64)],fun ((q,at',()):iP×gW)=>(q.length≤1000000,(Sp.nH q at':Int),())⟩
def kG:PA:=⟨151,[.v (.one (.sl aS bH false))],[.one (.bool)],fun ((q,()):vW)=>(q.length≤1000000,Sp.bF q,())⟩
def kH:PA:=⟨185,[.v (.one (.sl aS bH false))],[.one (.bool)],fun ((q,()):vW)=>(q.length≤1000000,Sp.bF q,())⟩
def qc:PA:=⟨71,[.v (.one (.sl aN aW false))],[.one (.bool)],fun ((d,()):sW)=>(Sp.aB d,Sp.bJ d,())⟩
def qf:PA:=⟨114,[.v (.one (.sl aN aW false))],[.one (.bool)],fun ((d,()):sW)=>(Sp.aB d,Sp.bJ d,())⟩
def vO:PA:=⟨238,[.v (.agg [.int .i64, .int .i64, .int .i64, .str, .int .i64, .int .i64, .str])],[.one (.bool)],fun (((o,_,_,_,_,_,_,()),()):NY)=>(True,(o==8||o==9),())⟩
def sN:PA:=⟨276,[.v (.one (.sl aS bH false))],[.one (.sl aea R_4 true)],fun ((q,()):vW)=>(q.length≤1000,Sp.negated q,())⟩
def sO:PA:=⟨259,[.v (.one (.sl aS bH false))],[.one (.sl aea R_4 true)],fun ((q,()):vW)=>(q.length≤1000,Sp.negated q,())⟩
def jJ:List gm:=[.p (.v (.one (.sl dY ig false)))]
def BK:List sK:=[.one (.c (.sl dY ig true))]
def I5:jr jJ→Prop×(nG BK×l9 jJ→Prop):=fun (l,())=>(l.length≤1000,fun ((r,()),())=>r.length≤l.length∧∀ s,s∈r↔s∈l)
def nZ:EZ:=sF jJ BK I5
def lD:XA:=⟨236,[.p (.v (.one (.sl aS bH false))), .p (.v (.one (.bool)))],[.one (.c (.sl dY ig true))],fun ((q,neg,()):iP×bM)=>(q.length≤1000,fun (z:iW)=>Sp.fB z.1.1 (Sp.dZ q neg))⟩
def kJ:XA:=⟨187,[.p (.v (.one (.sl aS bH false)))],[.one (.c (.sl dY ig true))],fun ((q,()):vW)=>(q.length≤1000,fun (z:iW)=>Sp.fB z.1.1 (Sp.dZ q false))⟩
def kK:XA:=⟨188,[.p (.v (.one (.sl aS bH false)))],[.one (.c (.sl dY ig true))],fun ((q,()):vW)=>(q.length≤1000,fun (z:iW)=>Sp.fB z.1.1 (Sp.dZ q true))⟩
def rW:PA:=⟨126,[.v (.one (.sl dY ig false)), .v (.one (.str))],[.one (.sl dY ig false)],fun ((l,s,()):zk×yx)=>(l.length≤1000,Sp.Aq l s,())⟩
def nI:XA:=⟨247,[.p (.v (.one (.sl aS bH false))), .p (.v (.one (.bool)))],[.one (.c (.sl dY ig true))],fun ((q,neg,()):iP×bM)=>(q.length≤1000,fun (z:iW)=>Sp.fB z.1.1 (Sp.dZ q neg))⟩
def kL:XA:=⟨211,[.p (.v (.one (.sl aS bH false)))],[.one (.c (.sl dY ig true))],fun ((q,()):vW)=>(q.length≤1000,fun (z:iW)=>Sp.fB z.1.1 (Sp.dZ q false))⟩
def kM:XA:=⟨213,[.p (.v (.one (.sl aS bH false)))],[.one (.c (.sl dY ig true))],fun ((q,()):vW)=>(q.length≤1000,fun (z:iW)=>Sp.fB z.1.1 (Sp.dZ q true))⟩
def xq:PA:=⟨180,[.v (.agg [.str, .sl aS bH false]), .kp [.str]],[.one (.bool)],fun (((nm,_,()),name,()):(dM×vW)×yx×Unit)=>(True,(nm==name.1),())⟩
def fU:PA:=⟨111,[.v (.one (.sl aN aW false)), .fn 180 [[.str]]],[.one (.int .i64)],fun ((d,((name,()),()),()):gI×(yx×Unit)×Unit)=>(True,Sp.aQ d name,())⟩
def zB:PA:=⟨109,[.v (.one (.sl aN aW false)), .v (.one (.str))],[.one (.int .i64)],fun ((d,name,()):gI×yx)=>(True,Sp.aQ d name,())⟩
def yK:PA:=⟨212,[.v (.one (.sl aN aW false)), .v (.one (.str))],[.one (.int .i64)],fun ((d,name,()):gI×yx)=>(True,Sp.aQ d name,())⟩
def uS:PA:=⟨186,[.v (.one (.sl aN aW false)), .v (.one (.sl dW jd false)), .v (.one (.sl dY ig false)), .v (.one (.int .i64))],[.one (.int .i64)],fun ((d,aC,names,more,()):gI×dF×zk×gW)=>(d.length≤aC.length∧names.length≤1000∧0≤more∧more≤1∧∀ x∈aC,0≤x.1∧x.1≤1000000,Sp.yL d aC more names,())⟩
def oK:XA:=⟨115,[.p (.v (.one (.sl aN aW false)))],[.one (.c (.sl dW jd true)), .one (.c .bool)],fun ((d,()):sW)=>(Sp.aB d,fun (z:Kr)=>z.1.2.1=Sp.ax d∧(z.1.2.1=true→Sp.jE d z.1.1))⟩
def sQ:PA:=⟨50,[.v (.one (.sl aN aW false))],[.one (.bool)],fun ((d,()):sW)=>(Sp.aB d,Sp.ax d,())⟩
def kV:XA:=⟨152,[.p (.v (.one (.sl aN aW false))), .p (.v (.one (.sl dW jd false)))],[.one (.own dW jd true)],fun ((d,aC,()):gI×jV)=>(Sp.aB d∧d.length≤5∧aC.length=d.length∧∀ x∈aC,0≤x.1∧x.1≤1000000,fun (z:BZ)=>Sp.raised d aC z.1.1)⟩
def qg:PA:=⟨149,[.v (.one (.sl dW jd false)), .v (.one (.sl dW jd false))],[.one (.bool)],fun ((a,b,()):Eh)=>(True,decide (a=b),())⟩
def lT:XA:=⟨72,[.p (.v (.one (.sl aN aW false)))],[.one (.c (.sl dW jd true)), .one (.c .bool)],fun ((d,()):sW)=>(Sp.aB d,fun (z:Kr)=>z.1.2.1=Sp.ax d∧(z.1.2.1=true→Sp.jE d z.1.1)∧(z.1.2.1=false→z.1.1=[]))⟩
def kN:PA:=⟨20,[.v (.one (.sl aN aW false))],[.one (.bool)],fun ((d,()):sW)=>(Sp.aB d,Sp.ax d,())⟩
def lF:PA:=⟨181,[.v (.one (.sl aS bH false))],[.one (.sl aS bH false)],fun ((l,()):vW)=>(l.length≤1000,l,())⟩
def tu:PA:=⟨110,[.v (.agg [.str, .sl aS bH false])],[.agg [.str, .sl aS bH false]],fun (((n,q,()),()):Gz)=>(q.length≤1000,(n,q,()),())⟩
def qU:PA:=⟨60,[.v (.one (.sl aN aW false))],[.one (.sl aN aW false)],fun ((d,()):sW)=>(Sp.aB d,d,())⟩
def tC:PA:=⟨63,[.v (.one (.sl aN aW false))],[.one (.sl aN aW true)],fun ((d,()):sW)=>(Sp.aB d,d,())⟩
def xO:PA:=⟨205,[.v (.one (.sl aS bH false)), .v (.one (.sl aS bH false))],[.one (.bool)],fun ((a,b,()):iP×vW)=>(True,decide (a=b),())⟩
def zC:PA:=⟨138,[.v (.agg [.str, .sl aS bH false]), .v (.agg [.str, .sl aS bH false])],[.one (.bool)],fun ((a,b,()):(dM×vW)×Gz)=>(True,decide (a=b),())⟩
def yM:PA:=⟨65,[.v (.one (.sl aN aW false)), .v (.one (.sl aN aW false))],[.one (.bool)],fun ((a,b,()):gI×sW)=>(True,decide (a=b),())⟩
def rE:PA:=⟨142,[.v (.agg [.int .i64, .int .i64, .bool, .int .i64, .sl bW eG false]), .v (.agg [.int .i64, .int .i64, .bool, .int .i64, .sl bW eG false])],[.one (.bool)],fun ((a,b,()):Na×wJ)=>(True,decide (a=b),())⟩
def lG:PA:=⟨206,[.v (.one (.sl bW eG false)), .v (.one (.sl bW eG false))],[.one (.bool)],fun ((a,b,()):lX×lX×Unit)=>(True,decide (a=b),())⟩
def kW:PA:=⟨140,[.v (.one (.sl aF aU false)), .v (.one (.sl aF aU false))],[.one (.bool)],fun ((a,b,()):iZ×EU)=>(True,decide (a=b),())⟩
def dJ:PA:=⟨141,[.v (.one (.sl aP bP false)), .v (.one (.sl aP bP false)), .fn 142 []],[.one (.bool)],fun ((a,b,_,()):gX×gX×yA)=>(True,decide (a=b),())⟩
def uT:PA:=⟨67,[.v (.agg [.sl aF aU false, .sl aP bP false, .int .i64]), .v (.agg [.sl aF aU false, .sl aP bP false, .int .i64])],[.one (.bool)],fun ((a,b,()):uM×uM×Unit)=>(True,decide (a=b),())⟩
def lH:PA:=⟨207,[.v (.one (.sl aS bH false)), .v (.one (.sl aS bH false))],[.one (.bool)],fun ((a,b,()):iP×vW)=>(True,decide (a=b),())⟩
def sS:PA:=⟨145,[.v (.one (.sl aS bH false)), .v (.one (.sl aS bH false))],[.one (.bool)],fun ((a,b,()):iP×vW)=>(True,decide (a=b),())⟩
def qh:PA:=⟨144,[.v (.agg [.str, .sl aS bH false]), .v (.agg [.str, .sl aS bH false])],[.one (.bool)],fun ((a,b,()):(dM×vW)×Gz)=>(True,decide (a=b),())⟩
def dL:PA:=⟨143,[.v (.one (.sl aN aW false)), .v (.one (.sl aN aW false)), .fn 144 []],[.one (.bool)],fun ((a,b,_,()):gI×gI×yA)=>(True,decide (a=b),())⟩
def xP:PA:=⟨68,[.v (.one (.sl aN aW false)), .v (.one (.sl aN aW false))],[.one (.bool)],fun ((a,b,()):gI×sW)=>(True,decide (a=b),())⟩
def xu:PA:=⟨252,[.v (.agg [.int .i64, .int .i64, .bool, .int .i64, .sl bW eG false]), .v (.one (.str))],[.agg [.int .i64, .int .i64, .str]],fun (((_,_,_,_,a,()),name,()):Na×yx)=>(True,Sp.gu a name,())⟩
def zD:PA:=⟨99,[.v (.agg [.int .i64, .int .i64, .bool, .int .i64, .sl bW eG false]), .v (.one (.str))],[.agg [.int .i64, .int .i64, .str]],fun (((_,_,_,_,a,()),name,()):Na×yx)=>(True,Sp.gu a name,())⟩
def zF:PA:=⟨286,[.v (.agg [.int .i64, .int .i64, .bool, .int .i64, .sl bW eG false]), .v (.one (.str))],[.one (.int .i64), .one (.bool)],fun (((_,_,_,_,a,()),name,()):Na×yx)=>(True,(bif (Sp.gu a name).1==1 then (Sp.gu a name).2.1 else 0),((Sp.gu a name).1==1),())⟩
def uU:PA:=⟨279,[.v (.one (.sl dW jd false)), .v (.one (.int .i64))],[.one (.int .i64)],fun ((s,v,()):dF×gW)=>(True,Sp.findAt (fun x=>x.1==v) s,())⟩
def lg:PA:=⟨262,[.v (.one (.sl dW jd false)), .v (.one (.int .i64))],[.one (.bool)],fun ((s,v,()):dF×gW)=>(True,Sp.eH s v,())⟩
def qi:PA:=⟨193,[.v (.one (.sl dY ig false)), .v (.one (.str))],[.one (.int .i64)],fun ((s,v,()):zk×yx)=>(True,Sp.findAt (fun x=>x.1==v) s,())⟩
def iQ:PA:=⟨121,[.v (.one (.sl dY ig false)), .v (.one (.str))],[.one (.bool)],fun ((s,v,()):zk×yx)=>(True,Sp.eP s v,())⟩
def wF:PA:=⟨287,[.v (.one (.sl dW jd false)), .v (.one (.int .i64))],[.one (.bool)],fun ((s,v,()):dF×gW)=>(True,Sp.eH s v,())⟩
def rF:PA:=⟨166,[.v (.one (.sl dW jd false)), .v (.one (.int .i64))],[.one (.bool)],fun ((s,v,()):dF×gW)=>(True,Sp.eH s v,())⟩
def qj:PA:=⟨189,[.v (.one (.sl dW jd false))],[.one (.sl dW jd false)],fun ((l,()):jV)=>(l.length≤1000,l,())⟩
def oV:PA:=⟨191,[.v (.one (.sl aI bf false)), .v (.one (.str))],[.one (.sl dW jd false)],fun ((r,name,()):jC×yx)=>(Sp.bg r,Sp.eU r name,())⟩
def oW:PA:=⟨196,[.v (.one (.sl aI bf false)), .v (.one (.str))],[.one (.sl dW jd true)],fun ((r,name,()):jC×yx)=>(Sp.bg r,Sp.eU r name,())⟩
def I7:List iR:=[.v (.one (.sl aS bH false)), .v (.one (.int .i64)), .v (.agg [.int .i64, .int .i64, .bool, .int .i64, .sl bW eG false]), .v (.one (.sl aI bf false))]
def Hy:List uV:=[.one (.bool)]
def abT:nJ I7→Prop×yj Hy:=fun (q,at',(i,o,s,l,a,()),r,())=>(Sp.bF q=true∧0≤at'∧at'<q.length∧Sp.bg r,Sp.val q (i,o,s,l,a,()) (Sp.aY r) at'.toNat,())
def Hz:Ud:=Dt I7 Hy abT
def DI:List iR:=[.v (.one (.sl aS bH false)), .v (.one (.int .i64)), .v (.agg [.int .i64, .int .i64, .bool, .int .i64, .sl bW eG false]), .v (.one (.sl aI bf false))]
def Dk:List uV:=[.one (.bool)]
def Ez [uN]:nJ DI→Prop×yj Dk:=fun (q,at',(i,o,s,l,a,()),r,())=>((Sp.bF q=true∧0≤at'∧at'<q.length∧Sp.bg r)∧at'.toNat<sZ,Sp.val q (i,o,s,l,a,()) (Sp.aY r) at'.toNat,())
def Dl [uN]:Ud:=Dt DI Dk Ez
def yC:List iR:=[.v (.one (.sl aS bH false)), .v (.one (.int .i64)), .v (.agg [.int .i64, .int .i64, .bool, .int .i64, .sl bW eG false]), .v (.one (.sl aI bf false))]
def Cb:List uV:=[.one (.bool)]
def DJ [uN]:nJ yC→Prop×yj Cb:=fun (q,at',(i,o,s,l,a,()),r,())=>((Sp.bF q=true∧0≤at'∧at'<q.length∧Sp.bg r)∧at'.toNat<sZ+1,Sp.val q (i,o,s,l,a,()) (Sp.aY r) at'.toNat,())
def Cc [uN]:Ud:=Dt yC Cb DJ
def Nb:List iR:=[.v (.one (.sl aS bH false)), .v (.one (.int .i64)), .v (.agg [.int .i64, .int .i64, .bool, .int .i64, .sl bW eG false]), .v (.one (.sl aI bf false))]
def Kv:List uV:=[.one (.bool)]
def ahc:nJ Nb→Prop×yj Kv:=fun (q,at',(i,o,s,l,a,()),r,())=>(Sp.bF q=true∧0≤at'∧at'<q.length∧Sp.bg r,Sp.val q (i,o,s,l,a,()) (Sp.aY r) at'.toNat,())
def Kw:Ud:=Dt Nb Kv ahc
def E5:List iR:=[.v (.one (.sl aS bH false)), .v (.one (.int .i64)), .v (.agg [.int .i64, .int .i64, .bool, .int .i64, .sl bW eG false]), .v (.one (.sl aI bf false))]
def EC:List uV:=[.one (.bool)]
def Gg [uN]:nJ E5→Prop×yj EC:=fun (q,at',(i,o,s,l,a,()),r,())=>((Sp.bF q=true∧0≤at'∧at'<q.length∧Sp.bg r)∧at'.toNat<sZ,Sp.val q (i,o,s,l,a,()) (Sp.aY r) at'.toNat,())
def ED [uN]:Ud:=Dt E5 EC Gg
def zG:List iR:=[.v (.one (.sl aS bH false)), .v (.one (.int .i64)), .v (.agg [.int .i64, .int .i64, .bool, .int .i64, .sl bW eG false]), .v (.one (.sl aI bf false))]
def DK:List uV:=[.one (.bool)]
def E8 [uN]:nJ zG→Prop×yj DK:=fun (q,at',(i,o,s,l,a,()),r,())=>((Sp.bF q=true∧0≤at'∧at'<q.length∧Sp.bg r)∧at'.toNat<sZ+1,Sp.val q (i,o,s,l,a,()) (Sp.aY r) at'.toNat,())
def DL [uN]:Ud:=Dt zG DK E8
def zH:PA:=⟨243,[.v (.one (.sl aS bH false)), .v (.agg [.int .i64, .int .i64, .bool, .int .i64, .sl bW eG false]), .v (.one (.sl aI bf false))],[.one (.bool)],fun ((q,f,r,()):iP×Na×ou)=>(q.length≤1000∧Sp.bg r,Sp.mP q f (Sp.aY r),())⟩
def zI:PA:=⟨241,[.v (.one (.sl aS bH false)), .v (.agg [.int .i64, .int .i64, .bool, .int .i64, .sl bW eG false]), .v (.one (.sl aI bf false))],[.one (.bool)],fun ((q,f,r,()):iP×Na×ou)=>(q.length≤1000∧Sp.bg r,Sp.mP q f (Sp.aY r),())⟩
def uX:PA:=⟨203,[.v (.agg [.sl aF aU false, .sl aP bP false, .int .i64]), .v (.one (.sl aS bH false)), .v (.one (.sl aI bf false))],[.one (.sl dW jd true)],fun ((s,q,r,()):uM×iP×ou)=>(Sp.bQ s∧q.length≤1000∧Sp.bg r,Sp.sel s.2.1 q (Sp.aY r),())⟩
def ql:PA:=⟨198,[.v (.agg [.sl aF aU false, .sl aP bP false, .int .i64]), .v (.one (.sl aS bH false)), .v (.one (.sl aI bf false))],[.one (.sl dW jd true)],fun ((s,q,r,()):uM×iP×ou)=>(Sp.bQ s∧q.length≤1000∧Sp.bg r,Sp.sel s.2.1 q (Sp.aY r),())⟩
def qm:PA:=⟨148,[.v (.one (.sl dW jd false)), .v (.one (.sl dW jd false))],[.one (.bool)],fun ((a,b,()):Eh)=>(True,decide (a=b),())⟩
def lq:PA:=⟨147,[.v (.agg [.str, .sl dW jd false]), .v (.agg [.str, .sl dW jd false])],[.one (.bool)],fun ((a,b,()):(dM×jV)×(dM×jV)×Unit)=>(True,decide (a=b),())⟩
def cu:PA:=⟨146,[.v (.one (.sl aI bf false)), .v (.one (.sl aI bf false)), .fn 147 []],[.one (.bool)],fun ((a,b,_,()):jC×jC×yA)=>(True,decide (a=b),())⟩
def oh:PA:=⟨69,[.v (.one (.sl aI bf false)), .v (.one (.sl aI bf false))],[.one (.bool)],fun ((a,b,()):jC×ou)=>(True,decide (a=b),())⟩
def sU:PA:=⟨70,[.v (.one (.sl aI bf false)), .v (.one (.sl aI bf false))],[.one (.bool)],fun ((a,b,()):jC×ou)=>(True,decide (a=b),())⟩
def oZ:XA:=⟨242,[.p (.v (.one (.sl dW jd false)))],[.one (.c (.int .i64))],fun ((l,()):jV)=>(0<l.length,fun (z:fE)=>(∀ x∈l,x.1≤z.1.1)∧(z.1.1,())∈l)⟩
def mQ:XA:=⟨202,[.p (.v (.one (.sl aN aW false)))],[.one (.c (.int .i64))],fun ((d,()):sW)=>(Sp.aB d,fun (z:fE)=>Sp.VY d z.1.1)⟩
def kD:XA:=⟨197,[.p (.v (.one (.sl aN aW false)))],[.one (.c (.int .i64))],fun ((d,()):sW)=>(Sp.aB d,fun (z:fE)=>Sp.VY d z.1.1)⟩
def yN:PA:=⟨83,[.v (.one (.sl aN aW false))],[.one (.sl dY ig true)],fun ((d,()):sW)=>(d.length≤1000,Sp.kP d,())⟩
def lI:XA:=⟨131,[.p (.v (.agg [.sl aF aU false, .sl aP bP false, .int .i64])), .p (.v (.one (.sl aN aW false))), .p (.v (.one (.sl aI bf false))), .p (.v (.one (.sl dY ig false)))],[.one (.c (.sl aI bf false)), .one (.c (.int .i64)), .one (.c .bool)],fun ((s,d,r,names,()):uM×gI×jC×Ap)=>(Sp.bQ s∧Sp.aB d∧Sp.bg r,fun (z:abO)=>z.1.2.2.1=(Sp.ax d&&Sp.aJ s)∧(z.1.2.2.1=true→Sp.fH s.2.1 d r (Sp.eP names) z.1.1))⟩
def nK:XA:=⟨58,[.p (.v (.agg [.sl aF aU false, .sl aP bP false, .int .i64])), .p (.v (.one (.sl aN aW false)))],[.one (.c (.sl aI bf false)), .one (.c .bool)],fun ((s,d,()):Kt)=>(Sp.bQ s∧Sp.aB d,fun (z:ET)=>z.1.2.1=(Sp.ax d&&Sp.aJ s)∧(z.1.2.1=true→Sp.fH s.2.1 d [] (fun _=>true) z.1.1))⟩
def mV:XA:=⟨117,[.p (.v (.agg [.sl aF aU false, .sl aP bP false, .int .i64])), .p (.v (.one (.sl aN aW false))), .p (.v (.one (.sl aI bf false))), .p (.v (.one (.sl dY ig false)))],[.one (.c (.sl aI bf false)), .one (.c .bool)],fun ((s,d,r,names,()):uM×gI×jC×Ap)=>(Sp.bQ s∧Sp.aB d∧Sp.bg r,fun (z:ET)=>z.1.2.1=(Sp.ax d&&Sp.aJ s)∧(z.1.2.1=true→Sp.fH s.2.1 d r (Sp.eP names) z.1.1))⟩
def vZ:XA:=⟨134,[.p (.v (.agg [.sl aF aU false, .sl aP bP false, .int .i64])), .p (.v (.one (.sl aN aW false)))],[.one (.own aI bf false), .one (.c (.int .i64)), .one (.c .bool)],fun ((s,d,()):Kt)=>(Sp.bQ s∧Sp.aB d,fun (z:abO)=>z.1.2.2.1=(Sp.ax d&&Sp.aJ s)∧(z.1.2.2.1=true→Sp.fH s.2.1 d [] (fun _=>true) z.1.1))⟩
def nM:XA:=⟨61,[.p (.v (.agg [.sl aF aU false, .sl aP bP false, .int .i64])), .p (.v (.one (.sl aN aW false)))],[.one (.own aI bf false), .one (.c .bool)],fun ((s,d,()):Kt)=>(Sp.bQ s∧Sp.aB d,fun (z:ET)=>z.1.2.1=(Sp.ax d&&Sp.aJ s)∧(z.1.2.1=true→Sp.fH s.2.1 d [] (fun _=>true) z.1.1))⟩
def mW:XA:=⟨124,[.p (.v (.agg [.sl aF aU false, .sl aP bP false, .int .i64])), .p (.v (.one (.sl aN aW false))), .p (.v (.one (.sl aI bf false))), .p (.v (.one (.sl dY ig false)))],[.one (.c (.sl aI bf false)), .one (.c .bool)],fun ((s,d,r,names,()):uM×gI×jC×Ap)=>(Sp.bQ s∧Sp.aB d∧Sp.bg r,fun (z:ET)=>z.1.2.1=(Sp.ax d&&Sp.aJ s)∧(z.1.2.1=true→Sp.fH s.2.1 d r (Sp.eP names) z.1.1))⟩
def kE:XA:=⟨12,[.p (.v (.agg [.sl aF aU false, .sl aP bP false, .int .i64])), .p (.v (.one (.sl aN aW false)))],[.agg [.c (.sl aF aU false), .c (.sl aP bP false), .c (.int .i64), .c (.sl aN aW false), .own aI bf false], .one (.c .bool)],fun ((s,d,()):Kt)=>(Sp.bQ s∧Sp.aB d,fun (z:abQ)=>z.1.2.1=(Sp.ax d&&Sp.aJ s)∧(z.1.2.1=true→(z.1.1.1,z.1.1.2.1,z.1.1.2.2.1,())=s∧z.1.1.2.2.2.1=d∧Sp.fH s.2.1 d [] (fun _=>true) z.1.1.2.2.2.2.1)∧(z.1.2.1=false→(z.1.1.1,z.1.1.2.1,z.1.1.2.2.1,z.1.1.2.2.2.1,z.1.1.2.2.2.2.1,())=([],[],0,[],[],())))⟩
def tH:PA:=⟨17,[.v (.agg [.sl aF aU false, .sl aP bP false, .int .i64, .sl aN aW false, .sl aI bf false])],[.one (.bool)],fun ((c,()):BJ)=>(Sp.gq c,Sp.gy c,())⟩
def tJ:PA:=⟨18,[.v (.agg [.sl aF aU false, .sl aP bP false, .int .i64, .sl aN aW false, .sl aI bf false])],[.one (.bool)],fun ((c,()):BJ)=>(Sp.gq c,Sp.gy c,())⟩
def rG:XA:=⟨221,[.p (.v (.one (.sl aS bH false)))],[.one (.c (.sl dY ig true))],fun ((q,()):vW)=>(q.length≤1000,fun (z:iW)=>Sp.fB z.1.1 (Sp.J7 q))⟩
def rH:XA:=⟨230,[.p (.v (.one (.sl aS bH false)))],[.one (.c (.sl dY ig true))],fun ((q,()):vW)=>(q.length≤1000,fun (z:iW)=>Sp.fB z.1.1 (Sp.J7 q))⟩
def o5:XA:=⟨192,[.p (.v (.one (.sl aS bH false)))],[.one (.c (.sl dY ig true))],fun ((q,()):vW)=>(q.length≤1000,fun (z:iW)=>Sp.fB z.1.1 (Sp.qo q))⟩
def o6:XA:=⟨127,[.p (.v (.one (.sl aS bH false)))],[.one (.c (.sl dY ig true))],fun ((q,()):vW)=>(q.length≤1000,fun (z:iW)=>Sp.fB z.1.1 (Sp.qo q))⟩
def yD:PA:=⟨128,[.v (.one (.sl dY ig false)), .v (.one (.str))],[.one (.bool)],fun ((l,s,()):zk×yx)=>(True,Sp.eP l s,())⟩
def mX:XA:=⟨120,[.p (.v (.one (.sl aN aW false))), .p (.v (.one (.str)))],[.one (.c (.sl dY ig true))],fun ((d,name,()):gI×yx)=>(Sp.aB d,fun (z:iW)=>z.1.1=Sp.asking d name)⟩
def gY:XA:=⟨53,[.p (.v (.one (.sl aN aW false))), .p (.v (.one (.sl dY ig false)))],[.one (.c (.sl dY ig true))],fun ((d,names,()):gI×Ap)=>(Sp.aB d∧d.length≤5∧names.length≤900,fun (z:iW)=>Sp.reached d names z.1.1)⟩
def gZ:XA:=⟨56,[.p (.v (.one (.sl aN aW false))), .p (.v (.one (.sl dY ig false)))],[.one (.c (.sl dY ig true))],fun ((d,names,()):gI×Ap)=>(Sp.aB d∧d.length≤5∧names.length≤900,fun (z:iW)=>Sp.reached d names z.1.1)⟩
def iC:XA:=⟨119,[.p (.v (.one (.sl dY ig false)))],[.one (.own dY ig false)],fun ((l,()):Ap)=>(l.length≤1000,fun (z:iW)=>z.1.1=l)⟩
def jb:XA:=⟨189,[.p (.v (.one (.sl dW jd false)))],[.one (.own dW jd false)],fun ((l,()):jV)=>(l.length≤1000,fun (z:BZ)=>z.1.1=l)⟩
def o7:PA:=⟨261,[.v (.one (.int .i64)), .kp [.sl dW jd false]],[.one (.bool)],fun ((x,b,()):Int×BZ)=>(True,Sp.eH b.1 x,())⟩
def gB:PA:=⟨278,[.v (.one (.sl dW jd false)), .fn 261 [[.sl dW jd false]]],[.one (.int .i64)],fun ((l,((b,()),()),()):dF×BZ×Unit)=>(True,Sp.findAt (fun x=>Sp.eH b x.1) l,())⟩
def dP:XA:=⟨260,[.own dW jd, .p (.fn 261 [[.sl dW jd false]])],[.one (.own dW jd false)],fun ((s,((b,()),()),()):dF×BZ×Unit)=>(s.length≤1000,fun (z:BZ)=>z.1.1=s.filter fun x=>!Sp.eH b x.1)⟩
def tK:XA:=⟨237,[.p (.v (.one (.sl dW jd false))), .p (.v (.one (.sl dW jd false)))],[.one (.own dW jd false)],fun ((a,b,()):Eh)=>(a.length≤1000,fun (z:BZ)=>z.1.1=Sp.without a b)⟩
def tN:XA:=⟨190,[.p (.v (.one (.sl dW jd false))), .p (.v (.one (.sl dW jd false)))],[.one (.c (.sl dW jd false)), .one (.c (.sl dW jd false))],fun ((a,b,()):Eh)=>(a.length≤1000∧b.length≤1000,fun (z:Eh×Unit)=>z.1.1=Sp.without b a∧z.1.2.1=Sp.without a b)⟩
def tV:XA:=⟨199,[.p (.v (.one (.sl dW jd false))), .p (.v (.one (.sl dW jd false)))],[.one (.c (.sl dW jd false)), .one (.c (.sl dW jd false))],fun ((a,b,()):Eh)=>(a.length≤1000∧b.length≤1000,fun (z:Eh×Unit)=>z.1.1=Sp.without b a∧z.1.2.1=Sp.without a b)⟩
def lJ:XA:=⟨118,[.p (.v (.one (.sl aI bf false))), .p (.v (.one (.sl aI bf false)))],[.one (.c (.sl qI Du false))],fun ((a,b,()):jC×ou)=>(Sp.bg a∧Sp.bg b,fun (z:aha)=>z.1.1=Sp.He a b)⟩
def lK:XA:=⟨125,[.p (.v (.one (.sl aI bf false))), .p (.v (.one (.sl aI bf false)))],[.one (.c (.sl qI Du false))],fun ((a,b,()):jC×ou)=>(Sp.bg a∧Sp.bg b,fun (z:aha)=>z.1.1=Sp.He a b)⟩
def lM:XA:=⟨116,[.p (.v (.one (.sl aI bf false)))],[.one (.c (.sl aI bf false))],fun ((r,()):ou)=>(Sp.bg r,fun (z:ou×Unit)=>z.1.1=r)⟩
def jK:XA:=⟨51,[.p (.v (.agg [.sl aF aU false, .sl aP bP false, .int .i64, .sl aN aW false, .sl aI bf false]))],[.agg [.c (.sl aF aU false), .c (.sl aP bP false), .c (.int .i64), .c (.sl aN aW false), .c (.sl aI bf false)]],fun ((c,()):BJ)=>(Sp.gq c,fun (z:NZ)=>(z.1.1.1,z.1.1.2.1,z.1.1.2.2.1,z.1.1.2.2.2.1,z.1.1.2.2.2.2.1,())=c)⟩
def mY:XA:=⟨123,[.p (.v (.one (.sl aI bf false)))],[.one (.c (.sl aI bf false))],fun ((r,()):ou)=>(Sp.bg r,fun (z:ou×Unit)=>z.1.1=r)⟩
def qp:XA:=⟨54,[.p (.v (.agg [.sl aF aU false, .sl aP bP false, .int .i64, .sl aN aW false, .sl aI bf false]))],[.agg [.c (.sl aF aU false), .c (.sl aP bP false), .c (.int .i64), .c (.sl aN aW false), .c (.sl aI bf false)]],fun ((c,()):BJ)=>(Sp.gq c,fun (z:NZ)=>(z.1.1.1,z.1.1.2.1,z.1.1.2.2.1,z.1.1.2.2.2.1,z.1.1.2.2.2.2.1,())=c)⟩
def o8:XA:=⟨52,[.p (.v (.agg [.sl aF aU false, .sl aP bP false, .int .i64, .sl aN aW false, .sl aI bf false])), .p (.v (.agg [.sl aF aU false, .sl aP bP false, .int .i64])), .p (.v (.one (.sl aN aW false))), .p (.v (.one (.sl dY ig false)))],[.agg [.c (.sl aF aU false), .c (.sl aP bP false), .c (.int .i64), .c (.sl aN aW false), .c (.sl aI bf false)], .one (.c (.sl qI Du false)), .one (.c .bool)],fun ((c,s,d,names,()):F8×uM×gI×Ap)=>(Sp.gq c∧Sp.bQ s∧Sp.aB d,fun (z:QO)=>Sp.turned c s d (Sp.eP names) (z.1.1.1,z.1.1.2.1,z.1.1.2.2.1,z.1.1.2.2.2.1,z.1.1.2.2.2.2.1,()) z.1.2.1 z.1.2.2.1)⟩
def tX:XA:=⟨55,[.p (.v (.agg [.sl aF aU false, .sl aP bP false, .int .i64, .sl aN aW false, .sl aI bf false])), .p (.v (.agg [.sl aF aU false, .sl aP bP false, .int .i64])), .p (.v (.one (.sl aN aW false))), .p (.v (.one (.sl dY ig false)))],[.agg [.c (.sl aF aU false), .c (.sl aP bP false), .c (.int .i64), .c (.sl aN aW false), .c (.sl aI bf false)], .one (.c (.sl qI Du false))],fun ((c,s,d,names,()):F8×uM×gI×Ap)=>(Sp.gq c∧Sp.bQ s∧Sp.aB d∧(Sp.ax d&&Sp.aJ s)=true,fun (z:(F8×Kq×Unit)×Unit)=>Sp.turned c s d (Sp.eP names) (z.1.1.1,z.1.1.2.1,z.1.1.2.2.1,z.1.1.2.2.2.1,z.1.1.2.2.2.2.1,()) z.1.2.1 true)⟩
def vP:PA:=⟨139,[.v (.one (.sl dW jd false)), .v (.one (.sl dW jd false))],[.one (.bool)],fun ((a,b,()):Eh)=>(True,decide (a=b),())⟩
def wG:PA:=⟨89,[.v (.agg [.str, .sl dW jd false]), .v (.agg [.str, .sl dW jd false])],[.one (.bool)],fun ((a,b,()):(dM×jV)×(dM×jV)×Unit)=>(True,decide (a=b),())⟩
def uY:PA:=⟨30,[.v (.one (.sl aI bf false)), .v (.one (.sl aI bf false))],[.one (.bool)],fun ((a,b,()):jC×ou)=>(True,decide (a=b),())⟩
def uZ:PA:=⟨14,[.v (.agg [.sl aF aU false, .sl aP bP false, .int .i64, .sl aN aW false, .sl aI bf false]), .v (.agg [.sl aF aU false, .sl aP bP false, .int .i64, .sl aN aW false, .sl aI bf false])],[.one (.bool)],fun ((a,b,()):F8×BJ)=>(True,decide (a=b),())⟩
def tY:XA:=⟨101,[.ptr [.sl eF jD false, .int .i64, .int .i64]],[.agg [.c (.sl aF aU false), .c (.sl aP bP false), .c (.int .i64), .c (.sl aN aW false), .own aI bf false]],fun (((_,i,_,()),()):iE)=>(0≤i,fun (z:BJ×iE)=>0≤z.2.1.2.1∧Sp.Y8 (z.1.1.1,z.1.1.2.1,z.1.1.2.2.1,z.1.1.2.2.2.1,z.1.1.2.2.2.2.1,())∧0<z.1.1.2.2.2.1.length)⟩
def tZ:XA:=⟨45,[.ptr [.sl eF jD false, .int .i64, .int .i64]],[.one (.c .str)],fun (((_,i,_,()),()):iE)=>(0≤i,fun (z:qH)=>0≤z.2.1.2.1∧z.1.1.length≤10)⟩
def wo:XA:=⟨102,[.ptr [.sl eF jD false, .int .i64, .int .i64]],[.one (.c (.sl dW jd false))],fun (((_,i,_,()),()):iE)=>(0≤i,fun (z:jV×iE)=>0≤z.2.1.2.1∧z.1.1.length≤7)⟩
def uf:XA:=⟨57,[.ptr [.sl eF jD false, .int .i64, .int .i64]],[.agg [.c (.sl aF aU false), .c (.sl aP bP false), .c (.int .i64)], .one (.c (.sl aN aW false))],fun (((_,i,_,()),()):iE)=>(0≤i,fun (z:Kt×iE)=>0≤z.2.1.2.1∧Sp.bQ (z.1.1.1,z.1.1.2.1,z.1.1.2.2.1,())∧Sp.aB z.1.2.1)⟩
def rX:XA:=⟨43,[.ptr [.sl eF jD false, .int .i64, .int .i64]],[.agg [.c (.sl aF aU false), .c (.sl aP bP false), .c (.int .i64), .c (.sl aN aW false), .c (.sl aI bf false)]],fun (((_,i,_,()),()):iE)=>(0≤i,fun (z:BJ×iE)=>0≤z.2.1.2.1∧Sp.zJ (z.1.1.1,z.1.1.2.1,z.1.1.2.2.1,z.1.1.2.2.2.1,z.1.1.2.2.2.2.1,()))⟩
def jw:XA:=⟨10,[.p (.v (.one (.sl eF jD false)))],[.agg [.c (.sl aF aU false), .c (.sl aP bP false), .c (.int .i64)], .one (.c (.sl aN aW false))],fun ((code,()):jV)=>(code.length≤1048576,fun (z:Kt×Unit)=>Sp.bQ (z.1.1.1,z.1.1.2.1,z.1.1.2.2.1,())∧Sp.aB z.1.2.1)⟩
def jS:XA:=⟨7,[.p (.v (.one (.sl eF jD false)))],[.agg [.c (.sl aF aU false), .c (.sl aP bP false), .c (.int .i64), .c (.sl aN aW false), .c (.sl aI bf false)], .agg [.c .str, .c (.sl aS bH false)]],fun ((code,()):jV)=>(code.length≤1048576,fun (z:(F8×Gz)×Unit)=>Sp.zJ (z.1.1.1,z.1.1.2.1,z.1.1.2.2.1,z.1.1.2.2.2.1,z.1.1.2.2.2.2.1,())∧z.1.2.1.2.1.length≤1000)⟩
def iT:XA:=⟨13,[.p (.v (.one (.sl eF jD false)))],[.agg [.c (.sl aF aU false), .c (.sl aP bP false), .c (.int .i64), .c (.sl aN aW false), .c (.sl aI bf false)], .agg [.c (.sl aF aU false), .c (.sl aP bP false), .c (.int .i64), .c (.sl aN aW false), .c (.sl aI bf false)]],fun ((code,()):jV)=>(code.length≤1048576,fun (z:(F8×BJ)×Unit)=>Sp.zJ (z.1.1.1,z.1.1.2.1,z.1.1.2.2.1,z.1.1.2.2.2.1,z.1.1.2.2.2.2.1,())∧Sp.zJ (z.1.2.1.1,z.1.2.1.2.1,z.1.2.1.2.2.1,z.1.2.1.2.2.2.1,z.1.2.1.2.2.2.2.1,()))⟩
def vS:PA:=⟨112,[.v (.agg [.str, .sl aS bH false]), .kp [.str, .sl aS bH false]],[.one (.bool)],fun (((nm,_,()),x,()):(dM×vW)×Gz)=>(True,Op.bytesLess x.1 nm,())⟩
def fK:PA:=⟨111,[.v (.one (.sl aN aW false)), .fn 112 [[.str, .sl aS bH false]]],[.one (.int .i64)],fun ((d,((nm,_,()),()),()):gI×Gz×Unit)=>(True,Sp.findAt (fun o=>Op.bytesLess nm o.1) d,())⟩
def qG:List gm:=[.own aN aW, .p (.v (.one (.int .i64))), .own aN aW]
def A7:List sK:=[.one (.own aN aW false)]
def Ky:jr qG→Prop×(nG A7×l9 qG→Prop):=fun (s,i,v,())=>(0≤i∧i≤s.length∧s.length≤1000∧v.length=1,fun ((r,()),())=>r=s.take i.toNat++(v++s.drop i.toNat))
def A8:EZ:=sF qG A7 Ky
def jT:XA:=⟨60,[.p (.v (.one (.sl aN aW false)))],[.one (.own aN aW false)],fun ((d,()):sW)=>(Sp.aB d,fun (z:IA)=>z.1.1=d)⟩
def wu:XA:=⟨49,[.p (.v (.one (.sl aN aW false))), .p (.v (.agg [.str, .sl aS bH false]))],[.one (.c (.sl aN aW false)), .one (.c .bool)],fun ((d,x,()):gI×Gz)=>(Sp.aB d∧d.length≤900∧x.2.1.length≤1000,fun (z:abR)=>z.1.1=(Sp.bG d x).1∧z.1.2.1=(Sp.bG d x).2)⟩
def rY:XA:=⟨19,[.p (.v (.one (.sl aN aW false))), .p (.v (.agg [.str, .sl aS bH false]))],[.one (.c (.sl aN aW false)), .one (.c .bool)],fun ((d,x,()):gI×Gz)=>(Sp.aB d∧d.length≤900∧x.2.1.length≤1000,fun (z:abR)=>z.1.1=(Sp.bG d x).1∧z.1.2.1=(Sp.bG d x).2)⟩
def mZ:XA:=⟨11,[.p (.v (.agg [.sl aF aU false, .sl aP bP false, .int .i64])), .p (.v (.one (.sl aN aW false)))],[.agg [.c (.sl aF aU false), .c (.sl aP bP false), .c (.int .i64), .c (.sl aN aW false), .c (.sl aI bf false)], .one (.c .bool)],fun ((s,d,()):Kt)=>(Sp.bQ s∧Sp.aB d,fun (z:abQ)=>z.1.2.1=(Sp.ax d&&Sp.aJ s)∧(z.1.2.1=true→(z.1.1.1,z.1.1.2.1,z.1.1.2.2.1,())=s∧z.1.1.2.2.2.1=d∧Sp.fH s.2.1 d [] (fun _=>true) z.1.1.2.2.2.2.1)∧(z.1.2.1=false→(z.1.1.1,z.1.1.2.1,z.1.1.2.2.1,z.1.1.2.2.2.1,z.1.1.2.2.2.2.1,())=([],[],0,[],[],())))⟩
def qV:PA:=⟨16,[.v (.agg [.sl aF aU false, .sl aP bP false, .int .i64, .sl aN aW false, .sl aI bf false]), .v (.agg [.sl aF aU false, .sl aP bP false, .int .i64, .sl aN aW false, .sl aI bf false])],[.one (.bool)],fun ((a,b,()):F8×BJ)=>(True,decide (a=b),())⟩
def o9:XA:=⟨8,[.p (.v (.agg [.sl aF aU false, .sl aP bP false, .int .i64, .sl aN aW false, .sl aI bf false])), .p (.v (.agg [.str, .sl aS bH false]))],[.agg [.c (.sl aF aU false), .c (.sl aP bP false), .c (.int .i64), .c (.sl aN aW false), .c (.sl aI bf false)], .one (.c (.sl qI Du false)), .one (.c .bool)],fun ((c,x,()):F8×Gz)=>(Sp.zJ c∧x.2.1.length≤1000,fun (z:QO)=>Sp.became c (Sp.mJ c) (Sp.bG (Sp.fM c) x).1 (Sp.gy c&&((Sp.bG (Sp.fM c) x).2&&Sp.ax (Sp.bG (Sp.fM c) x).1)) (z.1.1.1,z.1.1.2.1,z.1.1.2.2.1,z.1.1.2.2.2.1,z.1.1.2.2.2.2.1,()) z.1.2.1 z.1.2.2.1)⟩
def pq:XA:=⟨9,[.p (.v (.agg [.sl aF aU false, .sl aP bP false, .int .i64, .sl aN aW false, .sl aI bf false])), .p (.v (.agg [.str, .sl aS bH false]))],[.agg [.c (.sl aF aU false), .c (.sl aP bP false), .c (.int .i64), .c (.sl aN aW false), .c (.sl aI bf false)], .one (.c (.sl qI Du false)), .one (.c .bool)],fun ((c,x,()):F8×Gz)=>(Sp.zJ c∧x.2.1.length≤1000,fun (z:QO)=>Sp.became c (Sp.mJ c) (Sp.bG (Sp.fM c) x).1 (Sp.gy c&&((Sp.bG (Sp.fM c) x).2&&Sp.ax (Sp.bG (Sp.fM c) x).1)) (z.1.1.1,z.1.1.2.1,z.1.1.2.2.1,z.1.1.2.2.2.1,z.1.1.2.2.2.2.1,()) z.1.2.1 z.1.2.2.1)⟩
def yO:PA:=⟨66,[.v (.agg [.str, .sl dW jd false, .sl dW jd false]), .v (.agg [.str, .sl dW jd false, .sl dW jd false])],[.one (.bool)],fun ((a,b,()):(dM×Eh)×(dM×Eh)×Unit)=>(True,decide (a=b),())⟩
def xQ:PA:=⟨15,[.v (.one (.sl qI Du false)), .v (.one (.sl qI Du false))],[.one (.bool)],fun ((a,b,()):Kq×Kq×Unit)=>(True,decide (a=b),())⟩
def uq:PA:=⟨3,[.v (.one (.sl eF jD false))],[.one (.bool)],fun (_,())=>(True,true,())⟩
def ajY:aG:=aA []
def ahd:aG:=aA []
def aeb:aG:=aA [tq.e]
def ahe:aG:=aA [cO.e]
def ahf:aG:=aA [cO.e]
def Zu:aG:=aA [cO.e]
def aec:aG:=aA []
def ahg:aG:=aA [fJ.e]
def ajZ:aG:=aA [fJ.e,pO.e,cO.e,nD.e]
def aed:aG:=aA [jG.e,fJ.e,qN.e,cO.e]
def aj0:aG:=aA [fJ.e,iY.e,cO.e,qM.e]
def aee:aG:=aA []
def VZ:aG:=aA []
def ak0:aG:=aA []
def aj1:aG:=aA []
def ahh:aG:=aA [je.e]
def QT:aG:=aA [xg.e]
def QU:aG:=aA [jW.e]
def Uw:aG:=aA [jP.e,je.e]
def Ux:aG:=aA [jQ.e,jW.e]
def N7:aG:=aA [xg.e]
def N8:aG:=aA []
def abU:aG:=aA []
def abV:aG:=aA []
def QV:aG:=aA [je.e,jX.e]
def QW:aG:=aA [jY.e]
def QX:aG:=aA [xH.e,nX.e]
def QY:aG:=aA [xI.e,nY.e]
def V3:aG:=aA [je.e,lY.e,qO.e]
def V4:aG:=aA [lZ.e,AZ.e,jW.e,qP.e]
def Uy:aG:=aA [je.e,lY.e,pR.e]
def Uz:aG:=aA [jW.e,lZ.e,uO.e]
def Zv:aG:=aA []
def abW:aG:=aA []
def aef:aG:=aA [xJ.e]
def abX:aG:=aA [yH.e]
def abY:aG:=aA [xK.e,wE.e]
def ahi:aG:=aA []
def aeg:aG:=aA [lC.e]
def aj2:aG:=aA [jW.e]
def aeh:aG:=aA []
def Je:aG:=aA []
def Kz:aG:=aA []
def ahj:aG:=aA []
def ahk:aG:=aA [jG.e,fJ.e,pV.e,qN.e,iM.e,cO.e]
def aj3:aG:=aA [pV.e,jG.e,rP.e,pO.e,iY.e,l7.e,cO.e]
def aei:aG:=aA []
def ahl:aG:=aA [xk.e]
def Zw:aG:=aA [pR.e,jq.e,xk.e,ku.e]
def Zx:aG:=aA [jq.e,yJ.e,ku.e]
def aej:aG:=aA [mM.e,iM.e,kC.e,l7.e,cO.e,qQ.e,nD.e]
def aj6:aG:=aA [kC.e,l7.e,vX.e,vY.e,iY.e,cO.e,kU.e]
def anS:aG:=aA []
def abZ:aG:=aA [yI.e]
def ab1:aG:=aA [oU.e,kT.e]
def Zy:aG:=aA [fJ.e]
def ahm:aG:=aA [mO.e,jG.e,qN.e,fJ.e,cO.e]
def QZ [uN]:aG:=aA [(BL, .eff (DN wK) Ew),cO.e,pW.e,iM.e]
def V5:aG:=aA [(yt, .eff (DN qR) zA),cO.e]
def Jf:aG:=aA [(yt, .eff (DN qR) zA),cO.e]
def aj7:aG:=aA [rP.e,pW.e,fJ.e,iY.e,cO.e,jH.e]
def ahn:aG:=aA [gJ.e,cO.e]
def aj8:aG:=aA [gJ.e,rU.e,fJ.e,cO.e,pX.e]
def aho:aG:=aA [kN.e,pX.e]
def V6:aG:=aA [jP.e,nX.e,jX.e,je.e]
def V7:aG:=aA [jQ.e,jW.e,nY.e,jY.e]
def N9:aG:=aA []
def Oa:aG:=aA []
def UA:aG:=aA [je.e,oz.e,uP.e]
def UB:aG:=aA [jW.e,oC.e,uQ.e]
def V8:aG:=aA [kG.e,jP.e]
def V9:aG:=aA [kH.e,jQ.e]
def aek:aG:=aA []
def UC:aG:=aA [kG.e]
def UD:aG:=aA [kH.e]
def ab2:aG:=aA [(rJ, .eff (DN jJ) nZ),vO.e,sO.e]
def UE:aG:=aA [lD.e]
def UF:aG:=aA [lD.e]
def aj9:aG:=aA []
def ael:aG:=aA [rW.e,je.e,sN.e]
def UG:aG:=aA [nI.e]
def UH:aG:=aA [nI.e]
def ahp:aG:=aA []
def Ae:aG:=aA [xq.e]
def ak1:aG:=aA [fU.e,xq.e]
def aem:aG:=aA []
def Wh:aG:=aA [zB.e]
def akb:aG:=aA [kK.e,uS.e,kJ.e,qf.e]
def UI:aG:=aA [oK.e]
def aen:aG:=aA [kM.e,yK.e,kL.e]
def ahq:aG:=aA []
def akc:aG:=aA [qg.e,kV.e,qc.e]
def UJ:aG:=aA [lT.e]
def KA:aG:=aA []
def ahr:aG:=aA [lF.e]
def aeo:aG:=aA [tu.e]
def ahs:aG:=aA []
def ab3:aG:=aA []
def aht:aG:=aA [xO.e]
def aep:aG:=aA [zC.e]
def Zz:aG:=aA [lG.e]
def KC:aG:=aA []
def Jg:aG:=aA []
def uw:aG:=aA [rE.e]
def Wi:aG:=aA [rE.e,dJ.e,kW.e]
def KD:aG:=aA []
def UK:aG:=aA [lH.e]
def Wj:aG:=aA [sS.e]
def ve:aG:=aA [qh.e]
def ab4:aG:=aA [qh.e,dL.e]
def ahu:aG:=aA []
def ahv:aG:=aA []
def ahw:aG:=aA [xu.e]
def Wl:aG:=aA []
def OX:aG:=aA [uU.e]
def OY:aG:=aA []
def KE:aG:=aA [qi.e]
def ZA:aG:=aA [lg.e]
def ZB:aG:=aA []
def Wn:aG:=aA []
def ab5:aG:=aA [qj.e]
def ab6:aG:=aA []
def Ob [uN]:aG:=aA [wF.e,oV.e,(zK, .pure Dl),zF.e,xu.e]
def Q5 [uN]:aG:=aA [rF.e,oW.e,(BM, .pure ED),zD.e]
def ahx:aG:=aA [(Ei, .pure Hz),kH.e]
def ahy:aG:=aA [(GH, .pure Kw),kG.e]
def Wp:aG:=aA [zH.e]
def Wq:aG:=aA [zI.e]
def Ws:aG:=aA []
def OZ:aG:=aA [qm.e]
def qw:aG:=aA [lq.e]
def UL:aG:=aA [lq.e,cu.e]
def UM:aG:=aA [qg.e]
def ab7:aG:=aA []
def ZC:aG:=aA [oZ.e,oK.e]
def ZE:aG:=aA [lT.e]
def aer:aG:=aA []
def ab8:aG:=aA [qm.e,uX.e,mQ.e,oV.e,iQ.e,sJ.e,oK.e]
def aes:aG:=aA [lI.e,yN.e]
def ZF:aG:=aA [lI.e]
def akd:aG:=aA [qg.e,ql.e,kD.e,jq.e,lT.e]
def aeu:aG:=aA [vZ.e]
def ZG:aG:=aA [qg.e,ql.e,kD.e,yD.e,oW.e,jq.e,lT.e]
def ZH:aG:=aA [tC.e,ku.e,nM.e]
def ab9:aG:=aA [oh.e,nK.e]
def acd:aG:=aA [sU.e,nM.e]
def ZI:aG:=aA [(rJ, .eff (DN jJ) nZ)]
def ZJ:aG:=aA [rW.e,je.e]
def ace:aG:=aA [(rJ, .eff (DN jJ) nZ),vO.e]
def acf:aG:=aA [rW.e,je.e]
def ake:aG:=aA []
def ZK:aG:=aA [iQ.e,o5.e]
def HY:aG:=aA [(rJ, .eff (DN jJ) nZ),iQ.e,mX.e,iC.e]
def H6:aG:=aA [yD.e,o6.e,rW.e]
def IB:aG:=aA []
def MB:aG:=aA []
def acg:aG:=aA [lg.e]
def BN:aG:=aA [o7.e]
def Ba:aG:=aA [gB.e,o7.e]
def ahz:aG:=aA [dP.e,o7.e,jb.e]
def ahA:aG:=aA [tK.e]
def ahB:aG:=aA [rF.e]
def Wu:aG:=aA [tN.e,oV.e]
def Wv:aG:=aA [tV.e,oW.e]
def Wx:aG:=aA [qj.e]
def Wy:aG:=aA [lM.e,qU.e,jR.e]
def ZL:aG:=aA []
def ahC:aG:=aA [mY.e,tC.e,ku.e]
def ach:aG:=aA [lJ.e,qU.e,jR.e,jK.e,mV.e]
def ahD:aG:=aA [lK.e,mW.e]
def aev:aG:=aA []
def ZM:aG:=aA [vP.e]
def WA:aG:=aA [wG.e]
def WB:aG:=aA [uY.e,yM.e,xM.e]
def ahE:aG:=aA [kE.e,pY.e,kU.e]
def ahF:aG:=aA [fJ.e]
def akf:aG:=aA [iM.e]
def ahG:aG:=aA [pY.e,rV.e,rQ.e,iM.e,kU.e]
def akg:aG:=aA [rQ.e,rV.e,wo.e,cO.e,tY.e]
def O0:aG:=aA [uf.e,oJ.e]
def Q7:aG:=aA [jH.e,fJ.e,rU.e,tZ.e,iM.e,rX.e,oJ.e]
def KF:aG:=aA [qp.e,iM.e,rX.e,oJ.e]
def aew:aG:=aA []
def zL:aG:=aA [vS.e]
def Q8:aG:=aA [tu.e]
def akh:aG:=aA [qf.e,(xR, .eff (DN qG) A8),fK.e,vS.e,tu.e,zB.e,jT.e]
def aki:aG:=aA [tC.e,qc.e]
def ZN:aG:=aA [qU.e,jR.e,nK.e]
def Q9:aG:=aA [oh.e,xP.e,uT.e]
def aci:aG:=aA [o8.e,gY.e,jK.e,sQ.e,tH.e,wu.e]
def acj:aG:=aA [tX.e,gZ.e,kN.e,tJ.e,rY.e,qp.e]
def aex:aG:=aA [vP.e]
def ack:aG:=aA [yO.e]
def Oc:aG:=aA [kN.e,rY.e,tJ.e,tH.e,qV.e,xQ.e,uZ.e,iT.e,kE.e,mZ.e,jw.e,pq.e,o9.e,jS.e,EX.e]
end
end Go.Proofs.Tryz
