import Derived.Test.YtkgkfdphbkfjnaaGreatN
import Derived.Test.YtkgkfdphbkfjnaaGreatSp
namespace Go.Proofs.Tryz
open Go Go.Fw Sp
abbrev gZ:=List UInt8
abbrev eX:=Int×Unit
abbrev fC:=List (gZ×eX)
abbrev lK:=gZ×Unit
abbrev Ty1:=gZ×Int×Int×lK
abbrev gY:=List Ty1
abbrev Ej:=Int×Int×Bool×Int×gY×Unit
abbrev fU:=List Ej
abbrev abU:=Int×Int×Int×Ty1
abbrev jg:=List abU
abbrev D9:=jg×Unit
abbrev MI:=gZ×D9
abbrev dV:=List MI
abbrev dO:=List eX
abbrev mV:=dO×Unit
abbrev gQ:=List (gZ×mV)
abbrev nT:=gQ×Unit
abbrev yj:=fC×fU×Int×dV×nT
abbrev zN:=dO×Int×eX
abbrev gB:=zN×Unit
abbrev qY:=List lK
abbrev H6:=qY×Unit
abbrev gX:=H6×Unit
abbrev kZ:=fC×fU×eX
abbrev H7:=dO×mV
abbrev JZ:=List (gZ×H7)
abbrev dA:=Bool×Unit
abbrev jV:=(yj×JZ×dA)×Unit
abbrev J3:=Int×Int×Int×Bool×Int×gY×Int×MI
abbrev lM:=Unit×Unit
abbrev Xa:=Unit×zN×(Int×Int×Bool×Int×lM)×gY×Unit
abbrev zO:=yj×Unit
abbrev lg:=zO×Unit
abbrev gu:=eX×Unit
abbrev jW:=dV×Unit
abbrev fE:=eX×gB
abbrev Ea:=(Int×Int×lK)×Unit
abbrev rW:=Unit×eX
abbrev IV:=rW×H6
abbrev zQ:=D9×gB
abbrev EM:=(kZ×Unit)×Unit
abbrev jI:=Ej×Unit
abbrev aoN:=(Int×yj×J3×Unit×Unit×Unit×JZ×Unit)×(Unit×Unit×Int×Unit×lM)×yj×zO
abbrev J4:=(kZ×dA)×Unit
abbrev J5:=(gQ×dA)×Unit
abbrev LQ:=(dV×dA)×Unit
abbrev qh:=lK×gB
abbrev N7:=(dO×dA)×Unit
abbrev Xb:=(kZ×Int×dA)×Unit
abbrev agj:=(yj×Int×JZ×dA)×Unit
abbrev abV:=(gQ×Int×dA)×Unit
abbrev abW:=(yj×JZ×Unit)×Unit
abbrev Xc:=(JZ×Unit)×Unit
abbrev Xd:=(kZ×Unit)×gB
abbrev Gh:=jW×Unit
abbrev Gi:=dA×Unit
abbrev Xe:=(qY×eX)×Unit
abbrev aoO:=Int×Int×Int×Bool×Int×Unit×Int×gZ×lM
abbrev Xf:=(Int×eX)×Unit
abbrev EN:=mV×Unit
abbrev ajd:=yj×Int×List J3×mV
abbrev Gj:=dA×gB
abbrev J6:=fC×Unit
abbrev agk:=(fU×Unit)×Unit
abbrev aqI:=Unit×zN×(Int×Int×Int×Bool×Int×Unit×Int×MI)×gY×Unit
abbrev N8:=abU×Unit
class tq where n:Nat
abbrev rX[tq]:Nat:=tq.n
noncomputable section
def G9:QA:=⟨36,[.p (.v (.one (.sl eU jo false)))],[.sl eU jo false,.int .i64,.int .i64],λ((code,()):mV)=>(code.length<=1048576,λ(z:zN)=>z.2.1=0)⟩
def Fj:XA:=⟨163,[.ptr [.sl eU jo false,.int .i64,.int .i64]],[.one (.c (.int .i64))],λ(((_,i,_,()),()):gB)=>(0<=i,λ(z:fE)=>0<=z.2.1.2.1/\0<=z.1.1/\z.1.1<=255)⟩
def dS:XA:=⟨87,[.ptr [.sl eU jo false,.int .i64,.int .i64],.p (.v (.one (.int .i64)))],[.one (.c (.int .i64))],λ(((_,i,_,()),n,()):zN×eX)=>(0<=i,λ(z:fE)=>0<=z.2.1.2.1/\0<=z.1.1/\(0<n->z.1.1<n)/\(n<=0->z.1.1=0))⟩
def kV:XA:=⟨86,[.ptr [.sl eU jo false,.int .i64,.int .i64],.p (.v (.one (.int .i64)))],[.one (.c .bool)],λ(((_,i,_,()),_,()):zN×eX)=>(0<=i,λ(z:Gj)=>0<=z.2.1.2.1)⟩
def iI:XA:=⟨120,[.ptr [.sl eU jo false,.int .i64,.int .i64],.p (.v (.one (.sl dH eY false)))],[.one (.c .str)],λ(((_,i,_,()),list,()):zN×H6)=>(0<=i/\list≠[],λ(z:qh)=>0<=z.2.1.2.1/\(z.1.1,())∈list)⟩
def iG:XA:=⟨75,[.ptr [.sl eU jo false,.int .i64,.int .i64],.p (.v (.one (.sl dZ iQ false)))],[.one (.c (.int .i64))],λ(((_,i,_,()),list,()):zN×mV)=>(0<=i/\list≠[],λ(z:fE)=>0<=z.2.1.2.1/\(z.1.1,())∈list)⟩
def yJ:XA:=⟨217,[],[.one (.own ai aO true)],λ(())=>(True,λ(z:J6×Unit)=>z.1.1=Sp.usual)⟩
def AB:XA:=⟨267,[.ptr [.sl eU jo false,.int .i64,.int .i64]],[.one (.c .str)],λ(((_,i,_,()),()):gB)=>(0<=i,λ(z:qh)=>0<=z.2.1.2.1/\z.1.1.length<=1)⟩
def He:XA:=⟨221,[.ptr [.sl eU jo false,.int .i64,.int .i64]],[.one (.c (.sl ai aO true))],λ(((_,i,_,()),()):gB)=>(0<=i,λ(z:J6×gB)=>0<=z.2.1.2.1/\z.1.1.length<=6)⟩
def Em:XA:=⟨301,[.ptr [.sl eU jo false,.int .i64,.int .i64]],[.agg [.c (.int .i64),.c (.int .i64),.c .str]],λ(((_,i,_,()),()):gB)=>(0<=i,λ(z:Ea×gB)=>0<=z.2.1.2.1/\z.1.1.2.2.1.length<=10)⟩
def Dw:XA:=⟨266,[.ptr [.sl eU jo false,.int .i64,.int .i64]],[.agg [.c (.int .i64),.c (.int .i64),.c .str]],λ(((_,i,_,()),()):gB)=>(0<=i,λ(z:Ea×gB)=>0<=z.2.1.2.1/\z.1.1.2.2.1.length<=10)⟩
def uF:PA:=⟨190,[.v (.one (.int .i64))],[.agg [.int .i64,.int .i64,.str]],λ((n,()):eX)=>(True,(1,n,[],()),())⟩
def lT:PA:=⟨191,[.v (.one (.str))],[.agg [.int .i64,.int .i64,.str]],λ((w,()):lK)=>(True,(2,0,w,()),())⟩
def iT:PA:=⟨51,[.v (.one (.int .i64)),.v (.one (.int .i64)),.v (.one (.int .i64))],[.one (.bool)],λ((x,a,b,()):Int×Int×eX)=>(True,(decide (a<=x)&&decide (x<=b)),())⟩
def kT:PA:=⟨72,[.v (.one (.int .i64)),.v (.one (.int .i64)),.v (.one (.int .i64))],[.one (.bool)],λ((x,a,b,()):Int×Int×eX)=>(True,(decide (a<=x)&&decide (x<=b)),())⟩
def AL:PA:=⟨299,[.v (.one (.str)),.v (.one (.int .i64))],[.one (.bool)],λ((s,m,()):gZ×eX)=>(True,(Sp.lower s&&decide (1<=(s.length:Int))&&decide ((s.length:Int)<=m)),())⟩
def mD:PA:=⟨263,[.v (.one (.str))],[.one (.bool)],λ((s,()):lK)=>(True,iD s,())⟩
def mF:PA:=⟨204,[.v (.one (.str))],[.one (.bool)],λ((s,()):lK)=>(True,iD s,())⟩
def rH:PA:=⟨277,[.v (.agg [.int .i64,.int .i64,.str])],[.one (.bool)],λ(((k,n,s,()),()):Ea)=>(True,jX k n s,())⟩
def rJ:PA:=⟨269,[.v (.agg [.int .i64,.int .i64,.str])],[.one (.bool)],λ(((k,n,s,()),()):Ea)=>(True,jX k n s,())⟩
def nU:PA:=⟨276,[.v (.one (.str))],[.one (.bool)],λ((s,()):lK)=>(True,jQ s,())⟩
def nV:PA:=⟨268,[.v (.one (.str))],[.one (.bool)],λ((s,()):lK)=>(True,jQ s,())⟩
def BV:PA:=⟨278,[.v (.one (.sl ai aO false)),.v (.one (.str))],[.one (.int .i64)],λ((fs,s,()):fC×lK)=>(True,Sp.kindOf fs s,())⟩
def BZ:PA:=⟨283,[.v (.one (.sl ai aO false)),.v (.one (.str))],[.one (.int .i64)],λ((fs,s,()):fC×lK)=>(True,Sp.kindOf fs s,())⟩
def ql:PA:=⟨234,[.v (.one (.sl ai aO false))],[.one (.bool)],λ((fs,()):J6)=>(True,gy fs,())⟩
def qm:PA:=⟨223,[.v (.one (.sl ai aO false))],[.one (.bool)],λ((fs,()):J6)=>(True,gy fs,())⟩
def vW:PA:=⟨240,[.v (.one (.sl ai aO false)),.v (.one (.str)),.v (.agg [.int .i64,.int .i64,.str])],[.one (.bool)],λ((fs,s,(k,n,w,()),()):fC×gZ×Ea)=>(True,jy fs s k n w,())⟩
def vX:PA:=⟨249,[.v (.one (.sl ai aO false)),.v (.one (.str)),.v (.agg [.int .i64,.int .i64,.str])],[.one (.bool)],λ((fs,s,(k,n,w,()),()):fC×gZ×Ea)=>(True,jy fs s k n w,())⟩
def oU:PA:=⟨182,[.v (.one (.sl ai aO false)),.v (.agg [.int .i64,.int .i64,.bool,.int .i64,.sl aS dh false])],[.one (.bool)],λ((fs,f,()):fC×jI)=>(True,dD fs f,())⟩
def oV:PA:=⟨195,[.v (.one (.sl ai aO false)),.v (.agg [.int .i64,.int .i64,.bool,.int .i64,.sl aS dh false])],[.one (.bool)],λ((fs,f,()):fC×jI)=>(True,dD fs f,())⟩
def jS:PA:=⟨177,[.v (.agg [.sl ai aO false,.sl ay aY false,.int .i64])],[.one (.bool)],λ((s,()):kZ×Unit)=>(True,aB s,())⟩
def lq:PA:=⟨170,[.v (.agg [.sl ai aO false,.sl ay aY false,.int .i64])],[.one (.bool)],λ((s,()):kZ×Unit)=>(True,aB s,())⟩
def Aa:PA:=⟨107,[.v (.one (.sl ai aO false)),.v (.one (.sl ai aO false))],[.one (.bool)],λ((a,b,()):fC×J6)=>(True,decide (a=b),())⟩
def Cb:PA:=⟨15,[.v (.one (.sl aS dh false)),.v (.one (.sl aS dh false))],[.one (.bool)],λ((a,b,()):gY×gY×Unit)=>(True,decide (a=b),())⟩
def En:PA:=⟨30,[.v (.agg [.int .i64,.int .i64,.bool,.int .i64,.sl aS dh false]),.v (.agg [.int .i64,.int .i64,.bool,.int .i64,.sl aS dh false])],[.one (.bool)],λ((a,b,()):Ej×jI)=>(True,decide (a=b),())⟩
def Cc:PA:=⟨108,[.v (.one (.sl ay aY false)),.v (.one (.sl ay aY false))],[.one (.bool)],λ((a,b,()):fU×fU×Unit)=>(True,decide (a=b),())⟩
def Ce:PA:=⟨39,[.v (.agg [.sl ai aO false,.sl ay aY false,.int .i64]),.v (.agg [.sl ai aO false,.sl ay aY false,.int .i64])],[.one (.bool)],λ((a,b,()):kZ×kZ×Unit)=>(True,decide (a=b),())⟩
def rY:PA:=⟨74,[.v (.agg [.int .i64,.int .i64,.bool,.int .i64,.sl aS dh false])],[.agg [.int .i64,.int .i64,.bool,.int .i64,.sl aS dh true]],λ((f,()):jI)=>(bV f,f,())⟩
def qo:PA:=⟨127,[.v (.agg [.int .i64,.int .i64,.bool,.int .i64,.sl aS dh false])],[.agg [.int .i64,.int .i64,.bool,.int .i64,.sl aS dh false]],λ((f,()):jI)=>(bV f,f,())⟩
def yx:PA:=⟨54,[.v (.one (.int .i64))],[.one (.bool)],λ((u,()):eX)=>(True,(decide (0<=u)&&decide (u<=2)),())⟩
def uG:PA:=⟨73,[.v (.agg [.sl ai aO false,.sl ay aY false,.int .i64]),.v (.one (.int .i64))],[.one (.int .i64)],λ(((_,fs,_,()),id,()):kZ×eX)=>(True,Sp.place fs id,())⟩
def pY:PA:=⟨168,[.v (.one (.sl ai aO false))],[.one (.sl ai aO false)],λ((l,()):J6)=>(l.length<=1000,l,())⟩
def qp:PA:=⟨98,[.v (.one (.sl aS dh false))],[.one (.sl aS dh false)],λ((l,()):gY×Unit)=>(l.length<=1000,l,())⟩
def AO:XA:=⟨181,[.p (.v (.agg [.int .i64,.int .i64,.bool,.int .i64,.sl aS dh false])),.p (.v (.one (.str))),.p (.v (.agg [.int .i64,.int .i64,.str]))],[.agg [.c (.int .i64),.c (.int .i64),.c .bool,.c (.int .i64),.own aS dh true]],λ(((i,o,s,l,a,()),name,(k,n,w,()),()):Ej×gZ×Ea)=>(a.length<=1000,λ(z:jI×Unit)=>z.1.1.1=i/\z.1.1.2.1=o/\z.1.1.2.2.1=s/\z.1.1.2.2.2.1=l/\z.1.1.2.2.2.2.1=kN a name k n w)⟩
def rZ:XA:=⟨119,[.ptr [.sl eU jo false,.int .i64,.int .i64],.p (.v (.one (.int .i64)))],[.agg [.c (.int .i64),.c (.int .i64),.c .bool,.c (.int .i64),.own aS dh true]],λ(((_,i,_,()),id,()):zN×eX)=>(0<=i,λ(z:jI×gB)=>0<=z.2.1.2.1/\z.1.1.1=id/\0<=z.1.1.2.1/\z.1.1.2.1<=2/\0<=z.1.1.2.2.2.1/\z.1.1.2.2.2.1<=6/\jY Sp.usual z.1.1.2.2.2.2.1=true/\z.1.1.2.2.2.2.1.length<=4)⟩
def Hf:XA:=⟨220,[.ptr [.sl eU jo false,.int .i64,.int .i64]],[.agg [.c (.int .i64),.c (.int .i64),.c .bool,.c (.int .i64),.c (.sl aS dh true)]],λ(((_,i,_,()),()):gB)=>(0<=i,λ(z:jI×gB)=>0<=z.2.1.2.1/\z.1.1.2.2.2.2.1.length<=10)⟩
def Eo:XA:=⟨216,[.p (.v (.one (.sl ai aO false)))],[.agg [.own ai aO true,.own ay aY true,.c (.int .i64)]],λ((s,()):J6)=>(s.length<=1000,λ(z:EM)=>z.1.1.1=s/\z.1.1.2.1=[]/\z.1.1.2.2.1=1)⟩
def oW:XA:=⟨141,[.p (.v (.agg [.sl ai aO false,.sl ay aY false,.int .i64]))],[.agg [.own ai aO true,.own ay aY true,.c (.int .i64)]],λ((s,()):kZ×Unit)=>(bg s,λ(z:EM)=>(z.1.1.1,z.1.1.2.1,z.1.1.2.2.1,())=s)⟩
def qN:XA:=⟨144,[.p (.v (.agg [.sl ai aO false,.sl ay aY false,.int .i64])),.p (.v (.agg [.int .i64,.int .i64,.bool,.int .i64,.sl aS dh false]))],[.agg [.own ai aO true,.own ay aY true,.c (.int .i64)],.one (.c (.int .i64)),.one (.c .bool)],λ((s,f,()):kZ×jI)=>(bg s/\bV f,λ(z:Xb)=>z.1.1.1=(aI s f).1.1/\z.1.1.2.1=(aI s f).1.2.1/\z.1.1.2.2.1=(aI s f).1.2.2.1/\z.1.2.1=(aI s f).2.1/\z.1.2.2.1=(aI s f).2.2)⟩
def vJ:XA:=⟨148,[.p (.v (.agg [.sl ai aO false,.sl ay aY false,.int .i64])),.p (.v (.one (.int .i64)))],[.agg [.own ai aO true,.own ay aY true,.c (.int .i64)],.one (.c .bool)],λ((s,id,()):kZ×eX)=>(bg s,λ(z:J4)=>z.1.1.1=(aV s id).1.1/\z.1.1.2.1=(aV s id).1.2.1/\z.1.1.2.2.1=(aV s id).1.2.2.1/\z.1.2.1=(aV s id).2)⟩
def uH:XA:=⟨161,[.ptr [.sl eU jo false,.int .i64,.int .i64]],[.agg [.own ai aO true,.own ay aY true,.c (.int .i64)]],λ(((_,i,_,()),()):gB)=>(0<=i,λ(z:Xd)=>0<=z.2.1.2.1/\z.1.1.1=Sp.usual/\aB (z.1.1.1,z.1.1.2.1,z.1.1.2.2.1,())=true/\z.1.1.2.2.1<=z.1.1.2.1.length+2/\bg (z.1.1.1,z.1.1.2.1,z.1.1.2.2.1,())/\0<z.1.1.2.1.length)⟩
def Hg:XA:=⟨166,[.ptr [.sl eU jo false,.int .i64,.int .i64]],[.agg [.c (.sl ai aO false),.c (.sl ay aY false),.c (.int .i64)]],λ(((_,i,_,()),()):gB)=>(0<=i,λ(z:Xd)=>0<=z.2.1.2.1/\bg (z.1.1.1,z.1.1.2.1,z.1.1.2.2.1,())/\∀f∈z.1.1.2.1,f.2.2.2.2.1.length<=400)⟩
def MP:PA:=⟨7,[.v (.one (.sl eU jo false))],[.one (.bool)],λ((code,()):mV)=>(True,decide (1048576<(code.length:Int)),())⟩
def Ci:XA:=⟨193,[.p (.v (.one (.sl ay aY false)))],[.one (.own ay aY false)],λ((l,()):fU×Unit)=>(l.length<=1000/\∀f∈l,bV f,λ(z:agk)=>z.1.1=l)⟩
def lU:XA:=⟨122,[.p (.v (.agg [.sl ai aO false,.sl ay aY false,.int .i64]))],[.agg [.c (.sl ai aO false),.own ay aY false,.c (.int .i64)]],λ((s,()):kZ×Unit)=>(bg s,λ(z:EM)=>(z.1.1.1,z.1.1.2.1,z.1.1.2.2.1,())=s)⟩
def Ac:XA:=⟨282,[.ptr [.sl eU jo false,.int .i64,.int .i64]],[.one (.c .str)],λ(((_,i,_,()),()):gB)=>(0<=i,λ(z:qh)=>0<=z.2.1.2.1/\z.1.1.length<=10)⟩
def wK:XA:=⟨248,[.ptr [.sl eU jo false,.int .i64,.int .i64]],[.agg [.c (.int .i64),.c (.int .i64),.c (.int .i64),.c .str,.c (.int .i64),.c (.int .i64),.c .str]],λ(((_,i,_,()),()):gB)=>(0<=i,λ(z:N8×gB)=>0<=z.2.1.2.1/\True)⟩
def IW:List iw:=[.ptr [.sl eU jo false,.int .i64,.int .i64],.own aW bW,.p (.v (.one (.int .i64))),.p (.v (.one (.bool)))]
def N9:List rM:=[.one (.own aW bW false)]
def RD:jT IW->Prop×(ny N9×mG IW->Prop):=λ((_,i,_,()),q,deep,_,())=>(0<=i/\0<=deep/\deep<=4/\q.length+2*deep.toNat<=900,λ((r,()),((_,i',_,()),()))=>0<=i'/\q.length<r.length/\r.length<=q.length+2*deep.toNat+1)
def abX:IX:=qZ IW N9 RD
def qw:List iw:=[.ptr [.sl eU jo false,.int .i64,.int .i64],.own aW bW,.p (.v (.one (.int .i64))),.p (.v (.one (.bool)))]
def Ik:List rM:=[.one (.own aW bW false)]
def JG[tq]:jT qw->Prop×(ny Ik×mG qw->Prop):=λ((_,i,_,()),q,deep,_,())=>((0<=i/\0<=deep/\deep<=4/\q.length+2*deep.toNat<=900)/\deep.toNat<rX,λ((r,()),((_,i',_,()),()))=>0<=i'/\q.length<r.length/\r.length<=q.length+2*deep.toNat+1)
def AP[tq]:IX:=qZ qw Ik JG
def uI:List iw:=[.ptr [.sl eU jo false,.int .i64,.int .i64],.own aW bW,.p (.v (.one (.int .i64))),.p (.v (.one (.bool)))]
def Gs:List rM:=[.one (.own aW bW false)]
def vY[tq]:jT uI->Prop×(ny Gs×mG uI->Prop):=λ((_,i,_,()),q,deep,_,())=>((0<=i/\0<=deep/\deep<=4/\q.length+2*deep.toNat<=900)/\deep.toNat<rX+1,λ((r,()),((_,i',_,()),()))=>0<=i'/\q.length<r.length/\r.length<=q.length+2*deep.toNat+1)
def Gt[tq]:IX:=qZ uI Gs vY
def qx:List iw:=[.ptr [.sl eU jo false,.int .i64,.int .i64],.p (.v (.one .nil)),.p (.v (.one (.int .i64))),.p (.v (.one (.bool)))]
def Il:List rM:=[.one (.own aW bW false)]
def JH:jT qx->Prop×(ny Il×mG qx->Prop):=λ((_,i,_,()),(),deep,_,())=>(0<=i/\0<=deep/\deep<=4,λ((r,()),((_,i',_,()),()))=>0<=i'/\0<r.length/\r.length<=0+2*deep.toNat+1)
def AQ:IX:=qZ qx Il JH
def tu:XA:=⟨121,[.ptr [.sl eU jo false,.int .i64,.int .i64]],[.one (.own aW bW false)],λ(((_,i,_,()),()):gB)=>(0<=i,λ(z:zQ)=>0<=z.2.1.2.1/\0<z.1.1.length/\z.1.1.length<=9)⟩
def lI:XA:=⟨121,[.ptr [.sl eU jo false,.int .i64,.int .i64]],[.one (.c (.sl aW bW false))],λ(((_,i,_,()),()):gB)=>(0<=i,λ(z:zQ)=>0<=z.2.1.2.1/\0<z.1.1.length/\z.1.1.length<=9)⟩
def Hl:XA:=⟨219,[.ptr [.sl eU jo false,.int .i64,.int .i64]],[.one (.c (.sl aW bW false))],λ(((_,i,_,()),()):gB)=>(0<=i,λ(z:zQ)=>0<=z.2.1.2.1/\z.1.1.length<=10)⟩
def AU:XA:=⟨218,[.ptr [.sl eU jo false,.int .i64,.int .i64]],[.one (.own aG aP false)],λ(((_,i,_,()),()):gB)=>(0<=i,λ(z:jW×gB)=>0<=z.2.1.2.1/\0<z.1.1.length/\z.1.1.length<=4/\aC z.1.1)⟩
def Ho:XA:=⟨165,[.ptr [.sl eU jo false,.int .i64,.int .i64]],[.one (.c (.sl aG aP false))],λ(((_,i,_,()),()):gB)=>(0<=i,λ(z:jW×gB)=>0<=z.2.1.2.1/\z.1.1.length<=10/\aC z.1.1)⟩
def AX:XA:=⟨162,[.ptr [.sl eU jo false,.int .i64,.int .i64]],[.one (.c (.sl aG aP false))],λ(((_,i,_,()),()):gB)=>(0<=i,λ(z:jW×gB)=>0<=z.2.1.2.1/\z.1.1.length<=10/\aC z.1.1/\aj z.1.1=true/\0<z.1.1.length)⟩
def yK:PA:=⟨235,[.v (.agg [.int .i64,.int .i64,.int .i64,.str,.int .i64,.int .i64,.str]),.v (.one (.int .i64))],[.one (.bool)],λ(((o,l,r,nm,vk,vi,vs,()),at',()):abU×eX)=>(True,kK (o,l,r,nm,vk,vi,vs,()) at',())⟩
def yL:PA:=⟨224,[.v (.agg [.int .i64,.int .i64,.int .i64,.str,.int .i64,.int .i64,.str]),.v (.one (.int .i64))],[.one (.bool)],λ(((o,l,r,nm,vk,vi,vs,()),at',()):abU×eX)=>(True,kK (o,l,r,nm,vk,vi,vs,()) at',())⟩
def sO:PA:=⟨236,[.v (.one (.sl aW bW false)),.v (.one (.int .i64))],[.one (.int .i64)],λ((q,at',()):jg×eX)=>(q.length<=1000000,(nC q at':Int),())⟩
def sQ:PA:=⟨225,[.v (.one (.sl aW bW false)),.v (.one (.int .i64))],[.one (.int .i64)],λ((q,at',()):jg×eX)=>(q.length<=1000000,(nC q at':Int),())⟩
def nP:PA:=⟨179,[.v (.one (.sl aW bW false))],[.one (.bool)],λ((q,()):D9)=>(q.length<=1000000,bQ q,())⟩
def nR:PA:=⟨171,[.v (.one (.sl aW bW false))],[.one (.bool)],λ((q,()):D9)=>(q.length<=1000000,bQ q,())⟩
def oZ:PA:=⟨211,[.v (.one (.sl aG aP false))],[.one (.bool)],λ((d,()):jW)=>(aC d,bI d,())⟩
def o9:PA:=⟨134,[.v (.one (.sl aG aP false))],[.one (.bool)],λ((d,()):jW)=>(aC d,bI d,())⟩
def yM:PA:=⟨258,[.v (.agg [.int .i64,.int .i64,.int .i64,.str,.int .i64,.int .i64,.str])],[.one (.bool)],λ(((o,_,_,_,_,_,_,()),()):N8)=>(True,(o==8||o==9),())⟩
def xE:PA:=⟨313,[.v (.one (.sl aW bW false))],[.one (.sl adS R_4 true)],λ((q,()):D9)=>(q.length<=1000,Sp.negated q,())⟩
def xG:PA:=⟨304,[.v (.one (.sl aW bW false))],[.one (.sl adS R_4 true)],λ((q,()):D9)=>(q.length<=1000,Sp.negated q,())⟩
def jB:List iw:=[.p (.v (.one (.sl dH eY false)))]
def Eb:List rM:=[.one (.c (.sl dH eY true))]
def MJ:jT jB->Prop×(ny Eb×mG jB->Prop):=λ(l,())=>(l.length<=1000,λ((r,()),())=>r.length<=l.length/\∀s,s∈r↔s∈l)
def lC:IX:=qZ jB Eb MJ
def wX:XA:=⟨281,[.p (.v (.one (.sl aW bW false))),.p (.v (.one (.bool)))],[.one (.c (.sl dH eY true))],λ((q,neg,()):jg×dA)=>(q.length<=1000,λ(z:gX)=>dP z.1.1 (fK q neg))⟩
def xH:XA:=⟨244,[.p (.v (.one (.sl aW bW false)))],[.one (.c (.sl dH eY true))],λ((q,()):D9)=>(q.length<=1000,λ(z:gX)=>dP z.1.1 (fK q false))⟩
def xI:XA:=⟨245,[.p (.v (.one (.sl aW bW false)))],[.one (.c (.sl dH eY true))],λ((q,()):D9)=>(q.length<=1000,λ(z:gX)=>dP z.1.1 (fK q true))⟩
def qU:PA:=⟨48,[.v (.one (.sl dH eY false)),.v (.one (.str))],[.one (.sl dH eY false)],λ((l,s,()):qY×lK)=>(l.length<=1000,AY l s,())⟩
def yN:XA:=⟨303,[.p (.v (.one (.sl aW bW false))),.p (.v (.one (.bool)))],[.one (.c (.sl dH eY true))],λ((q,neg,()):jg×dA)=>(q.length<=1000,λ(z:gX)=>dP z.1.1 (fK q neg))⟩
def xJ:XA:=⟨279,[.p (.v (.one (.sl aW bW false)))],[.one (.c (.sl dH eY true))],λ((q,()):D9)=>(q.length<=1000,λ(z:gX)=>dP z.1.1 (fK q false))⟩
def xK:XA:=⟨280,[.p (.v (.one (.sl aW bW false)))],[.one (.c (.sl dH eY true))],λ((q,()):D9)=>(q.length<=1000,λ(z:gX)=>dP z.1.1 (fK q true))⟩
def AZ:PA:=⟨203,[.v (.agg [.str,.sl aW bW false]),.kp [.str]],[.one (.bool)],λ(((nm,_,()),name,()):MI×lK×Unit)=>(True,(nm==name.1),())⟩
def iR:PA:=⟨200,[.v (.one (.sl aG aP false)),.fn 203 [[.str]]],[.one (.int .i64)],λ((d,((name,()),()),()):dV×(lK×Unit)×Unit)=>(True,aJ d name,())⟩
def A7:PA:=⟨133,[.v (.one (.sl aG aP false)),.v (.one (.str))],[.one (.int .i64)],λ((d,name,()):dV×lK)=>(True,aJ d name,())⟩
def yO:PA:=⟨176,[.v (.one (.sl aG aP false)),.v (.one (.str))],[.one (.int .i64)],λ((d,name,()):dV×lK)=>(True,aJ d name,())⟩
def yP:PA:=⟨243,[.v (.one (.sl aG aP false)),.v (.one (.sl dZ iQ false)),.v (.one (.sl dH eY false)),.v (.one (.int .i64))],[.one (.int .i64)],λ((d,aH,names,more,()):dV×dO×qY×eX)=>(d.length<=aH.length/\names.length<=1000/\0<=more/\more<=1/\∀x∈aH,0<=x.1/\x.1<=1000000,yQ d aH more names,())⟩
def yA:XA:=⟨187,[.p (.v (.one (.sl aG aP false)))],[.one (.c (.sl dZ iQ true)),.one (.c .bool)],λ((d,()):jW)=>(aC d,λ(z:N7)=>z.1.2.1=aj d/\(z.1.2.1=true->kF d z.1.1))⟩
def xM:PA:=⟨132,[.v (.one (.sl aG aP false))],[.one (.bool)],λ((d,()):jW)=>(aC d,aj d,())⟩
def uJ:XA:=⟨241,[.p (.v (.one (.sl aG aP false))),.p (.v (.one (.sl dZ iQ false)))],[.one (.own dZ iQ true)],λ((d,aH,()):dV×mV)=>(aC d/\d.length<=5/\aH.length=d.length/\∀x∈aH,0<=x.1/\x.1<=1000000,λ(z:EN)=>Sp.raised d aH z.1.1)⟩
def su:PA:=⟨113,[.v (.one (.sl dZ iQ false)),.v (.one (.sl dZ iQ false))],[.one (.bool)],λ((a,b,()):H7)=>(True,decide (a=b),())⟩
def ve:XA:=⟨184,[.p (.v (.one (.sl aG aP false)))],[.one (.c (.sl dZ iQ true)),.one (.c .bool)],λ((d,()):jW)=>(aC d,λ(z:N7)=>z.1.2.1=aj d/\(z.1.2.1=true->kF d z.1.1)/\(z.1.2.1=false->z.1.1=[]))⟩
def rO:PA:=⟨150,[.v (.one (.sl aG aP false))],[.one (.bool)],λ((d,()):jW)=>(aC d,aj d,())⟩
def qy:PA:=⟨222,[.v (.one (.sl aW bW false))],[.one (.sl aW bW false)],λ((l,()):D9)=>(l.length<=1000,l,())⟩
def wL:PA:=⟨167,[.v (.agg [.str,.sl aW bW false])],[.agg [.str,.sl aW bW false]],λ(((n,q,()),()):MI×Unit)=>(q.length<=1000,(n,q,()),())⟩
def yR:PA:=⟨123,[.v (.one (.sl aG aP false))],[.one (.sl aG aP false)],λ((d,()):jW)=>(aC d,d,())⟩
def sD:PA:=⟨142,[.v (.one (.sl aG aP false))],[.one (.sl aG aP true)],λ((d,()):jW)=>(aC d,d,())⟩
def Cj:PA:=⟨183,[.v (.one (.sl aW bW false)),.v (.one (.sl aW bW false))],[.one (.bool)],λ((a,b,()):jg×D9)=>(True,decide (a=b),())⟩
def Fp:PA:=⟨109,[.v (.agg [.str,.sl aW bW false]),.v (.agg [.str,.sl aW bW false])],[.one (.bool)],λ((a,b,()):MI×MI×Unit)=>(True,decide (a=b),())⟩
def Ep:PA:=⟨40,[.v (.one (.sl aG aP false)),.v (.one (.sl aG aP false))],[.one (.bool)],λ((a,b,()):dV×jW)=>(True,decide (a=b),())⟩
def sF:PA:=⟨270,[.v (.agg [.int .i64,.int .i64,.bool,.int .i64,.sl aS dh false]),.v (.one (.str))],[.agg [.int .i64,.int .i64,.str]],λ(((_,_,_,_,a,()),name,()):Ej×lK)=>(True,dJ a name,())⟩
def wM:PA:=⟨47,[.v (.agg [.int .i64,.int .i64,.bool,.int .i64,.sl aS dh false]),.v (.one (.str))],[.agg [.int .i64,.int .i64,.str]],λ(((_,_,_,_,a,()),name,()):Ej×lK)=>(True,dJ a name,())⟩
def A8:PA:=⟨271,[.v (.agg [.int .i64,.int .i64,.bool,.int .i64,.sl aS dh false]),.v (.one (.str))],[.one (.int .i64),.one (.bool)],λ(((_,_,_,_,a,()),name,()):Ej×lK)=>(True,(bif (dJ a name).1==1 then(dJ a name).2.1 else 0),((dJ a name).1==1),())⟩
def yS:PA:=⟨275,[.v (.one (.sl dZ iQ false)),.v (.one (.int .i64))],[.one (.int .i64)],λ((s,v,()):dO×eX)=>(True,Sp.findAt (λx=>x.1==v) s,())⟩
def pq:PA:=⟨233,[.v (.one (.sl dZ iQ false)),.v (.one (.int .i64))],[.one (.bool)],λ((s,v,()):dO×eX)=>(True,fM s v,())⟩
def uK:PA:=⟨206,[.v (.one (.sl dH eY false)),.v (.one (.str))],[.one (.int .i64)],λ((s,v,()):qY×lK)=>(True,Sp.findAt (λx=>x.1==v) s,())⟩
def jh:PA:=⟨139,[.v (.one (.sl dH eY false)),.v (.one (.str))],[.one (.bool)],λ((s,v,()):qY×lK)=>(True,dI s v,())⟩
def vK:PA:=⟨174,[.v (.one (.sl dZ iQ false)),.v (.one (.int .i64))],[.one (.bool)],λ((s,v,()):dO×eX)=>(True,fM s v,())⟩
def qO:PA:=⟨42,[.v (.one (.sl dZ iQ false)),.v (.one (.int .i64))],[.one (.bool)],λ((s,v,()):dO×eX)=>(True,fM s v,())⟩
def tC:PA:=⟨194,[.v (.one (.sl dZ iQ false))],[.one (.sl dZ iQ false)],λ((l,()):mV)=>(l.length<=1000,l,())⟩
def oJ:PA:=⟨157,[.v (.one (.sl ax aU false)),.v (.one (.str))],[.one (.sl dZ iQ false)],λ((r,name,()):gQ×lK)=>(bF r,fO r name,())⟩
def oK:PA:=⟨111,[.v (.one (.sl ax aU false)),.v (.one (.str))],[.one (.sl dZ iQ true)],λ((r,name,()):gQ×lK)=>(bF r,fO r name,())⟩
def MK:List ji:=[.v (.one (.sl aW bW false)),.v (.one (.int .i64)),.v (.agg [.int .i64,.int .i64,.bool,.int .i64,.sl aS dh false]),.v (.one (.sl ax aU false))]
def KX:List tH:=[.one (.bool)]
def abY:nD MK->Prop×xO KX:=λ(q,at',(i,o,s,l,a,()),r,())=>(bQ q=true/\0<=at'/\at'<q.length/\bF r,Sp.val q (i,o,s,l,a,()) (bD r) at'.toNat,())
def KY:VI:=Gl MK KX abY
def Gu:List ji:=[.v (.one (.sl aW bW false)),.v (.one (.int .i64)),.v (.agg [.int .i64,.int .i64,.bool,.int .i64,.sl aS dh false]),.v (.one (.sl ax aU false))]
def F8:List tH:=[.one (.bool)]
def Io[tq]:nD Gu->Prop×xO F8:=λ(q,at',(i,o,s,l,a,()),r,())=>((bQ q=true/\0<=at'/\at'<q.length/\bF r)/\at'.toNat<rX,Sp.val q (i,o,s,l,a,()) (bD r) at'.toNat,())
def yu[tq]:VI:=Gl Gu F8 Io
def yw:List ji:=[.v (.one (.sl aW bW false)),.v (.one (.int .i64)),.v (.agg [.int .i64,.int .i64,.bool,.int .i64,.sl aS dh false]),.v (.one (.sl ax aU false))]
def EO:List tH:=[.one (.bool)]
def Gv[tq]:nD yw->Prop×xO EO:=λ(q,at',(i,o,s,l,a,()),r,())=>((bQ q=true/\0<=at'/\at'<q.length/\bF r)/\at'.toNat<rX+1,Sp.val q (i,o,s,l,a,()) (bD r) at'.toNat,())
def EP[tq]:VI:=Gl yw EO Gv
def P9:List ji:=[.v (.one (.sl aW bW false)),.v (.one (.int .i64)),.v (.agg [.int .i64,.int .i64,.bool,.int .i64,.sl aS dh false]),.v (.one (.sl ax aU false))]
def Oa:List tH:=[.one (.bool)]
def agl:nD P9->Prop×xO Oa:=λ(q,at',(i,o,s,l,a,()),r,())=>(bQ q=true/\0<=at'/\at'<q.length/\bF r,Sp.val q (i,o,s,l,a,()) (bD r) at'.toNat,())
def Ob:VI:=Gl P9 Oa agl
def IY:List ji:=[.v (.one (.sl aW bW false)),.v (.one (.int .i64)),.v (.agg [.int .i64,.int .i64,.bool,.int .i64,.sl aS dh false]),.v (.one (.sl ax aU false))]
def Ip:List tH:=[.one (.bool)]
def JI[tq]:nD IY->Prop×xO Ip:=λ(q,at',(i,o,s,l,a,()),r,())=>((bQ q=true/\0<=at'/\at'<q.length/\bF r)/\at'.toNat<rX,Sp.val q (i,o,s,l,a,()) (bD r) at'.toNat,())
def Ba[tq]:VI:=Gl IY Ip JI
def Bc:List ji:=[.v (.one (.sl aW bW false)),.v (.one (.int .i64)),.v (.agg [.int .i64,.int .i64,.bool,.int .i64,.sl aS dh false]),.v (.one (.sl ax aU false))]
def Gw:List tH:=[.one (.bool)]
def IZ[tq]:nD Bc->Prop×xO Gw:=λ(q,at',(i,o,s,l,a,()),r,())=>((bQ q=true/\0<=at'/\at'<q.length/\bF r)/\at'.toNat<rX+1,Sp.val q (i,o,s,l,a,()) (bD r) at'.toNat,())
def Gx[tq]:VI:=Gl Bc Gw IZ
def Fq:PA:=⟨247,[.v (.one (.sl aW bW false)),.v (.agg [.int .i64,.int .i64,.bool,.int .i64,.sl aS dh false]),.v (.one (.sl ax aU false))],[.one (.bool)],λ((q,f,r,()):jg×Ej×nT)=>(q.length<=1000/\bF r,iO q f (bD r),())⟩
def Fv:PA:=⟨242,[.v (.one (.sl aW bW false)),.v (.agg [.int .i64,.int .i64,.bool,.int .i64,.sl aS dh false]),.v (.one (.sl ax aU false))],[.one (.bool)],λ((q,f,r,()):jg×Ej×nT)=>(q.length<=1000/\bF r,iO q f (bD r),())⟩
def yT:PA:=⟨189,[.v (.agg [.sl ai aO false,.sl ay aY false,.int .i64]),.v (.one (.sl aW bW false)),.v (.one (.sl ax aU false))],[.one (.sl dZ iQ true)],λ((s,q,r,()):kZ×jg×nT)=>(bg s/\q.length<=1000/\bF r,Sp.sel s.2.1 q (bD r),())⟩
def tJ:PA:=⟨186,[.v (.agg [.sl ai aO false,.sl ay aY false,.int .i64]),.v (.one (.sl aW bW false)),.v (.one (.sl ax aU false))],[.one (.sl dZ iQ true)],λ((s,q,r,()):kZ×jg×nT)=>(bg s/\q.length<=1000/\bF r,Sp.sel s.2.1 q (bD r),())⟩
def tK:PA:=⟨118,[.v (.one (.sl dZ iQ false)),.v (.one (.sl dZ iQ false))],[.one (.bool)],λ((a,b,()):H7)=>(True,decide (a=b),())⟩
def pz:PA:=⟨117,[.v (.agg [.str,.sl dZ iQ false]),.v (.agg [.str,.sl dZ iQ false])],[.one (.bool)],λ((a,b,()):(gZ×mV)×(gZ×mV)×Unit)=>(True,decide (a=b),())⟩
def fA:PA:=⟨116,[.v (.one (.sl ax aU false)),.v (.one (.sl ax aU false)),.fn 117 []],[.one (.bool)],λ((a,b,_,()):gQ×gQ×lM)=>(True,decide (a=b),())⟩
def xP:PA:=⟨50,[.v (.one (.sl ax aU false)),.v (.one (.sl ax aU false))],[.one (.bool)],λ((a,b,()):gQ×nT)=>(True,decide (a=b),())⟩
def xQ:PA:=⟨45,[.v (.one (.sl ax aU false)),.v (.one (.sl ax aU false))],[.one (.bool)],λ((a,b,()):gQ×nT)=>(True,decide (a=b),())⟩
def Cm:XA:=⟨246,[.p (.v (.one (.sl dZ iQ false)))],[.one (.c (.int .i64))],λ((l,()):mV)=>(0<l.length,λ(z:gu)=>(∀x∈l,x.1<=z.1.1)/\(z.1.1,())∈l)⟩
def Ad:XA:=⟨188,[.p (.v (.one (.sl aG aP false)))],[.one (.c (.int .i64))],λ((d,()):jW)=>(aC d,λ(z:gu)=>Xg d z.1.1)⟩
def vM:XA:=⟨185,[.p (.v (.one (.sl aG aP false)))],[.one (.c (.int .i64))],λ((d,()):jW)=>(aC d,λ(z:gu)=>Xg d z.1.1)⟩
def qA:PA:=⟨115,[.v (.one (.sl aG aP false))],[.one (.sl dH eY true)],λ((d,()):jW)=>(d.length<=1000,fP d,())⟩
def uM:PA:=⟨146,[.v (.one (.sl aG aP false))],[.one (.sl dH eY true)],λ((d,()):jW)=>(d.length<=1000,fP d,())⟩
def wY:XA:=⟨114,[.p (.v (.agg [.sl ai aO false,.sl ay aY false,.int .i64])),.p (.v (.one (.sl aG aP false))),.p (.v (.one (.sl ax aU false))),.p (.v (.one (.sl dH eY false)))],[.one (.c (.sl ax aU false)),.one (.c (.int .i64)),.one (.c .bool)],λ((s,d,r,names,()):kZ×dV×gQ×H6)=>(bg s/\aC d/\bF r,λ(z:abV)=>z.1.2.2.1=(aj d&&aB s)/\(z.1.2.2.1=true->fQ s.2.1 d r (dI names) z.1.1))⟩
def Es:XA:=⟨49,[.p (.v (.agg [.sl ai aO false,.sl ay aY false,.int .i64])),.p (.v (.one (.sl aG aP false)))],[.one (.c (.sl ax aU false)),.one (.c .bool)],λ((s,d,()):kZ×jW)=>(bg s/\aC d,λ(z:J5)=>z.1.2.1=(aj d&&aB s)/\(z.1.2.1=true->fQ s.2.1 d [] (λ_=>true) z.1.1))⟩
def Ae:XA:=⟨136,[.p (.v (.agg [.sl ai aO false,.sl ay aY false,.int .i64])),.p (.v (.one (.sl aG aP false))),.p (.v (.one (.sl ax aU false))),.p (.v (.one (.sl dH eY false)))],[.one (.c (.sl ax aU false)),.one (.c .bool)],λ((s,d,r,names,()):kZ×dV×gQ×H6)=>(bg s/\aC d/\bF r,λ(z:J5)=>z.1.2.1=(aj d&&aB s)/\(z.1.2.1=true->fQ s.2.1 d r (dI names) z.1.1))⟩
def Hq:XA:=⟨112,[.p (.v (.agg [.sl ai aO false,.sl ay aY false,.int .i64])),.p (.v (.one (.sl aG aP false)))],[.one (.own ax aU false),.one (.c (.int .i64)),.one (.c .bool)],λ((s,d,()):kZ×jW)=>(bg s/\aC d,λ(z:abV)=>z.1.2.2.1=(aj d&&aB s)/\(z.1.2.2.1=true->fQ s.2.1 d [] (λ_=>true) z.1.1))⟩
def yU:XA:=⟨44,[.p (.v (.agg [.sl ai aO false,.sl ay aY false,.int .i64])),.p (.v (.one (.sl aG aP false)))],[.one (.own ax aU false),.one (.c .bool)],λ((s,d,()):kZ×jW)=>(bg s/\aC d,λ(z:J5)=>z.1.2.1=(aj d&&aB s)/\(z.1.2.1=true->fQ s.2.1 d [] (λ_=>true) z.1.1))⟩
def Af:XA:=⟨209,[.p (.v (.agg [.sl ai aO false,.sl ay aY false,.int .i64])),.p (.v (.one (.sl aG aP false))),.p (.v (.one (.sl ax aU false))),.p (.v (.one (.sl dH eY false)))],[.one (.c (.sl ax aU false)),.one (.c .bool)],λ((s,d,r,names,()):kZ×dV×gQ×H6)=>(bg s/\aC d/\bF r,λ(z:J5)=>z.1.2.1=(aj d&&aB s)/\(z.1.2.1=true->fQ s.2.1 d r (dI names) z.1.1))⟩
def vN:XA:=⟨160,[.p (.v (.agg [.sl ai aO false,.sl ay aY false,.int .i64])),.p (.v (.one (.sl aG aP false)))],[.agg [.c (.sl ai aO false),.c (.sl ay aY false),.c (.int .i64),.c (.sl aG aP false),.own ax aU false],.one (.c .bool)],λ((s,d,()):kZ×jW)=>(bg s/\aC d,λ(z:(yj×dA)×Unit)=>z.1.2.1=(aj d&&aB s)/\(z.1.2.1=true->(z.1.1.1,z.1.1.2.1,z.1.1.2.2.1,())=s/\z.1.1.2.2.2.1=d/\fQ s.2.1 d [] (λ_=>true) z.1.1.2.2.2.2.1)/\(z.1.2.1=false->(z.1.1.1,z.1.1.2.1,z.1.1.2.2.1,z.1.1.2.2.2.1,z.1.1.2.2.2.2.1,())=([],[],0,[],[],())))⟩
def jJ:PA:=⟨20,[.v (.agg [.sl ai aO false,.sl ay aY false,.int .i64,.sl aG aP false,.sl ax aU false])],[.one (.bool)],λ((c,()):zO)=>(dF c,cO c,())⟩
def kQ:PA:=⟨17,[.v (.agg [.sl ai aO false,.sl ay aY false,.int .i64,.sl aG aP false,.sl ax aU false])],[.one (.bool)],λ((c,()):zO)=>(dF c,cO c,())⟩
def yB:PA:=⟨126,[.v (.agg [.sl ai aO false,.sl ay aY false,.int .i64]),.v (.one (.int .i64))],[.one (.int .i64)],λ(((_,fs,_,()),id,()):kZ×eX)=>(True,Sp.place fs id,())⟩
def yV:PA:=⟨197,[.v (.agg [.int .i64,.int .i64,.bool,.int .i64,.sl aS dh false]),.kp [.int .i64]],[.one (.bool)],λ(((i,_,_,_,_,()),id,()):Ej×gu)=>(True,decide (i=id.1),())⟩
def iH:PA:=⟨196,[.v (.one (.sl ay aY false)),.fn 197 [[.int .i64]]],[.one (.int .i64)],λ((l,((id,()),()),()):fU×gu×Unit)=>(True,Sp.place l id,())⟩
def yX:PA:=⟨57,[.v (.agg [.sl ai aO false,.sl ay aY false,.int .i64]),.v (.one (.int .i64))],[.agg [.int .i64,.int .i64,.bool,.int .i64,.sl aS dh false],.one (.bool)],λ((s,id,()):kZ×eX)=>(bg s,(bf s id).1,(bf s id).2,())⟩
def yY:PA:=⟨29,[.v (.agg [.sl ai aO false,.sl ay aY false,.int .i64]),.v (.one (.int .i64))],[.agg [.int .i64,.int .i64,.bool,.int .i64,.sl aS dh false],.one (.bool)],λ((s,id,()):kZ×eX)=>(bg s,(bf s id).1,(bf s id).2,())⟩
def yZ:XA:=⟨128,[.p (.v (.agg [.sl ai aO false,.sl ay aY false,.int .i64])),.p (.v (.agg [.int .i64,.int .i64,.bool,.int .i64,.sl aS dh false]))],[.agg [.c (.sl ai aO false),.own ay aY false,.c (.int .i64)],.one (.c .bool)],λ((s,f,()):kZ×jI)=>(bg s/\bV f,λ(z:J4)=>z.1.1.1=(aT s f).1.1/\z.1.1.2.1=(aT s f).1.2.1/\z.1.1.2.2.1=(aT s f).1.2.2.1/\z.1.2.1=(aT s f).2)⟩
def zf:XA:=⟨106,[.p (.v (.agg [.sl ai aO false,.sl ay aY false,.int .i64])),.p (.v (.agg [.int .i64,.int .i64,.bool,.int .i64,.sl aS dh false]))],[.agg [.own ai aO true,.own ay aY true,.c (.int .i64)],.one (.c .bool)],λ((s,f,()):kZ×jI)=>(bg s/\bV f,λ(z:J4)=>z.1.1.1=(aT s f).1.1/\z.1.1.2.1=(aT s f).1.2.1/\z.1.1.2.2.1=(aT s f).1.2.2.1/\z.1.2.1=(aT s f).2)⟩
def H8:PA:=⟨284,[.v (.agg [.int .i64,.int .i64,.bool,.int .i64,.sl aS dh false])],[.one (.sl dH eY true)],λ(((_,_,_,_,a,()),()):jI)=>(a.length<=1000,gG a,())⟩
def xR:XA:=⟨250,[.p (.v (.agg [.int .i64,.int .i64,.bool,.int .i64,.sl aS dh false])),.p (.v (.agg [.int .i64,.int .i64,.bool,.int .i64,.sl aS dh false]))],[.one (.c (.sl dH eY true))],λ((f,g,()):Ej×jI)=>(bV f/\bV g/\f.2.2.2.2.1.length+g.2.2.2.2.1.length<=1000,λ(z:gX)=>dP z.1.1 (jk f g))⟩
def xU:XA:=⟨19,[.p (.v (.agg [.int .i64,.int .i64,.bool,.int .i64,.sl aS dh false])),.p (.v (.agg [.int .i64,.int .i64,.bool,.int .i64,.sl aS dh false]))],[.one (.c (.sl dH eY true))],λ((f,g,()):Ej×jI)=>(bV f/\bV g/\f.2.2.2.2.1.length+g.2.2.2.2.1.length<=1000,λ(z:gX)=>dP z.1.1 (jk f g))⟩
def Ag:XA:=⟨251,[.p (.v (.one (.sl aW bW false)))],[.one (.c (.sl dH eY true))],λ((q,()):D9)=>(q.length<=1000,λ(z:gX)=>dP z.1.1 (kW q))⟩
def Ah:XA:=⟨262,[.p (.v (.one (.sl aW bW false)))],[.one (.c (.sl dH eY true))],λ((q,()):D9)=>(q.length<=1000,λ(z:gX)=>dP z.1.1 (kW q))⟩
def CB:XA:=⟨205,[.p (.v (.one (.sl aW bW false)))],[.one (.c (.sl dH eY true))],λ((q,()):D9)=>(q.length<=1000,λ(z:gX)=>dP z.1.1 (nX q))⟩
def CG:XA:=⟨212,[.p (.v (.one (.sl aW bW false)))],[.one (.c (.sl dH eY true))],λ((q,()):D9)=>(q.length<=1000,λ(z:gX)=>dP z.1.1 (nX q))⟩
def yC:PA:=⟨213,[.v (.one (.sl dH eY false)),.v (.one (.str))],[.one (.bool)],λ((l,s,()):qY×lK)=>(True,dI l s,())⟩
def Ai:XA:=⟨138,[.p (.v (.one (.sl aG aP false))),.p (.v (.one (.str)))],[.one (.c (.sl dH eY true))],λ((d,name,()):dV×lK)=>(aC d,λ(z:gX)=>z.1.1=Sp.asking d name)⟩
def jq:XA:=⟨64,[.p (.v (.one (.sl aG aP false))),.p (.v (.one (.sl dH eY false)))],[.one (.c (.sl dH eY true))],λ((d,names,()):dV×H6)=>(aC d/\d.length<=5/\names.length<=900,λ(z:gX)=>Sp.reached d names z.1.1)⟩
def jr:XA:=⟨151,[.p (.v (.one (.sl aG aP false))),.p (.v (.one (.sl dH eY false)))],[.one (.c (.sl dH eY true))],λ((d,names,()):dV×H6)=>(aC d/\d.length<=5/\names.length<=900,λ(z:gX)=>Sp.reached d names z.1.1)⟩
def jO:PA:=⟨255,[.v (.agg [.int .i64,.int .i64,.int .i64,.str,.int .i64,.int .i64,.str])],[.one (.bool)],λ(((o,_,_,_,_,_,_,()),()):N8)=>(True,(o==9),())⟩
def gI:PA:=⟨286,[.v (.one (.sl aW bW false)),.fn 255 []],[.one (.int .i64)],λ((q,_,()):jg×lM)=>(True,Sp.findAt (λn=>n.1==9) q,())⟩
def fV:PA:=⟨254,[.v (.one (.sl aW bW false)),.fn 255 []],[.one (.bool)],λ((q,_,()):jg×lM)=>(True,Sp.linked q,())⟩
def CJ:PA:=⟨261,[.v (.one (.sl aW bW false))],[.one (.bool)],λ((q,()):D9)=>(True,Sp.linked q,())⟩
def ru:XA:=⟨198,[.p (.v (.one (.sl aG aP false))),.p (.v (.agg [.int .i64,.int .i64,.bool,.int .i64,.sl aS dh false])),.p (.v (.agg [.int .i64,.int .i64,.bool,.int .i64,.sl aS dh false]))],[.one (.c (.sl dH eY true))],λ((d,f,g,()):dV×Ej×jI)=>(aC d/\bV f/\bV g/\f.2.2.2.2.1.length+g.2.2.2.2.1.length<=1000,λ(z:gX)=>Sp.touched d f g z.1.1)⟩
def rC:XA:=⟨210,[.p (.v (.one (.sl aG aP false))),.p (.v (.agg [.int .i64,.int .i64,.bool,.int .i64,.sl aS dh false])),.p (.v (.agg [.int .i64,.int .i64,.bool,.int .i64,.sl aS dh false]))],[.one (.c (.sl dH eY true))],λ((d,f,g,()):dV×Ej×jI)=>(aC d/\bV f/\bV g/\f.2.2.2.2.1.length+g.2.2.2.2.1.length<=1000,λ(z:gX)=>Sp.touched d f g z.1.1)⟩
def jP:PA:=⟨253,[.v (.one (.str)),.kp [.sl dH eY false]],[.one (.bool)],λ((nm,attrs,()):gZ×gX)=>(True,dI attrs.1 nm,())⟩
def gW:PA:=⟨285,[.v (.one (.sl dH eY false)),.fn 253 [[.sl dH eY false]]],[.one (.int .i64)],λ((l,((attrs,()),()),()):qY×gX×Unit)=>(True,Sp.findAt (λx=>dI attrs x.1) l,())⟩
def gJ:PA:=⟨252,[.v (.one (.sl dH eY false)),.fn 253 [[.sl dH eY false]]],[.one (.bool)],λ((l,((attrs,()),()),()):qY×gX×Unit)=>(True,l.any λx=>dI attrs x.1,())⟩
def ou:XA:=⟨137,[.p (.v (.one (.sl dH eY false)))],[.one (.own dH eY false)],λ((l,()):H6)=>(l.length<=1000,λ(z:gX)=>z.1.1=l)⟩
def rD:XA:=⟨194,[.p (.v (.one (.sl dZ iQ false)))],[.one (.own dZ iQ false)],λ((l,()):mV)=>(l.length<=1000,λ(z:EN)=>z.1.1=l)⟩
def sG:PA:=⟨265,[.v (.one (.int .i64)),.kp [.sl dZ iQ false]],[.one (.bool)],λ((x,b,()):Int×EN)=>(True,fM b.1 x,())⟩
def jm:PA:=⟨300,[.v (.one (.sl dZ iQ false)),.fn 265 [[.sl dZ iQ false]]],[.one (.int .i64)],λ((l,((b,()),()),()):dO×EN×Unit)=>(True,Sp.findAt (λx=>fM b x.1) l,())⟩
def jf:XA:=⟨264,[.own dZ iQ,.p (.fn 265 [[.sl dZ iQ false]])],[.one (.own dZ iQ false)],λ((s,((b,()),()),()):dO×EN×Unit)=>(s.length<=1000,λ(z:EN)=>z.1.1=s.filter λx=>!fM b x.1)⟩
def Fz:XA:=⟨215,[.p (.v (.one (.sl dZ iQ false))),.p (.v (.one (.sl dZ iQ false)))],[.one (.own dZ iQ false)],λ((a,b,()):H7)=>(a.length<=1000,λ(z:EN)=>z.1.1=Sp.without a b)⟩
def FB:XA:=⟨156,[.p (.v (.one (.sl dZ iQ false))),.p (.v (.one (.sl dZ iQ false)))],[.one (.c (.sl dZ iQ false)),.one (.c (.sl dZ iQ false))],λ((a,b,()):H7)=>(a.length<=1000/\b.length<=1000,λ(z:H7×Unit)=>z.1.1=Sp.without b a/\z.1.2.1=Sp.without a b)⟩
def FC:XA:=⟨158,[.p (.v (.one (.sl dZ iQ false))),.p (.v (.one (.sl dZ iQ false)))],[.one (.c (.sl dZ iQ false)),.one (.c (.sl dZ iQ false))],λ((a,b,()):H7)=>(a.length<=1000/\b.length<=1000,λ(z:H7×Unit)=>z.1.1=Sp.without b a/\z.1.2.1=Sp.without a b)⟩
def tN:XA:=⟨78,[.p (.v (.one (.sl ax aU false))),.p (.v (.one (.sl ax aU false)))],[.one (.c (.sl iq kG false))],λ((a,b,()):gQ×nT)=>(bF a/\bF b,λ(z:Xc)=>z.1.1=xW a b)⟩
def tV:XA:=⟨79,[.p (.v (.one (.sl ax aU false))),.p (.v (.one (.sl ax aU false)))],[.one (.c (.sl iq kG false))],λ((a,b,()):gQ×nT)=>(bF a/\bF b,λ(z:Xc)=>z.1.1=xW a b)⟩
def zh:XA:=⟨124,[.p (.v (.one (.sl ax aU false)))],[.one (.c (.sl ax aU false))],λ((r,()):nT)=>(bF r,λ(z:nT×Unit)=>z.1.1=r)⟩
def iW:XA:=⟨55,[.p (.v (.agg [.sl ai aO false,.sl ay aY false,.int .i64,.sl aG aP false,.sl ax aU false]))],[.agg [.c (.sl ai aO false),.c (.sl ay aY false),.c (.int .i64),.c (.sl aG aP false),.c (.sl ax aU false)]],λ((c,()):zO)=>(dF c,λ(z:lg)=>(z.1.1.1,z.1.1.2.1,z.1.1.2.2.1,z.1.1.2.2.2.1,z.1.1.2.2.2.2.1,())=c)⟩
def Aj:XA:=⟨143,[.p (.v (.one (.sl ax aU false)))],[.one (.c (.sl ax aU false))],λ((r,()):nT)=>(bF r,λ(z:nT×Unit)=>z.1.1=r)⟩
def mJ:XA:=⟨65,[.p (.v (.agg [.sl ai aO false,.sl ay aY false,.int .i64,.sl aG aP false,.sl ax aU false]))],[.agg [.c (.sl ai aO false),.c (.sl ay aY false),.c (.int .i64),.c (.sl aG aP false),.c (.sl ax aU false)]],λ((c,()):zO)=>(dF c,λ(z:lg)=>(z.1.1.1,z.1.1.2.1,z.1.1.2.2.1,z.1.1.2.2.2.1,z.1.1.2.2.2.2.1,())=c)⟩
def xX:XA:=⟨129,[.p (.v (.one (.sl aG aP false))),.p (.v (.agg [.int .i64,.int .i64,.bool,.int .i64,.sl aS dh false])),.p (.v (.agg [.int .i64,.int .i64,.bool,.int .i64,.sl aS dh false]))],[.one (.c (.sl dH eY true))],λ((d,f,g,()):dV×Ej×jI)=>(aC d/\d.length<=5/\bV f/\bV g/\f.2.2.2.2.1.length+g.2.2.2.2.1.length<=1000,λ(z:gX)=>Sp.isSet z.1.1 (VJ d f g))⟩
def xY:XA:=⟨147,[.p (.v (.one (.sl aG aP false))),.p (.v (.agg [.int .i64,.int .i64,.bool,.int .i64,.sl aS dh false])),.p (.v (.agg [.int .i64,.int .i64,.bool,.int .i64,.sl aS dh false]))],[.one (.c (.sl dH eY true))],λ((d,f,g,()):dV×Ej×jI)=>(aC d/\d.length<=5/\bV f/\bV g/\f.2.2.2.2.1.length+g.2.2.2.2.1.length<=1000,λ(z:gX)=>Sp.isSet z.1.1 (VJ d f g))⟩
def lV:XA:=⟨63,[.p (.v (.agg [.sl ai aO false,.sl ay aY false,.int .i64,.sl aG aP false,.sl ax aU false])),.p (.v (.agg [.sl ai aO false,.sl ay aY false,.int .i64])),.p (.v (.one (.sl aG aP false))),.p (.v (.one (.sl dH eY false)))],[.agg [.c (.sl ai aO false),.c (.sl ay aY false),.c (.int .i64),.c (.sl aG aP false),.c (.sl ax aU false)],.one (.c (.sl iq kG false)),.one (.c .bool)],λ((c,s,d,names,()):yj×kZ×dV×H6)=>(dF c/\bg s/\aC d,λ(z:jV)=>Sp.turned c s d (dI names) (z.1.1.1,z.1.1.2.1,z.1.1.2.2.1,z.1.1.2.2.2.1,z.1.1.2.2.2.2.1,()) z.1.2.1 z.1.2.2.1)⟩
def pF:XA:=⟨145,[.p (.v (.agg [.sl ai aO false,.sl ay aY false,.int .i64,.sl aG aP false,.sl ax aU false])),.p (.v (.agg [.sl ai aO false,.sl ay aY false,.int .i64])),.p (.v (.one (.sl aG aP false))),.p (.v (.one (.sl dH eY false)))],[.agg [.c (.sl ai aO false),.c (.sl ay aY false),.c (.int .i64),.c (.sl aG aP false),.c (.sl ax aU false)],.one (.c (.sl iq kG false))],λ((c,s,d,names,()):yj×kZ×dV×H6)=>(dF c/\bg s/\aC d/\(aj d&&aB s)=true,λ(z:abW)=>Sp.turned c s d (dI names) (z.1.1.1,z.1.1.2.1,z.1.1.2.2.1,z.1.1.2.2.2.1,z.1.1.2.2.2.2.1,()) z.1.2.1 true)⟩
def Ak:XA:=⟨59,[.p (.v (.agg [.sl ai aO false,.sl ay aY false,.int .i64,.sl aG aP false,.sl ax aU false])),.p (.v (.agg [.int .i64,.int .i64,.bool,.int .i64,.sl aS dh false]))],[.agg [.c (.sl ai aO false),.c (.sl ay aY false),.c (.int .i64),.c (.sl aG aP false),.c (.sl ax aU false)],.one (.c (.sl iq kG false)),.one (.c .bool)],λ((c,f,()):yj×jI)=>(dF c/\bV f/\ZE c/\TV f,λ(z:jV)=>Sp.updated c f (z.1.1.1,z.1.1.2.1,z.1.1.2.2.1,z.1.1.2.2.2.1,z.1.1.2.2.2.2.1,()) z.1.2.1 z.1.2.2.1)⟩
def Am:XA:=⟨67,[.p (.v (.agg [.sl ai aO false,.sl ay aY false,.int .i64,.sl aG aP false,.sl ax aU false])),.p (.v (.agg [.int .i64,.int .i64,.bool,.int .i64,.sl aS dh false]))],[.agg [.c (.sl ai aO false),.c (.sl ay aY false),.c (.int .i64),.c (.sl aG aP false),.c (.sl ax aU false)],.one (.c (.sl iq kG false)),.one (.c .bool)],λ((c,f,()):yj×jI)=>(dF c/\bV f/\ZE c/\TV f,λ(z:jV)=>Sp.updated c f (z.1.1.1,z.1.1.2.1,z.1.1.2.2.1,z.1.1.2.2.2.1,z.1.1.2.2.2.2.1,()) z.1.2.1 z.1.2.2.1)⟩
def zi:PA:=⟨153,[.v (.one (.sl dZ iQ false)),.v (.one (.sl dZ iQ false))],[.one (.bool)],λ((a,b,()):H7)=>(True,decide (a=b),())⟩
def Ap:PA:=⟨110,[.v (.agg [.str,.sl dZ iQ false]),.v (.agg [.str,.sl dZ iQ false])],[.one (.bool)],λ((a,b,()):(gZ×mV)×(gZ×mV)×Unit)=>(True,decide (a=b),())⟩
def zk:PA:=⟨41,[.v (.one (.sl ax aU false)),.v (.one (.sl ax aU false))],[.one (.bool)],λ((a,b,()):gQ×nT)=>(True,decide (a=b),())⟩
def zl:PA:=⟨14,[.v (.agg [.sl ai aO false,.sl ay aY false,.int .i64,.sl aG aP false,.sl ax aU false]),.v (.agg [.sl ai aO false,.sl ay aY false,.int .i64,.sl aG aP false,.sl ax aU false])],[.one (.bool)],λ((a,b,()):yj×zO)=>(True,decide (a=b),())⟩
def FD:XA:=⟨82,[.ptr [.sl eU jo false,.int .i64,.int .i64]],[.agg [.c (.sl ai aO false),.c (.sl ay aY false),.c (.int .i64),.c (.sl aG aP false),.own ax aU false]],λ(((_,i,_,()),()):gB)=>(0<=i,λ(z:zO×gB)=>0<=z.2.1.2.1/\Qa (z.1.1.1,z.1.1.2.1,z.1.1.2.2.1,z.1.1.2.2.2.1,z.1.1.2.2.2.2.1,())/\0<z.1.1.2.2.2.1.length)⟩
def uN:XA:=⟨284,[.p (.v (.agg [.int .i64,.int .i64,.bool,.int .i64,.sl aS dh false]))],[.one (.own dH eY true)],λ(((_,_,_,_,a,()),()):jI)=>(a.length<=1000,λ(z:gX)=>z.1.1=gG a)⟩
def uO:XA:=⟨46,[.p (.v (.agg [.int .i64,.int .i64,.bool,.int .i64,.sl aS dh false]))],[.one (.own dH eY true)],λ(((_,_,_,_,a,()),()):jI)=>(a.length<=1000,λ(z:gX)=>z.1.1=gG a)⟩
def FH:XA:=⟨88,[.ptr [.sl eU jo false,.int .i64,.int .i64]],[.one (.c .str)],λ(((_,i,_,()),()):gB)=>(0<=i,λ(z:qh)=>0<=z.2.1.2.1/\z.1.1.length<=10)⟩
def I4:XA:=⟨84,[.ptr [.sl eU jo false,.int .i64,.int .i64]],[.one (.c (.int .i64))],λ(((_,i,_,()),()):gB)=>(0<=i,λ(z:fE)=>0<=z.2.1.2.1)⟩
def Hr:XA:=⟨164,[.ptr [.sl eU jo false,.int .i64,.int .i64]],[.one (.c (.sl dZ iQ false))],λ(((_,i,_,()),()):gB)=>(0<=i,λ(z:mV×gB)=>0<=z.2.1.2.1/\z.1.1.length<=7)⟩
def Ht:XA:=⟨89,[.ptr [.sl eU jo false,.int .i64,.int .i64]],[.agg [.c (.sl ai aO false),.c (.sl ay aY false),.c (.int .i64),.c (.sl aG aP false),.c (.sl ax aU false)]],λ(((_,i,_,()),()):gB)=>(0<=i,λ(z:zO×gB)=>0<=z.2.1.2.1/\iU (z.1.1.1,z.1.1.2.1,z.1.1.2.2.1,z.1.1.2.2.2.1,z.1.1.2.2.2.2.1,()))⟩
def zn:PA:=⟨201,[.v (.agg [.str,.sl aW bW false]),.kp [.str,.sl aW bW false]],[.one (.bool)],λ(((nm,_,()),x,()):MI×MI×Unit)=>(True,Op.bytesLess x.1 nm,())⟩
def iJ:PA:=⟨200,[.v (.one (.sl aG aP false)),.fn 201 [[.str,.sl aW bW false]]],[.one (.int .i64)],λ((d,((nm,_,()),()),()):dV×(MI×Unit)×Unit)=>(True,Sp.findAt (λo=>Op.bytesLess nm o.1) d,())⟩
def qc:List iw:=[.own aG aP,.p (.v (.one (.int .i64))),.own aG aP]
def Dx:List rM:=[.one (.own aG aP false)]
def Oc:jT qc->Prop×(ny Dx×mG qc->Prop):=λ(s,i,v,())=>(0<=i/\i<=s.length/\s.length<=1000/\v.length=1,λ((r,()),())=>r=s.take i.toNat++(v++s.drop i.toNat))
def Dy:IX:=qZ qc Dx Oc
def qB:XA:=⟨123,[.p (.v (.one (.sl aG aP false)))],[.one (.own aG aP false)],λ((d,()):jW)=>(aC d,λ(z:Gh)=>z.1.1=d)⟩
def Hu:XA:=⟨131,[.p (.v (.one (.sl aG aP false))),.p (.v (.agg [.str,.sl aW bW false]))],[.one (.c (.sl aG aP false)),.one (.c .bool)],λ((d,x,()):dV×MI×Unit)=>(aC d/\d.length<=900/\x.2.1.length<=1000,λ(z:LQ)=>z.1.1=(cZ d x).1/\z.1.2.1=(cZ d x).2)⟩
def Hw:XA:=⟨149,[.p (.v (.one (.sl aG aP false))),.p (.v (.agg [.str,.sl aW bW false]))],[.one (.c (.sl aG aP false)),.one (.c .bool)],λ((d,x,()):dV×MI×Unit)=>(aC d/\d.length<=900/\x.2.1.length<=1000,λ(z:LQ)=>z.1.1=(cZ d x).1/\z.1.2.1=(cZ d x).2)⟩
def CO:XA:=⟨61,[.p (.v (.agg [.sl ai aO false,.sl ay aY false,.int .i64,.sl aG aP false,.sl ax aU false])),.p (.v (.agg [.str,.sl aW bW false]))],[.agg [.c (.sl ai aO false),.c (.sl ay aY false),.c (.int .i64),.c (.sl aG aP false),.c (.sl ax aU false)],.one (.c (.sl iq kG false)),.one (.c .bool)],λ((c,x,()):yj×MI×Unit)=>(iU c/\x.2.1.length<=1000,λ(z:jV)=>Sp.became c (aX c) (cZ (bG c) x).1 (cO c&&((cZ (bG c) x).2&&aj (cZ (bG c) x).1)) (z.1.1.1,z.1.1.2.1,z.1.1.2.2.1,z.1.1.2.2.2.1,z.1.1.2.2.2.2.1,()) z.1.2.1 z.1.2.2.1)⟩
def CP:XA:=⟨69,[.p (.v (.agg [.sl ai aO false,.sl ay aY false,.int .i64,.sl aG aP false,.sl ax aU false])),.p (.v (.agg [.str,.sl aW bW false]))],[.agg [.c (.sl ai aO false),.c (.sl ay aY false),.c (.int .i64),.c (.sl aG aP false),.c (.sl ax aU false)],.one (.c (.sl iq kG false)),.one (.c .bool)],λ((c,x,()):yj×MI×Unit)=>(iU c/\x.2.1.length<=1000,λ(z:jV)=>Sp.became c (aX c) (cZ (bG c) x).1 (cO c&&((cZ (bG c) x).2&&aj (cZ (bG c) x).1)) (z.1.1.1,z.1.1.2.1,z.1.1.2.2.1,z.1.1.2.2.2.1,z.1.1.2.2.2.2.1,()) z.1.2.1 z.1.2.2.1)⟩
def Aq:XA:=⟨125,[.p (.v (.agg [.sl ai aO false,.sl ay aY false,.int .i64])),.p (.v (.agg [.int .i64,.int .i64,.bool,.int .i64,.sl aS dh false]))],[.agg [.c (.sl ai aO false),.own ay aY false,.c (.int .i64)],.one (.c (.int .i64)),.one (.c .bool)],λ((s,f,()):kZ×jI)=>(bg s/\bV f,λ(z:Xb)=>z.1.1.1=(aI s f).1.1/\z.1.1.2.1=(aI s f).1.2.1/\z.1.1.2.2.1=(aI s f).1.2.2.1/\z.1.2.1=(aI s f).2.1/\z.1.2.2.1=(aI s f).2.2)⟩
def qf:XA:=⟨199,[.own ay aY,.p (.v (.one (.int .i64))),.p (.v (.one (.int .i64)))],[.one (.own ay aY false)],λ((s,i,j,()):fU×Int×eX)=>(0<=i/\i<=j/\j<=s.length,λ(z:agk)=>z.1.1=s.take i.toNat++s.drop j.toNat)⟩
def Ar:XA:=⟨130,[.p (.v (.agg [.sl ai aO false,.sl ay aY false,.int .i64])),.p (.v (.one (.int .i64)))],[.agg [.c (.sl ai aO false),.own ay aY false,.c (.int .i64)],.one (.c .bool)],λ((s,id,()):kZ×eX)=>(bg s,λ(z:J4)=>z.1.1.1=(aV s id).1.1/\z.1.1.2.1=(aV s id).1.2.1/\z.1.1.2.2.1=(aV s id).1.2.2.1/\z.1.2.1=(aV s id).2)⟩
def FI:XA:=⟨56,[.p (.v (.agg [.sl ai aO false,.sl ay aY false,.int .i64,.sl aG aP false,.sl ax aU false])),.p (.v (.agg [.int .i64,.int .i64,.bool,.int .i64,.sl aS dh false]))],[.agg [.c (.sl ai aO false),.c (.sl ay aY false),.c (.int .i64),.c (.sl aG aP false),.c (.sl ax aU false)],.one (.c (.int .i64)),.one (.c (.sl iq kG false)),.one (.c .bool)],λ((c,f,()):yj×jI)=>(iU c/\bV f,λ(z:agj)=>Sp.became c (aI (aX c) f).1 (bG c) (cO c&&(aI (aX c) f).2.2) (z.1.1.1,z.1.1.2.1,z.1.1.2.2.1,z.1.1.2.2.2.1,z.1.1.2.2.2.2.1,()) z.1.2.2.1 z.1.2.2.2.1/\z.1.2.1=(bif z.1.2.2.2.1 then(aI (aX c) f).2.1 else 0))⟩
def FK:XA:=⟨66,[.p (.v (.agg [.sl ai aO false,.sl ay aY false,.int .i64,.sl aG aP false,.sl ax aU false])),.p (.v (.agg [.int .i64,.int .i64,.bool,.int .i64,.sl aS dh false]))],[.agg [.c (.sl ai aO false),.c (.sl ay aY false),.c (.int .i64),.c (.sl aG aP false),.c (.sl ax aU false)],.one (.c (.int .i64)),.one (.c (.sl iq kG false)),.one (.c .bool)],λ((c,f,()):yj×jI)=>(iU c/\bV f,λ(z:agj)=>Sp.became c (aI (aX c) f).1 (bG c) (cO c&&(aI (aX c) f).2.2) (z.1.1.1,z.1.1.2.1,z.1.1.2.2.1,z.1.1.2.2.2.1,z.1.1.2.2.2.2.1,()) z.1.2.2.1 z.1.2.2.2.1/\z.1.2.1=(bif z.1.2.2.2.1 then(aI (aX c) f).2.1 else 0))⟩
def Au:XA:=⟨60,[.p (.v (.agg [.sl ai aO false,.sl ay aY false,.int .i64,.sl aG aP false,.sl ax aU false])),.p (.v (.one (.int .i64)))],[.agg [.c (.sl ai aO false),.c (.sl ay aY false),.c (.int .i64),.c (.sl aG aP false),.c (.sl ax aU false)],.one (.c (.sl iq kG false)),.one (.c .bool)],λ((c,id,()):yj×eX)=>(iU c,λ(z:jV)=>Sp.became c (aV (aX c) id).1 (bG c) (cO c&&(aV (aX c) id).2) (z.1.1.1,z.1.1.2.1,z.1.1.2.2.1,z.1.1.2.2.2.1,z.1.1.2.2.2.2.1,()) z.1.2.1 z.1.2.2.1)⟩
def Aw:XA:=⟨68,[.p (.v (.agg [.sl ai aO false,.sl ay aY false,.int .i64,.sl aG aP false,.sl ax aU false])),.p (.v (.one (.int .i64)))],[.agg [.c (.sl ai aO false),.c (.sl ay aY false),.c (.int .i64),.c (.sl aG aP false),.c (.sl ax aU false)],.one (.c (.sl iq kG false)),.one (.c .bool)],λ((c,id,()):yj×eX)=>(iU c,λ(z:jV)=>Sp.became c (aV (aX c) id).1 (bG c) (cO c&&(aV (aX c) id).2) (z.1.1.1,z.1.1.2.1,z.1.1.2.2.1,z.1.1.2.2.2.1,z.1.1.2.2.2.2.1,()) z.1.2.1 z.1.2.2.1)⟩
def Et:PA:=⟨71,[.v (.agg [.str,.sl dZ iQ false,.sl dZ iQ false]),.v (.agg [.str,.sl dZ iQ false,.sl dZ iQ false])],[.one (.bool)],λ((a,b,()):(gZ×H7)×(gZ×H7)×Unit)=>(True,decide (a=b),())⟩
def CQ:PA:=⟨25,[.v (.one (.sl iq kG false)),.v (.one (.sl iq kG false))],[.one (.bool)],λ((a,b,()):JZ×JZ×Unit)=>(True,decide (a=b),())⟩
def aqb:PA:=⟨178,[.v (.agg [.int .i64,.int .i64,.bool,.int .i64,.sl aS dh false]),.v (.one (.int .i64))],[.one (.bool)],λ((f,u,()):Ej×eX)=>(True,alz f u,())⟩
def Eu:PA:=⟨21,[.v (.agg [.int .i64,.int .i64,.bool,.int .i64,.sl aS dh false]),.v (.one (.int .i64))],[.one (.bool)],λ((f,u,()):Ej×eX)=>(True,lW f u,())⟩
def Ew:PA:=⟨58,[.v (.agg [.int .i64,.int .i64,.bool,.int .i64,.sl aS dh false]),.v (.one (.int .i64))],[.one (.bool)],λ((f,u,()):Ej×eX)=>(True,lW f u,())⟩
def xZ:PA:=⟨85,[.v (.agg [.sl ai aO false,.sl ay aY false,.int .i64]),.v (.one (.int .i64))],[.one (.sl dZ iQ true)],λ(((_,fs,_,()),u,()):kZ×eX)=>(fs.length<=1000,wO fs u,())⟩
def FM:XA:=⟨83,[.ptr [.sl eU jo false,.int .i64,.int .i64]],[.one (.c (.int .i64))],λ(((_,i,_,()),()):gB)=>(0<=i,λ(z:fE)=>0<=z.2.1.2.1)⟩
def uP:XA:=⟨82,[.ptr [.sl eU jo false,.int .i64,.int .i64]],[.agg [.c (.sl ai aO false),.c (.sl ay aY false),.c (.int .i64),.c (.sl aG aP false),.c (.sl ax aU false)]],λ(((_,i,_,()),()):gB)=>(0<=i,λ(z:zO×gB)=>0<=z.2.1.2.1/\Qa (z.1.1.1,z.1.1.2.1,z.1.1.2.2.1,z.1.1.2.2.2.1,z.1.1.2.2.2.2.1,())/\0<z.1.1.2.2.2.1.length)⟩
def qC:XA:=⟨135,[.own aG aP,.p (.v (.one (.int .i64))),.p (.v (.one (.int .i64)))],[.one (.own aG aP false)],λ((s,i,j,()):dV×Int×eX)=>(0<=i/\i<=j/\j<=s.length,λ(z:Gh)=>z.1.1=s.take i.toNat++s.drop j.toNat)⟩
def CS:XA:=⟨62,[.p (.v (.one (.sl aG aP false))),.p (.v (.one (.str)))],[.one (.c (.sl aG aP false)),.one (.c .bool)],λ((d,name,()):dV×lK)=>(aC d,λ(z:LQ)=>z.1.1=(Sp.removeDir d name).1/\z.1.2.1=(Sp.removeDir d name).2)⟩
def CU:XA:=⟨152,[.p (.v (.one (.sl aG aP false))),.p (.v (.one (.str)))],[.one (.c (.sl aG aP false)),.one (.c .bool)],λ((d,name,()):dV×lK)=>(aC d,λ(z:LQ)=>z.1.1=(Sp.removeDir d name).1/\z.1.2.1=(Sp.removeDir d name).2)⟩
def CV:XA:=⟨70,[.p (.v (.agg [.sl ai aO false,.sl ay aY false,.int .i64,.sl aG aP false,.sl ax aU false])),.p (.v (.one (.str)))],[.agg [.c (.sl ai aO false),.c (.sl ay aY false),.c (.int .i64),.c (.sl aG aP false),.c (.sl ax aU false)],.one (.c (.sl iq kG false)),.one (.c .bool)],λ((c,name,()):yj×lK)=>(iU c/\cO c=true,λ(z:jV)=>Sp.became c (aX c) (Sp.removeDir (bG c) name).1 (Sp.removeDir (bG c) name).2 (z.1.1.1,z.1.1.2.1,z.1.1.2.2.1,z.1.1.2.2.2.1,z.1.1.2.2.2.2.1,()) z.1.2.1 z.1.2.2.1)⟩
def tX:XA:=⟨23,[.p (.v (.agg [.sl ai aO false,.sl ay aY false,.int .i64,.sl aG aP false,.sl ax aU false])),.p (.v (.one (.int .i64))),.p (.v (.agg [.int .i64,.int .i64,.int .i64,.bool,.int .i64,.sl aS dh false,.int .i64,.str,.sl aW bW false]))],[.agg [.c (.sl ai aO false),.c (.sl ay aY false),.c (.int .i64),.c (.sl aG aP false),.c (.sl ax aU false)],.one (.c (.sl iq kG false)),.one (.c .bool)],λ((c,u,x,()):yj×Int×J3×Unit)=>(iU c/\pG x,λ(z:jV)=>Sp.applied c u x (z.1.1.1,z.1.1.2.1,z.1.1.2.2.1,z.1.1.2.2.2.1,z.1.1.2.2.2.2.1,()) z.1.2.1 z.1.2.2.1)⟩
def zo:XA:=⟨24,[.p (.v (.agg [.sl ai aO false,.sl ay aY false,.int .i64,.sl aG aP false,.sl ax aU false])),.p (.v (.one (.int .i64))),.p (.v (.agg [.int .i64,.int .i64,.int .i64,.bool,.int .i64,.sl aS dh false,.int .i64,.str,.sl aW bW false]))],[.agg [.c (.sl ai aO false),.c (.sl ay aY false),.c (.int .i64),.c (.sl aG aP false),.c (.sl ax aU false)],.one (.c (.sl iq kG false)),.one (.c .bool)],λ((c,u,x,()):yj×Int×J3×Unit)=>(iU c/\pG x,λ(z:jV)=>Sp.applied c u x (z.1.1.1,z.1.1.2.1,z.1.1.2.2.1,z.1.1.2.2.2.1,z.1.1.2.2.2.2.1,()) z.1.2.1 z.1.2.2.1)⟩
def I5:XA:=⟨53,[.ptr [.sl eU jo false,.int .i64,.int .i64],.p (.v (.agg [.sl ai aO false,.sl ay aY false,.int .i64,.sl aG aP false,.sl ax aU false])),.p (.v (.one (.int .i64)))],[.agg [.c (.int .i64),.c (.int .i64),.c (.int .i64),.c .bool,.c (.int .i64),.c (.sl aS dh false),.c (.int .i64),.c .str,.c (.sl aW bW false)]],λ(((_,i,_,()),c,_,()):zN×yj×eX)=>(0<=i/\iU c,λ(z:(J3×Unit)×gB)=>0<=z.2.1.2.1/\pG (z.1.1.1,z.1.1.2.1,z.1.1.2.2.1,z.1.1.2.2.2.1,z.1.1.2.2.2.2.1,z.1.1.2.2.2.2.2.1,z.1.1.2.2.2.2.2.2.1,z.1.1.2.2.2.2.2.2.2.1,z.1.1.2.2.2.2.2.2.2.2.1,()))⟩
def FN:XA:=⟨52,[.ptr [.sl eU jo false,.int .i64,.int .i64]],[.agg [.c (.sl ai aO false),.c (.sl ay aY false),.c (.int .i64),.c (.sl aG aP false),.c (.sl ax aU false)],.one (.c (.int .i64))],λ(((_,i,_,()),()):gB)=>(0<=i,λ(z:(yj×eX)×gB)=>0<=z.2.1.2.1/\iU (z.1.1.1,z.1.1.2.1,z.1.1.2.2.1,z.1.1.2.2.2.1,z.1.1.2.2.2.2.1,()))⟩
def Ey:PA:=⟨214,[.v (.agg [.int .i64,.int .i64,.bool,.int .i64,.sl aS dh false])],[.one (.int .i64)],λ((f,()):jI)=>(bV f,CW f,())⟩
def Ez:PA:=⟨159,[.v (.agg [.int .i64,.int .i64,.bool,.int .i64,.sl aS dh false])],[.one (.int .i64)],λ((f,()):jI)=>(bV f,CW f,())⟩
def CX:PA:=⟨154,[.v (.agg [.sl ai aO false,.sl ay aY false,.int .i64]),.v (.one (.int .i64))],[.one (.int .i64)],λ((s,u,()):kZ×eX)=>(bg s,jv s.2.1 u,())⟩
def CY:PA:=⟨80,[.v (.agg [.sl ai aO false,.sl ay aY false,.int .i64]),.v (.one (.int .i64))],[.one (.int .i64)],λ((s,u,()):kZ×eX)=>(bg s,jv s.2.1 u,())⟩
def FO:PA:=⟨155,[.v (.one (.sl dZ iQ false)),.v (.one (.int .i64))],[.one (.int .i64)],λ((q,u,()):dO×eX)=>(True,uQ q u,())⟩
def I7:PA:=⟨81,[.v (.one (.sl dZ iQ false)),.v (.one (.int .i64))],[.one (.int .i64)],λ((q,u,()):dO×eX)=>(True,uQ q u,())⟩
def vZ:PA:=⟨77,[.v (.agg [.sl ai aO false,.sl ay aY false,.int .i64]),.v (.one (.sl dZ iQ false))],[.one (.bool)],λ((s,q,()):kZ×mV)=>(bg s,wP s.2.1 q,())⟩
def qE:PA:=⟨34,[.v (.agg [.sl ai aO false,.sl ay aY false,.int .i64]),.v (.one (.sl dZ iQ false))],[.one (.bool)],λ((s,q,()):kZ×mV)=>(bg s,wP s.2.1 q,())⟩
def EC:XA:=⟨76,[.ptr [.sl eU jo false,.int .i64,.int .i64]],[.one (.c (.sl dZ iQ false))],λ(((_,i,_,()),()):gB)=>(0<=i,λ(z:mV×gB)=>0<=z.2.1.2.1/\z.1.1.length<=3)⟩
def nG:XA:=⟨31,[.p (.v (.one (.sl eU jo false)))],[.agg [.c (.sl ai aO false),.c (.sl ay aY false),.c (.int .i64),.c (.sl aG aP false),.c (.sl ax aU false)],.one (.c (.int .i64)),.one (.c (.sl Dz aje false)),.one (.c (.sl dZ iQ false))],λ((code,()):mV)=>(code.length<=1048576,λ(z:ajd×Unit)=>iU (z.1.1.1,z.1.1.2.1,z.1.1.2.2.1,z.1.1.2.2.2.1,z.1.1.2.2.2.2.1,())/\z.1.2.2.1.length<=7/\(∀x∈z.1.2.2.1,pG x)/\z.1.2.2.2.1.length<=3)⟩
def rE:XA:=⟨32,[.p (.v (.agg [.sl ai aO false,.sl ay aY false,.int .i64,.sl aG aP false,.sl ax aU false])),.p (.v (.one (.int .i64))),.p (.v (.one (.sl Dz aje false))),.p (.v (.one (.sl dZ iQ false)))],[.agg [.c (.sl ai aO false),.c (.sl ay aY false),.c (.int .i64),.c (.sl aG aP false),.c (.sl ax aU false)],.one (.c (.sl iq kG false)),.one (.c .bool)],λ((c,u,list,q,()):ajd)=>(iU c/\list.length<=1000/\(∀x∈list,pG x),λ(z:jV)=>sS c u list q (z.1.1.1,z.1.1.2.1,z.1.1.2.2.1,z.1.1.2.2.2.1,z.1.1.2.2.2.2.1,()) z.1.2.1 z.1.2.2.1)⟩
def rF:XA:=⟨33,[.p (.v (.agg [.sl ai aO false,.sl ay aY false,.int .i64,.sl aG aP false,.sl ax aU false])),.p (.v (.one (.int .i64))),.p (.v (.one (.sl Dz aje false))),.p (.v (.one (.sl dZ iQ false)))],[.agg [.c (.sl ai aO false),.c (.sl ay aY false),.c (.int .i64),.c (.sl aG aP false),.c (.sl ax aU false)],.one (.c (.sl iq kG false)),.one (.c .bool)],λ((c,u,list,q,()):ajd)=>(iU c/\list.length<=1000/\(∀x∈list,pG x),λ(z:jV)=>sS c u list q (z.1.1.1,z.1.1.2.1,z.1.1.2.2.1,z.1.1.2.2.2.1,z.1.1.2.2.2.2.1,()) z.1.2.1 z.1.2.2.1)⟩
def aoP:PA:=⟨4,[.v (.one (.sl eU jo false))],[.one (.bool)],λ(_,())=>(True,true,())⟩
def I8:PA:=⟨6,[.v (.one (.sl eU jo false))],[.one (.bool)],λ(_,())=>(True,true,())⟩
def TW[tq]:lN:=MQ [(x9,.eff (DC qw) AP),dS.e,wK.e,kV.e]
def QJ[tq]:lN:=MQ [vK.e,oJ.e,(uS,.pure yu),A8.e,sF.e]
def TY[tq]:lN:=MQ [qO.e,oK.e,(yc,.pure Ba),wM.e]
end
end Go.Proofs.Tryz
