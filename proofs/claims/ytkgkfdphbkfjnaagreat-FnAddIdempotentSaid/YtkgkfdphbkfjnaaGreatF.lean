import Derived.Test.YtkgkfdphbkfjnaaGreatN
import Derived.Test.YtkgkfdphbkfjnaaGreatSp
namespace Go.Proofs.Tryz
open Go Go.Fw Sp
abbrev dZ:=List UInt8
abbrev ku:=dZ×Unit
abbrev UZ:=dZ×Int×Int×ku
abbrev fK:=Int×Unit
abbrev fA:=List (dZ×fK)
abbrev dK:=List UZ
abbrev H7:=dK×Unit
abbrev sW:=Int×Int×Bool×Int×H7
abbrev gW:=List sW
abbrev aea:=Int×Int×Int×UZ
abbrev jb:=List aea
abbrev vJ:=jb×Unit
abbrev gG:=List (dZ×vJ)
abbrev dS:=List fK
abbrev kG:=dS×Unit
abbrev iZ:=List (dZ×kG)
abbrev lU:=iZ×Unit
abbrev Ez:=fA×gW×Int×gG×lU
abbrev FV:=Int×fK
abbrev Fh:=dS×FV
abbrev ig:=Fh×Unit
abbrev ru:=List ku
abbrev Jl:=ru×Unit
abbrev gU:=Jl×Unit
abbrev nC:=fA×gW×fK
abbrev dm:=Bool×Unit
abbrev Ol:=Bool×H7
abbrev H8:=Ol×Unit
abbrev jD:=Unit×Unit
abbrev alo:=Int×Int×Bool×Int×jD
abbrev ZK:=Unit×Fh×alo×H7
abbrev xO:=(Ez×dK×dm)×Unit
abbrev fP:=fK×Unit
abbrev MN:=dS×kG
abbrev aeb:=List (dZ×MN)
abbrev Cb:=(Int×Int×ku)×Unit
abbrev Om:=aea×Unit
abbrev sD:=Unit×fK
abbrev J7:=sD×Jl
abbrev lX:=sW×Unit
abbrev wB:=lX×Unit
abbrev xP:=(iZ×dm)×Unit
abbrev gu:=fK×ig
abbrev Cc:=vJ×ig
abbrev Fj:=(Ez×Unit)×Unit
abbrev Jm:=Ez×Int×dZ×fK
abbrev FW:=nC×Unit
abbrev Jo:=FW×Unit
abbrev mO:=gG×Unit
abbrev TV:=(Ez×aeb×dm)×Unit
abbrev aop:=(jb×iZ×Bool×sW×Unit×jD)×(Bool×jD)×Om
abbrev qo:=ku×ig
abbrev xQ:=H8×Unit
abbrev TW:=(nC×dm)×Unit
abbrev TY:=(dS×dm)×Unit
abbrev aec:=(iZ×Int×dm)×Unit
abbrev Ua:=(Ez×Unit)×ig
abbrev Wx:=(ru×fK)×Unit
abbrev Fp:=dm×Unit
abbrev FX:=kG×Unit
abbrev Jp:=H7×Unit
abbrev ata:=(Ol×Unit×Unit×Unit×Int×jD)×(Bool×jD)×alo×dK×UZ×H7
abbrev Jq:=dm×ig
abbrev MO:=fA×Unit
abbrev aim:=(aeb×Unit)×Unit
abbrev Oo:=gW×Unit
abbrev aoq:=(nC×Int×dm)×Unit
class kz where n:Nat
abbrev jf[kz]:Nat:=kz.n
noncomputable section
def EC:QA:=⟨36,[.p (.v (.one (.sl eG jL false)))],[.sl eG jL false,.int .i64,.int .i64],λ((code,()):kG)=>(code.length<=1048576,λ(z:Fh)=>z.2.1=0)⟩
def Gu:XA:=⟨163,[.ptr [.sl eG jL false,.int .i64,.int .i64]],[.one (.c (.int .i64))],λ(((_,i,_,()),()):ig)=>(0<=i,λ(z:gu)=>0<=z.2.1.2.1/\0<=z.1.1/\z.1.1<=255)⟩
def dL:XA:=⟨87,[.ptr [.sl eG jL false,.int .i64,.int .i64],.p (.v (.one (.int .i64)))],[.one (.c (.int .i64))],λ(((_,i,_,()),n,()):Fh×fK)=>(0<=i,λ(z:gu)=>0<=z.2.1.2.1/\0<=z.1.1/\(0<n->z.1.1<n)/\(n<=0->z.1.1=0))⟩
def mP:XA:=⟨86,[.ptr [.sl eG jL false,.int .i64,.int .i64],.p (.v (.one (.int .i64)))],[.one (.c .bool)],λ(((_,i,_,()),_,()):Fh×fK)=>(0<=i,λ(z:Jq)=>0<=z.2.1.2.1)⟩
def jq:XA:=⟨120,[.ptr [.sl eG jL false,.int .i64,.int .i64],.p (.v (.one (.sl dn eF false)))],[.one (.c .str)],λ(((_,i,_,()),list,()):Fh×Jl)=>(0<=i/\list≠[],λ(z:qo)=>0<=z.2.1.2.1/\(z.1.1,())∈list)⟩
def kE:XA:=⟨75,[.ptr [.sl eG jL false,.int .i64,.int .i64],.p (.v (.one (.sl fH jR false)))],[.one (.c (.int .i64))],λ(((_,i,_,()),list,()):Fh×kG)=>(0<=i/\list≠[],λ(z:gu)=>0<=z.2.1.2.1/\(z.1.1,())∈list)⟩
def zD:XA:=⟨217,[],[.one (.own au aT true)],λ(())=>(True,λ(z:MO×Unit)=>z.1.1=Sp.usual)⟩
def Ce:XA:=⟨267,[.ptr [.sl eG jL false,.int .i64,.int .i64]],[.one (.c .str)],λ(((_,i,_,()),()):ig)=>(0<=i,λ(z:qo)=>0<=z.2.1.2.1/\z.1.1.length<=1)⟩
def I4:XA:=⟨221,[.ptr [.sl eG jL false,.int .i64,.int .i64]],[.one (.c (.sl au aT true))],λ(((_,i,_,()),()):ig)=>(0<=i,λ(z:MO×ig)=>0<=z.2.1.2.1/\z.1.1.length<=6)⟩
def FD:XA:=⟨301,[.ptr [.sl eG jL false,.int .i64,.int .i64]],[.agg [.c (.int .i64),.c (.int .i64),.c .str]],λ(((_,i,_,()),()):ig)=>(0<=i,λ(z:Cb×ig)=>0<=z.2.1.2.1/\z.1.1.2.2.1.length<=10)⟩
def ED:XA:=⟨266,[.ptr [.sl eG jL false,.int .i64,.int .i64]],[.agg [.c (.int .i64),.c (.int .i64),.c .str]],λ(((_,i,_,()),()):ig)=>(0<=i,λ(z:Cb×ig)=>0<=z.2.1.2.1/\z.1.1.2.2.1.length<=10)⟩
def uO:PA:=⟨190,[.v (.one (.int .i64))],[.agg [.int .i64,.int .i64,.str]],λ((n,()):fK)=>(True,(1,n,[],()),())⟩
def lY:PA:=⟨191,[.v (.one (.str))],[.agg [.int .i64,.int .i64,.str]],λ((w,()):ku)=>(True,(2,0,w,()),())⟩
def jc:PA:=⟨51,[.v (.one (.int .i64)),.v (.one (.int .i64)),.v (.one (.int .i64))],[.one (.bool)],λ((x,a,b,()):Int×FV)=>(True,(decide (a<=x)&&decide (x<=b)),())⟩
def mG:PA:=⟨72,[.v (.one (.int .i64)),.v (.one (.int .i64)),.v (.one (.int .i64))],[.one (.bool)],λ((x,a,b,()):Int×FV)=>(True,(decide (a<=x)&&decide (x<=b)),())⟩
def Ci:PA:=⟨299,[.v (.one (.str)),.v (.one (.int .i64))],[.one (.bool)],λ((s,m,()):dZ×fK)=>(True,(Sp.lower s&&decide (1<=(s.length:Int))&&decide ((s.length:Int)<=m)),())⟩
def mQ:PA:=⟨263,[.v (.one (.str))],[.one (.bool)],λ((s,()):ku)=>(True,iV s,())⟩
def mV:PA:=⟨204,[.v (.one (.str))],[.one (.bool)],λ((s,()):ku)=>(True,iV s,())⟩
def rH:PA:=⟨277,[.v (.agg [.int .i64,.int .i64,.str])],[.one (.bool)],λ(((k,n,s,()),()):Cb)=>(True,kH k n s,())⟩
def rJ:PA:=⟨269,[.v (.agg [.int .i64,.int .i64,.str])],[.one (.bool)],λ(((k,n,s,()),()):Cb)=>(True,kH k n s,())⟩
def ou:PA:=⟨276,[.v (.one (.str))],[.one (.bool)],λ((s,()):ku)=>(True,jY s,())⟩
def oz:PA:=⟨268,[.v (.one (.str))],[.one (.bool)],λ((s,()):ku)=>(True,jY s,())⟩
def DW:PA:=⟨278,[.v (.one (.sl au aT false)),.v (.one (.str))],[.one (.int .i64)],λ((fs,s,()):fA×ku)=>(True,Sp.kindOf fs s,())⟩
def DX:PA:=⟨283,[.v (.one (.sl au aT false)),.v (.one (.str))],[.one (.int .i64)],λ((fs,s,()):fA×ku)=>(True,Sp.kindOf fs s,())⟩
def qp:PA:=⟨234,[.v (.one (.sl au aT false))],[.one (.bool)],λ((fs,()):MO)=>(True,fO fs,())⟩
def qw:PA:=⟨223,[.v (.one (.sl au aT false))],[.one (.bool)],λ((fs,()):MO)=>(True,fO fs,())⟩
def wC:PA:=⟨240,[.v (.one (.sl au aT false)),.v (.one (.str)),.v (.agg [.int .i64,.int .i64,.str])],[.one (.bool)],λ((fs,s,(k,n,w,()),()):fA×dZ×Cb)=>(True,iO fs s k n w,())⟩
def wE:PA:=⟨249,[.v (.one (.sl au aT false)),.v (.one (.str)),.v (.agg [.int .i64,.int .i64,.str])],[.one (.bool)],λ((fs,s,(k,n,w,()),()):fA×dZ×Cb)=>(True,iO fs s k n w,())⟩
def o9:PA:=⟨182,[.v (.one (.sl au aT false)),.v (.agg [.int .i64,.int .i64,.bool,.int .i64,.sl ai aN false])],[.one (.bool)],λ((fs,f,()):fA×lX)=>(True,bT fs f,())⟩
def tK:PA:=⟨195,[.v (.one (.sl au aT false)),.v (.agg [.int .i64,.int .i64,.bool,.int .i64,.sl ai aN false])],[.one (.bool)],λ((fs,f,()):fA×lX)=>(True,bT fs f,())⟩
def jB:PA:=⟨177,[.v (.agg [.sl au aT false,.sl aG bG false,.int .i64])],[.one (.bool)],λ((s,()):FW)=>(True,aC s,())⟩
def oh:PA:=⟨170,[.v (.agg [.sl au aT false,.sl aG bG false,.int .i64])],[.one (.bool)],λ((s,()):FW)=>(True,aC s,())⟩
def BD:PA:=⟨107,[.v (.one (.sl au aT false)),.v (.one (.sl au aT false))],[.one (.bool)],λ((a,b,()):fA×MO)=>(True,decide (a=b),())⟩
def xR:PA:=⟨15,[.v (.one (.sl ai aN false)),.v (.one (.sl ai aN false))],[.one (.bool)],λ((a,b,()):dK×H7)=>(True,decide (a=b),())⟩
def FH:PA:=⟨30,[.v (.agg [.int .i64,.int .i64,.bool,.int .i64,.sl ai aN false]),.v (.agg [.int .i64,.int .i64,.bool,.int .i64,.sl ai aN false])],[.one (.bool)],λ((a,b,()):sW×lX)=>(True,decide (a=b),())⟩
def DY:PA:=⟨108,[.v (.one (.sl aG bG false)),.v (.one (.sl aG bG false))],[.one (.bool)],λ((a,b,()):gW×Oo)=>(True,decide (a=b),())⟩
def DZ:PA:=⟨39,[.v (.agg [.sl au aT false,.sl aG bG false,.int .i64]),.v (.agg [.sl au aT false,.sl aG bG false,.int .i64])],[.one (.bool)],λ((a,b,()):nC×FW)=>(True,decide (a=b),())⟩
def mW:PA:=⟨74,[.v (.agg [.int .i64,.int .i64,.bool,.int .i64,.sl ai aN false])],[.agg [.int .i64,.int .i64,.bool,.int .i64,.sl ai aN true]],λ((f,()):lX)=>(bY f,f,())⟩
def nM:PA:=⟨127,[.v (.agg [.int .i64,.int .i64,.bool,.int .i64,.sl ai aN false])],[.agg [.int .i64,.int .i64,.bool,.int .i64,.sl ai aN false]],λ((f,()):lX)=>(bY f,f,())⟩
def vK:PA:=⟨54,[.v (.one (.int .i64))],[.one (.bool)],λ((u,()):fK)=>(True,(decide (0<=u)&&decide (u<=2)),())⟩
def qx:PA:=⟨73,[.v (.agg [.sl au aT false,.sl aG bG false,.int .i64]),.v (.one (.int .i64))],[.one (.int .i64)],λ(((_,fs,_,()),id,()):nC×fK)=>(True,Sp.place fs id,())⟩
def lS:PA:=⟨168,[.v (.one (.sl au aT false))],[.one (.sl au aT false)],λ((l,()):MO)=>(l.length<=1000,l,())⟩
def qy:PA:=⟨98,[.v (.one (.sl ai aN false))],[.one (.sl ai aN false)],λ((l,()):H7)=>(l.length<=1000,l,())⟩
def Cj:XA:=⟨181,[.p (.v (.agg [.int .i64,.int .i64,.bool,.int .i64,.sl ai aN false])),.p (.v (.one (.str))),.p (.v (.agg [.int .i64,.int .i64,.str]))],[.agg [.c (.int .i64),.c (.int .i64),.c .bool,.c (.int .i64),.own ai aN true]],λ(((i,o,s,l,a,()),name,(k,n,w,()),()):sW×dZ×Cb)=>(a.length<=1000,λ(z:wB)=>z.1.1.1=i/\z.1.1.2.1=o/\z.1.1.2.2.1=s/\z.1.1.2.2.2.1=l/\z.1.1.2.2.2.2.1=dU a name k n w)⟩
def xw:XA:=⟨119,[.ptr [.sl eG jL false,.int .i64,.int .i64],.p (.v (.one (.int .i64)))],[.agg [.c (.int .i64),.c (.int .i64),.c .bool,.c (.int .i64),.own ai aN true]],λ(((_,i,_,()),id,()):Fh×fK)=>(0<=i,λ(z:lX×ig)=>0<=z.2.1.2.1/\z.1.1.1=id/\0<=z.1.1.2.1/\z.1.1.2.1<=2/\0<=z.1.1.2.2.2.1/\z.1.1.2.2.2.1<=6/\iy Sp.usual z.1.1.2.2.2.2.1=true/\z.1.1.2.2.2.2.1.length<=4)⟩
def I5:XA:=⟨220,[.ptr [.sl eG jL false,.int .i64,.int .i64]],[.agg [.c (.int .i64),.c (.int .i64),.c .bool,.c (.int .i64),.c (.sl ai aN true)]],λ(((_,i,_,()),()):ig)=>(0<=i,λ(z:lX×ig)=>0<=z.2.1.2.1/\z.1.1.2.2.2.2.1.length<=10)⟩
def FI:XA:=⟨216,[.p (.v (.one (.sl au aT false)))],[.agg [.own au aT true,.own aG bG true,.c (.int .i64)]],λ((s,()):MO)=>(s.length<=1000,λ(z:Jo)=>z.1.1.1=s/\z.1.1.2.1=[]/\z.1.1.2.2.1=1)⟩
def pq:XA:=⟨141,[.p (.v (.agg [.sl au aT false,.sl aG bG false,.int .i64]))],[.agg [.own au aT true,.own aG bG true,.c (.int .i64)]],λ((s,()):FW)=>(bn s,λ(z:Jo)=>(z.1.1.1,z.1.1.2.1,z.1.1.2.2.1,())=s)⟩
def vT:XA:=⟨144,[.p (.v (.agg [.sl au aT false,.sl aG bG false,.int .i64])),.p (.v (.agg [.int .i64,.int .i64,.bool,.int .i64,.sl ai aN false]))],[.agg [.own au aT true,.own aG bG true,.c (.int .i64)],.one (.c (.int .i64)),.one (.c .bool)],λ((s,f,()):nC×lX)=>(bn s/\bY f,λ(z:aoq)=>z.1.1.1=(dD s f).1.1/\z.1.1.2.1=(dD s f).1.2.1/\z.1.1.2.2.1=(dD s f).1.2.2.1/\z.1.2.1=(dD s f).2.1/\z.1.2.2.1=(dD s f).2.2)⟩
def BF:XA:=⟨148,[.p (.v (.agg [.sl au aT false,.sl aG bG false,.int .i64])),.p (.v (.one (.int .i64)))],[.agg [.own au aT true,.own aG bG true,.c (.int .i64)],.one (.c .bool)],λ((s,id,()):nC×fK)=>(bn s,λ(z:TW)=>z.1.1.1=(fM s id).1.1/\z.1.1.2.1=(fM s id).1.2.1/\z.1.1.2.2.1=(fM s id).1.2.2.1/\z.1.2.1=(fM s id).2)⟩
def uP:XA:=⟨161,[.ptr [.sl eG jL false,.int .i64,.int .i64]],[.agg [.own au aT true,.own aG bG true,.c (.int .i64)]],λ(((_,i,_,()),()):ig)=>(0<=i,λ(z:FW×ig)=>0<=z.2.1.2.1/\z.1.1.1=Sp.usual/\aC (z.1.1.1,z.1.1.2.1,z.1.1.2.2.1,())=true/\z.1.1.2.2.1<=z.1.1.2.1.length+2/\bn (z.1.1.1,z.1.1.2.1,z.1.1.2.2.1,())/\0<z.1.1.2.1.length)⟩
def I7:XA:=⟨166,[.ptr [.sl eG jL false,.int .i64,.int .i64]],[.agg [.c (.sl au aT false),.c (.sl aG bG false),.c (.int .i64)]],λ(((_,i,_,()),()):ig)=>(0<=i,λ(z:FW×ig)=>0<=z.2.1.2.1/\bn (z.1.1.1,z.1.1.2.1,z.1.1.2.2.1,())/\∀f∈z.1.1.2.1,f.2.2.2.2.1.length<=400)⟩
def J8:PA:=⟨7,[.v (.one (.sl eG jL false))],[.one (.bool)],λ((code,()):kG)=>(True,decide (1048576<(code.length:Int)),())⟩
def D5:XA:=⟨193,[.p (.v (.one (.sl aG bG false)))],[.one (.own aG bG false)],λ((l,()):Oo)=>(l.length<=1000/\∀f∈l,bY f,λ(z:Oo×Unit)=>z.1.1=l)⟩
def sF:XA:=⟨122,[.p (.v (.agg [.sl au aT false,.sl aG bG false,.int .i64]))],[.agg [.c (.sl au aT false),.own aG bG false,.c (.int .i64)]],λ((s,()):FW)=>(bn s,λ(z:Jo)=>(z.1.1.1,z.1.1.2.1,z.1.1.2.2.1,())=s)⟩
def BG:XA:=⟨282,[.ptr [.sl eG jL false,.int .i64,.int .i64]],[.one (.c .str)],λ(((_,i,_,()),()):ig)=>(0<=i,λ(z:qo)=>0<=z.2.1.2.1/\z.1.1.length<=10)⟩
def xA:XA:=⟨248,[.ptr [.sl eG jL false,.int .i64,.int .i64]],[.agg [.c (.int .i64),.c (.int .i64),.c (.int .i64),.c .str,.c (.int .i64),.c (.int .i64),.c .str]],λ(((_,i,_,()),()):ig)=>(0<=i,λ(z:Om×ig)=>0<=z.2.1.2.1/\True)⟩
def J9:List gQ:=[.ptr [.sl eG jL false,.int .i64,.int .i64],.own bg bW,.p (.v (.one (.int .i64))),.p (.v (.one (.bool)))]
def Qe:List oC:=[.one (.own bg bW false)]
def U0:jg J9->Prop×(kP Qe×kF J9->Prop):=λ((_,i,_,()),q,deep,_,())=>(0<=i/\0<=deep/\deep<=4/\q.length+2*deep.toNat<=900,λ((r,()),((_,i',_,()),()))=>0<=i'/\q.length<r.length/\r.length<=q.length+2*deep.toNat+1)
def aed:Cm:=mX J9 Qe U0
def qA:List gQ:=[.ptr [.sl eG jL false,.int .i64,.int .i64],.own bg bW,.p (.v (.one (.int .i64))),.p (.v (.one (.bool)))]
def JD:List oC:=[.one (.own bg bW false)]
def LY[kz]:jg qA->Prop×(kP JD×kF qA->Prop):=λ((_,i,_,()),q,deep,_,())=>((0<=i/\0<=deep/\deep<=4/\q.length+2*deep.toNat<=900)/\deep.toNat<jf,λ((r,()),((_,i',_,()),()))=>0<=i'/\q.length<r.length/\r.length<=q.length+2*deep.toNat+1)
def CB[kz]:Cm:=mX qA JD LY
def uQ:List gQ:=[.ptr [.sl eG jL false,.int .i64,.int .i64],.own bg bW,.p (.v (.one (.int .i64))),.p (.v (.one (.bool)))]
def Ij:List oC:=[.one (.own bg bW false)]
def wF[kz]:jg uQ->Prop×(kP Ij×kF uQ->Prop):=λ((_,i,_,()),q,deep,_,())=>((0<=i/\0<=deep/\deep<=4/\q.length+2*deep.toNat<=900)/\deep.toNat<jf+1,λ((r,()),((_,i',_,()),()))=>0<=i'/\q.length<r.length/\r.length<=q.length+2*deep.toNat+1)
def Ik[kz]:Cm:=mX uQ Ij wF
def qB:List gQ:=[.ptr [.sl eG jL false,.int .i64,.int .i64],.p (.v (.one .nil)),.p (.v (.one (.int .i64))),.p (.v (.one (.bool)))]
def JE:List oC:=[.one (.own bg bW false)]
def LZ:jg qB->Prop×(kP JE×kF qB->Prop):=λ((_,i,_,()),(),deep,_,())=>(0<=i/\0<=deep/\deep<=4,λ((r,()),((_,i',_,()),()))=>0<=i'/\0<r.length/\r.length<=0+2*deep.toNat+1)
def CG:Cm:=mX qB JE LZ
def zF:XA:=⟨121,[.ptr [.sl eG jL false,.int .i64,.int .i64]],[.one (.own bg bW false)],λ(((_,i,_,()),()):ig)=>(0<=i,λ(z:Cc)=>0<=z.2.1.2.1/\0<z.1.1.length/\z.1.1.length<=9)⟩
def lT:XA:=⟨121,[.ptr [.sl eG jL false,.int .i64,.int .i64]],[.one (.c (.sl bg bW false))],λ(((_,i,_,()),()):ig)=>(0<=i,λ(z:Cc)=>0<=z.2.1.2.1/\0<z.1.1.length/\z.1.1.length<=9)⟩
def I8:XA:=⟨219,[.ptr [.sl eG jL false,.int .i64,.int .i64]],[.one (.c (.sl bg bW false))],λ(((_,i,_,()),()):ig)=>(0<=i,λ(z:Cc)=>0<=z.2.1.2.1/\z.1.1.length<=10)⟩
def CJ:XA:=⟨218,[.ptr [.sl eG jL false,.int .i64,.int .i64]],[.one (.own aJ bF false)],λ(((_,i,_,()),()):ig)=>(0<=i,λ(z:mO×ig)=>0<=z.2.1.2.1/\0<z.1.1.length/\z.1.1.length<=4/\aI z.1.1)⟩
def I9:XA:=⟨165,[.ptr [.sl eG jL false,.int .i64,.int .i64]],[.one (.c (.sl aJ bF false))],λ(((_,i,_,()),()):ig)=>(0<=i,λ(z:mO×ig)=>0<=z.2.1.2.1/\z.1.1.length<=10/\aI z.1.1)⟩
def CO:XA:=⟨162,[.ptr [.sl eG jL false,.int .i64,.int .i64]],[.one (.c (.sl aJ bF false))],λ(((_,i,_,()),()):ig)=>(0<=i,λ(z:mO×ig)=>0<=z.2.1.2.1/\z.1.1.length<=10/\aI z.1.1/\aB z.1.1=true/\0<z.1.1.length)⟩
def zG:PA:=⟨235,[.v (.agg [.int .i64,.int .i64,.int .i64,.str,.int .i64,.int .i64,.str]),.v (.one (.int .i64))],[.one (.bool)],λ(((o,l,r,nm,vk,vi,vs,()),at',()):aea×fK)=>(True,kT (o,l,r,nm,vk,vi,vs,()) at',())⟩
def zH:PA:=⟨224,[.v (.agg [.int .i64,.int .i64,.int .i64,.str,.int .i64,.int .i64,.str]),.v (.one (.int .i64))],[.one (.bool)],λ(((o,l,r,nm,vk,vi,vs,()),at',()):aea×fK)=>(True,kT (o,l,r,nm,vk,vi,vs,()) at',())⟩
def sZ:PA:=⟨236,[.v (.one (.sl bg bW false)),.v (.one (.int .i64))],[.one (.int .i64)],λ((q,at',()):jb×fK)=>(q.length<=1000000,(nN q at':Int),())⟩
def tq:PA:=⟨225,[.v (.one (.sl bg bW false)),.v (.one (.int .i64))],[.one (.int .i64)],λ((q,at',()):jb×fK)=>(q.length<=1000000,(nN q at':Int),())⟩
def kC:PA:=⟨179,[.v (.one (.sl bg bW false))],[.one (.bool)],λ((q,()):vJ)=>(q.length<=1000000,aZ q,())⟩
def kD:PA:=⟨171,[.v (.one (.sl bg bW false))],[.one (.bool)],λ((q,()):vJ)=>(q.length<=1000000,aZ q,())⟩
def zI:PA:=⟨211,[.v (.one (.sl aJ bF false))],[.one (.bool)],λ((d,()):mO)=>(aI d,gm d,())⟩
def zJ:PA:=⟨134,[.v (.one (.sl aJ bF false))],[.one (.bool)],λ((d,()):mO)=>(aI d,gm d,())⟩
def zK:PA:=⟨258,[.v (.agg [.int .i64,.int .i64,.int .i64,.str,.int .i64,.int .i64,.str])],[.one (.bool)],λ(((o,_,_,_,_,_,_,()),()):Om)=>(True,(o==8||o==9),())⟩
def yB:PA:=⟨313,[.v (.one (.sl bg bW false))],[.one (.sl afM R_4 true)],λ((q,()):vJ)=>(q.length<=1000,Sp.negated q,())⟩
def yC:PA:=⟨304,[.v (.one (.sl bg bW false))],[.one (.sl afM R_4 true)],λ((q,()):vJ)=>(q.length<=1000,Sp.negated q,())⟩
def jM:List gQ:=[.p (.v (.one (.sl dn eF false)))]
def Fq:List oC:=[.one (.c (.sl dn eF true))]
def OJ:jg jM->Prop×(kP Fq×kF jM->Prop):=λ(l,())=>(l.length<=1000,λ((r,()),())=>r.length<=l.length/\∀s,s∈r↔s∈l)
def lM:Cm:=mX jM Fq OJ
def xU:XA:=⟨281,[.p (.v (.one (.sl bg bW false))),.p (.v (.one (.bool)))],[.one (.c (.sl dn eF true))],λ((q,neg,()):jb×dm)=>(q.length<=1000,λ(z:gU)=>dA z.1.1 (fJ q neg))⟩
def yD:XA:=⟨244,[.p (.v (.one (.sl bg bW false)))],[.one (.c (.sl dn eF true))],λ((q,()):vJ)=>(q.length<=1000,λ(z:gU)=>dA z.1.1 (fJ q false))⟩
def yE:XA:=⟨245,[.p (.v (.one (.sl bg bW false)))],[.one (.c (.sl dn eF true))],λ((q,()):vJ)=>(q.length<=1000,λ(z:gU)=>dA z.1.1 (fJ q true))⟩
def oM:PA:=⟨48,[.v (.one (.sl dn eF false)),.v (.one (.str))],[.one (.sl dn eF false)],λ((l,s,()):ru×ku)=>(l.length<=1000,yZ l s,())⟩
def zL:XA:=⟨303,[.p (.v (.one (.sl bg bW false))),.p (.v (.one (.bool)))],[.one (.c (.sl dn eF true))],λ((q,neg,()):jb×dm)=>(q.length<=1000,λ(z:gU)=>dA z.1.1 (fJ q neg))⟩
def yF:XA:=⟨279,[.p (.v (.one (.sl bg bW false)))],[.one (.c (.sl dn eF true))],λ((q,()):vJ)=>(q.length<=1000,λ(z:gU)=>dA z.1.1 (fJ q false))⟩
def yG:XA:=⟨280,[.p (.v (.one (.sl bg bW false)))],[.one (.c (.sl dn eF true))],λ((q,()):vJ)=>(q.length<=1000,λ(z:gU)=>dA z.1.1 (fJ q true))⟩
def CP:PA:=⟨203,[.v (.agg [.str,.sl bg bW false]),.kp [.str]],[.one (.bool)],λ(((nm,_,()),name,()):(dZ×vJ)×ku×Unit)=>(True,(nm==name.1),())⟩
def ja:PA:=⟨200,[.v (.one (.sl aJ bF false)),.fn 203 [[.str]]],[.one (.int .i64)],λ((d,((name,()),()),()):gG×(ku×Unit)×Unit)=>(True,aP d name,())⟩
def FY:PA:=⟨133,[.v (.one (.sl aJ bF false)),.v (.one (.str))],[.one (.int .i64)],λ((d,name,()):gG×ku)=>(True,aP d name,())⟩
def zM:PA:=⟨176,[.v (.one (.sl aJ bF false)),.v (.one (.str))],[.one (.int .i64)],λ((d,name,()):gG×ku)=>(True,aP d name,())⟩
def zN:PA:=⟨243,[.v (.one (.sl aJ bF false)),.v (.one (.sl fH jR false)),.v (.one (.sl dn eF false)),.v (.one (.int .i64))],[.one (.int .i64)],λ((d,aH,names,more,()):gG×dS×ru×fK)=>(d.length<=aH.length/\names.length<=1000/\0<=more/\more<=1/\∀x∈aH,0<=x.1/\x.1<=1000000,zO d aH more names,())⟩
def EF:XA:=⟨187,[.p (.v (.one (.sl aJ bF false)))],[.one (.c (.sl fH jR true)),.one (.c .bool)],λ((d,()):mO)=>(aI d,λ(z:TY)=>z.1.2.1=aB d/\(z.1.2.1=true->kX d z.1.1))⟩
def uS:XA:=⟨241,[.p (.v (.one (.sl aJ bF false))),.p (.v (.one (.sl fH jR false)))],[.one (.own fH jR true)],λ((d,aH,()):gG×kG)=>(aI d/\d.length<=5/\aH.length=d.length/\∀x∈aH,0<=x.1/\x.1<=1000000,λ(z:FX)=>Sp.raised d aH z.1.1)⟩
def sG:PA:=⟨113,[.v (.one (.sl fH jR false)),.v (.one (.sl fH jR false))],[.one (.bool)],λ((a,b,()):MN)=>(True,decide (a=b),())⟩
def vM:XA:=⟨184,[.p (.v (.one (.sl aJ bF false)))],[.one (.c (.sl fH jR true)),.one (.c .bool)],λ((d,()):mO)=>(aI d,λ(z:TY)=>z.1.2.1=aB d/\(z.1.2.1=true->kX d z.1.1)/\(z.1.2.1=false->z.1.1=[]))⟩
def yH:PA:=⟨150,[.v (.one (.sl aJ bF false))],[.one (.bool)],λ((d,()):mO)=>(aI d,aB d,())⟩
def qC:PA:=⟨222,[.v (.one (.sl bg bW false))],[.one (.sl bg bW false)],λ((l,()):vJ)=>(l.length<=1000,l,())⟩
def CQ:PA:=⟨167,[.v (.agg [.str,.sl bg bW false])],[.agg [.str,.sl bg bW false]],λ(((n,q,()),()):(dZ×vJ)×Unit)=>(q.length<=1000,(n,q,()),())⟩
def zQ:PA:=⟨123,[.v (.one (.sl aJ bF false))],[.one (.sl aJ bF false)],λ((d,()):mO)=>(aI d,d,())⟩
def CS:PA:=⟨142,[.v (.one (.sl aJ bF false))],[.one (.sl aJ bF true)],λ((d,()):mO)=>(aI d,d,())⟩
def D6:PA:=⟨183,[.v (.one (.sl bg bW false)),.v (.one (.sl bg bW false))],[.one (.bool)],λ((a,b,()):jb×vJ)=>(True,decide (a=b),())⟩
def Gv:PA:=⟨109,[.v (.agg [.str,.sl bg bW false]),.v (.agg [.str,.sl bg bW false])],[.one (.bool)],λ((a,b,()):(dZ×vJ)×(dZ×vJ)×Unit)=>(True,decide (a=b),())⟩
def FK:PA:=⟨40,[.v (.one (.sl aJ bF false)),.v (.one (.sl aJ bF false))],[.one (.bool)],λ((a,b,()):gG×mO)=>(True,decide (a=b),())⟩
def sH:PA:=⟨270,[.v (.agg [.int .i64,.int .i64,.bool,.int .i64,.sl ai aN false]),.v (.one (.str))],[.agg [.int .i64,.int .i64,.str]],λ(((_,_,_,_,a,()),name,()):sW×ku)=>(True,bf a name,())⟩
def sJ:PA:=⟨47,[.v (.agg [.int .i64,.int .i64,.bool,.int .i64,.sl ai aN false]),.v (.one (.str))],[.agg [.int .i64,.int .i64,.str]],λ(((_,_,_,_,a,()),name,()):sW×ku)=>(True,bf a name,())⟩
def CU:PA:=⟨271,[.v (.agg [.int .i64,.int .i64,.bool,.int .i64,.sl ai aN false]),.v (.one (.str))],[.one (.int .i64),.one (.bool)],λ(((_,_,_,_,a,()),name,()):sW×ku)=>(True,(bif (bf a name).1==1 then(bf a name).2.1 else 0),((bf a name).1==1),())⟩
def zS:PA:=⟨275,[.v (.one (.sl fH jR false)),.v (.one (.int .i64))],[.one (.int .i64)],λ((s,v,()):dS×fK)=>(True,Sp.findAt (λx=>x.1==v) s,())⟩
def pz:PA:=⟨233,[.v (.one (.sl fH jR false)),.v (.one (.int .i64))],[.one (.bool)],λ((s,v,()):dS×fK)=>(True,fE s v,())⟩
def uT:PA:=⟨206,[.v (.one (.sl dn eF false)),.v (.one (.str))],[.one (.int .i64)],λ((s,v,()):ru×ku)=>(True,Sp.findAt (λx=>x.1==v) s,())⟩
def jw:PA:=⟨139,[.v (.one (.sl dn eF false)),.v (.one (.str))],[.one (.bool)],λ((s,v,()):ru×ku)=>(True,dQ s v,())⟩
def qR:PA:=⟨174,[.v (.one (.sl fH jR false)),.v (.one (.int .i64))],[.one (.bool)],λ((s,v,()):dS×fK)=>(True,fE s v,())⟩
def nD:PA:=⟨42,[.v (.one (.sl fH jR false)),.v (.one (.int .i64))],[.one (.bool)],λ((s,v,()):dS×fK)=>(True,fE s v,())⟩
def tN:PA:=⟨194,[.v (.one (.sl fH jR false))],[.one (.sl fH jR false)],λ((l,()):kG)=>(l.length<=1000,l,())⟩
def lZ:PA:=⟨157,[.v (.one (.sl ay aY false)),.v (.one (.str))],[.one (.sl fH jR false)],λ((r,name,()):iZ×ku)=>(aU r,fF r name,())⟩
def l7:PA:=⟨111,[.v (.one (.sl ay aY false)),.v (.one (.str))],[.one (.sl fH jR true)],λ((r,name,()):iZ×ku)=>(aU r,fF r name,())⟩
def OL:List jy:=[.v (.one (.sl bg bW false)),.v (.one (.int .i64)),.v (.agg [.int .i64,.int .i64,.bool,.int .i64,.sl ai aN false]),.v (.one (.sl ay aY false))]
def NJ:List tV:=[.one (.bool)]
def aee:nO OL->Prop×yI NJ:=λ(q,at',(i,o,s,l,a,()),r,())=>(aZ q=true/\0<=at'/\at'<q.length/\aU r,Sp.val q (i,o,s,l,a,()) (aO r) at'.toNat,())
def zT:Yu:=H9 OL NJ aee
def Il:List jy:=[.v (.one (.sl bg bW false)),.v (.one (.int .i64)),.v (.agg [.int .i64,.int .i64,.bool,.int .i64,.sl ai aN false]),.v (.one (.sl ay aY false))]
def Hu:List tV:=[.one (.bool)]
def JF[kz]:nO Il->Prop×yI Hu:=λ(q,at',(i,o,s,l,a,()),r,())=>((aZ q=true/\0<=at'/\at'<q.length/\aU r)/\at'.toNat<jf,Sp.val q (i,o,s,l,a,()) (aO r) at'.toNat,())
def zf[kz]:Yu:=H9 Il Hu JF
def zh:List jy:=[.v (.one (.sl bg bW false)),.v (.one (.int .i64)),.v (.agg [.int .i64,.int .i64,.bool,.int .i64,.sl ai aN false]),.v (.one (.sl ay aY false))]
def FZ:List tV:=[.one (.bool)]
def Io[kz]:nO zh->Prop×yI FZ:=λ(q,at',(i,o,s,l,a,()),r,())=>((aZ q=true/\0<=at'/\at'<q.length/\aU r)/\at'.toNat<jf+1,Sp.val q (i,o,s,l,a,()) (aO r) at'.toNat,())
def F5[kz]:Yu:=H9 zh FZ Io
def Sz:List jy:=[.v (.one (.sl bg bW false)),.v (.one (.int .i64)),.v (.agg [.int .i64,.int .i64,.bool,.int .i64,.sl ai aN false]),.v (.one (.sl ay aY false))]
def Qg:List tV:=[.one (.bool)]
def ain:nO Sz->Prop×yI Qg:=λ(q,at',(i,o,s,l,a,()),r,())=>(aZ q=true/\0<=at'/\at'<q.length/\aU r,Sp.val q (i,o,s,l,a,()) (aO r) at'.toNat,())
def D7:Yu:=H9 Sz Qg ain
def Ko:List jy:=[.v (.one (.sl bg bW false)),.v (.one (.int .i64)),.v (.agg [.int .i64,.int .i64,.bool,.int .i64,.sl ai aN false]),.v (.one (.sl ay aY false))]
def JG:List tV:=[.one (.bool)]
def L6[kz]:nO Ko->Prop×yI JG:=λ(q,at',(i,o,s,l,a,()),r,())=>((aZ q=true/\0<=at'/\at'<q.length/\aU r)/\at'.toNat<jf,Sp.val q (i,o,s,l,a,()) (aO r) at'.toNat,())
def CV[kz]:Yu:=H9 Ko JG L6
def CW:List jy:=[.v (.one (.sl bg bW false)),.v (.one (.int .i64)),.v (.agg [.int .i64,.int .i64,.bool,.int .i64,.sl ai aN false]),.v (.one (.sl ay aY false))]
def Ip:List tV:=[.one (.bool)]
def Kq[kz]:nO CW->Prop×yI Ip:=λ(q,at',(i,o,s,l,a,()),r,())=>((aZ q=true/\0<=at'/\at'<q.length/\aU r)/\at'.toNat<jf+1,Sp.val q (i,o,s,l,a,()) (aO r) at'.toNat,())
def Iq[kz]:Yu:=H9 CW Ip Kq
def Gw:PA:=⟨247,[.v (.one (.sl bg bW false)),.v (.agg [.int .i64,.int .i64,.bool,.int .i64,.sl ai aN false]),.v (.one (.sl ay aY false))],[.one (.bool)],λ((q,f,r,()):jb×sW×lU)=>(q.length<=1000/\aU r,iH q f (aO r),())⟩
def Gx:PA:=⟨242,[.v (.one (.sl bg bW false)),.v (.agg [.int .i64,.int .i64,.bool,.int .i64,.sl ai aN false]),.v (.one (.sl ay aY false))],[.one (.bool)],λ((q,f,r,()):jb×sW×lU)=>(q.length<=1000/\aU r,iH q f (aO r),())⟩
def zU:PA:=⟨189,[.v (.agg [.sl au aT false,.sl aG bG false,.int .i64]),.v (.one (.sl bg bW false)),.v (.one (.sl ay aY false))],[.one (.sl fH jR true)],λ((s,q,r,()):nC×jb×lU)=>(bn s/\q.length<=1000/\aU r,Sp.sel s.2.1 q (aO r),())⟩
def tX:PA:=⟨186,[.v (.agg [.sl au aT false,.sl aG bG false,.int .i64]),.v (.one (.sl bg bW false)),.v (.one (.sl ay aY false))],[.one (.sl fH jR true)],λ((s,q,r,()):nC×jb×lU)=>(bn s/\q.length<=1000/\aU r,Sp.sel s.2.1 q (aO r),())⟩
def tY:PA:=⟨118,[.v (.one (.sl fH jR false)),.v (.one (.sl fH jR false))],[.one (.bool)],λ((a,b,()):MN)=>(True,decide (a=b),())⟩
def pF:PA:=⟨117,[.v (.agg [.str,.sl fH jR false]),.v (.agg [.str,.sl fH jR false])],[.one (.bool)],λ((a,b,()):(dZ×kG)×(dZ×kG)×Unit)=>(True,decide (a=b),())⟩
def eP:PA:=⟨116,[.v (.one (.sl ay aY false)),.v (.one (.sl ay aY false)),.fn 117 []],[.one (.bool)],λ((a,b,_,()):iZ×iZ×jD)=>(True,decide (a=b),())⟩
def yJ:PA:=⟨50,[.v (.one (.sl ay aY false)),.v (.one (.sl ay aY false))],[.one (.bool)],λ((a,b,()):iZ×lU)=>(True,decide (a=b),())⟩
def yK:PA:=⟨45,[.v (.one (.sl ay aY false)),.v (.one (.sl ay aY false))],[.one (.bool)],λ((a,b,()):iZ×lU)=>(True,decide (a=b),())⟩
def D8:XA:=⟨246,[.p (.v (.one (.sl fH jR false)))],[.one (.c (.int .i64))],λ((l,()):kG)=>(0<l.length,λ(z:fP)=>(∀x∈l,x.1<=z.1.1)/\(z.1.1,())∈l)⟩
def BH:XA:=⟨188,[.p (.v (.one (.sl aJ bF false)))],[.one (.c (.int .i64))],λ((d,()):mO)=>(aI d,λ(z:fP)=>ZL d z.1.1)⟩
def vU:XA:=⟨185,[.p (.v (.one (.sl aJ bF false)))],[.one (.c (.int .i64))],λ((d,()):mO)=>(aI d,λ(z:fP)=>ZL d z.1.1)⟩
def zV:PA:=⟨115,[.v (.one (.sl aJ bF false))],[.one (.sl dn eF true)],λ((d,()):mO)=>(d.length<=1000,iW d,())⟩
def FM:PA:=⟨146,[.v (.one (.sl aJ bF false))],[.one (.sl dn eF true)],λ((d,()):mO)=>(d.length<=1000,iW d,())⟩
def xW:XA:=⟨114,[.p (.v (.agg [.sl au aT false,.sl aG bG false,.int .i64])),.p (.v (.one (.sl aJ bF false))),.p (.v (.one (.sl ay aY false))),.p (.v (.one (.sl dn eF false)))],[.one (.c (.sl ay aY false)),.one (.c (.int .i64)),.one (.c .bool)],λ((s,d,r,names,()):nC×gG×iZ×Jl)=>(bn s/\aI d/\aU r,λ(z:aec)=>z.1.2.2.1=(aB d&&aC s)/\(z.1.2.2.1=true->gq s.2.1 d r (dQ names) z.1.1))⟩
def zW:XA:=⟨49,[.p (.v (.agg [.sl au aT false,.sl aG bG false,.int .i64])),.p (.v (.one (.sl aJ bF false)))],[.one (.c (.sl ay aY false)),.one (.c .bool)],λ((s,d,()):nC×mO)=>(bn s/\aI d,λ(z:xP)=>z.1.2.1=(aB d&&aC s)/\(z.1.2.1=true->gq s.2.1 d [] (λ_=>true) z.1.1))⟩
def BI:XA:=⟨136,[.p (.v (.agg [.sl au aT false,.sl aG bG false,.int .i64])),.p (.v (.one (.sl aJ bF false))),.p (.v (.one (.sl ay aY false))),.p (.v (.one (.sl dn eF false)))],[.one (.c (.sl ay aY false)),.one (.c .bool)],λ((s,d,r,names,()):nC×gG×iZ×Jl)=>(bn s/\aI d/\aU r,λ(z:xP)=>z.1.2.1=(aB d&&aC s)/\(z.1.2.1=true->gq s.2.1 d r (dQ names) z.1.1))⟩
def Ja:XA:=⟨112,[.p (.v (.agg [.sl au aT false,.sl aG bG false,.int .i64])),.p (.v (.one (.sl aJ bF false)))],[.one (.own ay aY false),.one (.c (.int .i64)),.one (.c .bool)],λ((s,d,()):nC×mO)=>(bn s/\aI d,λ(z:aec)=>z.1.2.2.1=(aB d&&aC s)/\(z.1.2.2.1=true->gq s.2.1 d [] (λ_=>true) z.1.1))⟩
def uU:XA:=⟨44,[.p (.v (.agg [.sl au aT false,.sl aG bG false,.int .i64])),.p (.v (.one (.sl aJ bF false)))],[.one (.own ay aY false),.one (.c .bool)],λ((s,d,()):nC×mO)=>(bn s/\aI d,λ(z:xP)=>z.1.2.1=(aB d&&aC s)/\(z.1.2.1=true->gq s.2.1 d [] (λ_=>true) z.1.1))⟩
def BJ:XA:=⟨209,[.p (.v (.agg [.sl au aT false,.sl aG bG false,.int .i64])),.p (.v (.one (.sl aJ bF false))),.p (.v (.one (.sl ay aY false))),.p (.v (.one (.sl dn eF false)))],[.one (.c (.sl ay aY false)),.one (.c .bool)],λ((s,d,r,names,()):nC×gG×iZ×Jl)=>(bn s/\aI d/\aU r,λ(z:xP)=>z.1.2.1=(aB d&&aC s)/\(z.1.2.1=true->gq s.2.1 d r (dQ names) z.1.1))⟩
def vV:XA:=⟨160,[.p (.v (.agg [.sl au aT false,.sl aG bG false,.int .i64])),.p (.v (.one (.sl aJ bF false)))],[.agg [.c (.sl au aT false),.c (.sl aG bG false),.c (.int .i64),.c (.sl aJ bF false),.own ay aY false],.one (.c .bool)],λ((s,d,()):nC×mO)=>(bn s/\aI d,λ(z:(Ez×dm)×Unit)=>z.1.2.1=(aB d&&aC s)/\(z.1.2.1=true->(z.1.1.1,z.1.1.2.1,z.1.1.2.2.1,())=s/\z.1.1.2.2.2.1=d/\gq s.2.1 d [] (λ_=>true) z.1.1.2.2.2.2.1)/\(z.1.2.1=false->(z.1.1.1,z.1.1.2.1,z.1.1.2.2.1,z.1.1.2.2.2.1,z.1.1.2.2.2.2.1,())=([],[],0,[],[],())))⟩
def sK:PA:=⟨20,[.v (.agg [.sl au aT false,.sl aG bG false,.int .i64,.sl aJ bF false,.sl ay aY false])],[.one (.bool)],λ((c,()):Ez×Unit)=>(iq c,dX c,())⟩
def sN:PA:=⟨17,[.v (.agg [.sl au aT false,.sl aG bG false,.int .i64,.sl aJ bF false,.sl ay aY false])],[.one (.bool)],λ((c,()):Ez×Unit)=>(iq c,dX c,())⟩
def zn:PA:=⟨126,[.v (.agg [.sl au aT false,.sl aG bG false,.int .i64]),.v (.one (.int .i64))],[.one (.int .i64)],λ(((_,fs,_,()),id,()):nC×fK)=>(True,Sp.place fs id,())⟩
def zX:PA:=⟨197,[.v (.agg [.int .i64,.int .i64,.bool,.int .i64,.sl ai aN false]),.kp [.int .i64]],[.one (.bool)],λ(((i,_,_,_,_,()),id,()):sW×fP)=>(True,decide (i=id.1),())⟩
def iQ:PA:=⟨196,[.v (.one (.sl aG bG false)),.fn 197 [[.int .i64]]],[.one (.int .i64)],λ((l,((id,()),()),()):gW×fP×Unit)=>(True,Sp.place l id,())⟩
def zY:PA:=⟨57,[.v (.agg [.sl au aT false,.sl aG bG false,.int .i64]),.v (.one (.int .i64))],[.agg [.int .i64,.int .i64,.bool,.int .i64,.sl ai aN false],.one (.bool)],λ((s,id,()):nC×fK)=>(bn s,(aj s id).1,(aj s id).2,())⟩
def qE:PA:=⟨29,[.v (.agg [.sl au aT false,.sl aG bG false,.int .i64]),.v (.one (.int .i64))],[.agg [.int .i64,.int .i64,.bool,.int .i64,.sl ai aN false],.one (.bool)],λ((s,id,()):nC×fK)=>(bn s,(aj s id).1,(aj s id).2,())⟩
def zZ:XA:=⟨128,[.p (.v (.agg [.sl au aT false,.sl aG bG false,.int .i64])),.p (.v (.agg [.int .i64,.int .i64,.bool,.int .i64,.sl ai aN false]))],[.agg [.c (.sl au aT false),.own aG bG false,.c (.int .i64)],.one (.c .bool)],λ((s,f,()):nC×lX)=>(bn s/\bY f,λ(z:TW)=>z.1.1.1=(aQ s f).1.1/\z.1.1.2.1=(aQ s f).1.2.1/\z.1.1.2.2.1=(aQ s f).1.2.2.1/\z.1.2.1=(aQ s f).2)⟩
def tZ:XA:=⟨106,[.p (.v (.agg [.sl au aT false,.sl aG bG false,.int .i64])),.p (.v (.agg [.int .i64,.int .i64,.bool,.int .i64,.sl ai aN false]))],[.agg [.own au aT true,.own aG bG true,.c (.int .i64)],.one (.c .bool)],λ((s,f,()):nC×lX)=>(bn s/\bY f,λ(z:TW)=>z.1.1.1=(aQ s f).1.1/\z.1.1.2.1=(aQ s f).1.2.1/\z.1.1.2.2.1=(aQ s f).1.2.2.1/\z.1.2.1=(aQ s f).2)⟩
def Jr:PA:=⟨284,[.v (.agg [.int .i64,.int .i64,.bool,.int .i64,.sl ai aN false])],[.one (.sl dn eF true)],λ(((_,_,_,_,a,()),()):lX)=>(a.length<=1000,dP a,())⟩
def yL:XA:=⟨250,[.p (.v (.agg [.int .i64,.int .i64,.bool,.int .i64,.sl ai aN false])),.p (.v (.agg [.int .i64,.int .i64,.bool,.int .i64,.sl ai aN false]))],[.one (.c (.sl dn eF true))],λ((f,g,()):sW×lX)=>(bY f/\bY g/\f.2.2.2.2.1.length+g.2.2.2.2.1.length<=1000,λ(z:gU)=>dA z.1.1 (gX f g))⟩
def yM:XA:=⟨19,[.p (.v (.agg [.int .i64,.int .i64,.bool,.int .i64,.sl ai aN false])),.p (.v (.agg [.int .i64,.int .i64,.bool,.int .i64,.sl ai aN false]))],[.one (.c (.sl dn eF true))],λ((f,g,()):sW×lX)=>(bY f/\bY g/\f.2.2.2.2.1.length+g.2.2.2.2.1.length<=1000,λ(z:gU)=>dA z.1.1 (gX f g))⟩
def BK:XA:=⟨251,[.p (.v (.one (.sl bg bW false)))],[.one (.c (.sl dn eF true))],λ((q,()):vJ)=>(q.length<=1000,λ(z:gU)=>dA z.1.1 (lD q))⟩
def BL:XA:=⟨262,[.p (.v (.one (.sl bg bW false)))],[.one (.c (.sl dn eF true))],λ((q,()):vJ)=>(q.length<=1000,λ(z:gU)=>dA z.1.1 (lD q))⟩
def D9:XA:=⟨205,[.p (.v (.one (.sl bg bW false)))],[.one (.c (.sl dn eF true))],λ((q,()):vJ)=>(q.length<=1000,λ(z:gU)=>dA z.1.1 (pG q))⟩
def Ea:XA:=⟨212,[.p (.v (.one (.sl bg bW false)))],[.one (.c (.sl dn eF true))],λ((q,()):vJ)=>(q.length<=1000,λ(z:gU)=>dA z.1.1 (pG q))⟩
def zo:PA:=⟨213,[.v (.one (.sl dn eF false)),.v (.one (.str))],[.one (.bool)],λ((l,s,()):ru×ku)=>(True,dQ l s,())⟩
def BM:XA:=⟨138,[.p (.v (.one (.sl aJ bF false))),.p (.v (.one (.str)))],[.one (.c (.sl dn eF true))],λ((d,name,()):gG×ku)=>(aI d,λ(z:gU)=>z.1.1=Sp.asking d name)⟩
def nP:XA:=⟨64,[.p (.v (.one (.sl aJ bF false))),.p (.v (.one (.sl dn eF false)))],[.one (.c (.sl dn eF true))],λ((d,names,()):gG×Jl)=>(aI d/\d.length<=5/\names.length<=900,λ(z:gU)=>Sp.reached d names z.1.1)⟩
def nR:XA:=⟨151,[.p (.v (.one (.sl aJ bF false))),.p (.v (.one (.sl dn eF false)))],[.one (.c (.sl dn eF true))],λ((d,names,()):gG×Jl)=>(aI d/\d.length<=5/\names.length<=900,λ(z:gU)=>Sp.reached d names z.1.1)⟩
def jW:PA:=⟨255,[.v (.agg [.int .i64,.int .i64,.int .i64,.str,.int .i64,.int .i64,.str])],[.one (.bool)],λ(((o,_,_,_,_,_,_,()),()):Om)=>(True,(o==9),())⟩
def gy:PA:=⟨286,[.v (.one (.sl bg bW false)),.fn 255 []],[.one (.int .i64)],λ((q,_,()):jb×jD)=>(True,Sp.findAt (λn=>n.1==9) q,())⟩
def fU:PA:=⟨254,[.v (.one (.sl bg bW false)),.fn 255 []],[.one (.bool)],λ((q,_,()):jb×jD)=>(True,Sp.linked q,())⟩
def Eb:PA:=⟨261,[.v (.one (.sl bg bW false))],[.one (.bool)],λ((q,()):vJ)=>(True,Sp.linked q,())⟩
def rD:XA:=⟨198,[.p (.v (.one (.sl aJ bF false))),.p (.v (.agg [.int .i64,.int .i64,.bool,.int .i64,.sl ai aN false])),.p (.v (.agg [.int .i64,.int .i64,.bool,.int .i64,.sl ai aN false]))],[.one (.c (.sl dn eF true))],λ((d,f,g,()):gG×sW×lX)=>(aI d/\bY f/\bY g/\f.2.2.2.2.1.length+g.2.2.2.2.1.length<=1000,λ(z:gU)=>Sp.touched d f g z.1.1)⟩
def rE:XA:=⟨210,[.p (.v (.one (.sl aJ bF false))),.p (.v (.agg [.int .i64,.int .i64,.bool,.int .i64,.sl ai aN false])),.p (.v (.agg [.int .i64,.int .i64,.bool,.int .i64,.sl ai aN false]))],[.one (.c (.sl dn eF true))],λ((d,f,g,()):gG×sW×lX)=>(aI d/\bY f/\bY g/\f.2.2.2.2.1.length+g.2.2.2.2.1.length<=1000,λ(z:gU)=>Sp.touched d f g z.1.1)⟩
def jX:PA:=⟨253,[.v (.one (.str)),.kp [.sl dn eF false]],[.one (.bool)],λ((nm,attrs,()):dZ×gU)=>(True,dQ attrs.1 nm,())⟩
def gV:PA:=⟨285,[.v (.one (.sl dn eF false)),.fn 253 [[.sl dn eF false]]],[.one (.int .i64)],λ((l,((attrs,()),()),()):ru×gU×Unit)=>(True,Sp.findAt (λx=>dQ attrs x.1) l,())⟩
def gB:PA:=⟨252,[.v (.one (.sl dn eF false)),.fn 253 [[.sl dn eF false]]],[.one (.bool)],λ((l,((attrs,()),()),()):ru×gU×Unit)=>(True,l.any λx=>dQ attrs x.1,())⟩
def oN:XA:=⟨137,[.p (.v (.one (.sl dn eF false)))],[.one (.own dn eF false)],λ((l,()):Jl)=>(l.length<=1000,λ(z:gU)=>z.1.1=l)⟩
def rF:XA:=⟨194,[.p (.v (.one (.sl fH jR false)))],[.one (.own fH jR false)],λ((l,()):kG)=>(l.length<=1000,λ(z:FX)=>z.1.1=l)⟩
def sO:PA:=⟨265,[.v (.one (.int .i64)),.kp [.sl fH jR false]],[.one (.bool)],λ((x,b,()):Int×FX)=>(True,fE b.1 x,())⟩
def jC:PA:=⟨300,[.v (.one (.sl fH jR false)),.fn 265 [[.sl fH jR false]]],[.one (.int .i64)],λ((l,((b,()),()),()):dS×FX×Unit)=>(True,Sp.findAt (λx=>fE b x.1) l,())⟩
def jv:XA:=⟨264,[.own fH jR,.p (.fn 265 [[.sl fH jR false]])],[.one (.own fH jR false)],λ((s,((b,()),()),()):dS×FX×Unit)=>(s.length<=1000,λ(z:FX)=>z.1.1=s.filter λx=>!fE b x.1)⟩
def Gy:XA:=⟨215,[.p (.v (.one (.sl fH jR false))),.p (.v (.one (.sl fH jR false)))],[.one (.own fH jR false)],λ((a,b,()):MN)=>(a.length<=1000,λ(z:FX)=>z.1.1=Sp.without a b)⟩
def Gz:XA:=⟨156,[.p (.v (.one (.sl fH jR false))),.p (.v (.one (.sl fH jR false)))],[.one (.c (.sl fH jR false)),.one (.c (.sl fH jR false))],λ((a,b,()):MN)=>(a.length<=1000/\b.length<=1000,λ(z:MN×Unit)=>z.1.1=Sp.without b a/\z.1.2.1=Sp.without a b)⟩
def GH:XA:=⟨158,[.p (.v (.one (.sl fH jR false))),.p (.v (.one (.sl fH jR false)))],[.one (.c (.sl fH jR false)),.one (.c (.sl fH jR false))],λ((a,b,()):MN)=>(a.length<=1000/\b.length<=1000,λ(z:MN×Unit)=>z.1.1=Sp.without b a/\z.1.2.1=Sp.without a b)⟩
def Aa:XA:=⟨78,[.p (.v (.one (.sl ay aY false))),.p (.v (.one (.sl ay aY false)))],[.one (.c (.sl wZ Jb false))],λ((a,b,()):iZ×lU)=>(aU a/\aU b,λ(z:aim)=>z.1.1=Jc a b)⟩
def Ac:XA:=⟨79,[.p (.v (.one (.sl ay aY false))),.p (.v (.one (.sl ay aY false)))],[.one (.c (.sl wZ Jb false))],λ((a,b,()):iZ×lU)=>(aU a/\aU b,λ(z:aim)=>z.1.1=Jc a b)⟩
def Ad:XA:=⟨124,[.p (.v (.one (.sl ay aY false)))],[.one (.c (.sl ay aY false))],λ((r,()):lU)=>(aU r,λ(z:lU×Unit)=>z.1.1=r)⟩
def pI:XA:=⟨55,[.p (.v (.agg [.sl au aT false,.sl aG bG false,.int .i64,.sl aJ bF false,.sl ay aY false]))],[.agg [.c (.sl au aT false),.c (.sl aG bG false),.c (.int .i64),.c (.sl aJ bF false),.c (.sl ay aY false)]],λ((c,()):Ez×Unit)=>(iq c,λ(z:Fj)=>(z.1.1.1,z.1.1.2.1,z.1.1.2.2.1,z.1.1.2.2.2.1,z.1.1.2.2.2.2.1,())=c)⟩
def BN:XA:=⟨143,[.p (.v (.one (.sl ay aY false)))],[.one (.c (.sl ay aY false))],λ((r,()):lU)=>(aU r,λ(z:lU×Unit)=>z.1.1=r)⟩
def CX:XA:=⟨65,[.p (.v (.agg [.sl au aT false,.sl aG bG false,.int .i64,.sl aJ bF false,.sl ay aY false]))],[.agg [.c (.sl au aT false),.c (.sl aG bG false),.c (.int .i64),.c (.sl aJ bF false),.c (.sl ay aY false)]],λ((c,()):Ez×Unit)=>(iq c,λ(z:Fj)=>(z.1.1.1,z.1.1.2.1,z.1.1.2.2.1,z.1.1.2.2.2.1,z.1.1.2.2.2.2.1,())=c)⟩
def yN:XA:=⟨129,[.p (.v (.one (.sl aJ bF false))),.p (.v (.agg [.int .i64,.int .i64,.bool,.int .i64,.sl ai aN false])),.p (.v (.agg [.int .i64,.int .i64,.bool,.int .i64,.sl ai aN false]))],[.one (.c (.sl dn eF true))],λ((d,f,g,()):gG×sW×lX)=>(aI d/\d.length<=5/\bY f/\bY g/\f.2.2.2.2.1.length+g.2.2.2.2.1.length<=1000,λ(z:gU)=>Sp.isSet z.1.1 (Yv d f g))⟩
def yO:XA:=⟨147,[.p (.v (.one (.sl aJ bF false))),.p (.v (.agg [.int .i64,.int .i64,.bool,.int .i64,.sl ai aN false])),.p (.v (.agg [.int .i64,.int .i64,.bool,.int .i64,.sl ai aN false]))],[.one (.c (.sl dn eF true))],λ((d,f,g,()):gG×sW×lX)=>(aI d/\d.length<=5/\bY f/\bY g/\f.2.2.2.2.1.length+g.2.2.2.2.1.length<=1000,λ(z:gU)=>Sp.isSet z.1.1 (Yv d f g))⟩
def Ec:XA:=⟨63,[.p (.v (.agg [.sl au aT false,.sl aG bG false,.int .i64,.sl aJ bF false,.sl ay aY false])),.p (.v (.agg [.sl au aT false,.sl aG bG false,.int .i64])),.p (.v (.one (.sl aJ bF false))),.p (.v (.one (.sl dn eF false)))],[.agg [.c (.sl au aT false),.c (.sl aG bG false),.c (.int .i64),.c (.sl aJ bF false),.c (.sl ay aY false)],.one (.c (.sl wZ Jb false)),.one (.c .bool)],λ((c,s,d,names,()):Ez×nC×gG×Jl)=>(iq c/\bn s/\aI d,λ(z:TV)=>Sp.turned c s d (dQ names) (z.1.1.1,z.1.1.2.1,z.1.1.2.2.1,z.1.1.2.2.2.1,z.1.1.2.2.2.2.1,()) z.1.2.1 z.1.2.2.1)⟩
def GI:XA:=⟨145,[.p (.v (.agg [.sl au aT false,.sl aG bG false,.int .i64,.sl aJ bF false,.sl ay aY false])),.p (.v (.agg [.sl au aT false,.sl aG bG false,.int .i64])),.p (.v (.one (.sl aJ bF false))),.p (.v (.one (.sl dn eF false)))],[.agg [.c (.sl au aT false),.c (.sl aG bG false),.c (.int .i64),.c (.sl aJ bF false),.c (.sl ay aY false)],.one (.c (.sl wZ Jb false))],λ((c,s,d,names,()):Ez×nC×gG×Jl)=>(iq c/\bn s/\aI d/\(aB d&&aC s)=true,λ(z:(Ez×aeb×Unit)×Unit)=>Sp.turned c s d (dQ names) (z.1.1.1,z.1.1.2.1,z.1.1.2.2.1,z.1.1.2.2.2.1,z.1.1.2.2.2.2.1,()) z.1.2.1 true)⟩
def BO:XA:=⟨59,[.p (.v (.agg [.sl au aT false,.sl aG bG false,.int .i64,.sl aJ bF false,.sl ay aY false])),.p (.v (.agg [.int .i64,.int .i64,.bool,.int .i64,.sl ai aN false]))],[.agg [.c (.sl au aT false),.c (.sl aG bG false),.c (.int .i64),.c (.sl aJ bF false),.c (.sl ay aY false)],.one (.c (.sl wZ Jb false)),.one (.c .bool)],λ((c,f,()):Ez×lX)=>(iq c/\bY f/\SA c/\OY f,λ(z:TV)=>Sp.updated c f (z.1.1.1,z.1.1.2.1,z.1.1.2.2.1,z.1.1.2.2.2.1,z.1.1.2.2.2.2.1,()) z.1.2.1 z.1.2.2.1)⟩
def BP:XA:=⟨67,[.p (.v (.agg [.sl au aT false,.sl aG bG false,.int .i64,.sl aJ bF false,.sl ay aY false])),.p (.v (.agg [.int .i64,.int .i64,.bool,.int .i64,.sl ai aN false]))],[.agg [.c (.sl au aT false),.c (.sl aG bG false),.c (.int .i64),.c (.sl aJ bF false),.c (.sl ay aY false)],.one (.c (.sl wZ Jb false)),.one (.c .bool)],λ((c,f,()):Ez×lX)=>(iq c/\bY f/\SA c/\OY f,λ(z:TV)=>Sp.updated c f (z.1.1.1,z.1.1.2.1,z.1.1.2.2.1,z.1.1.2.2.2.1,z.1.1.2.2.2.2.1,()) z.1.2.1 z.1.2.2.1)⟩
def FN:PA:=⟨153,[.v (.one (.sl fH jR false)),.v (.one (.sl fH jR false))],[.one (.bool)],λ((a,b,()):MN)=>(True,decide (a=b),())⟩
def BQ:PA:=⟨110,[.v (.agg [.str,.sl fH jR false]),.v (.agg [.str,.sl fH jR false])],[.one (.bool)],λ((a,b,()):(dZ×kG)×(dZ×kG)×Unit)=>(True,decide (a=b),())⟩
def Ae:PA:=⟨41,[.v (.one (.sl ay aY false)),.v (.one (.sl ay aY false))],[.one (.bool)],λ((a,b,()):iZ×lU)=>(True,decide (a=b),())⟩
def uf:PA:=⟨14,[.v (.agg [.sl au aT false,.sl aG bG false,.int .i64,.sl aJ bF false,.sl ay aY false]),.v (.agg [.sl au aT false,.sl aG bG false,.int .i64,.sl aJ bF false,.sl ay aY false])],[.one (.bool)],λ((a,b,()):Ez×Ez×Unit)=>(True,decide (a=b),())⟩
def GK:XA:=⟨82,[.ptr [.sl eG jL false,.int .i64,.int .i64]],[.agg [.c (.sl au aT false),.c (.sl aG bG false),.c (.int .i64),.c (.sl aJ bF false),.own ay aY false]],λ(((_,i,_,()),()):ig)=>(0<=i,λ(z:Ua)=>0<=z.2.1.2.1/\OZ (z.1.1.1,z.1.1.2.1,z.1.1.2.2.1,z.1.1.2.2.2.1,z.1.1.2.2.2.2.1,())/\0<z.1.1.2.2.2.1.length)⟩
def uV:XA:=⟨284,[.p (.v (.agg [.int .i64,.int .i64,.bool,.int .i64,.sl ai aN false]))],[.one (.own dn eF true)],λ(((_,_,_,_,a,()),()):lX)=>(a.length<=1000,λ(z:gU)=>z.1.1=dP a)⟩
def pJ:XA:=⟨46,[.p (.v (.agg [.int .i64,.int .i64,.bool,.int .i64,.sl ai aN false]))],[.one (.own dn eF true)],λ(((_,_,_,_,a,()),()):lX)=>(a.length<=1000,λ(z:gU)=>z.1.1=dP a)⟩
def uX:XA:=⟨181,[.p (.v (.agg [.int .i64,.int .i64,.bool,.int .i64,.sl ai aN false])),.p (.v (.one (.str))),.p (.v (.agg [.int .i64,.int .i64,.str]))],[.agg [.c (.int .i64),.c (.int .i64),.c .bool,.c (.int .i64),.c (.sl ai aN true)]],λ(((i,o,s,l,a,()),name,(k,n,w,()),()):sW×dZ×Cb)=>(a.length<=1000,λ(z:wB)=>z.1.1.1=i/\z.1.1.2.1=o/\z.1.1.2.2.1=s/\z.1.1.2.2.2.1=l/\z.1.1.2.2.2.2.1=dU a name k n w)⟩
def GL:XA:=⟨88,[.ptr [.sl eG jL false,.int .i64,.int .i64]],[.one (.c .str)],λ(((_,i,_,()),()):ig)=>(0<=i,λ(z:qo)=>0<=z.2.1.2.1/\z.1.1.length<=10)⟩
def Kr:XA:=⟨84,[.ptr [.sl eG jL false,.int .i64,.int .i64]],[.one (.c (.int .i64))],λ(((_,i,_,()),()):ig)=>(0<=i,λ(z:gu)=>0<=z.2.1.2.1)⟩
def Jd:XA:=⟨164,[.ptr [.sl eG jL false,.int .i64,.int .i64]],[.one (.c (.sl fH jR false))],λ(((_,i,_,()),()):ig)=>(0<=i,λ(z:kG×ig)=>0<=z.2.1.2.1/\z.1.1.length<=7)⟩
def Je:XA:=⟨89,[.ptr [.sl eG jL false,.int .i64,.int .i64]],[.agg [.c (.sl au aT false),.c (.sl aG bG false),.c (.int .i64),.c (.sl aJ bF false),.c (.sl ay aY false)]],λ(((_,i,_,()),()):ig)=>(0<=i,λ(z:Ua)=>0<=z.2.1.2.1/\kJ (z.1.1.1,z.1.1.2.1,z.1.1.2.2.1,z.1.1.2.2.2.1,z.1.1.2.2.2.2.1,()))⟩
def GN:PA:=⟨178,[.v (.agg [.int .i64,.int .i64,.bool,.int .i64,.sl ai aN false]),.v (.one (.int .i64))],[.one (.bool)],λ((f,u,()):sW×fK)=>(True,iR f u,())⟩
def GR:PA:=⟨169,[.v (.agg [.int .i64,.int .i64,.bool,.int .i64,.sl ai aN false]),.v (.one (.int .i64))],[.one (.bool)],λ((f,u,()):sW×fK)=>(True,iR f u,())⟩
def Af:PA:=⟨21,[.v (.agg [.int .i64,.int .i64,.bool,.int .i64,.sl ai aN false]),.v (.one (.int .i64))],[.one (.bool)],λ((f,u,()):sW×fK)=>(True,nG f u,())⟩
def FO:PA:=⟨58,[.v (.agg [.int .i64,.int .i64,.bool,.int .i64,.sl ai aN false]),.v (.one (.int .i64))],[.one (.bool)],λ((f,u,()):sW×fK)=>(True,nG f u,())⟩
def jd:XA:=⟨98,[.p (.v (.one (.sl ai aN false)))],[.one (.own ai aN false)],λ((l,()):H7)=>(l.length<=1000,λ(z:Jp)=>z.1.1=l)⟩
def wG:XA:=⟨127,[.p (.v (.agg [.int .i64,.int .i64,.bool,.int .i64,.sl ai aN false]))],[.agg [.c (.int .i64),.c (.int .i64),.c .bool,.c (.int .i64),.own ai aN false]],λ(((i,o,s,l,a,()),()):lX)=>(a.length<=1000,λ(z:wB)=>z.1.1.1=i/\z.1.1.2.1=o/\z.1.1.2.2.1=s/\z.1.1.2.2.2.1=l/\z.1.1.2.2.2.2.1=a)⟩
def sQ:PA:=⟨229,[.v (.agg [.str,.int .i64,.int .i64,.str]),.kp [.str]],[.one (.bool)],λ(((nm,_,_,_,()),name,()):UZ×ku×Unit)=>(True,(nm==name.1),())⟩
def iL:PA:=⟨230,[.v (.one (.sl ai aN false)),.fn 229 [[.str]]],[.one (.int .i64)],λ((l,((name,()),()),()):dK×(ku×Unit)×Unit)=>(True,Sp.findAt (λx=>x.1==name) l,())⟩
def iF:XA:=⟨228,[.own ai aN,.p (.fn 229 [[.str]])],[.one (.own ai aN false)],λ((s,((name,()),()),()):dK×(ku×Unit)×Unit)=>(s.length<=1000,λ(z:Jp)=>z.1.1=s.filter λx=>!(x.1==name))⟩
def xX:PA:=⟨231,[.v (.agg [.str,.int .i64,.int .i64,.str]),.kp [.str]],[.one (.bool)],λ(((nm,_,_,_,()),name,()):UZ×ku×Unit)=>(True,Op.bytesLess name.1 nm,())⟩
def iM:PA:=⟨230,[.v (.one (.sl ai aN false)),.fn 231 [[.str]]],[.one (.int .i64)],λ((l,((name,()),()),()):dK×(ku×Unit)×Unit)=>(True,Sp.findAt (λx=>Op.bytesLess name x.1) l,())⟩
def lq:List gQ:=[.own ai aN,.p (.v (.one (.int .i64))),.own ai aN]
def DN:List oC:=[.one (.own ai aN false)]
def O0:jg lq->Prop×(kP DN×kF lq->Prop):=λ(s,i,v,())=>(0<=i/\i<=s.length/\s.length<=1000/\v.length=1,λ((r,()),())=>r=s.take i.toNat++(v++s.drop i.toNat))
def ug:Cm:=mX lq DN O0
def GU:XA:=⟨173,[.p (.v (.agg [.int .i64,.int .i64,.bool,.int .i64,.sl ai aN false])),.p (.v (.one (.str))),.p (.v (.agg [.int .i64,.int .i64,.str]))],[.agg [.c (.int .i64),.c (.int .i64),.c .bool,.c (.int .i64),.c (.sl ai aN false)]],λ(((i,o,s,l,a,()),name,(k,n,w,()),()):sW×dZ×Cb)=>(a.length<=900,λ(z:wB)=>z.1.1.1=i/\z.1.1.2.1=o/\z.1.1.2.2.1=s/\z.1.1.2.2.2.1=l/\z.1.1.2.2.2.2.1=dU a name k n w)⟩
def yP:PA:=⟨85,[.v (.agg [.sl au aT false,.sl aG bG false,.int .i64]),.v (.one (.int .i64))],[.one (.sl fH jR true)],λ(((_,fs,_,()),u,()):nC×fK)=>(fs.length<=1000,JH fs u,())⟩
def Jf:PA:=⟨18,[.v (.agg [.sl au aT false,.sl aG bG false,.int .i64]),.v (.one (.int .i64))],[.agg [.int .i64,.int .i64,.bool,.int .i64,.sl ai aN false]],λ((s,id,()):nC×fK)=>(bn s,(aj s id).1,())⟩
def GV:XA:=⟨83,[.ptr [.sl eG jL false,.int .i64,.int .i64]],[.one (.c (.int .i64))],λ(((_,i,_,()),()):ig)=>(0<=i,λ(z:gu)=>0<=z.2.1.2.1)⟩
def uY:XA:=⟨82,[.ptr [.sl eG jL false,.int .i64,.int .i64]],[.agg [.c (.sl au aT false),.c (.sl aG bG false),.c (.int .i64),.c (.sl aJ bF false),.c (.sl ay aY false)]],λ(((_,i,_,()),()):ig)=>(0<=i,λ(z:Ua)=>0<=z.2.1.2.1/\OZ (z.1.1.1,z.1.1.2.1,z.1.1.2.2.1,z.1.1.2.2.2.1,z.1.1.2.2.2.2.1,())/\0<z.1.1.2.2.2.1.length)⟩
def CY:XA:=⟨35,[.ptr [.sl eG jL false,.int .i64,.int .i64]],[.agg [.c (.sl au aT false),.c (.sl aG bG false),.c (.int .i64),.c (.sl aJ bF false),.c (.sl ay aY false)],.one (.c (.int .i64)),.one (.c .str),.one (.c (.int .i64))],λ(((_,i,_,()),()):ig)=>(0<=i,λ(z:Jm×ig)=>0<=z.2.1.2.1/\kJ (z.1.1.1,z.1.1.2.1,z.1.1.2.2.1,z.1.1.2.2.2.1,z.1.1.2.2.2.2.1,()))⟩
def GX:PA:=⟨99,[.v (.agg [.sl au aT false,.sl aG bG false,.int .i64,.sl aJ bF false,.sl ay aY false]),.v (.one (.int .i64)),.v (.one (.int .i64))],[.agg [.int .i64,.int .i64,.bool,.int .i64,.sl ai aN false],.one (.bool)],λ((c,u,id,()):Ez×FV)=>(iq c,(aj (aW c) id).1,(kK c u id&&dX c),())⟩
def aq7:PA:=⟨4,[.v (.one (.sl eG jL false))],[.one (.bool)],λ(_,())=>(True,true,())⟩
def rM:PA:=⟨102,[.v (.agg [.sl au aT false,.sl aG bG false,.int .i64]),.v (.one (.int .i64))],[.agg [.sl au aT false,.sl aG bG false,.int .i64]],λ((s,u,()):nC×fK)=>(bn s,Sp.visible s u,())⟩
def rO:PA:=⟨91,[.v (.agg [.sl au aT false,.sl aG bG false,.int .i64]),.v (.one (.int .i64))],[.agg [.sl au aT false,.sl aG bG false,.int .i64]],λ((s,u,()):nC×fK)=>(bn s,Sp.visible s u,())⟩
def GY:PA:=⟨90,[.v (.one (.sl aJ bF false)),.v (.one (.str))],[.agg [.str,.sl bg bW false],.one (.bool)],λ((d,name,()):gG×ku)=>(aI d,(iI d name).1,(iI d name).2,())⟩
def GZ:PA:=⟨100,[.v (.one (.sl aJ bF false)),.v (.one (.str))],[.agg [.str,.sl bg bW false],.one (.bool)],λ((d,name,()):gG×ku)=>(aI d,(iI d name).1,(iI d name).2,())⟩
def oD:XA:=⟨92,[.p (.v (.agg [.sl au aT false,.sl aG bG false,.int .i64])),.p (.v (.one (.sl aJ bF false))),.p (.v (.one (.int .i64)))],[.one (.c (.sl ay aY false)),.one (.c .bool)],λ((s,d,u,()):nC×gG×fK)=>(bn s/\aI d,λ(z:xP)=>jI s d u->z.1.1=uh (Sp.visible s u).2.1 d/\z.1.2.1=true)⟩
def oG:XA:=⟨101,[.p (.v (.agg [.sl au aT false,.sl aG bG false,.int .i64])),.p (.v (.one (.sl aJ bF false))),.p (.v (.one (.int .i64)))],[.one (.c (.sl ay aY false)),.one (.c .bool)],λ((s,d,u,()):nC×gG×fK)=>(bn s/\aI d,λ(z:xP)=>jI s d u->z.1.1=uh (Sp.visible s u).2.1 d/\z.1.2.1=true)⟩
def G5:PA:=⟨175,[.v (.agg [.sl au aT false,.sl aG bG false,.int .i64]),.v (.one (.sl aJ bF false)),.v (.one (.int .i64)),.v (.one (.str))],[.one (.sl fH jR false)],λ((s,d,u,name,()):nC×gG×Int×ku)=>(bn s/\aI d/\jI s d u,Qa s d u name,())⟩
def G6:PA:=⟨43,[.v (.agg [.sl au aT false,.sl aG bG false,.int .i64]),.v (.one (.sl aJ bF false)),.v (.one (.int .i64)),.v (.one (.str))],[.one (.sl fH jR false)],λ((s,d,u,name,()):nC×gG×Int×ku)=>(bn s/\aI d/\jI s d u,Qa s d u name,())⟩
def FP:PA:=⟨96,[.v (.agg [.sl au aT false,.sl aG bG false,.int .i64]),.v (.one (.sl aJ bF false)),.v (.one (.int .i64)),.v (.one (.str)),.v (.one (.int .i64))],[.one (.bool)],λ((s,d,u,name,id,()):nC×gG×Int×dZ×fK)=>(bn s/\aI d/\jI s d u,Sp.listed s d u name id,())⟩
def Ag:PA:=⟨16,[.v (.agg [.sl au aT false,.sl aG bG false,.int .i64]),.v (.one (.sl aJ bF false)),.v (.one (.int .i64)),.v (.one (.str)),.v (.one (.int .i64))],[.one (.bool)],λ((s,d,u,name,id,()):nC×gG×Int×dZ×fK)=>(bn s/\aI d/\jI s d u,Sp.listed s d u name id,())⟩
def rP:PA:=⟨272,[.v (.agg [.str,.int .i64,.int .i64,.str]),.kp [.str,.int .i64,.int .i64,.str]],[.one (.bool)],λ(((nm,_,_,_,()),x,()):UZ×UZ×Unit)=>(True,!Op.bytesLess nm x.1,())⟩
def iD:PA:=⟨230,[.v (.one (.sl ai aN false)),.fn 272 [[.str,.int .i64,.int .i64,.str]]],[.one (.int .i64)],λ((l,((nm,_,_,_,()),()),()):dK×(UZ×Unit)×Unit)=>(True,Sp.findAt (λy=>!Op.bytesLess y.1 nm) l,())⟩
def vW:XA:=⟨227,[.p (.v (.agg [.bool,.sl ai aN false])),.p (.v (.agg [.bool,.sl ai aN false]))],[.agg [.c .bool,.c (.sl ai aN false)]],λ((a,b,()):Ol×H8)=>(a.2.1.length+b.2.1.length<=900,λ(z:xQ)=>(z.1.1.1,z.1.1.2.1,())=pK a b)⟩
def vX:PA:=⟨238,[.v (.agg [.bool,.sl ai aN false]),.v (.agg [.bool,.sl ai aN false])],[.agg [.bool,.sl ai aN true]],λ((a,b,()):Ol×H8)=>(a.2.1.length+b.2.1.length<=900,pK a b,())⟩
def CZ:List gQ:=[.p (.v (.one (.sl bg bW false))),.p (.v (.one (.int .i64))),.p (.v (.agg [.int .i64,.int .i64,.bool,.int .i64,.sl ai aN false])),.p (.v (.one (.sl ay aY false))),.p (.v (.one (.bool)))]
def SB:List oC:=[.agg [.c .bool,.c (.sl ai aN false)]]
def akA:jg CZ->Prop×(kP SB×kF CZ->Prop):=λ(q,at',(i,o,s,l,a,()),r,m,())=>(aZ q=true/\0<=at'/\at'<q.length/\aU r,λ(((ok,st,()),()),())=>(ok,st,())=dH q (i,o,s,l,a,()) (aO r) at'.toNat m)
def Kt:Cm:=mX CZ SB akA
def rQ:List gQ:=[.p (.v (.one (.sl bg bW false))),.p (.v (.one (.int .i64))),.p (.v (.agg [.int .i64,.int .i64,.bool,.int .i64,.sl ai aN false])),.p (.v (.one (.sl ay aY false))),.p (.v (.one (.bool)))]
def Ku:List oC:=[.agg [.c .bool,.c (.sl ai aN false)]]
def NK[kz]:jg rQ->Prop×(kP Ku×kF rQ->Prop):=λ(q,at',(i,o,s,l,a,()),r,m,())=>((aZ q=true/\0<=at'/\at'<q.length/\aU r)/\at'.toNat<jf,λ(((ok,st,()),()),())=>(ok,st,())=dH q (i,o,s,l,a,()) (aO r) at'.toNat m)
def Ed[kz]:Cm:=mX rQ Ku NK
def wH:List gQ:=[.p (.v (.one (.sl bg bW false))),.p (.v (.one (.int .i64))),.p (.v (.agg [.int .i64,.int .i64,.bool,.int .i64,.sl ai aN false])),.p (.v (.one (.sl ay aY false))),.p (.v (.one (.bool)))]
def JI:List oC:=[.agg [.c .bool,.c (.sl ai aN false)]]
def yQ[kz]:jg wH->Prop×(kP JI×kF wH->Prop):=λ(q,at',(i,o,s,l,a,()),r,m,())=>((aZ q=true/\0<=at'/\at'<q.length/\aU r)/\at'.toNat<jf+1,λ(((ok,st,()),()),())=>(ok,st,())=dH q (i,o,s,l,a,()) (aO r) at'.toNat m)
def JJ[kz]:Cm:=mX wH JI yQ
def EG:PA:=⟨239,[.v (.agg [.bool,.sl ai aN false]),.v (.agg [.bool,.sl ai aN false])],[.agg [.bool,.sl ai aN false]],λ((a,b,()):Ol×H8)=>(True,Js a b,())⟩
def Ah:List gQ:=[.p (.v (.one (.sl bg bW false))),.p (.v (.one (.int .i64))),.p (.v (.agg [.int .i64,.int .i64,.bool,.int .i64,.sl ai aN false])),.p (.v (.one (.sl ay aY false))),.p (.v (.one (.bool)))]
def Qh:List oC:=[.agg [.c .bool,.c (.sl ai aN false)]]
def aio:jg Ah->Prop×(kP Qh×kF Ah->Prop):=λ(q,at',(i,o,s,l,a,()),r,m,())=>(aZ q=true/\0<=at'/\at'<q.length/\aU r,λ(((ok,st,()),()),())=>(ok,st,())=dH q (i,o,s,l,a,()) (aO r) at'.toNat m)
def Jt:Cm:=mX Ah Qh aio
def qF:List gQ:=[.p (.v (.one (.sl bg bW false))),.p (.v (.one (.int .i64))),.p (.v (.agg [.int .i64,.int .i64,.bool,.int .i64,.sl ai aN false])),.p (.v (.one (.sl ay aY false))),.p (.v (.one (.bool)))]
def JK:List oC:=[.agg [.c .bool,.c (.sl ai aN false)]]
def L8[kz]:jg qF->Prop×(kP JK×kF qF->Prop):=λ(q,at',(i,o,s,l,a,()),r,m,())=>((aZ q=true/\0<=at'/\at'<q.length/\aU r)/\at'.toNat<jf,λ(((ok,st,()),()),())=>(ok,st,())=dH q (i,o,s,l,a,()) (aO r) at'.toNat m)
def C9[kz]:Cm:=mX qF JK L8
def uZ:List gQ:=[.p (.v (.one (.sl bg bW false))),.p (.v (.one (.int .i64))),.p (.v (.agg [.int .i64,.int .i64,.bool,.int .i64,.sl ai aN false])),.p (.v (.one (.sl ay aY false))),.p (.v (.one (.bool)))]
def Ir:List oC:=[.agg [.c .bool,.c (.sl ai aN false)]]
def wI[kz]:jg uZ->Prop×(kP Ir×kF uZ->Prop):=λ(q,at',(i,o,s,l,a,()),r,m,())=>((aZ q=true/\0<=at'/\at'<q.length/\aU r)/\at'.toNat<jf+1,λ(((ok,st,()),()),())=>(ok,st,())=dH q (i,o,s,l,a,()) (aO r) at'.toNat m)
def Iu[kz]:Cm:=mX uZ Ir wI
def Ai:PA:=⟨94,[.v (.one (.sl bg bW false)),.v (.agg [.int .i64,.int .i64,.bool,.int .i64,.sl ai aN false]),.v (.one (.sl ay aY false))],[.agg [.bool,.sl ai aN false]],λ((q,f,r,()):jb×sW×lU)=>(q.length<=1000/\aU r,tu q f (aO r) true,())⟩
def wJ:PA:=⟨93,[.v (.one (.sl bg bW false)),.v (.agg [.int .i64,.int .i64,.bool,.int .i64,.sl ai aN false]),.v (.one (.sl ay aY false))],[.agg [.bool,.sl ai aN false]],λ((q,f,r,()):jb×sW×lU)=>(q.length<=1000/\aU r,tu q f (aO r) false,())⟩
def Aj:PA:=⟨104,[.v (.one (.sl bg bW false)),.v (.agg [.int .i64,.int .i64,.bool,.int .i64,.sl ai aN false]),.v (.one (.sl ay aY false))],[.agg [.bool,.sl ai aN false]],λ((q,f,r,()):jb×sW×lU)=>(q.length<=1000/\aU r,tu q f (aO r) true,())⟩
def wK:PA:=⟨103,[.v (.one (.sl bg bW false)),.v (.agg [.int .i64,.int .i64,.bool,.int .i64,.sl ai aN false]),.v (.one (.sl ay aY false))],[.agg [.bool,.sl ai aN false]],λ((q,f,r,()):jb×sW×lU)=>(q.length<=1000/\aU r,tu q f (aO r) false,())⟩
def Ee:XA:=⟨95,[.p (.v (.agg [.int .i64,.int .i64,.bool,.int .i64,.sl ai aN false])),.p (.v (.agg [.bool,.sl ai aN false]))],[.agg [.c (.int .i64),.c (.int .i64),.c .bool,.c (.int .i64),.c (.sl ai aN false)]],λ(((i,o,s,l,a,()),e,()):sW×H8)=>(a.length<=400/\e.2.1.length<=400,λ(z:wB)=>(z.1.1.1,z.1.1.2.1,z.1.1.2.2.1,z.1.1.2.2.2.1,z.1.1.2.2.2.2.1,())=Sp.edited (i,o,s,l,a,()) e.2.1)⟩
def Ef:XA:=⟨105,[.p (.v (.agg [.int .i64,.int .i64,.bool,.int .i64,.sl ai aN false])),.p (.v (.agg [.bool,.sl ai aN false]))],[.agg [.c (.int .i64),.c (.int .i64),.c .bool,.c (.int .i64),.c (.sl ai aN true)]],λ(((i,o,s,l,a,()),e,()):sW×H8)=>(a.length<=400/\e.2.1.length<=400,λ(z:wB)=>(z.1.1.1,z.1.1.2.1,z.1.1.2.2.1,z.1.1.2.2.2.1,z.1.1.2.2.2.2.1,())=Sp.edited (i,o,s,l,a,()) e.2.1)⟩
def qg:XA:=⟨97,[.own ai aN,.p (.v (.one (.int .i64))),.p (.v (.one (.int .i64)))],[.one (.own ai aN false)],λ((s,i,j,()):dK×FV)=>(0<=i/\i<=j/\j<=s.length,λ(z:Jp)=>z.1.1=s.take i.toNat++s.drop j.toNat)⟩
def rU:XA:=⟨37,[.p (.v (.agg [.sl au aT false,.sl aG bG false,.int .i64,.sl aJ bF false,.sl ay aY false])),.p (.v (.one (.int .i64))),.p (.v (.one (.str))),.p (.v (.one (.int .i64))),.p (.v (.one (.bool)))],[.agg [.c (.sl au aT false),.c (.sl aG bG false),.c (.int .i64),.c (.sl aJ bF false),.c (.sl ay aY false)],.one (.c (.sl ai aN false)),.one (.c .bool)],λ((c,u,name,id,b,()):Ez×Int×dZ×Int×dm)=>(kJ c,λ(z:xO)=>Sp.written c u name id b (z.1.1.1,z.1.1.2.1,z.1.1.2.2.1,z.1.1.2.2.2.1,z.1.1.2.2.2.2.1,()) z.1.2.1 z.1.2.2.1)⟩
def Ak:XA:=⟨38,[.p (.v (.agg [.sl au aT false,.sl aG bG false,.int .i64,.sl aJ bF false,.sl ay aY false])),.p (.v (.one (.int .i64))),.p (.v (.one (.str))),.p (.v (.one (.int .i64))),.p (.v (.one (.bool)))],[.agg [.c (.sl au aT false),.c (.sl aG bG false),.c (.int .i64),.c (.sl aJ bF false),.c (.sl ay aY false)],.one (.c (.sl ai aN false)),.one (.c .bool)],λ((c,u,name,id,b,()):Ez×Int×dZ×Int×dm)=>(kJ c,λ(z:xO)=>Sp.written c u name id b (z.1.1.1,z.1.1.2.1,z.1.1.2.2.1,z.1.1.2.2.2.1,z.1.1.2.2.2.2.1,()) z.1.2.1 z.1.2.2.1)⟩
def Am:XA:=⟨9,[.p (.v (.agg [.sl au aT false,.sl aG bG false,.int .i64,.sl aJ bF false,.sl ay aY false])),.p (.v (.one (.int .i64))),.p (.v (.one (.str))),.p (.v (.one (.int .i64)))],[.agg [.c (.sl au aT false),.c (.sl aG bG false),.c (.int .i64),.c (.sl aJ bF false),.c (.sl ay aY false)],.one (.c (.sl ai aN false)),.one (.c .bool)],λ((c,u,name,id,()):Jm)=>(kJ c,λ(z:xO)=>Sp.written c u name id true (z.1.1.1,z.1.1.2.1,z.1.1.2.2.1,z.1.1.2.2.2.1,z.1.1.2.2.2.2.1,()) z.1.2.1 z.1.2.2.1)⟩
def wL:XA:=⟨12,[.p (.v (.agg [.sl au aT false,.sl aG bG false,.int .i64,.sl aJ bF false,.sl ay aY false])),.p (.v (.one (.int .i64))),.p (.v (.one (.str))),.p (.v (.one (.int .i64)))],[.agg [.c (.sl au aT false),.c (.sl aG bG false),.c (.int .i64),.c (.sl aJ bF false),.c (.sl ay aY false)],.one (.c (.sl ai aN false)),.one (.c .bool)],λ((c,u,name,id,()):Jm)=>(kJ c,λ(z:xO)=>Sp.written c u name id false (z.1.1.1,z.1.1.2.1,z.1.1.2.2.1,z.1.1.2.2.2.1,z.1.1.2.2.2.2.1,()) z.1.2.1 z.1.2.2.1)⟩
def Ap:XA:=⟨10,[.p (.v (.agg [.sl au aT false,.sl aG bG false,.int .i64,.sl aJ bF false,.sl ay aY false])),.p (.v (.one (.int .i64))),.p (.v (.one (.str))),.p (.v (.one (.int .i64)))],[.agg [.c (.sl au aT false),.c (.sl aG bG false),.c (.int .i64),.c (.sl aJ bF false),.c (.sl ay aY false)],.one (.c (.sl ai aN false)),.one (.c .bool)],λ((c,u,name,id,()):Jm)=>(kJ c,λ(z:xO)=>Sp.written c u name id true (z.1.1.1,z.1.1.2.1,z.1.1.2.2.1,z.1.1.2.2.2.1,z.1.1.2.2.2.2.1,()) z.1.2.1 z.1.2.2.1)⟩
def wM:XA:=⟨13,[.p (.v (.agg [.sl au aT false,.sl aG bG false,.int .i64,.sl aJ bF false,.sl ay aY false])),.p (.v (.one (.int .i64))),.p (.v (.one (.str))),.p (.v (.one (.int .i64)))],[.agg [.c (.sl au aT false),.c (.sl aG bG false),.c (.int .i64),.c (.sl aJ bF false),.c (.sl ay aY false)],.one (.c (.sl ai aN false)),.one (.c .bool)],λ((c,u,name,id,()):Jm)=>(kJ c,λ(z:xO)=>Sp.written c u name id false (z.1.1.1,z.1.1.2.1,z.1.1.2.2.1,z.1.1.2.2.2.1,z.1.1.2.2.2.2.1,()) z.1.2.1 z.1.2.2.1)⟩
def rV:XA:=⟨8,[.p (.v (.one (.sl eG jL false)))],[.agg [.c (.sl au aT false),.c (.sl aG bG false),.c (.int .i64),.c (.sl aJ bF false),.c (.sl ay aY false)],.one (.c (.int .i64)),.one (.c .str),.one (.c (.int .i64))],λ((code,()):kG)=>(code.length<=1048576,λ(z:Jm×Unit)=>kJ (z.1.1.1,z.1.1.2.1,z.1.1.2.2.1,z.1.1.2.2.2.1,z.1.1.2.2.2.2.1,()))⟩
def qG:XA:=⟨11,[.p (.v (.one (.sl eG jL false)))],[.agg [.c (.sl au aT false),.c (.sl aG bG false),.c (.int .i64),.c (.sl aJ bF false),.c (.sl ay aY false)],.one (.c (.int .i64)),.one (.c .str),.one (.c (.int .i64))],λ((code,()):kG)=>(code.length<=1048576,λ(z:Jm×Unit)=>kJ (z.1.1.1,z.1.1.2.1,z.1.1.2.2.1,z.1.1.2.2.2.1,z.1.1.2.2.2.2.1,()))⟩
def qh:XA:=⟨19,[.p (.v (.agg [.int .i64,.int .i64,.bool,.int .i64,.sl ai aN false])),.p (.v (.agg [.int .i64,.int .i64,.bool,.int .i64,.sl ai aN false]))],[.one (.c (.sl dn eF true))],λ((f,g,()):sW×lX)=>(bY f/\bY g/\f.2.2.2.2.1.length+g.2.2.2.2.1.length<=1000,λ(z:gU)=>dA z.1.1 (gX f g)/\z.1.1.Nodup)⟩
def Ia:PA:=⟨3,[.v (.one (.sl eG jL false))],[.one (.bool)],λ(_,())=>(True,true,())⟩
def Bf:PA:=⟨5,[.v (.one (.sl eG jL false))],[.one (.bool)],λ(_,())=>(True,true,())⟩
def Wy[kz]:lC:=Kv [(yR,.eff (oH qA) CB),dL.e,xA.e,mP.e]
def Ub[kz]:lC:=Kv [qR.e,lZ.e,(ve,.pure zf),CU.e,sH.e]
def WA[kz]:lC:=Kv [nD.e,l7.e,(yS,.pure CV),sJ.e]
def YO[kz]:lC:=Kv [vW.e,(Aq,.eff (oH rQ) Ed),(xY,.pure zT)]
def WB[kz]:lC:=Kv [EG.e,vX.e,(yT,.eff (oH qF) C9),(Dc,.pure D7)]
end
end Go.Proofs.Tryz
