import Derived.Test.YtkgkfdphbkfjnaaGreatN
import Derived.Test.YtkgkfdphbkfjnaaGreatSp
namespace Go.Proofs.Tryz
open Go Go.Fw Sp
abbrev dY:=List UInt8
abbrev ku:=dY×Unit
abbrev UF:=dY×Int×Int×ku
abbrev fK:=Int×Unit
abbrev fA:=List (dY×fK)
abbrev dK:=List UF
abbrev Hw:=dK×Unit
abbrev sU:=Int×Int×Bool×Int×Hw
abbrev gW:=List sU
abbrev ad2:=Int×Int×Int×UF
abbrev ja:=List ad2
abbrev vz:=ja×Unit
abbrev gG:=List (dY×vz)
abbrev dS:=List fK
abbrev kG:=dS×Unit
abbrev iY:=List (dY×kG)
abbrev lT:=iY×Unit
abbrev Et:=fA×gW×Int×gG×lT
abbrev FQ:=Int×fK
abbrev E8:=dS×FQ
abbrev ig:=E8×Unit
abbrev rq:=List ku
abbrev Jh:=rq×Unit
abbrev gU:=Jh×Unit
abbrev nC:=fA×gW×fK
abbrev dh:=Bool×Unit
abbrev N9:=Bool×Hw
abbrev Hy:=N9×Unit
abbrev jD:=Unit×Unit
abbrev alf:=Int×Int×Bool×Int×jD
abbrev Zz:=Unit×E8×alf×Hw
abbrev BQ:=(Et×dK×dh)×Unit
abbrev fP:=fK×Unit
abbrev MB:=dS×kG
abbrev ad3:=List (dY×MB)
abbrev BR:=(Int×Int×ku)×Unit
abbrev Oa:=ad2×Unit
abbrev su:=Unit×fK
abbrev JZ:=su×Jh
abbrev lX:=sU×Unit
abbrev wo:=lX×Unit
abbrev xI:=(iY×dh)×Unit
abbrev gu:=fK×ig
abbrev BU:=vz×ig
abbrev Fa:=(Et×Unit)×Unit
abbrev FT:=nC×Unit
abbrev Ji:=FT×Unit
abbrev J3:=Et×Int×dY×fK
abbrev mO:=gG×Unit
abbrev TD:=(Et×ad3×dh)×Unit
abbrev aoj:=(ja×iY×Bool×sU×Unit×jD)×(Bool×jD)×Oa
abbrev qm:=ku×ig
abbrev xJ:=Hy×Unit
abbrev TF:=(nC×dh)×Unit
abbrev TG:=(dS×dh)×Unit
abbrev ad4:=(iY×Int×dh)×Unit
abbrev TJ:=(Et×Unit)×ig
abbrev V5:=(rq×fK)×Unit
abbrev Fb:=dh×Unit
abbrev FU:=kG×Unit
abbrev Jj:=Hw×Unit
abbrev asZ:=(N9×Unit×Unit×Unit×Int×jD)×(Bool×jD)×alf×dK×UF×Hw
abbrev Jk:=dh×ig
abbrev MC:=fA×Unit
abbrev aic:=(ad3×Unit)×Unit
abbrev Ob:=gW×Unit
abbrev aok:=(nC×Int×dh)×Unit
class kz where n:Nat
abbrev je[kz]:Nat:=kz.n
noncomputable section
def Eu:QA:=⟨36,[.p (.v (.one (.sl eH jQ false)))],[.sl eH jQ false,.int .i64,.int .i64],λ((code,()):kG)=>(code.length<=1048576,λ(z:E8)=>z.2.1=0)⟩
def Gp:XA:=⟨163,[.ptr [.sl eH jQ false,.int .i64,.int .i64]],[.one (.c (.int .i64))],λ(((_,i,_,()),()):ig)=>(0<=i,λ(z:gu)=>0<=z.2.1.2.1/\0<=z.1.1/\z.1.1<=255)⟩
def dL:XA:=⟨87,[.ptr [.sl eH jQ false,.int .i64,.int .i64],.p (.v (.one (.int .i64)))],[.one (.c (.int .i64))],λ(((_,i,_,()),n,()):E8×fK)=>(0<=i,λ(z:gu)=>0<=z.2.1.2.1/\0<=z.1.1/\(0<n->z.1.1<n)/\(n<=0->z.1.1=0))⟩
def mP:XA:=⟨86,[.ptr [.sl eH jQ false,.int .i64,.int .i64],.p (.v (.one (.int .i64)))],[.one (.c .bool)],λ(((_,i,_,()),_,()):E8×fK)=>(0<=i,λ(z:Jk)=>0<=z.2.1.2.1)⟩
def jo:XA:=⟨120,[.ptr [.sl eH jQ false,.int .i64,.int .i64],.p (.v (.one (.sl dn eF false)))],[.one (.c .str)],λ(((_,i,_,()),list,()):E8×Jh)=>(0<=i/\list≠[],λ(z:qm)=>0<=z.2.1.2.1/\(z.1.1,())∈list)⟩
def kE:XA:=⟨75,[.ptr [.sl eH jQ false,.int .i64,.int .i64],.p (.v (.one (.sl fH jR false)))],[.one (.c (.int .i64))],λ(((_,i,_,()),list,()):E8×kG)=>(0<=i/\list≠[],λ(z:gu)=>0<=z.2.1.2.1/\(z.1.1,())∈list)⟩
def zA:XA:=⟨217,[],[.one (.own ak aS true)],λ(())=>(True,λ(z:MC×Unit)=>z.1.1=Sp.usual)⟩
def BV:XA:=⟨267,[.ptr [.sl eH jQ false,.int .i64,.int .i64]],[.one (.c .str)],λ(((_,i,_,()),()):ig)=>(0<=i,λ(z:qm)=>0<=z.2.1.2.1/\z.1.1.length<=1)⟩
def IW:XA:=⟨221,[.ptr [.sl eH jQ false,.int .i64,.int .i64]],[.one (.c (.sl ak aS true))],λ(((_,i,_,()),()):ig)=>(0<=i,λ(z:MC×ig)=>0<=z.2.1.2.1/\z.1.1.length<=6)⟩
def Fq:XA:=⟨301,[.ptr [.sl eH jQ false,.int .i64,.int .i64]],[.agg [.c (.int .i64),.c (.int .i64),.c .str]],λ(((_,i,_,()),()):ig)=>(0<=i,λ(z:BR×ig)=>0<=z.2.1.2.1/\z.1.1.2.2.1.length<=10)⟩
def Ew:XA:=⟨266,[.ptr [.sl eH jQ false,.int .i64,.int .i64]],[.agg [.c (.int .i64),.c (.int .i64),.c .str]],λ(((_,i,_,()),()):ig)=>(0<=i,λ(z:BR×ig)=>0<=z.2.1.2.1/\z.1.1.2.2.1.length<=10)⟩
def uH:PA:=⟨190,[.v (.one (.int .i64))],[.agg [.int .i64,.int .i64,.str]],λ((n,()):fK)=>(True,(1,n,[],()),())⟩
def lY:PA:=⟨191,[.v (.one (.str))],[.agg [.int .i64,.int .i64,.str]],λ((w,()):ku)=>(True,(2,0,w,()),())⟩
def jb:PA:=⟨51,[.v (.one (.int .i64)),.v (.one (.int .i64)),.v (.one (.int .i64))],[.one (.bool)],λ((x,a,b,()):Int×FQ)=>(True,(decide (a<=x)&&decide (x<=b)),())⟩
def mG:PA:=⟨72,[.v (.one (.int .i64)),.v (.one (.int .i64)),.v (.one (.int .i64))],[.one (.bool)],λ((x,a,b,()):Int×FQ)=>(True,(decide (a<=x)&&decide (x<=b)),())⟩
def BZ:PA:=⟨299,[.v (.one (.str)),.v (.one (.int .i64))],[.one (.bool)],λ((s,m,()):dY×fK)=>(True,(Sp.lower s&&decide (1<=(s.length:Int))&&decide ((s.length:Int)<=m)),())⟩
def mQ:PA:=⟨263,[.v (.one (.str))],[.one (.bool)],λ((s,()):ku)=>(True,iT s,())⟩
def mV:PA:=⟨204,[.v (.one (.str))],[.one (.bool)],λ((s,()):ku)=>(True,iT s,())⟩
def rH:PA:=⟨277,[.v (.agg [.int .i64,.int .i64,.str])],[.one (.bool)],λ(((k,n,s,()),()):BR)=>(True,kH k n s,())⟩
def rJ:PA:=⟨269,[.v (.agg [.int .i64,.int .i64,.str])],[.one (.bool)],λ(((k,n,s,()),()):BR)=>(True,kH k n s,())⟩
def ou:PA:=⟨276,[.v (.one (.str))],[.one (.bool)],λ((s,()):ku)=>(True,jY s,())⟩
def oz:PA:=⟨268,[.v (.one (.str))],[.one (.bool)],λ((s,()):ku)=>(True,jY s,())⟩
def DN:PA:=⟨278,[.v (.one (.sl ak aS false)),.v (.one (.str))],[.one (.int .i64)],λ((fs,s,()):fA×ku)=>(True,Sp.kindOf fs s,())⟩
def DR:PA:=⟨283,[.v (.one (.sl ak aS false)),.v (.one (.str))],[.one (.int .i64)],λ((fs,s,()):fA×ku)=>(True,Sp.kindOf fs s,())⟩
def qo:PA:=⟨234,[.v (.one (.sl ak aS false))],[.one (.bool)],λ((fs,()):MC)=>(True,fO fs,())⟩
def qp:PA:=⟨223,[.v (.one (.sl ak aS false))],[.one (.bool)],λ((fs,()):MC)=>(True,fO fs,())⟩
def wu:PA:=⟨240,[.v (.one (.sl ak aS false)),.v (.one (.str)),.v (.agg [.int .i64,.int .i64,.str])],[.one (.bool)],λ((fs,s,(k,n,w,()),()):fA×dY×BR)=>(True,iL fs s k n w,())⟩
def wz:PA:=⟨249,[.v (.one (.sl ak aS false)),.v (.one (.str)),.v (.agg [.int .i64,.int .i64,.str])],[.one (.bool)],λ((fs,s,(k,n,w,()),()):fA×dY×BR)=>(True,iL fs s k n w,())⟩
def o9:PA:=⟨182,[.v (.one (.sl ak aS false)),.v (.agg [.int .i64,.int .i64,.bool,.int .i64,.sl ai aN false])],[.one (.bool)],λ((fs,f,()):fA×lX)=>(True,bT fs f,())⟩
def tC:PA:=⟨195,[.v (.one (.sl ak aS false)),.v (.agg [.int .i64,.int .i64,.bool,.int .i64,.sl ai aN false])],[.one (.bool)],λ((fs,f,()):fA×lX)=>(True,bT fs f,())⟩
def jB:PA:=⟨177,[.v (.agg [.sl ak aS false,.sl aG bG false,.int .i64])],[.one (.bool)],λ((s,()):FT)=>(True,aC s,())⟩
def oh:PA:=⟨170,[.v (.agg [.sl ak aS false,.sl aG bG false,.int .i64])],[.one (.bool)],λ((s,()):FT)=>(True,aC s,())⟩
def Bo:PA:=⟨107,[.v (.one (.sl ak aS false)),.v (.one (.sl ak aS false))],[.one (.bool)],λ((a,b,()):fA×MC)=>(True,decide (a=b),())⟩
def xK:PA:=⟨15,[.v (.one (.sl ai aN false)),.v (.one (.sl ai aN false))],[.one (.bool)],λ((a,b,()):dK×Hw)=>(True,decide (a=b),())⟩
def Fv:PA:=⟨30,[.v (.agg [.int .i64,.int .i64,.bool,.int .i64,.sl ai aN false]),.v (.agg [.int .i64,.int .i64,.bool,.int .i64,.sl ai aN false])],[.one (.bool)],λ((a,b,()):sU×lX)=>(True,decide (a=b),())⟩
def DT:PA:=⟨108,[.v (.one (.sl aG bG false)),.v (.one (.sl aG bG false))],[.one (.bool)],λ((a,b,()):gW×Ob)=>(True,decide (a=b),())⟩
def DU:PA:=⟨39,[.v (.agg [.sl ak aS false,.sl aG bG false,.int .i64]),.v (.agg [.sl ak aS false,.sl aG bG false,.int .i64])],[.one (.bool)],λ((a,b,()):nC×FT)=>(True,decide (a=b),())⟩
def mW:PA:=⟨74,[.v (.agg [.int .i64,.int .i64,.bool,.int .i64,.sl ai aN false])],[.agg [.int .i64,.int .i64,.bool,.int .i64,.sl ai aN true]],λ((f,()):lX)=>(bY f,f,())⟩
def nM:PA:=⟨127,[.v (.agg [.int .i64,.int .i64,.bool,.int .i64,.sl ai aN false])],[.agg [.int .i64,.int .i64,.bool,.int .i64,.sl ai aN false]],λ((f,()):lX)=>(bY f,f,())⟩
def vC:PA:=⟨54,[.v (.one (.int .i64))],[.one (.bool)],λ((u,()):fK)=>(True,(decide (0<=u)&&decide (u<=2)),())⟩
def qw:PA:=⟨73,[.v (.agg [.sl ak aS false,.sl aG bG false,.int .i64]),.v (.one (.int .i64))],[.one (.int .i64)],λ(((_,fs,_,()),id,()):nC×fK)=>(True,Sp.place fs id,())⟩
def lQ:PA:=⟨168,[.v (.one (.sl ak aS false))],[.one (.sl ak aS false)],λ((l,()):MC)=>(l.length<=1000,l,())⟩
def qx:PA:=⟨98,[.v (.one (.sl ai aN false))],[.one (.sl ai aN false)],λ((l,()):Hw)=>(l.length<=1000,l,())⟩
def Cb:XA:=⟨181,[.p (.v (.agg [.int .i64,.int .i64,.bool,.int .i64,.sl ai aN false])),.p (.v (.one (.str))),.p (.v (.agg [.int .i64,.int .i64,.str]))],[.agg [.c (.int .i64),.c (.int .i64),.c .bool,.c (.int .i64),.own ai aN true]],λ(((i,o,s,l,a,()),name,(k,n,w,()),()):sU×dY×BR)=>(a.length<=1000,λ(z:wo)=>z.1.1.1=i/\z.1.1.2.1=o/\z.1.1.2.2.1=s/\z.1.1.2.2.2.1=l/\z.1.1.2.2.2.2.1=dU a name k n w)⟩
def xg:XA:=⟨119,[.ptr [.sl eH jQ false,.int .i64,.int .i64],.p (.v (.one (.int .i64)))],[.agg [.c (.int .i64),.c (.int .i64),.c .bool,.c (.int .i64),.own ai aN true]],λ(((_,i,_,()),id,()):E8×fK)=>(0<=i,λ(z:lX×ig)=>0<=z.2.1.2.1/\z.1.1.1=id/\0<=z.1.1.2.1/\z.1.1.2.1<=2/\0<=z.1.1.2.2.2.1/\z.1.1.2.2.2.1<=6/\iy Sp.usual z.1.1.2.2.2.2.1=true/\z.1.1.2.2.2.2.1.length<=4)⟩
def IX:XA:=⟨220,[.ptr [.sl eH jQ false,.int .i64,.int .i64]],[.agg [.c (.int .i64),.c (.int .i64),.c .bool,.c (.int .i64),.c (.sl ai aN true)]],λ(((_,i,_,()),()):ig)=>(0<=i,λ(z:lX×ig)=>0<=z.2.1.2.1/\z.1.1.2.2.2.2.1.length<=10)⟩
def Fz:XA:=⟨216,[.p (.v (.one (.sl ak aS false)))],[.agg [.own ak aS true,.own aG bG true,.c (.int .i64)]],λ((s,()):MC)=>(s.length<=1000,λ(z:Ji)=>z.1.1.1=s/\z.1.1.2.1=[]/\z.1.1.2.2.1=1)⟩
def pq:XA:=⟨141,[.p (.v (.agg [.sl ak aS false,.sl aG bG false,.int .i64]))],[.agg [.own ak aS true,.own aG bG true,.c (.int .i64)]],λ((s,()):FT)=>(bn s,λ(z:Ji)=>(z.1.1.1,z.1.1.2.1,z.1.1.2.2.1,())=s)⟩
def vM:XA:=⟨144,[.p (.v (.agg [.sl ak aS false,.sl aG bG false,.int .i64])),.p (.v (.agg [.int .i64,.int .i64,.bool,.int .i64,.sl ai aN false]))],[.agg [.own ak aS true,.own aG bG true,.c (.int .i64)],.one (.c (.int .i64)),.one (.c .bool)],λ((s,f,()):nC×lX)=>(bn s/\bY f,λ(z:aok)=>z.1.1.1=(dD s f).1.1/\z.1.1.2.1=(dD s f).1.2.1/\z.1.1.2.2.1=(dD s f).1.2.2.1/\z.1.2.1=(dD s f).2.1/\z.1.2.2.1=(dD s f).2.2)⟩
def Bq:XA:=⟨148,[.p (.v (.agg [.sl ak aS false,.sl aG bG false,.int .i64])),.p (.v (.one (.int .i64)))],[.agg [.own ak aS true,.own aG bG true,.c (.int .i64)],.one (.c .bool)],λ((s,id,()):nC×fK)=>(bn s,λ(z:TF)=>z.1.1.1=(fM s id).1.1/\z.1.1.2.1=(fM s id).1.2.1/\z.1.1.2.2.1=(fM s id).1.2.2.1/\z.1.2.1=(fM s id).2)⟩
def uI:XA:=⟨161,[.ptr [.sl eH jQ false,.int .i64,.int .i64]],[.agg [.own ak aS true,.own aG bG true,.c (.int .i64)]],λ(((_,i,_,()),()):ig)=>(0<=i,λ(z:FT×ig)=>0<=z.2.1.2.1/\z.1.1.1=Sp.usual/\aC (z.1.1.1,z.1.1.2.1,z.1.1.2.2.1,())=true/\z.1.1.2.2.1<=z.1.1.2.1.length+2/\bn (z.1.1.1,z.1.1.2.1,z.1.1.2.2.1,())/\0<z.1.1.2.1.length)⟩
def IY:XA:=⟨166,[.ptr [.sl eH jQ false,.int .i64,.int .i64]],[.agg [.c (.sl ak aS false),.c (.sl aG bG false),.c (.int .i64)]],λ(((_,i,_,()),()):ig)=>(0<=i,λ(z:FT×ig)=>0<=z.2.1.2.1/\bn (z.1.1.1,z.1.1.2.1,z.1.1.2.2.1,())/\∀f∈z.1.1.2.1,f.2.2.2.2.1.length<=400)⟩
def OL:PA:=⟨7,[.v (.one (.sl eH jQ false))],[.one (.bool)],λ((code,()):kG)=>(True,decide (1048576<(code.length:Int)),())⟩
def DV:XA:=⟨193,[.p (.v (.one (.sl aG bG false)))],[.one (.own aG bG false)],λ((l,()):Ob)=>(l.length<=1000/\∀f∈l,bY f,λ(z:Ob×Unit)=>z.1.1=l)⟩
def sD:XA:=⟨122,[.p (.v (.agg [.sl ak aS false,.sl aG bG false,.int .i64]))],[.agg [.c (.sl ak aS false),.own aG bG false,.c (.int .i64)]],λ((s,()):FT)=>(bn s,λ(z:Ji)=>(z.1.1.1,z.1.1.2.1,z.1.1.2.2.1,())=s)⟩
def Bz:XA:=⟨282,[.ptr [.sl eH jQ false,.int .i64,.int .i64]],[.one (.c .str)],λ(((_,i,_,()),()):ig)=>(0<=i,λ(z:qm)=>0<=z.2.1.2.1/\z.1.1.length<=10)⟩
def xk:XA:=⟨248,[.ptr [.sl eH jQ false,.int .i64,.int .i64]],[.agg [.c (.int .i64),.c (.int .i64),.c (.int .i64),.c .str,.c (.int .i64),.c (.int .i64),.c .str]],λ(((_,i,_,()),()):ig)=>(0<=i,λ(z:Oa×ig)=>0<=z.2.1.2.1/\True)⟩
def J4:List gQ:=[.ptr [.sl eH jQ false,.int .i64,.int .i64],.own bg bW,.p (.v (.one (.int .i64))),.p (.v (.one (.bool)))]
def PZ:List oC:=[.one (.own bg bW false)]
def UG:jf J4->Prop×(kM PZ×kF J4->Prop):=λ((_,i,_,()),q,deep,_,())=>(0<=i/\0<=deep/\deep<=4/\q.length+2*deep.toNat<=900,λ((r,()),((_,i',_,()),()))=>0<=i'/\q.length<r.length/\r.length<=q.length+2*deep.toNat+1)
def ad5:Cc:=mX J4 PZ UG
def qy:List gQ:=[.ptr [.sl eH jQ false,.int .i64,.int .i64],.own bg bW,.p (.v (.one (.int .i64))),.p (.v (.one (.bool)))]
def Jy:List oC:=[.one (.own bg bW false)]
def LJ[kz]:jf qy->Prop×(kM Jy×kF qy->Prop):=λ((_,i,_,()),q,deep,_,())=>((0<=i/\0<=deep/\deep<=4/\q.length+2*deep.toNat<=900)/\deep.toNat<je,λ((r,()),((_,i',_,()),()))=>0<=i'/\q.length<r.length/\r.length<=q.length+2*deep.toNat+1)
def Ce[kz]:Cc:=mX qy Jy LJ
def uJ:List gQ:=[.ptr [.sl eH jQ false,.int .i64,.int .i64],.own bg bW,.p (.v (.one (.int .i64))),.p (.v (.one (.bool)))]
def Ic:List oC:=[.one (.own bg bW false)]
def wB[kz]:jf uJ->Prop×(kM Ic×kF uJ->Prop):=λ((_,i,_,()),q,deep,_,())=>((0<=i/\0<=deep/\deep<=4/\q.length+2*deep.toNat<=900)/\deep.toNat<je+1,λ((r,()),((_,i',_,()),()))=>0<=i'/\q.length<r.length/\r.length<=q.length+2*deep.toNat+1)
def Ie[kz]:Cc:=mX uJ Ic wB
def qA:List gQ:=[.ptr [.sl eH jQ false,.int .i64,.int .i64],.p (.v (.one .nil)),.p (.v (.one (.int .i64))),.p (.v (.one (.bool)))]
def Jz:List oC:=[.one (.own bg bW false)]
def LK:jf qA->Prop×(kM Jz×kF qA->Prop):=λ((_,i,_,()),(),deep,_,())=>(0<=i/\0<=deep/\deep<=4,λ((r,()),((_,i',_,()),()))=>0<=i'/\0<r.length/\r.length<=0+2*deep.toNat+1)
def Ci:Cc:=mX qA Jz LK
def zB:XA:=⟨121,[.ptr [.sl eH jQ false,.int .i64,.int .i64]],[.one (.own bg bW false)],λ(((_,i,_,()),()):ig)=>(0<=i,λ(z:BU)=>0<=z.2.1.2.1/\0<z.1.1.length/\z.1.1.length<=9)⟩
def lS:XA:=⟨121,[.ptr [.sl eH jQ false,.int .i64,.int .i64]],[.one (.c (.sl bg bW false))],λ(((_,i,_,()),()):ig)=>(0<=i,λ(z:BU)=>0<=z.2.1.2.1/\0<z.1.1.length/\z.1.1.length<=9)⟩
def IZ:XA:=⟨219,[.ptr [.sl eH jQ false,.int .i64,.int .i64]],[.one (.c (.sl bg bW false))],λ(((_,i,_,()),()):ig)=>(0<=i,λ(z:BU)=>0<=z.2.1.2.1/\z.1.1.length<=10)⟩
def Cj:XA:=⟨218,[.ptr [.sl eH jQ false,.int .i64,.int .i64]],[.one (.own aJ bF false)],λ(((_,i,_,()),()):ig)=>(0<=i,λ(z:mO×ig)=>0<=z.2.1.2.1/\0<z.1.1.length/\z.1.1.length<=4/\aI z.1.1)⟩
def I4:XA:=⟨165,[.ptr [.sl eH jQ false,.int .i64,.int .i64]],[.one (.c (.sl aJ bF false))],λ(((_,i,_,()),()):ig)=>(0<=i,λ(z:mO×ig)=>0<=z.2.1.2.1/\z.1.1.length<=10/\aI z.1.1)⟩
def Cm:XA:=⟨162,[.ptr [.sl eH jQ false,.int .i64,.int .i64]],[.one (.c (.sl aJ bF false))],λ(((_,i,_,()),()):ig)=>(0<=i,λ(z:mO×ig)=>0<=z.2.1.2.1/\z.1.1.length<=10/\aI z.1.1/\aB z.1.1=true/\0<z.1.1.length)⟩
def zC:PA:=⟨235,[.v (.agg [.int .i64,.int .i64,.int .i64,.str,.int .i64,.int .i64,.str]),.v (.one (.int .i64))],[.one (.bool)],λ(((o,l,r,nm,vk,vi,vs,()),at',()):ad2×fK)=>(True,kQ (o,l,r,nm,vk,vi,vs,()) at',())⟩
def zD:PA:=⟨224,[.v (.agg [.int .i64,.int .i64,.int .i64,.str,.int .i64,.int .i64,.str]),.v (.one (.int .i64))],[.one (.bool)],λ(((o,l,r,nm,vk,vi,vs,()),at',()):ad2×fK)=>(True,kQ (o,l,r,nm,vk,vi,vs,()) at',())⟩
def sV:PA:=⟨236,[.v (.one (.sl bg bW false)),.v (.one (.int .i64))],[.one (.int .i64)],λ((q,at',()):ja×fK)=>(q.length<=1000000,(nN q at':Int),())⟩
def sW:PA:=⟨225,[.v (.one (.sl bg bW false)),.v (.one (.int .i64))],[.one (.int .i64)],λ((q,at',()):ja×fK)=>(q.length<=1000000,(nN q at':Int),())⟩
def kC:PA:=⟨179,[.v (.one (.sl bg bW false))],[.one (.bool)],λ((q,()):vz)=>(q.length<=1000000,aZ q,())⟩
def kD:PA:=⟨171,[.v (.one (.sl bg bW false))],[.one (.bool)],λ((q,()):vz)=>(q.length<=1000000,aZ q,())⟩
def zF:PA:=⟨211,[.v (.one (.sl aJ bF false))],[.one (.bool)],λ((d,()):mO)=>(aI d,gm d,())⟩
def zG:PA:=⟨134,[.v (.one (.sl aJ bF false))],[.one (.bool)],λ((d,()):mO)=>(aI d,gm d,())⟩
def zH:PA:=⟨258,[.v (.agg [.int .i64,.int .i64,.int .i64,.str,.int .i64,.int .i64,.str])],[.one (.bool)],λ(((o,_,_,_,_,_,_,()),()):Oa)=>(True,(o==8||o==9),())⟩
def yt:PA:=⟨313,[.v (.one (.sl bg bW false))],[.one (.sl afG R_4 true)],λ((q,()):vz)=>(q.length<=1000,Sp.negated q,())⟩
def yu:PA:=⟨304,[.v (.one (.sl bg bW false))],[.one (.sl afG R_4 true)],λ((q,()):vz)=>(q.length<=1000,Sp.negated q,())⟩
def jL:List gQ:=[.p (.v (.one (.sl dn eF false)))]
def Fe:List oC:=[.one (.c (.sl dn eF true))]
def Oz:jf jL->Prop×(kM Fe×kF jL->Prop):=λ(l,())=>(l.length<=1000,λ((r,()),())=>r.length<=l.length/\∀s,s∈r↔s∈l)
def lJ:Cc:=mX jL Fe Oz
def xM:XA:=⟨281,[.p (.v (.one (.sl bg bW false))),.p (.v (.one (.bool)))],[.one (.c (.sl dn eF true))],λ((q,neg,()):ja×dh)=>(q.length<=1000,λ(z:gU)=>dA z.1.1 (fJ q neg))⟩
def yw:XA:=⟨244,[.p (.v (.one (.sl bg bW false)))],[.one (.c (.sl dn eF true))],λ((q,()):vz)=>(q.length<=1000,λ(z:gU)=>dA z.1.1 (fJ q false))⟩
def yx:XA:=⟨245,[.p (.v (.one (.sl bg bW false)))],[.one (.c (.sl dn eF true))],λ((q,()):vz)=>(q.length<=1000,λ(z:gU)=>dA z.1.1 (fJ q true))⟩
def oM:PA:=⟨48,[.v (.one (.sl dn eF false)),.v (.one (.str))],[.one (.sl dn eF false)],λ((l,s,()):rq×ku)=>(l.length<=1000,yU l s,())⟩
def zI:XA:=⟨303,[.p (.v (.one (.sl bg bW false))),.p (.v (.one (.bool)))],[.one (.c (.sl dn eF true))],λ((q,neg,()):ja×dh)=>(q.length<=1000,λ(z:gU)=>dA z.1.1 (fJ q neg))⟩
def yA:XA:=⟨279,[.p (.v (.one (.sl bg bW false)))],[.one (.c (.sl dn eF true))],λ((q,()):vz)=>(q.length<=1000,λ(z:gU)=>dA z.1.1 (fJ q false))⟩
def yB:XA:=⟨280,[.p (.v (.one (.sl bg bW false)))],[.one (.c (.sl dn eF true))],λ((q,()):vz)=>(q.length<=1000,λ(z:gU)=>dA z.1.1 (fJ q true))⟩
def CB:PA:=⟨203,[.v (.agg [.str,.sl bg bW false]),.kp [.str]],[.one (.bool)],λ(((nm,_,()),name,()):(dY×vz)×ku×Unit)=>(True,(nm==name.1),())⟩
def iZ:PA:=⟨200,[.v (.one (.sl aJ bF false)),.fn 203 [[.str]]],[.one (.int .i64)],λ((d,((name,()),()),()):gG×(ku×Unit)×Unit)=>(True,aP d name,())⟩
def FV:PA:=⟨133,[.v (.one (.sl aJ bF false)),.v (.one (.str))],[.one (.int .i64)],λ((d,name,()):gG×ku)=>(True,aP d name,())⟩
def zJ:PA:=⟨176,[.v (.one (.sl aJ bF false)),.v (.one (.str))],[.one (.int .i64)],λ((d,name,()):gG×ku)=>(True,aP d name,())⟩
def zK:PA:=⟨243,[.v (.one (.sl aJ bF false)),.v (.one (.sl fH jR false)),.v (.one (.sl dn eF false)),.v (.one (.int .i64))],[.one (.int .i64)],λ((d,aH,names,more,()):gG×dS×rq×fK)=>(d.length<=aH.length/\names.length<=1000/\0<=more/\more<=1/\∀x∈aH,0<=x.1/\x.1<=1000000,zL d aH more names,())⟩
def Ey:XA:=⟨187,[.p (.v (.one (.sl aJ bF false)))],[.one (.c (.sl fH jR true)),.one (.c .bool)],λ((d,()):mO)=>(aI d,λ(z:TG)=>z.1.2.1=aB d/\(z.1.2.1=true->kU d z.1.1))⟩
def uK:XA:=⟨241,[.p (.v (.one (.sl aJ bF false))),.p (.v (.one (.sl fH jR false)))],[.one (.own fH jR true)],λ((d,aH,()):gG×kG)=>(aI d/\d.length<=5/\aH.length=d.length/\∀x∈aH,0<=x.1/\x.1<=1000000,λ(z:FU)=>Sp.raised d aH z.1.1)⟩
def sF:PA:=⟨113,[.v (.one (.sl fH jR false)),.v (.one (.sl fH jR false))],[.one (.bool)],λ((a,b,()):MB)=>(True,decide (a=b),())⟩
def vF:XA:=⟨184,[.p (.v (.one (.sl aJ bF false)))],[.one (.c (.sl fH jR true)),.one (.c .bool)],λ((d,()):mO)=>(aI d,λ(z:TG)=>z.1.2.1=aB d/\(z.1.2.1=true->kU d z.1.1)/\(z.1.2.1=false->z.1.1=[]))⟩
def yC:PA:=⟨150,[.v (.one (.sl aJ bF false))],[.one (.bool)],λ((d,()):mO)=>(aI d,aB d,())⟩
def qB:PA:=⟨222,[.v (.one (.sl bg bW false))],[.one (.sl bg bW false)],λ((l,()):vz)=>(l.length<=1000,l,())⟩
def CG:PA:=⟨167,[.v (.agg [.str,.sl bg bW false])],[.agg [.str,.sl bg bW false]],λ(((n,q,()),()):(dY×vz)×Unit)=>(q.length<=1000,(n,q,()),())⟩
def zM:PA:=⟨123,[.v (.one (.sl aJ bF false))],[.one (.sl aJ bF false)],λ((d,()):mO)=>(aI d,d,())⟩
def CJ:PA:=⟨142,[.v (.one (.sl aJ bF false))],[.one (.sl aJ bF true)],λ((d,()):mO)=>(aI d,d,())⟩
def DW:PA:=⟨183,[.v (.one (.sl bg bW false)),.v (.one (.sl bg bW false))],[.one (.bool)],λ((a,b,()):ja×vz)=>(True,decide (a=b),())⟩
def Gq:PA:=⟨109,[.v (.agg [.str,.sl bg bW false]),.v (.agg [.str,.sl bg bW false])],[.one (.bool)],λ((a,b,()):(dY×vz)×(dY×vz)×Unit)=>(True,decide (a=b),())⟩
def FB:PA:=⟨40,[.v (.one (.sl aJ bF false)),.v (.one (.sl aJ bF false))],[.one (.bool)],λ((a,b,()):gG×mO)=>(True,decide (a=b),())⟩
def sG:PA:=⟨270,[.v (.agg [.int .i64,.int .i64,.bool,.int .i64,.sl ai aN false]),.v (.one (.str))],[.agg [.int .i64,.int .i64,.str]],λ(((_,_,_,_,a,()),name,()):sU×ku)=>(True,bf a name,())⟩
def sH:PA:=⟨47,[.v (.agg [.int .i64,.int .i64,.bool,.int .i64,.sl ai aN false]),.v (.one (.str))],[.agg [.int .i64,.int .i64,.str]],λ(((_,_,_,_,a,()),name,()):sU×ku)=>(True,bf a name,())⟩
def CO:PA:=⟨271,[.v (.agg [.int .i64,.int .i64,.bool,.int .i64,.sl ai aN false]),.v (.one (.str))],[.one (.int .i64),.one (.bool)],λ(((_,_,_,_,a,()),name,()):sU×ku)=>(True,(bif (bf a name).1==1 then(bf a name).2.1 else 0),((bf a name).1==1),())⟩
def zN:PA:=⟨275,[.v (.one (.sl fH jR false)),.v (.one (.int .i64))],[.one (.int .i64)],λ((s,v,()):dS×fK)=>(True,Sp.findAt (λx=>x.1==v) s,())⟩
def pz:PA:=⟨233,[.v (.one (.sl fH jR false)),.v (.one (.int .i64))],[.one (.bool)],λ((s,v,()):dS×fK)=>(True,fE s v,())⟩
def uM:PA:=⟨206,[.v (.one (.sl dn eF false)),.v (.one (.str))],[.one (.int .i64)],λ((s,v,()):rq×ku)=>(True,Sp.findAt (λx=>x.1==v) s,())⟩
def jw:PA:=⟨139,[.v (.one (.sl dn eF false)),.v (.one (.str))],[.one (.bool)],λ((s,v,()):rq×ku)=>(True,dQ s v,())⟩
def qQ:PA:=⟨174,[.v (.one (.sl fH jR false)),.v (.one (.int .i64))],[.one (.bool)],λ((s,v,()):dS×fK)=>(True,fE s v,())⟩
def nD:PA:=⟨42,[.v (.one (.sl fH jR false)),.v (.one (.int .i64))],[.one (.bool)],λ((s,v,()):dS×fK)=>(True,fE s v,())⟩
def tH:PA:=⟨194,[.v (.one (.sl fH jR false))],[.one (.sl fH jR false)],λ((l,()):kG)=>(l.length<=1000,l,())⟩
def lZ:PA:=⟨157,[.v (.one (.sl ay aX false)),.v (.one (.str))],[.one (.sl fH jR false)],λ((r,name,()):iY×ku)=>(aU r,fF r name,())⟩
def l7:PA:=⟨111,[.v (.one (.sl ay aX false)),.v (.one (.str))],[.one (.sl fH jR true)],λ((r,name,()):iY×ku)=>(aU r,fF r name,())⟩
def OA:List jy:=[.v (.one (.sl bg bW false)),.v (.one (.int .i64)),.v (.agg [.int .i64,.int .i64,.bool,.int .i64,.sl ai aN false]),.v (.one (.sl ay aX false))]
def Nv:List tJ:=[.one (.bool)]
def ad6:nO OA->Prop×yD Nv:=λ(q,at',(i,o,s,l,a,()),r,())=>(aZ q=true/\0<=at'/\at'<q.length/\aU r,Sp.val q (i,o,s,l,a,()) (aO r) at'.toNat,())
def zO:Yi:=Hz OA Nv ad6
def Ig:List jy:=[.v (.one (.sl bg bW false)),.v (.one (.int .i64)),.v (.agg [.int .i64,.int .i64,.bool,.int .i64,.sl ai aN false]),.v (.one (.sl ay aX false))]
def Hl:List tJ:=[.one (.bool)]
def JA[kz]:nO Ig->Prop×yD Hl:=λ(q,at',(i,o,s,l,a,()),r,())=>((aZ q=true/\0<=at'/\at'<q.length/\aU r)/\at'.toNat<je,Sp.val q (i,o,s,l,a,()) (aO r) at'.toNat,())
def yV[kz]:Yi:=Hz Ig Hl JA
def yX:List jy:=[.v (.one (.sl bg bW false)),.v (.one (.int .i64)),.v (.agg [.int .i64,.int .i64,.bool,.int .i64,.sl ai aN false]),.v (.one (.sl ay aX false))]
def FW:List tJ:=[.one (.bool)]
def Ih[kz]:nO yX->Prop×yD FW:=λ(q,at',(i,o,s,l,a,()),r,())=>((aZ q=true/\0<=at'/\at'<q.length/\aU r)/\at'.toNat<je+1,Sp.val q (i,o,s,l,a,()) (aO r) at'.toNat,())
def FX[kz]:Yi:=Hz yX FW Ih
def RQ:List jy:=[.v (.one (.sl bg bW false)),.v (.one (.int .i64)),.v (.agg [.int .i64,.int .i64,.bool,.int .i64,.sl ai aN false]),.v (.one (.sl ay aX false))]
def P5:List tJ:=[.one (.bool)]
def aid:nO RQ->Prop×yD P5:=λ(q,at',(i,o,s,l,a,()),r,())=>(aZ q=true/\0<=at'/\at'<q.length/\aU r,Sp.val q (i,o,s,l,a,()) (aO r) at'.toNat,())
def DX:Yi:=Hz RQ P5 aid
def J5:List jy:=[.v (.one (.sl bg bW false)),.v (.one (.int .i64)),.v (.agg [.int .i64,.int .i64,.bool,.int .i64,.sl ai aN false]),.v (.one (.sl ay aX false))]
def JB:List tJ:=[.one (.bool)]
def LM[kz]:nO J5->Prop×yD JB:=λ(q,at',(i,o,s,l,a,()),r,())=>((aZ q=true/\0<=at'/\at'<q.length/\aU r)/\at'.toNat<je,Sp.val q (i,o,s,l,a,()) (aO r) at'.toNat,())
def CP[kz]:Yi:=Hz J5 JB LM
def CQ:List jy:=[.v (.one (.sl bg bW false)),.v (.one (.int .i64)),.v (.agg [.int .i64,.int .i64,.bool,.int .i64,.sl ai aN false]),.v (.one (.sl ay aX false))]
def Ii:List tJ:=[.one (.bool)]
def J6[kz]:nO CQ->Prop×yD Ii:=λ(q,at',(i,o,s,l,a,()),r,())=>((aZ q=true/\0<=at'/\at'<q.length/\aU r)/\at'.toNat<je+1,Sp.val q (i,o,s,l,a,()) (aO r) at'.toNat,())
def Ij[kz]:Yi:=Hz CQ Ii J6
def Gs:PA:=⟨247,[.v (.one (.sl bg bW false)),.v (.agg [.int .i64,.int .i64,.bool,.int .i64,.sl ai aN false]),.v (.one (.sl ay aX false))],[.one (.bool)],λ((q,f,r,()):ja×sU×lT)=>(q.length<=1000/\aU r,iU q f (aO r),())⟩
def Gt:PA:=⟨242,[.v (.one (.sl bg bW false)),.v (.agg [.int .i64,.int .i64,.bool,.int .i64,.sl ai aN false]),.v (.one (.sl ay aX false))],[.one (.bool)],λ((q,f,r,()):ja×sU×lT)=>(q.length<=1000/\aU r,iU q f (aO r),())⟩
def zQ:PA:=⟨189,[.v (.agg [.sl ak aS false,.sl aG bG false,.int .i64]),.v (.one (.sl bg bW false)),.v (.one (.sl ay aX false))],[.one (.sl fH jR true)],λ((s,q,r,()):nC×ja×lT)=>(bn s/\q.length<=1000/\aU r,Sp.sel s.2.1 q (aO r),())⟩
def tK:PA:=⟨186,[.v (.agg [.sl ak aS false,.sl aG bG false,.int .i64]),.v (.one (.sl bg bW false)),.v (.one (.sl ay aX false))],[.one (.sl fH jR true)],λ((s,q,r,()):nC×ja×lT)=>(bn s/\q.length<=1000/\aU r,Sp.sel s.2.1 q (aO r),())⟩
def tN:PA:=⟨118,[.v (.one (.sl fH jR false)),.v (.one (.sl fH jR false))],[.one (.bool)],λ((a,b,()):MB)=>(True,decide (a=b),())⟩
def pF:PA:=⟨117,[.v (.agg [.str,.sl fH jR false]),.v (.agg [.str,.sl fH jR false])],[.one (.bool)],λ((a,b,()):(dY×kG)×(dY×kG)×Unit)=>(True,decide (a=b),())⟩
def eP:PA:=⟨116,[.v (.one (.sl ay aX false)),.v (.one (.sl ay aX false)),.fn 117 []],[.one (.bool)],λ((a,b,_,()):iY×iY×jD)=>(True,decide (a=b),())⟩
def yE:PA:=⟨50,[.v (.one (.sl ay aX false)),.v (.one (.sl ay aX false))],[.one (.bool)],λ((a,b,()):iY×lT)=>(True,decide (a=b),())⟩
def yF:PA:=⟨45,[.v (.one (.sl ay aX false)),.v (.one (.sl ay aX false))],[.one (.bool)],λ((a,b,()):iY×lT)=>(True,decide (a=b),())⟩
def DY:XA:=⟨246,[.p (.v (.one (.sl fH jR false)))],[.one (.c (.int .i64))],λ((l,()):kG)=>(0<l.length,λ(z:fP)=>(∀x∈l,x.1<=z.1.1)/\(z.1.1,())∈l)⟩
def BA:XA:=⟨188,[.p (.v (.one (.sl aJ bF false)))],[.one (.c (.int .i64))],λ((d,()):mO)=>(aI d,λ(z:fP)=>ZA d z.1.1)⟩
def vN:XA:=⟨185,[.p (.v (.one (.sl aJ bF false)))],[.one (.c (.int .i64))],λ((d,()):mO)=>(aI d,λ(z:fP)=>ZA d z.1.1)⟩
def zS:PA:=⟨115,[.v (.one (.sl aJ bF false))],[.one (.sl dn eF true)],λ((d,()):mO)=>(d.length<=1000,iV d,())⟩
def FC:PA:=⟨146,[.v (.one (.sl aJ bF false))],[.one (.sl dn eF true)],λ((d,()):mO)=>(d.length<=1000,iV d,())⟩
def xO:XA:=⟨114,[.p (.v (.agg [.sl ak aS false,.sl aG bG false,.int .i64])),.p (.v (.one (.sl aJ bF false))),.p (.v (.one (.sl ay aX false))),.p (.v (.one (.sl dn eF false)))],[.one (.c (.sl ay aX false)),.one (.c (.int .i64)),.one (.c .bool)],λ((s,d,r,names,()):nC×gG×iY×Jh)=>(bn s/\aI d/\aU r,λ(z:ad4)=>z.1.2.2.1=(aB d&&aC s)/\(z.1.2.2.1=true->gq s.2.1 d r (dQ names) z.1.1))⟩
def zT:XA:=⟨49,[.p (.v (.agg [.sl ak aS false,.sl aG bG false,.int .i64])),.p (.v (.one (.sl aJ bF false)))],[.one (.c (.sl ay aX false)),.one (.c .bool)],λ((s,d,()):nC×mO)=>(bn s/\aI d,λ(z:xI)=>z.1.2.1=(aB d&&aC s)/\(z.1.2.1=true->gq s.2.1 d [] (λ_=>true) z.1.1))⟩
def BB:XA:=⟨136,[.p (.v (.agg [.sl ak aS false,.sl aG bG false,.int .i64])),.p (.v (.one (.sl aJ bF false))),.p (.v (.one (.sl ay aX false))),.p (.v (.one (.sl dn eF false)))],[.one (.c (.sl ay aX false)),.one (.c .bool)],λ((s,d,r,names,()):nC×gG×iY×Jh)=>(bn s/\aI d/\aU r,λ(z:xI)=>z.1.2.1=(aB d&&aC s)/\(z.1.2.1=true->gq s.2.1 d r (dQ names) z.1.1))⟩
def I5:XA:=⟨112,[.p (.v (.agg [.sl ak aS false,.sl aG bG false,.int .i64])),.p (.v (.one (.sl aJ bF false)))],[.one (.own ay aX false),.one (.c (.int .i64)),.one (.c .bool)],λ((s,d,()):nC×mO)=>(bn s/\aI d,λ(z:ad4)=>z.1.2.2.1=(aB d&&aC s)/\(z.1.2.2.1=true->gq s.2.1 d [] (λ_=>true) z.1.1))⟩
def uN:XA:=⟨44,[.p (.v (.agg [.sl ak aS false,.sl aG bG false,.int .i64])),.p (.v (.one (.sl aJ bF false)))],[.one (.own ay aX false),.one (.c .bool)],λ((s,d,()):nC×mO)=>(bn s/\aI d,λ(z:xI)=>z.1.2.1=(aB d&&aC s)/\(z.1.2.1=true->gq s.2.1 d [] (λ_=>true) z.1.1))⟩
def BD:XA:=⟨209,[.p (.v (.agg [.sl ak aS false,.sl aG bG false,.int .i64])),.p (.v (.one (.sl aJ bF false))),.p (.v (.one (.sl ay aX false))),.p (.v (.one (.sl dn eF false)))],[.one (.c (.sl ay aX false)),.one (.c .bool)],λ((s,d,r,names,()):nC×gG×iY×Jh)=>(bn s/\aI d/\aU r,λ(z:xI)=>z.1.2.1=(aB d&&aC s)/\(z.1.2.1=true->gq s.2.1 d r (dQ names) z.1.1))⟩
def vO:XA:=⟨160,[.p (.v (.agg [.sl ak aS false,.sl aG bG false,.int .i64])),.p (.v (.one (.sl aJ bF false)))],[.agg [.c (.sl ak aS false),.c (.sl aG bG false),.c (.int .i64),.c (.sl aJ bF false),.own ay aX false],.one (.c .bool)],λ((s,d,()):nC×mO)=>(bn s/\aI d,λ(z:(Et×dh)×Unit)=>z.1.2.1=(aB d&&aC s)/\(z.1.2.1=true->(z.1.1.1,z.1.1.2.1,z.1.1.2.2.1,())=s/\z.1.1.2.2.2.1=d/\gq s.2.1 d [] (λ_=>true) z.1.1.2.2.2.2.1)/\(z.1.2.1=false->(z.1.1.1,z.1.1.2.1,z.1.1.2.2.1,z.1.1.2.2.2.1,z.1.1.2.2.2.2.1,())=([],[],0,[],[],())))⟩
def sJ:PA:=⟨20,[.v (.agg [.sl ak aS false,.sl aG bG false,.int .i64,.sl aJ bF false,.sl ay aX false])],[.one (.bool)],λ((c,()):Et×Unit)=>(iq c,dZ c,())⟩
def sK:PA:=⟨17,[.v (.agg [.sl ak aS false,.sl aG bG false,.int .i64,.sl aJ bF false,.sl ay aX false])],[.one (.bool)],λ((c,()):Et×Unit)=>(iq c,dZ c,())⟩
def zi:PA:=⟨126,[.v (.agg [.sl ak aS false,.sl aG bG false,.int .i64]),.v (.one (.int .i64))],[.one (.int .i64)],λ(((_,fs,_,()),id,()):nC×fK)=>(True,Sp.place fs id,())⟩
def zU:PA:=⟨197,[.v (.agg [.int .i64,.int .i64,.bool,.int .i64,.sl ai aN false]),.kp [.int .i64]],[.one (.bool)],λ(((i,_,_,_,_,()),id,()):sU×fP)=>(True,decide (i=id.1),())⟩
def iO:PA:=⟨196,[.v (.one (.sl aG bG false)),.fn 197 [[.int .i64]]],[.one (.int .i64)],λ((l,((id,()),()),()):gW×fP×Unit)=>(True,Sp.place l id,())⟩
def zV:PA:=⟨57,[.v (.agg [.sl ak aS false,.sl aG bG false,.int .i64]),.v (.one (.int .i64))],[.agg [.int .i64,.int .i64,.bool,.int .i64,.sl ai aN false],.one (.bool)],λ((s,id,()):nC×fK)=>(bn s,(au s id).1,(au s id).2,())⟩
def qC:PA:=⟨29,[.v (.agg [.sl ak aS false,.sl aG bG false,.int .i64]),.v (.one (.int .i64))],[.agg [.int .i64,.int .i64,.bool,.int .i64,.sl ai aN false],.one (.bool)],λ((s,id,()):nC×fK)=>(bn s,(au s id).1,(au s id).2,())⟩
def zW:XA:=⟨128,[.p (.v (.agg [.sl ak aS false,.sl aG bG false,.int .i64])),.p (.v (.agg [.int .i64,.int .i64,.bool,.int .i64,.sl ai aN false]))],[.agg [.c (.sl ak aS false),.own aG bG false,.c (.int .i64)],.one (.c .bool)],λ((s,f,()):nC×lX)=>(bn s/\bY f,λ(z:TF)=>z.1.1.1=(aT s f).1.1/\z.1.1.2.1=(aT s f).1.2.1/\z.1.1.2.2.1=(aT s f).1.2.2.1/\z.1.2.1=(aT s f).2)⟩
def tV:XA:=⟨106,[.p (.v (.agg [.sl ak aS false,.sl aG bG false,.int .i64])),.p (.v (.agg [.int .i64,.int .i64,.bool,.int .i64,.sl ai aN false]))],[.agg [.own ak aS true,.own aG bG true,.c (.int .i64)],.one (.c .bool)],λ((s,f,()):nC×lX)=>(bn s/\bY f,λ(z:TF)=>z.1.1.1=(aT s f).1.1/\z.1.1.2.1=(aT s f).1.2.1/\z.1.1.2.2.1=(aT s f).1.2.2.1/\z.1.2.1=(aT s f).2)⟩
def Jl:PA:=⟨284,[.v (.agg [.int .i64,.int .i64,.bool,.int .i64,.sl ai aN false])],[.one (.sl dn eF true)],λ(((_,_,_,_,a,()),()):lX)=>(a.length<=1000,dO a,())⟩
def yG:XA:=⟨250,[.p (.v (.agg [.int .i64,.int .i64,.bool,.int .i64,.sl ai aN false])),.p (.v (.agg [.int .i64,.int .i64,.bool,.int .i64,.sl ai aN false]))],[.one (.c (.sl dn eF true))],λ((f,g,()):sU×lX)=>(bY f/\bY g/\f.2.2.2.2.1.length+g.2.2.2.2.1.length<=1000,λ(z:gU)=>dA z.1.1 (gX f g))⟩
def yH:XA:=⟨19,[.p (.v (.agg [.int .i64,.int .i64,.bool,.int .i64,.sl ai aN false])),.p (.v (.agg [.int .i64,.int .i64,.bool,.int .i64,.sl ai aN false]))],[.one (.c (.sl dn eF true))],λ((f,g,()):sU×lX)=>(bY f/\bY g/\f.2.2.2.2.1.length+g.2.2.2.2.1.length<=1000,λ(z:gU)=>dA z.1.1 (gX f g))⟩
def BF:XA:=⟨251,[.p (.v (.one (.sl bg bW false)))],[.one (.c (.sl dn eF true))],λ((q,()):vz)=>(q.length<=1000,λ(z:gU)=>dA z.1.1 (lq q))⟩
def BG:XA:=⟨262,[.p (.v (.one (.sl bg bW false)))],[.one (.c (.sl dn eF true))],λ((q,()):vz)=>(q.length<=1000,λ(z:gU)=>dA z.1.1 (lq q))⟩
def DZ:XA:=⟨205,[.p (.v (.one (.sl bg bW false)))],[.one (.c (.sl dn eF true))],λ((q,()):vz)=>(q.length<=1000,λ(z:gU)=>dA z.1.1 (pG q))⟩
def D5:XA:=⟨212,[.p (.v (.one (.sl bg bW false)))],[.one (.c (.sl dn eF true))],λ((q,()):vz)=>(q.length<=1000,λ(z:gU)=>dA z.1.1 (pG q))⟩
def zk:PA:=⟨213,[.v (.one (.sl dn eF false)),.v (.one (.str))],[.one (.bool)],λ((l,s,()):rq×ku)=>(True,dQ l s,())⟩
def BH:XA:=⟨138,[.p (.v (.one (.sl aJ bF false))),.p (.v (.one (.str)))],[.one (.c (.sl dn eF true))],λ((d,name,()):gG×ku)=>(aI d,λ(z:gU)=>z.1.1=Sp.asking d name)⟩
def nP:XA:=⟨64,[.p (.v (.one (.sl aJ bF false))),.p (.v (.one (.sl dn eF false)))],[.one (.c (.sl dn eF true))],λ((d,names,()):gG×Jh)=>(aI d/\d.length<=5/\names.length<=900,λ(z:gU)=>Sp.reached d names z.1.1)⟩
def nR:XA:=⟨151,[.p (.v (.one (.sl aJ bF false))),.p (.v (.one (.sl dn eF false)))],[.one (.c (.sl dn eF true))],λ((d,names,()):gG×Jh)=>(aI d/\d.length<=5/\names.length<=900,λ(z:gU)=>Sp.reached d names z.1.1)⟩
def jW:PA:=⟨255,[.v (.agg [.int .i64,.int .i64,.int .i64,.str,.int .i64,.int .i64,.str])],[.one (.bool)],λ(((o,_,_,_,_,_,_,()),()):Oa)=>(True,(o==9),())⟩
def gy:PA:=⟨286,[.v (.one (.sl bg bW false)),.fn 255 []],[.one (.int .i64)],λ((q,_,()):ja×jD)=>(True,Sp.findAt (λn=>n.1==9) q,())⟩
def fU:PA:=⟨254,[.v (.one (.sl bg bW false)),.fn 255 []],[.one (.bool)],λ((q,_,()):ja×jD)=>(True,Sp.linked q,())⟩
def D6:PA:=⟨261,[.v (.one (.sl bg bW false))],[.one (.bool)],λ((q,()):vz)=>(True,Sp.linked q,())⟩
def rC:XA:=⟨198,[.p (.v (.one (.sl aJ bF false))),.p (.v (.agg [.int .i64,.int .i64,.bool,.int .i64,.sl ai aN false])),.p (.v (.agg [.int .i64,.int .i64,.bool,.int .i64,.sl ai aN false]))],[.one (.c (.sl dn eF true))],λ((d,f,g,()):gG×sU×lX)=>(aI d/\bY f/\bY g/\f.2.2.2.2.1.length+g.2.2.2.2.1.length<=1000,λ(z:gU)=>Sp.touched d f g z.1.1)⟩
def rD:XA:=⟨210,[.p (.v (.one (.sl aJ bF false))),.p (.v (.agg [.int .i64,.int .i64,.bool,.int .i64,.sl ai aN false])),.p (.v (.agg [.int .i64,.int .i64,.bool,.int .i64,.sl ai aN false]))],[.one (.c (.sl dn eF true))],λ((d,f,g,()):gG×sU×lX)=>(aI d/\bY f/\bY g/\f.2.2.2.2.1.length+g.2.2.2.2.1.length<=1000,λ(z:gU)=>Sp.touched d f g z.1.1)⟩
def jX:PA:=⟨253,[.v (.one (.str)),.kp [.sl dn eF false]],[.one (.bool)],λ((nm,attrs,()):dY×gU)=>(True,dQ attrs.1 nm,())⟩
def gV:PA:=⟨285,[.v (.one (.sl dn eF false)),.fn 253 [[.sl dn eF false]]],[.one (.int .i64)],λ((l,((attrs,()),()),()):rq×gU×Unit)=>(True,Sp.findAt (λx=>dQ attrs x.1) l,())⟩
def gB:PA:=⟨252,[.v (.one (.sl dn eF false)),.fn 253 [[.sl dn eF false]]],[.one (.bool)],λ((l,((attrs,()),()),()):rq×gU×Unit)=>(True,l.any λx=>dQ attrs x.1,())⟩
def oN:XA:=⟨137,[.p (.v (.one (.sl dn eF false)))],[.one (.own dn eF false)],λ((l,()):Jh)=>(l.length<=1000,λ(z:gU)=>z.1.1=l)⟩
def rE:XA:=⟨194,[.p (.v (.one (.sl fH jR false)))],[.one (.own fH jR false)],λ((l,()):kG)=>(l.length<=1000,λ(z:FU)=>z.1.1=l)⟩
def sN:PA:=⟨265,[.v (.one (.int .i64)),.kp [.sl fH jR false]],[.one (.bool)],λ((x,b,()):Int×FU)=>(True,fE b.1 x,())⟩
def jC:PA:=⟨300,[.v (.one (.sl fH jR false)),.fn 265 [[.sl fH jR false]]],[.one (.int .i64)],λ((l,((b,()),()),()):dS×FU×Unit)=>(True,Sp.findAt (λx=>fE b x.1) l,())⟩
def jv:XA:=⟨264,[.own fH jR,.p (.fn 265 [[.sl fH jR false]])],[.one (.own fH jR false)],λ((s,((b,()),()),()):dS×FU×Unit)=>(s.length<=1000,λ(z:FU)=>z.1.1=s.filter λx=>!fE b x.1)⟩
def Gu:XA:=⟨215,[.p (.v (.one (.sl fH jR false))),.p (.v (.one (.sl fH jR false)))],[.one (.own fH jR false)],λ((a,b,()):MB)=>(a.length<=1000,λ(z:FU)=>z.1.1=Sp.without a b)⟩
def Gv:XA:=⟨156,[.p (.v (.one (.sl fH jR false))),.p (.v (.one (.sl fH jR false)))],[.one (.c (.sl fH jR false)),.one (.c (.sl fH jR false))],λ((a,b,()):MB)=>(a.length<=1000/\b.length<=1000,λ(z:MB×Unit)=>z.1.1=Sp.without b a/\z.1.2.1=Sp.without a b)⟩
def Gw:XA:=⟨158,[.p (.v (.one (.sl fH jR false))),.p (.v (.one (.sl fH jR false)))],[.one (.c (.sl fH jR false)),.one (.c (.sl fH jR false))],λ((a,b,()):MB)=>(a.length<=1000/\b.length<=1000,λ(z:MB×Unit)=>z.1.1=Sp.without b a/\z.1.2.1=Sp.without a b)⟩
def zX:XA:=⟨78,[.p (.v (.one (.sl ay aX false))),.p (.v (.one (.sl ay aX false)))],[.one (.c (.sl wV I7 false))],λ((a,b,()):iY×lT)=>(aU a/\aU b,λ(z:aic)=>z.1.1=I8 a b)⟩
def zY:XA:=⟨79,[.p (.v (.one (.sl ay aX false))),.p (.v (.one (.sl ay aX false)))],[.one (.c (.sl wV I7 false))],λ((a,b,()):iY×lT)=>(aU a/\aU b,λ(z:aic)=>z.1.1=I8 a b)⟩
def zZ:XA:=⟨124,[.p (.v (.one (.sl ay aX false)))],[.one (.c (.sl ay aX false))],λ((r,()):lT)=>(aU r,λ(z:lT×Unit)=>z.1.1=r)⟩
def pI:XA:=⟨55,[.p (.v (.agg [.sl ak aS false,.sl aG bG false,.int .i64,.sl aJ bF false,.sl ay aX false]))],[.agg [.c (.sl ak aS false),.c (.sl aG bG false),.c (.int .i64),.c (.sl aJ bF false),.c (.sl ay aX false)]],λ((c,()):Et×Unit)=>(iq c,λ(z:Fa)=>(z.1.1.1,z.1.1.2.1,z.1.1.2.2.1,z.1.1.2.2.2.1,z.1.1.2.2.2.2.1,())=c)⟩
def BI:XA:=⟨143,[.p (.v (.one (.sl ay aX false)))],[.one (.c (.sl ay aX false))],λ((r,()):lT)=>(aU r,λ(z:lT×Unit)=>z.1.1=r)⟩
def CS:XA:=⟨65,[.p (.v (.agg [.sl ak aS false,.sl aG bG false,.int .i64,.sl aJ bF false,.sl ay aX false]))],[.agg [.c (.sl ak aS false),.c (.sl aG bG false),.c (.int .i64),.c (.sl aJ bF false),.c (.sl ay aX false)]],λ((c,()):Et×Unit)=>(iq c,λ(z:Fa)=>(z.1.1.1,z.1.1.2.1,z.1.1.2.2.1,z.1.1.2.2.2.1,z.1.1.2.2.2.2.1,())=c)⟩
def yI:XA:=⟨129,[.p (.v (.one (.sl aJ bF false))),.p (.v (.agg [.int .i64,.int .i64,.bool,.int .i64,.sl ai aN false])),.p (.v (.agg [.int .i64,.int .i64,.bool,.int .i64,.sl ai aN false]))],[.one (.c (.sl dn eF true))],λ((d,f,g,()):gG×sU×lX)=>(aI d/\d.length<=5/\bY f/\bY g/\f.2.2.2.2.1.length+g.2.2.2.2.1.length<=1000,λ(z:gU)=>Sp.isSet z.1.1 (Yj d f g))⟩
def yJ:XA:=⟨147,[.p (.v (.one (.sl aJ bF false))),.p (.v (.agg [.int .i64,.int .i64,.bool,.int .i64,.sl ai aN false])),.p (.v (.agg [.int .i64,.int .i64,.bool,.int .i64,.sl ai aN false]))],[.one (.c (.sl dn eF true))],λ((d,f,g,()):gG×sU×lX)=>(aI d/\d.length<=5/\bY f/\bY g/\f.2.2.2.2.1.length+g.2.2.2.2.1.length<=1000,λ(z:gU)=>Sp.isSet z.1.1 (Yj d f g))⟩
def D7:XA:=⟨63,[.p (.v (.agg [.sl ak aS false,.sl aG bG false,.int .i64,.sl aJ bF false,.sl ay aX false])),.p (.v (.agg [.sl ak aS false,.sl aG bG false,.int .i64])),.p (.v (.one (.sl aJ bF false))),.p (.v (.one (.sl dn eF false)))],[.agg [.c (.sl ak aS false),.c (.sl aG bG false),.c (.int .i64),.c (.sl aJ bF false),.c (.sl ay aX false)],.one (.c (.sl wV I7 false)),.one (.c .bool)],λ((c,s,d,names,()):Et×nC×gG×Jh)=>(iq c/\bn s/\aI d,λ(z:TD)=>Sp.turned c s d (dQ names) (z.1.1.1,z.1.1.2.1,z.1.1.2.2.1,z.1.1.2.2.2.1,z.1.1.2.2.2.2.1,()) z.1.2.1 z.1.2.2.1)⟩
def Gx:XA:=⟨145,[.p (.v (.agg [.sl ak aS false,.sl aG bG false,.int .i64,.sl aJ bF false,.sl ay aX false])),.p (.v (.agg [.sl ak aS false,.sl aG bG false,.int .i64])),.p (.v (.one (.sl aJ bF false))),.p (.v (.one (.sl dn eF false)))],[.agg [.c (.sl ak aS false),.c (.sl aG bG false),.c (.int .i64),.c (.sl aJ bF false),.c (.sl ay aX false)],.one (.c (.sl wV I7 false))],λ((c,s,d,names,()):Et×nC×gG×Jh)=>(iq c/\bn s/\aI d/\(aB d&&aC s)=true,λ(z:(Et×ad3×Unit)×Unit)=>Sp.turned c s d (dQ names) (z.1.1.1,z.1.1.2.1,z.1.1.2.2.1,z.1.1.2.2.2.1,z.1.1.2.2.2.2.1,()) z.1.2.1 true)⟩
def BJ:XA:=⟨59,[.p (.v (.agg [.sl ak aS false,.sl aG bG false,.int .i64,.sl aJ bF false,.sl ay aX false])),.p (.v (.agg [.int .i64,.int .i64,.bool,.int .i64,.sl ai aN false]))],[.agg [.c (.sl ak aS false),.c (.sl aG bG false),.c (.int .i64),.c (.sl aJ bF false),.c (.sl ay aX false)],.one (.c (.sl wV I7 false)),.one (.c .bool)],λ((c,f,()):Et×lX)=>(iq c/\bY f/\RS c/\OM f,λ(z:TD)=>Sp.updated c f (z.1.1.1,z.1.1.2.1,z.1.1.2.2.1,z.1.1.2.2.2.1,z.1.1.2.2.2.2.1,()) z.1.2.1 z.1.2.2.1)⟩
def BK:XA:=⟨67,[.p (.v (.agg [.sl ak aS false,.sl aG bG false,.int .i64,.sl aJ bF false,.sl ay aX false])),.p (.v (.agg [.int .i64,.int .i64,.bool,.int .i64,.sl ai aN false]))],[.agg [.c (.sl ak aS false),.c (.sl aG bG false),.c (.int .i64),.c (.sl aJ bF false),.c (.sl ay aX false)],.one (.c (.sl wV I7 false)),.one (.c .bool)],λ((c,f,()):Et×lX)=>(iq c/\bY f/\RS c/\OM f,λ(z:TD)=>Sp.updated c f (z.1.1.1,z.1.1.2.1,z.1.1.2.2.1,z.1.1.2.2.2.1,z.1.1.2.2.2.2.1,()) z.1.2.1 z.1.2.2.1)⟩
def FD:PA:=⟨153,[.v (.one (.sl fH jR false)),.v (.one (.sl fH jR false))],[.one (.bool)],λ((a,b,()):MB)=>(True,decide (a=b),())⟩
def BL:PA:=⟨110,[.v (.agg [.str,.sl fH jR false]),.v (.agg [.str,.sl fH jR false])],[.one (.bool)],λ((a,b,()):(dY×kG)×(dY×kG)×Unit)=>(True,decide (a=b),())⟩
def Aa:PA:=⟨41,[.v (.one (.sl ay aX false)),.v (.one (.sl ay aX false))],[.one (.bool)],λ((a,b,()):iY×lT)=>(True,decide (a=b),())⟩
def Ac:PA:=⟨14,[.v (.agg [.sl ak aS false,.sl aG bG false,.int .i64,.sl aJ bF false,.sl ay aX false]),.v (.agg [.sl ak aS false,.sl aG bG false,.int .i64,.sl aJ bF false,.sl ay aX false])],[.one (.bool)],λ((a,b,()):Et×Et×Unit)=>(True,decide (a=b),())⟩
def Gy:XA:=⟨82,[.ptr [.sl eH jQ false,.int .i64,.int .i64]],[.agg [.c (.sl ak aS false),.c (.sl aG bG false),.c (.int .i64),.c (.sl aJ bF false),.own ay aX false]],λ(((_,i,_,()),()):ig)=>(0<=i,λ(z:TJ)=>0<=z.2.1.2.1/\OO (z.1.1.1,z.1.1.2.1,z.1.1.2.2.1,z.1.1.2.2.2.1,z.1.1.2.2.2.2.1,())/\0<z.1.1.2.2.2.1.length)⟩
def uO:XA:=⟨284,[.p (.v (.agg [.int .i64,.int .i64,.bool,.int .i64,.sl ai aN false]))],[.one (.own dn eF true)],λ(((_,_,_,_,a,()),()):lX)=>(a.length<=1000,λ(z:gU)=>z.1.1=dO a)⟩
def pJ:XA:=⟨46,[.p (.v (.agg [.int .i64,.int .i64,.bool,.int .i64,.sl ai aN false]))],[.one (.own dn eF true)],λ(((_,_,_,_,a,()),()):lX)=>(a.length<=1000,λ(z:gU)=>z.1.1=dO a)⟩
def uP:XA:=⟨181,[.p (.v (.agg [.int .i64,.int .i64,.bool,.int .i64,.sl ai aN false])),.p (.v (.one (.str))),.p (.v (.agg [.int .i64,.int .i64,.str]))],[.agg [.c (.int .i64),.c (.int .i64),.c .bool,.c (.int .i64),.c (.sl ai aN true)]],λ(((i,o,s,l,a,()),name,(k,n,w,()),()):sU×dY×BR)=>(a.length<=1000,λ(z:wo)=>z.1.1.1=i/\z.1.1.2.1=o/\z.1.1.2.2.1=s/\z.1.1.2.2.2.1=l/\z.1.1.2.2.2.2.1=dU a name k n w)⟩
def Gz:XA:=⟨88,[.ptr [.sl eH jQ false,.int .i64,.int .i64]],[.one (.c .str)],λ(((_,i,_,()),()):ig)=>(0<=i,λ(z:qm)=>0<=z.2.1.2.1/\z.1.1.length<=10)⟩
def J7:XA:=⟨84,[.ptr [.sl eH jQ false,.int .i64,.int .i64]],[.one (.c (.int .i64))],λ(((_,i,_,()),()):ig)=>(0<=i,λ(z:gu)=>0<=z.2.1.2.1)⟩
def I9:XA:=⟨164,[.ptr [.sl eH jQ false,.int .i64,.int .i64]],[.one (.c (.sl fH jR false))],λ(((_,i,_,()),()):ig)=>(0<=i,λ(z:kG×ig)=>0<=z.2.1.2.1/\z.1.1.length<=7)⟩
def Ja:XA:=⟨89,[.ptr [.sl eH jQ false,.int .i64,.int .i64]],[.agg [.c (.sl ak aS false),.c (.sl aG bG false),.c (.int .i64),.c (.sl aJ bF false),.c (.sl ay aX false)]],λ(((_,i,_,()),()):ig)=>(0<=i,λ(z:TJ)=>0<=z.2.1.2.1/\lU (z.1.1.1,z.1.1.2.1,z.1.1.2.2.1,z.1.1.2.2.2.1,z.1.1.2.2.2.2.1,()))⟩
def GH:PA:=⟨178,[.v (.agg [.int .i64,.int .i64,.bool,.int .i64,.sl ai aN false]),.v (.one (.int .i64))],[.one (.bool)],λ((f,u,()):sU×fK)=>(True,iP f u,())⟩
def GI:PA:=⟨169,[.v (.agg [.int .i64,.int .i64,.bool,.int .i64,.sl ai aN false]),.v (.one (.int .i64))],[.one (.bool)],λ((f,u,()):sU×fK)=>(True,iP f u,())⟩
def Ad:PA:=⟨21,[.v (.agg [.int .i64,.int .i64,.bool,.int .i64,.sl ai aN false]),.v (.one (.int .i64))],[.one (.bool)],λ((f,u,()):sU×fK)=>(True,nG f u,())⟩
def FH:PA:=⟨58,[.v (.agg [.int .i64,.int .i64,.bool,.int .i64,.sl ai aN false]),.v (.one (.int .i64))],[.one (.bool)],λ((f,u,()):sU×fK)=>(True,nG f u,())⟩
def jc:XA:=⟨98,[.p (.v (.one (.sl ai aN false)))],[.one (.own ai aN false)],λ((l,()):Hw)=>(l.length<=1000,λ(z:Jj)=>z.1.1=l)⟩
def wC:XA:=⟨127,[.p (.v (.agg [.int .i64,.int .i64,.bool,.int .i64,.sl ai aN false]))],[.agg [.c (.int .i64),.c (.int .i64),.c .bool,.c (.int .i64),.own ai aN false]],λ(((i,o,s,l,a,()),()):lX)=>(a.length<=1000,λ(z:wo)=>z.1.1.1=i/\z.1.1.2.1=o/\z.1.1.2.2.1=s/\z.1.1.2.2.2.1=l/\z.1.1.2.2.2.2.1=a)⟩
def sO:PA:=⟨229,[.v (.agg [.str,.int .i64,.int .i64,.str]),.kp [.str]],[.one (.bool)],λ(((nm,_,_,_,()),name,()):UF×ku×Unit)=>(True,(nm==name.1),())⟩
def iJ:PA:=⟨230,[.v (.one (.sl ai aN false)),.fn 229 [[.str]]],[.one (.int .i64)],λ((l,((name,()),()),()):dK×(ku×Unit)×Unit)=>(True,Sp.findAt (λx=>x.1==name) l,())⟩
def iE:XA:=⟨228,[.own ai aN,.p (.fn 229 [[.str]])],[.one (.own ai aN false)],λ((s,((name,()),()),()):dK×(ku×Unit)×Unit)=>(s.length<=1000,λ(z:Jj)=>z.1.1=s.filter λx=>!(x.1==name))⟩
def xP:PA:=⟨231,[.v (.agg [.str,.int .i64,.int .i64,.str]),.kp [.str]],[.one (.bool)],λ(((nm,_,_,_,()),name,()):UF×ku×Unit)=>(True,Op.bytesLess name.1 nm,())⟩
def iK:PA:=⟨230,[.v (.one (.sl ai aN false)),.fn 231 [[.str]]],[.one (.int .i64)],λ((l,((name,()),()),()):dK×(ku×Unit)×Unit)=>(True,Sp.findAt (λx=>Op.bytesLess name x.1) l,())⟩
def kY:List gQ:=[.own ai aN,.p (.v (.one (.int .i64))),.own ai aN]
def DF:List oC:=[.one (.own ai aN false)]
def OQ:jf kY->Prop×(kM DF×kF kY->Prop):=λ(s,i,v,())=>(0<=i/\i<=s.length/\s.length<=1000/\v.length=1,λ((r,()),())=>r=s.take i.toNat++(v++s.drop i.toNat))
def tX:Cc:=mX kY DF OQ
def GK:XA:=⟨173,[.p (.v (.agg [.int .i64,.int .i64,.bool,.int .i64,.sl ai aN false])),.p (.v (.one (.str))),.p (.v (.agg [.int .i64,.int .i64,.str]))],[.agg [.c (.int .i64),.c (.int .i64),.c .bool,.c (.int .i64),.c (.sl ai aN false)]],λ(((i,o,s,l,a,()),name,(k,n,w,()),()):sU×dY×BR)=>(a.length<=900,λ(z:wo)=>z.1.1.1=i/\z.1.1.2.1=o/\z.1.1.2.2.1=s/\z.1.1.2.2.2.1=l/\z.1.1.2.2.2.2.1=dU a name k n w)⟩
def yK:PA:=⟨85,[.v (.agg [.sl ak aS false,.sl aG bG false,.int .i64]),.v (.one (.int .i64))],[.one (.sl fH jR true)],λ(((_,fs,_,()),u,()):nC×fK)=>(fs.length<=1000,JC fs u,())⟩
def Jb:PA:=⟨18,[.v (.agg [.sl ak aS false,.sl aG bG false,.int .i64]),.v (.one (.int .i64))],[.agg [.int .i64,.int .i64,.bool,.int .i64,.sl ai aN false]],λ((s,id,()):nC×fK)=>(bn s,(au s id).1,())⟩
def GL:XA:=⟨83,[.ptr [.sl eH jQ false,.int .i64,.int .i64]],[.one (.c (.int .i64))],λ(((_,i,_,()),()):ig)=>(0<=i,λ(z:gu)=>0<=z.2.1.2.1)⟩
def uQ:XA:=⟨82,[.ptr [.sl eH jQ false,.int .i64,.int .i64]],[.agg [.c (.sl ak aS false),.c (.sl aG bG false),.c (.int .i64),.c (.sl aJ bF false),.c (.sl ay aX false)]],λ(((_,i,_,()),()):ig)=>(0<=i,λ(z:TJ)=>0<=z.2.1.2.1/\OO (z.1.1.1,z.1.1.2.1,z.1.1.2.2.1,z.1.1.2.2.2.1,z.1.1.2.2.2.2.1,())/\0<z.1.1.2.2.2.1.length)⟩
def CU:XA:=⟨35,[.ptr [.sl eH jQ false,.int .i64,.int .i64]],[.agg [.c (.sl ak aS false),.c (.sl aG bG false),.c (.int .i64),.c (.sl aJ bF false),.c (.sl ay aX false)],.one (.c (.int .i64)),.one (.c .str),.one (.c (.int .i64))],λ(((_,i,_,()),()):ig)=>(0<=i,λ(z:J3×ig)=>0<=z.2.1.2.1/\lU (z.1.1.1,z.1.1.2.1,z.1.1.2.2.1,z.1.1.2.2.2.1,z.1.1.2.2.2.2.1,()))⟩
def GN:PA:=⟨99,[.v (.agg [.sl ak aS false,.sl aG bG false,.int .i64,.sl aJ bF false,.sl ay aX false]),.v (.one (.int .i64)),.v (.one (.int .i64))],[.agg [.int .i64,.int .i64,.bool,.int .i64,.sl ai aN false],.one (.bool)],λ((c,u,id,()):Et×FQ)=>(iq c,(au (aY c) id).1,(lK c u id&&dZ c),())⟩
def aqZ:PA:=⟨4,[.v (.one (.sl eH jQ false))],[.one (.bool)],λ(_,())=>(True,true,())⟩
def rM:PA:=⟨102,[.v (.agg [.sl ak aS false,.sl aG bG false,.int .i64]),.v (.one (.int .i64))],[.agg [.sl ak aS false,.sl aG bG false,.int .i64]],λ((s,u,()):nC×fK)=>(bn s,Sp.visible s u,())⟩
def rO:PA:=⟨91,[.v (.agg [.sl ak aS false,.sl aG bG false,.int .i64]),.v (.one (.int .i64))],[.agg [.sl ak aS false,.sl aG bG false,.int .i64]],λ((s,u,()):nC×fK)=>(bn s,Sp.visible s u,())⟩
def GR:PA:=⟨90,[.v (.one (.sl aJ bF false)),.v (.one (.str))],[.agg [.str,.sl bg bW false],.one (.bool)],λ((d,name,()):gG×ku)=>(aI d,(jq d name).1,(jq d name).2,())⟩
def GU:PA:=⟨100,[.v (.one (.sl aJ bF false)),.v (.one (.str))],[.agg [.str,.sl bg bW false],.one (.bool)],λ((d,name,()):gG×ku)=>(aI d,(jq d name).1,(jq d name).2,())⟩
def oD:XA:=⟨92,[.p (.v (.agg [.sl ak aS false,.sl aG bG false,.int .i64])),.p (.v (.one (.sl aJ bF false))),.p (.v (.one (.int .i64)))],[.one (.c (.sl ay aX false)),.one (.c .bool)],λ((s,d,u,()):nC×gG×fK)=>(bn s/\aI d,λ(z:xI)=>jI s d u->z.1.1=vP (Sp.visible s u).2.1 d/\z.1.2.1=true)⟩
def oG:XA:=⟨101,[.p (.v (.agg [.sl ak aS false,.sl aG bG false,.int .i64])),.p (.v (.one (.sl aJ bF false))),.p (.v (.one (.int .i64)))],[.one (.c (.sl ay aX false)),.one (.c .bool)],λ((s,d,u,()):nC×gG×fK)=>(bn s/\aI d,λ(z:xI)=>jI s d u->z.1.1=vP (Sp.visible s u).2.1 d/\z.1.2.1=true)⟩
def GV:PA:=⟨175,[.v (.agg [.sl ak aS false,.sl aG bG false,.int .i64]),.v (.one (.sl aJ bF false)),.v (.one (.int .i64)),.v (.one (.str))],[.one (.sl fH jR false)],λ((s,d,u,name,()):nC×gG×Int×ku)=>(bn s/\aI d/\jI s d u,UH s d u name,())⟩
def GX:PA:=⟨43,[.v (.agg [.sl ak aS false,.sl aG bG false,.int .i64]),.v (.one (.sl aJ bF false)),.v (.one (.int .i64)),.v (.one (.str))],[.one (.sl fH jR false)],λ((s,d,u,name,()):nC×gG×Int×ku)=>(bn s/\aI d/\jI s d u,UH s d u name,())⟩
def FI:PA:=⟨96,[.v (.agg [.sl ak aS false,.sl aG bG false,.int .i64]),.v (.one (.sl aJ bF false)),.v (.one (.int .i64)),.v (.one (.str)),.v (.one (.int .i64))],[.one (.bool)],λ((s,d,u,name,id,()):nC×gG×Int×dY×fK)=>(bn s/\aI d/\jI s d u,Sp.listed s d u name id,())⟩
def Ae:PA:=⟨16,[.v (.agg [.sl ak aS false,.sl aG bG false,.int .i64]),.v (.one (.sl aJ bF false)),.v (.one (.int .i64)),.v (.one (.str)),.v (.one (.int .i64))],[.one (.bool)],λ((s,d,u,name,id,()):nC×gG×Int×dY×fK)=>(bn s/\aI d/\jI s d u,Sp.listed s d u name id,())⟩
def rP:PA:=⟨272,[.v (.agg [.str,.int .i64,.int .i64,.str]),.kp [.str,.int .i64,.int .i64,.str]],[.one (.bool)],λ(((nm,_,_,_,()),x,()):UF×UF×Unit)=>(True,!Op.bytesLess nm x.1,())⟩
def iC:PA:=⟨230,[.v (.one (.sl ai aN false)),.fn 272 [[.str,.int .i64,.int .i64,.str]]],[.one (.int .i64)],λ((l,((nm,_,_,_,()),()),()):dK×(UF×Unit)×Unit)=>(True,Sp.findAt (λy=>!Op.bytesLess y.1 nm) l,())⟩
def vS:XA:=⟨227,[.p (.v (.agg [.bool,.sl ai aN false])),.p (.v (.agg [.bool,.sl ai aN false]))],[.agg [.c .bool,.c (.sl ai aN false)]],λ((a,b,()):N9×Hy)=>(a.2.1.length+b.2.1.length<=900,λ(z:xJ)=>(z.1.1.1,z.1.1.2.1,())=pK a b)⟩
def vT:PA:=⟨238,[.v (.agg [.bool,.sl ai aN false]),.v (.agg [.bool,.sl ai aN false])],[.agg [.bool,.sl ai aN true]],λ((a,b,()):N9×Hy)=>(a.2.1.length+b.2.1.length<=900,pK a b,())⟩
def CV:List gQ:=[.p (.v (.one (.sl bg bW false))),.p (.v (.one (.int .i64))),.p (.v (.agg [.int .i64,.int .i64,.bool,.int .i64,.sl ai aN false])),.p (.v (.one (.sl ay aX false))),.p (.v (.one (.bool)))]
def RU:List oC:=[.agg [.c .bool,.c (.sl ai aN false)]]
def akt:jf CV->Prop×(kM RU×kF CV->Prop):=λ(q,at',(i,o,s,l,a,()),r,m,())=>(aZ q=true/\0<=at'/\at'<q.length/\aU r,λ(((ok,st,()),()),())=>(ok,st,())=dJ q (i,o,s,l,a,()) (aO r) at'.toNat m)
def J8:Cc:=mX CV RU akt
def rQ:List gQ:=[.p (.v (.one (.sl bg bW false))),.p (.v (.one (.int .i64))),.p (.v (.agg [.int .i64,.int .i64,.bool,.int .i64,.sl ai aN false])),.p (.v (.one (.sl ay aX false))),.p (.v (.one (.bool)))]
def J9:List oC:=[.agg [.c .bool,.c (.sl ai aN false)]]
def Nw[kz]:jf rQ->Prop×(kM J9×kF rQ->Prop):=λ(q,at',(i,o,s,l,a,()),r,m,())=>((aZ q=true/\0<=at'/\at'<q.length/\aU r)/\at'.toNat<je,λ(((ok,st,()),()),())=>(ok,st,())=dJ q (i,o,s,l,a,()) (aO r) at'.toNat m)
def D8[kz]:Cc:=mX rQ J9 Nw
def wE:List gQ:=[.p (.v (.one (.sl bg bW false))),.p (.v (.one (.int .i64))),.p (.v (.agg [.int .i64,.int .i64,.bool,.int .i64,.sl ai aN false])),.p (.v (.one (.sl ay aX false))),.p (.v (.one (.bool)))]
def JD:List oC:=[.agg [.c .bool,.c (.sl ai aN false)]]
def yL[kz]:jf wE->Prop×(kM JD×kF wE->Prop):=λ(q,at',(i,o,s,l,a,()),r,m,())=>((aZ q=true/\0<=at'/\at'<q.length/\aU r)/\at'.toNat<je+1,λ(((ok,st,()),()),())=>(ok,st,())=dJ q (i,o,s,l,a,()) (aO r) at'.toNat m)
def JE[kz]:Cc:=mX wE JD yL
def Ez:PA:=⟨239,[.v (.agg [.bool,.sl ai aN false]),.v (.agg [.bool,.sl ai aN false])],[.agg [.bool,.sl ai aN false]],λ((a,b,()):N9×Hy)=>(True,Jm a b,())⟩
def Af:List gQ:=[.p (.v (.one (.sl bg bW false))),.p (.v (.one (.int .i64))),.p (.v (.agg [.int .i64,.int .i64,.bool,.int .i64,.sl ai aN false])),.p (.v (.one (.sl ay aX false))),.p (.v (.one (.bool)))]
def P6:List oC:=[.agg [.c .bool,.c (.sl ai aN false)]]
def aie:jf Af->Prop×(kM P6×kF Af->Prop):=λ(q,at',(i,o,s,l,a,()),r,m,())=>(aZ q=true/\0<=at'/\at'<q.length/\aU r,λ(((ok,st,()),()),())=>(ok,st,())=dJ q (i,o,s,l,a,()) (aO r) at'.toNat m)
def Jo:Cc:=mX Af P6 aie
def qE:List gQ:=[.p (.v (.one (.sl bg bW false))),.p (.v (.one (.int .i64))),.p (.v (.agg [.int .i64,.int .i64,.bool,.int .i64,.sl ai aN false])),.p (.v (.one (.sl ay aX false))),.p (.v (.one (.bool)))]
def JF:List oC:=[.agg [.c .bool,.c (.sl ai aN false)]]
def LQ[kz]:jf qE->Prop×(kM JF×kF qE->Prop):=λ(q,at',(i,o,s,l,a,()),r,m,())=>((aZ q=true/\0<=at'/\at'<q.length/\aU r)/\at'.toNat<je,λ(((ok,st,()),()),())=>(ok,st,())=dJ q (i,o,s,l,a,()) (aO r) at'.toNat m)
def CW[kz]:Cc:=mX qE JF LQ
def uS:List gQ:=[.p (.v (.one (.sl bg bW false))),.p (.v (.one (.int .i64))),.p (.v (.agg [.int .i64,.int .i64,.bool,.int .i64,.sl ai aN false])),.p (.v (.one (.sl ay aX false))),.p (.v (.one (.bool)))]
def Ik:List oC:=[.agg [.c .bool,.c (.sl ai aN false)]]
def wF[kz]:jf uS->Prop×(kM Ik×kF uS->Prop):=λ(q,at',(i,o,s,l,a,()),r,m,())=>((aZ q=true/\0<=at'/\at'<q.length/\aU r)/\at'.toNat<je+1,λ(((ok,st,()),()),())=>(ok,st,())=dJ q (i,o,s,l,a,()) (aO r) at'.toNat m)
def Il[kz]:Cc:=mX uS Ik wF
def Ag:PA:=⟨94,[.v (.one (.sl bg bW false)),.v (.agg [.int .i64,.int .i64,.bool,.int .i64,.sl ai aN false]),.v (.one (.sl ay aX false))],[.agg [.bool,.sl ai aN false]],λ((q,f,r,()):ja×sU×lT)=>(q.length<=1000/\aU r,uT q f (aO r) true,())⟩
def wG:PA:=⟨93,[.v (.one (.sl bg bW false)),.v (.agg [.int .i64,.int .i64,.bool,.int .i64,.sl ai aN false]),.v (.one (.sl ay aX false))],[.agg [.bool,.sl ai aN false]],λ((q,f,r,()):ja×sU×lT)=>(q.length<=1000/\aU r,uT q f (aO r) false,())⟩
def Ah:PA:=⟨104,[.v (.one (.sl bg bW false)),.v (.agg [.int .i64,.int .i64,.bool,.int .i64,.sl ai aN false]),.v (.one (.sl ay aX false))],[.agg [.bool,.sl ai aN false]],λ((q,f,r,()):ja×sU×lT)=>(q.length<=1000/\aU r,uT q f (aO r) true,())⟩
def wH:PA:=⟨103,[.v (.one (.sl bg bW false)),.v (.agg [.int .i64,.int .i64,.bool,.int .i64,.sl ai aN false]),.v (.one (.sl ay aX false))],[.agg [.bool,.sl ai aN false]],λ((q,f,r,()):ja×sU×lT)=>(q.length<=1000/\aU r,uT q f (aO r) false,())⟩
def D9:XA:=⟨95,[.p (.v (.agg [.int .i64,.int .i64,.bool,.int .i64,.sl ai aN false])),.p (.v (.agg [.bool,.sl ai aN false]))],[.agg [.c (.int .i64),.c (.int .i64),.c .bool,.c (.int .i64),.c (.sl ai aN false)]],λ(((i,o,s,l,a,()),e,()):sU×Hy)=>(a.length<=400/\e.2.1.length<=400,λ(z:wo)=>(z.1.1.1,z.1.1.2.1,z.1.1.2.2.1,z.1.1.2.2.2.1,z.1.1.2.2.2.2.1,())=Sp.edited (i,o,s,l,a,()) e.2.1)⟩
def Ea:XA:=⟨105,[.p (.v (.agg [.int .i64,.int .i64,.bool,.int .i64,.sl ai aN false])),.p (.v (.agg [.bool,.sl ai aN false]))],[.agg [.c (.int .i64),.c (.int .i64),.c .bool,.c (.int .i64),.c (.sl ai aN true)]],λ(((i,o,s,l,a,()),e,()):sU×Hy)=>(a.length<=400/\e.2.1.length<=400,λ(z:wo)=>(z.1.1.1,z.1.1.2.1,z.1.1.2.2.1,z.1.1.2.2.2.1,z.1.1.2.2.2.2.1,())=Sp.edited (i,o,s,l,a,()) e.2.1)⟩
def qg:XA:=⟨97,[.own ai aN,.p (.v (.one (.int .i64))),.p (.v (.one (.int .i64)))],[.one (.own ai aN false)],λ((s,i,j,()):dK×FQ)=>(0<=i/\i<=j/\j<=s.length,λ(z:Jj)=>z.1.1=s.take i.toNat++s.drop j.toNat)⟩
def rU:XA:=⟨37,[.p (.v (.agg [.sl ak aS false,.sl aG bG false,.int .i64,.sl aJ bF false,.sl ay aX false])),.p (.v (.one (.int .i64))),.p (.v (.one (.str))),.p (.v (.one (.int .i64))),.p (.v (.one (.bool)))],[.agg [.c (.sl ak aS false),.c (.sl aG bG false),.c (.int .i64),.c (.sl aJ bF false),.c (.sl ay aX false)],.one (.c (.sl ai aN false)),.one (.c .bool)],λ((c,u,name,id,b,()):Et×Int×dY×Int×dh)=>(lU c,λ(z:BQ)=>Sp.written c u name id b (z.1.1.1,z.1.1.2.1,z.1.1.2.2.1,z.1.1.2.2.2.1,z.1.1.2.2.2.2.1,()) z.1.2.1 z.1.2.2.1)⟩
def Ai:XA:=⟨38,[.p (.v (.agg [.sl ak aS false,.sl aG bG false,.int .i64,.sl aJ bF false,.sl ay aX false])),.p (.v (.one (.int .i64))),.p (.v (.one (.str))),.p (.v (.one (.int .i64))),.p (.v (.one (.bool)))],[.agg [.c (.sl ak aS false),.c (.sl aG bG false),.c (.int .i64),.c (.sl aJ bF false),.c (.sl ay aX false)],.one (.c (.sl ai aN false)),.one (.c .bool)],λ((c,u,name,id,b,()):Et×Int×dY×Int×dh)=>(lU c,λ(z:BQ)=>Sp.written c u name id b (z.1.1.1,z.1.1.2.1,z.1.1.2.2.1,z.1.1.2.2.2.1,z.1.1.2.2.2.2.1,()) z.1.2.1 z.1.2.2.1)⟩
def FK:XA:=⟨9,[.p (.v (.agg [.sl ak aS false,.sl aG bG false,.int .i64,.sl aJ bF false,.sl ay aX false])),.p (.v (.one (.int .i64))),.p (.v (.one (.str))),.p (.v (.one (.int .i64)))],[.agg [.c (.sl ak aS false),.c (.sl aG bG false),.c (.int .i64),.c (.sl aJ bF false),.c (.sl ay aX false)],.one (.c (.sl ai aN false)),.one (.c .bool)],λ((c,u,name,id,()):J3)=>(lU c,λ(z:BQ)=>Sp.written c u name id true (z.1.1.1,z.1.1.2.1,z.1.1.2.2.1,z.1.1.2.2.2.1,z.1.1.2.2.2.2.1,()) z.1.2.1 z.1.2.2.1)⟩
def wI:XA:=⟨12,[.p (.v (.agg [.sl ak aS false,.sl aG bG false,.int .i64,.sl aJ bF false,.sl ay aX false])),.p (.v (.one (.int .i64))),.p (.v (.one (.str))),.p (.v (.one (.int .i64)))],[.agg [.c (.sl ak aS false),.c (.sl aG bG false),.c (.int .i64),.c (.sl aJ bF false),.c (.sl ay aX false)],.one (.c (.sl ai aN false)),.one (.c .bool)],λ((c,u,name,id,()):J3)=>(lU c,λ(z:BQ)=>Sp.written c u name id false (z.1.1.1,z.1.1.2.1,z.1.1.2.2.1,z.1.1.2.2.2.1,z.1.1.2.2.2.2.1,()) z.1.2.1 z.1.2.2.1)⟩
def FM:XA:=⟨10,[.p (.v (.agg [.sl ak aS false,.sl aG bG false,.int .i64,.sl aJ bF false,.sl ay aX false])),.p (.v (.one (.int .i64))),.p (.v (.one (.str))),.p (.v (.one (.int .i64)))],[.agg [.c (.sl ak aS false),.c (.sl aG bG false),.c (.int .i64),.c (.sl aJ bF false),.c (.sl ay aX false)],.one (.c (.sl ai aN false)),.one (.c .bool)],λ((c,u,name,id,()):J3)=>(lU c,λ(z:BQ)=>Sp.written c u name id true (z.1.1.1,z.1.1.2.1,z.1.1.2.2.1,z.1.1.2.2.2.1,z.1.1.2.2.2.2.1,()) z.1.2.1 z.1.2.2.1)⟩
def wJ:XA:=⟨13,[.p (.v (.agg [.sl ak aS false,.sl aG bG false,.int .i64,.sl aJ bF false,.sl ay aX false])),.p (.v (.one (.int .i64))),.p (.v (.one (.str))),.p (.v (.one (.int .i64)))],[.agg [.c (.sl ak aS false),.c (.sl aG bG false),.c (.int .i64),.c (.sl aJ bF false),.c (.sl ay aX false)],.one (.c (.sl ai aN false)),.one (.c .bool)],λ((c,u,name,id,()):J3)=>(lU c,λ(z:BQ)=>Sp.written c u name id false (z.1.1.1,z.1.1.2.1,z.1.1.2.2.1,z.1.1.2.2.2.1,z.1.1.2.2.2.2.1,()) z.1.2.1 z.1.2.2.1)⟩
def yM:XA:=⟨8,[.p (.v (.one (.sl eH jQ false)))],[.agg [.c (.sl ak aS false),.c (.sl aG bG false),.c (.int .i64),.c (.sl aJ bF false),.c (.sl ay aX false)],.one (.c (.int .i64)),.one (.c .str),.one (.c (.int .i64))],λ((code,()):kG)=>(code.length<=1048576,λ(z:J3×Unit)=>lU (z.1.1.1,z.1.1.2.1,z.1.1.2.2.1,z.1.1.2.2.2.1,z.1.1.2.2.2.2.1,()))⟩
def qF:XA:=⟨11,[.p (.v (.one (.sl eH jQ false)))],[.agg [.c (.sl ak aS false),.c (.sl aG bG false),.c (.int .i64),.c (.sl aJ bF false),.c (.sl ay aX false)],.one (.c (.int .i64)),.one (.c .str),.one (.c (.int .i64))],λ((code,()):kG)=>(code.length<=1048576,λ(z:J3×Unit)=>lU (z.1.1.1,z.1.1.2.1,z.1.1.2.2.1,z.1.1.2.2.2.1,z.1.1.2.2.2.2.1,()))⟩
def qh:XA:=⟨19,[.p (.v (.agg [.int .i64,.int .i64,.bool,.int .i64,.sl ai aN false])),.p (.v (.agg [.int .i64,.int .i64,.bool,.int .i64,.sl ai aN false]))],[.one (.c (.sl dn eF true))],λ((f,g,()):sU×lX)=>(bY f/\bY g/\f.2.2.2.2.1.length+g.2.2.2.2.1.length<=1000,λ(z:gU)=>dA z.1.1 (gX f g)/\z.1.1.Nodup)⟩
def HY:PA:=⟨3,[.v (.one (.sl eH jQ false))],[.one (.bool)],λ(_,())=>(True,true,())⟩
def V6[kz]:kZ:=Ko [(yN,.eff (oH qy) Ce),dL.e,xk.e,mP.e]
def TL[kz]:kZ:=Ko [qQ.e,lZ.e,(uU,.pure yV),CO.e,sG.e]
def V7[kz]:kZ:=Ko [nD.e,l7.e,(yO,.pure CP),sH.e]
def YD[kz]:kZ:=Ko [vS.e,(Aj,.eff (oH rQ) D8),(xQ,.pure zO)]
def V8[kz]:kZ:=Ko [Ez.e,vT.e,(yP,.eff (oH qE) CW),(CX,.pure DX)]
end
end Go.Proofs.Tryz
