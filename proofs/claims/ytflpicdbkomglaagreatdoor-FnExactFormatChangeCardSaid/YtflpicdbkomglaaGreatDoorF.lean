import Derived.Test.YtflpicdbkomglaaGreatDoorN
import Derived.Test.YtflpicdbkomglaaGreatDoorSp
namespace Go.Proofs.Tryz
open Go Go.Fw Sp
abbrev bI:=List UInt8
abbrev bU:=bI×Unit
abbrev Wh:=bI×Int×Int×bU
abbrev Bl:=Int×Int×Int×Wh
abbrev fA:=List Bl
abbrev dI:=Int×Unit
abbrev fV:=List Wh
abbrev CV:=Int×Int×Bool×Int×fV×Unit
abbrev l9:=fA×Unit
abbrev P9:=Int×Int×Int×Bool×Int×fV×Int×bI×l9
abbrev jg:=Bool×Unit
abbrev JZ:=(Int×Int×bU)×Unit
abbrev kz:=jg×Unit
abbrev nX:=dI×Unit
abbrev OW:=(fA×dI)×Unit
abbrev SN:=(Int×dI)×Unit
class kT where n:Nat
abbrev fE[kT]:Nat:=kT.n
noncomputable section
def zK:XA:=⟨140,[.ptr [.sl FN R_5 false,.int .i64,.int .i64]],[.one (.c (.int .i64))],λ(((_,i,_,()),()):(List dI×Int×dI)×Unit)=>(0<=i,λ(z:dI×(List dI×Int×dI)×Unit)=>0<=z.2.1.2.1/\0<=z.1.1/\z.1.1<=255)⟩
def tN:PA:=⟨169,[.v (.one (.int .i64))],[.agg [.int .i64,.int .i64,.str]],λ((n,()):dI)=>(True,(1,n,[],()),())⟩
def oH:PA:=⟨145,[.v (.one (.str))],[.agg [.int .i64,.int .i64,.str]],λ((w,()):bU)=>(True,(2,0,w,()),())⟩
def fK:PA:=⟨38,[.v (.one (.int .i64)),.v (.one (.int .i64)),.v (.one (.int .i64))],[.one (.bool)],λ((x,a,b,()):Int×Int×dI)=>(True,(decide (a<=x)&&decide (x<=b)),())⟩
def gY:PA:=⟨115,[.v (.one (.int .i64)),.v (.one (.int .i64)),.v (.one (.int .i64))],[.one (.bool)],λ((x,a,b,()):Int×Int×dI)=>(True,(decide (a<=x)&&decide (x<=b)),())⟩
def qi:PA:=⟨105,[.v (.one (.str)),.v (.one (.int .i64))],[.one (.bool)],λ((s,m,()):bI×dI)=>(True,(Sp.lower s&&decide (1<=(s.length:Int))&&decide ((s.length:Int)<=m)),())⟩
def iq:PA:=⟨39,[.v (.one (.str))],[.one (.bool)],λ((s,()):bU)=>(True,aK s,())⟩
def iw:PA:=⟨50,[.v (.one (.str))],[.one (.bool)],λ((s,()):bU)=>(True,aK s,())⟩
def fZ:PA:=⟨102,[.v (.agg [.int .i64,.int .i64,.str])],[.one (.bool)],λ(((k,n,s,()),()):JZ)=>(True,aS k n s,())⟩
def gm:PA:=⟨57,[.v (.agg [.int .i64,.int .i64,.str])],[.one (.bool)],λ(((k,n,s,()),()):JZ)=>(True,aS k n s,())⟩
def iV:PA:=⟨101,[.v (.one (.str))],[.one (.bool)],λ((s,()):bU)=>(True,dN s,())⟩
def iW:PA:=⟨56,[.v (.one (.str))],[.one (.bool)],λ((s,()):bU)=>(True,dN s,())⟩
def abC:PA:=⟨151,[.v (.one (.sl aZ ji false)),.v (.one (.sl aZ ji false))],[.one (.bool)],λ((a,b,()):fV×fV×Unit)=>(True,decide (a=b),())⟩
def acu:PA:=⟨89,[.v (.agg [.int .i64,.int .i64,.bool,.int .i64,.sl aZ ji false]),.v (.agg [.int .i64,.int .i64,.bool,.int .i64,.sl aZ ji false])],[.one (.bool)],λ((a,b,()):CV×CV×Unit)=>(True,decide (a=b),())⟩
def oI:PA:=⟨106,[.v (.agg [.int .i64,.int .i64,.int .i64,.str,.int .i64,.int .i64,.str]),.v (.one (.int .i64))],[.one (.bool)],λ(((o,l,r,nm,vk,vi,vs,()),at',()):Bl×dI)=>(True,dh (o,l,r,nm,vk,vi,vs,()) at',())⟩
def oJ:PA:=⟨116,[.v (.agg [.int .i64,.int .i64,.int .i64,.str,.int .i64,.int .i64,.str]),.v (.one (.int .i64))],[.one (.bool)],λ(((o,l,r,nm,vk,vi,vs,()),at',()):Bl×dI)=>(True,dh (o,l,r,nm,vk,vi,vs,()) at',())⟩
def kN:PA:=⟨107,[.v (.one (.sl aC bC false)),.v (.one (.int .i64))],[.one (.int .i64)],λ((q,at',()):fA×dI)=>(q.length<=2000000,(iK q at':Int),())⟩
def kP:PA:=⟨117,[.v (.one (.sl aC bC false)),.v (.one (.int .i64))],[.one (.int .i64)],λ((q,at',()):fA×dI)=>(q.length<=2000000,(iK q at':Int),())⟩
def kD:PA:=⟨40,[.v (.one (.sl aC bC false))],[.one (.bool)],λ((q,()):l9)=>(q.length<=2000000,aA q,())⟩
def eG:PA:=⟨51,[.v (.one (.sl aC bC false))],[.one (.bool)],λ((q,()):l9)=>(q.length<=2000000,aA q,())⟩
def abD:PA:=⟨152,[.v (.one (.sl aC bC false)),.v (.one (.sl aC bC false))],[.one (.bool)],λ((a,b,()):fA×l9)=>(True,decide (a=b),())⟩
def ac5:PA:=⟨90,[.v (.agg [.str,.sl aC bC false]),.v (.agg [.str,.sl aC bC false])],[.one (.bool)],λ((a,b,()):(bI×l9)×(bI×l9)×Unit)=>(True,decide (a=b),())⟩
def pO:PA:=⟨54,[.v (.agg [.int .i64,.int .i64,.bool,.int .i64,.sl aZ ji false]),.v (.agg [.int .i64,.int .i64,.bool,.int .i64,.sl aZ ji false])],[.one (.bool)],λ((a,b,()):CV×CV×Unit)=>(True,decide (a=b),())⟩
def jI:PA:=⟨119,[.v (.one (.sl aZ ji false)),.v (.one (.sl aZ ji false))],[.one (.bool)],λ((a,b,()):fV×fV×Unit)=>(True,decide (a=b),())⟩
def jJ:PA:=⟨118,[.v (.one (.sl aC bC false)),.v (.one (.sl aC bC false))],[.one (.bool)],λ((a,b,()):fA×l9)=>(True,decide (a=b),())⟩
def nO:PA:=⟨52,[.v (.one (.sl aC bC false)),.v (.one (.sl aC bC false))],[.one (.bool)],λ((a,b,()):fA×l9)=>(True,decide (a=b),())⟩
def oK:PA:=⟨174,[.v (.one (.str))],[.agg [.int .i64,.int .i64,.str]],λ((w,()):bU)=>(True,(2,0,w,()),())⟩
def yA:List dV:=[.v (.one (.int .i64))]
def CW:List jV:=[.one (.str)]
def SQ:eY yA->Prop×jD CW:=λ(n,())=>(-9223372036854775808<=n/\n<=9223372036854775807,Lib.itoa n,())
def xB:Ai:=iY yA CW SQ
def yB:List dV:=[.v (.one (.sl fF lV false)),.v (.one (.str))]
def CX:List jV:=[.one (.str)]
def SS:eY yB->Prop×jD CX:=λ(l,sep,())=>(l.length<=140737488355328/\(Lib.join (l.map (·.1)) sep).length<=140737488355328,Lib.join (l.map (·.1)) sep,())
def kH:Ai:=iY yB CX SS
def xC:List dV:=[.v (.one (.str)),.v (.one (.str))]
def Bo:List jV:=[.one (.sl fF lV true)]
def Qa:eY xC->Prop×jD Bo:=λ(s,sep,())=>(s.length<=4294960000/\(sep=[32]\/sep=[10]),Sp.pieces (sep.getD 0 0) s,())
def vN:Ai:=iY xC Bo Qa
def vO:List dV:=[.v (.one (.str))]
def Aj:List jV:=[.one (.sl fF lV true)]
def OX:eY vO->Prop×jD Aj:=λ(s,())=>(s.length<=1048576/\J3 s=true,Sp.wordsOf s,())
def uj:Ai:=iY vO Aj OX
def vP:List dV:=[.v (.one (.str))]
def Ak:List jV:=[.one (.int .i64),.one (.bool)]
def OY:eY vP->Prop×jD Ak:=λ(s,())=>(True,Sp.parseNum s,bM s,())
def um:Ai:=iY vP Ak OY
def ru:PA:=⟨128,[.v (.one (.str))],[.one (.int .i64),.one (.bool)],λ((s,()):bU)=>(True,Sp.parseNum s,bM s,())⟩
def kJ:PA:=⟨48,[.v (.one (.int .i64))],[.one (.str)],λ((n,()):dI)=>(True,Lib.itoa n,())⟩
def rC:PA:=⟨104,[.v (.one (.int .i64))],[.one (.int .u8)],λ((x,()):dI)=>(0<=x/\x<10,48+x,())⟩
def jk:PA:=⟨37,[.v (.one (.int .i64))],[.one (.str)],λ((n,()):dI)=>(True,Lib.itoa n,())⟩
def oL:PA:=⟨61,[.v (.one (.str))],[.one (.sl fF lV true),.one (.bool)],λ((s,()):bU)=>(s.length<=1048576,kE s,iy s,())⟩
def jo:PA:=⟨66,[.v (.one (.str))],[.one (.sl fF lV true),.one (.bool)],λ((s,()):bU)=>(s.length<=1048576,kE s,iy s,())⟩
def qj:PA:=⟨88,[.v (.one (.sl fF lV false)),.v (.one (.int .i64))],[.one (.str)],λ((w,i,()):List bU×dI)=>(0<=i,Sp.wordAt w i,())⟩
def uO:PA:=⟨65,[.v (.one (.sl fF lV false))],[.one (.str)],λ((w,()):List bU×Unit)=>(w.length<=1000/\(jE w).length<=2097152,jE w,())⟩
def pR:PA:=⟨100,[.v (.agg [.int .i64,.int .i64,.bool,.int .i64,.sl aZ ji false]),.v (.agg [.int .i64,.int .i64,.bool,.int .i64,.sl aZ ji false])],[.one (.bool)],λ((a,b,()):CV×CV×Unit)=>(True,decide (a=b),())⟩
def nP:PA:=⟨41,[.v (.one (.sl aC bC false)),.v (.one (.sl aC bC false))],[.one (.bool)],λ((a,b,()):fA×l9)=>(True,decide (a=b),())⟩
def jq:PA:=⟨112,[.v (.agg [.int .i64,.int .i64,.str])],[.one (.str)],λ(((k,n,s,()),()):JZ)=>(True,aU (k,n,s,()),())⟩
def gK:PA:=⟨103,[.v (.agg [.int .i64,.int .i64,.str])],[.one (.str)],λ(((k,n,s,()),()):JZ)=>(True,aU (k,n,s,()),())⟩
def jT:PA:=⟨132,[.v (.one (.str))],[.agg [.int .i64,.int .i64,.str],.one (.bool)],λ((s,()):bU)=>(s.length<=1048576,(aY s).1,(aY s).2,())⟩
def lW:PA:=⟨127,[.v (.one (.str))],[.agg [.int .i64,.int .i64,.str],.one (.bool)],λ((s,()):bU)=>(s.length<=1048576,(aY s).1,(aY s).2,())⟩
def gQ:PA:=⟨163,[.v (.one (.int .i64))],[.one (.str)],λ((op,()):dI)=>(True,dw op,())⟩
def jl:PA:=⟨156,[.v (.one (.int .i64))],[.one (.str)],λ((op,()):dI)=>(True,dw op,())⟩
def Bq:List dV:=[.v (.one (.sl aC bC false)),.v (.one (.int .i64))]
def Am:List jV:=[.one (.str)]
def OZ:eY Bq->Prop×jD Am:=λ(q,at',())=>(aA q=true/\0<=at'/\at'<q.length,Lib.join (aT (at'.toNat+1) q at') [32],())
def Ap:Ai:=iY Bq Am OZ
def vV:List dV:=[.v (.one (.sl aC bC false)),.v (.one (.int .i64))]
def vJ:List jV:=[.one (.str)]
def xW[kT]:eY vV->Prop×jD vJ:=λ(q,at',())=>((aA q=true/\0<=at'/\at'<q.length)/\at'.toNat<fE,Lib.join (aT (at'.toNat+1) q at') [32],())
def nY[kT]:Ai:=iY vV vJ xW
def nZ:List dV:=[.v (.one (.sl aC bC false)),.v (.one (.int .i64))]
def uo:List jV:=[.one (.str)]
def vW[kT]:eY nZ->Prop×jD uo:=λ(q,at',())=>((aA q=true/\0<=at'/\at'<q.length)/\at'.toNat<fE+1,Lib.join (aT (at'.toNat+1) q at') [32],())
def uq[kT]:Ai:=iY nZ uo vW
def Eo:List dV:=[.v (.one (.sl aC bC false)),.v (.one (.int .i64))]
def CY:List jV:=[.one (.str)]
def SX:eY Eo->Prop×jD CY:=λ(q,at',())=>(aA q=true/\0<=at'/\at'<q.length,Lib.join (aT (at'.toNat+1) q at') [32],())
def CZ:Ai:=iY Eo CY SX
def yC:List dV:=[.v (.one (.sl aC bC false)),.v (.one (.int .i64))]
def xX:List jV:=[.one (.str)]
def zy[kT]:eY yC->Prop×jD xX:=λ(q,at',())=>((aA q=true/\0<=at'/\at'<q.length)/\at'.toNat<fE,Lib.join (aT (at'.toNat+1) q at') [32],())
def ql[kT]:Ai:=iY yC xX zy
def qm:List dV:=[.v (.one (.sl aC bC false)),.v (.one (.int .i64))]
def vX:List jV:=[.one (.str)]
def yD[kT]:eY qm->Prop×jD vX:=λ(q,at',())=>((aA q=true/\0<=at'/\at'<q.length)/\at'.toNat<fE+1,Lib.join (aT (at'.toNat+1) q at') [32],())
def vY[kT]:Ai:=iY qm vX yD
def kU:PA:=⟨49,[.v (.one (.sl aC bC false))],[.one (.str)],λ((q,()):l9)=>(q.length<=2000000,Sp.textOf q,())⟩
def jr:PA:=⟨43,[.v (.one (.sl aC bC false))],[.one (.str)],λ((q,()):l9)=>(q.length<=2000000,Sp.textOf q,())⟩
def tV:List fJ:=[.p (.v (.one (.sl fF lV false))),.p (.v (.one (.int .i64))),.own aC bC,.p (.v (.one (.int .i64)))]
def C9:List mV:=[.one (.own aC bC false),.one (.c (.int .i64))]
def SY:jb tV->Prop×(nR C9×mg tV->Prop):=λ(p,at',q,deep,())=>(p.length<=1000/\0<=at'/\at'.toNat+3*2 ^ (10-deep).toNat<=1000000/\0<=deep/\deep<=10/\(∀x∈p,x.1.length<=1000)/\q.length<=100,λ((r,k,()),())=>r=(Sp.rs (10-deep).toNat (p.drop at'.toNat) q).1/\k=(Sp.rs (10-deep).toNat (p.drop at'.toNat) q).2)
def Dc:Hy:=zL tV C9 SY
def jK:List fJ:=[.p (.v (.one (.sl fF lV false))),.p (.v (.one (.int .i64))),.own aC bC,.p (.v (.one (.int .i64)))]
def xY:List mV:=[.one (.own aC bC false),.one (.c (.int .i64))]
def zA[kT]:jb jK->Prop×(nR xY×mg jK->Prop):=λ(p,at',q,deep,())=>((p.length<=1000/\0<=at'/\at'.toNat+3*2 ^ (10-deep).toNat<=1000000/\0<=deep/\deep<=10/\(∀x∈p,x.1.length<=1000)/\q.length<=100)/\(10-deep).toNat<fE,λ((r,k,()),())=>r=(Sp.rs (10-deep).toNat (p.drop at'.toNat) q).1/\k=(Sp.rs (10-deep).toNat (p.drop at'.toNat) q).2)
def qo[kT]:Hy:=zL jK xY zA
def lD:List fJ:=[.p (.v (.one (.sl fF lV false))),.p (.v (.one (.int .i64))),.own aC bC,.p (.v (.one (.int .i64)))]
def vZ:List mV:=[.one (.own aC bC false),.one (.c (.int .i64))]
def mr[kT]:jb lD->Prop×(nR vZ×mg lD->Prop):=λ(p,at',q,deep,())=>((p.length<=1000/\0<=at'/\at'.toNat+3*2 ^ (10-deep).toNat<=1000000/\0<=deep/\deep<=10/\(∀x∈p,x.1.length<=1000)/\q.length<=100)/\(10-deep).toNat<fE+1,λ((r,k,()),())=>r=(Sp.rs (10-deep).toNat (p.drop at'.toNat) q).1/\k=(Sp.rs (10-deep).toNat (p.drop at'.toNat) q).2)
def wo[kT]:Hy:=zL lD vZ mr
def uw:List dV:=[.v (.one (.str))]
def zB:List jV:=[.one (.sl aC bC true),.one (.bool)]
def Nw:eY uw->Prop×jD zB:=λ(s,())=>(s.length<=1048576,fM s,gI s,())
def tu:Ai:=iY uw zB Nw
def pU:PA:=⟨64,[.v (.one (.str))],[.one (.sl aC bC false),.one (.bool)],λ((s,()):bU)=>(s.length<=1048576,fM s,gI s,())⟩
def lF:PA:=⟨53,[.v (.one (.sl aC bC false))],[.one (.sl aC bC true)],λ((q,()):l9)=>(q.length<=2000000,fM (Sp.textOf q),())⟩
def lG:PA:=⟨42,[.v (.one (.sl aC bC false))],[.one (.sl aC bC false)],λ((q,()):l9)=>(q.length<=2000000,fM (Sp.textOf q),())⟩
def pV:PA:=⟨47,[.v (.agg [.int .i64,.int .i64,.bool,.int .i64,.sl aZ ji false])],[.one (.str)],λ((f,()):CV×Unit)=>(f.2.2.2.2.1.length<=1048576/\(bK f.2.2.2.2.1).length<=1073741824,dD f,())⟩
def uP:PA:=⟨36,[.v (.agg [.int .i64,.int .i64,.bool,.int .i64,.sl aZ ji false])],[.one (.str)],λ((f,()):CV×Unit)=>(f.2.2.2.2.1.length<=1048576/\(bK f.2.2.2.2.1).length<=1073741824,Lib.join (dX f) [32],())⟩
def rD:PA:=⟨35,[.v (.agg [.int .i64,.int .i64,.bool,.int .i64,.sl aZ ji false])],[.one (.bool)],λ((f,()):CV×Unit)=>(f.2.2.2.2.1.length<=1048576,kF f,())⟩
def uQ:PA:=⟨34,[.v (.agg [.int .i64,.int .i64,.bool,.int .i64,.sl aZ ji false])],[.one (.bool)],λ((f,()):CV×Unit)=>(True,decide (f=wu),())⟩
def nS:PA:=⟨10,[.v (.agg [.int .i64,.int .i64,.int .i64,.bool,.int .i64,.sl aZ ji false,.int .i64,.str,.sl aC bC false])],[.one (.str)],λ((x,()):P9×Unit)=>(FO x,dF x,())⟩
def nT:PA:=⟨8,[.v (.agg [.int .i64,.int .i64,.int .i64,.bool,.int .i64,.sl aZ ji false,.int .i64,.str,.sl aC bC false])],[.one (.str)],λ((x,()):P9×Unit)=>(FO x,dF x,())⟩
def qp:PA:=⟨179,[.v (.agg [.int .i64,.int .i64,.str]),.v (.one (.int .i64))],[.one (.int .i64)],λ(((_,_,s,()),left,()):(Int×Int×bU)×dI)=>(0<=left/\left<=1048576,bJ s.length left,())⟩
def wO:PA:=⟨154,[.v (.agg [.str,.int .i64,.int .i64,.str]),.v (.one (.int .i64))],[.one (.int .i64)],λ((a,left,()):Wh×dI)=>(0<=left/\left<=1048576,bJ (Qb a) left,())⟩
def wP:PA:=⟨155,[.v (.agg [.int .i64,.int .i64,.int .i64,.str,.int .i64,.int .i64,.str]),.v (.one (.int .i64))],[.one (.int .i64)],λ((a,left,()):Bl×dI)=>(0<=left/\left<=1048576,bJ (Qc a) left,())⟩
def uS:PA:=⟨98,[.v (.one (.sl fO dR false)),.v (.one (.int .i64))],[.one (.int .i64)],λ((a,left,()):fV×dI)=>(0<=left/\left<=1048576,bJ (jL a) left,())⟩
def uT:PA:=⟨99,[.v (.one (.sl fP dA false)),.v (.one (.int .i64))],[.one (.int .i64)],λ((a,left,()):fA×dI)=>(0<=left/\left<=1048576,bJ (ny a) left,())⟩
def wQ:PA:=⟨32,[.v (.agg [.int .i64,.int .i64,.bool,.int .i64,.sl fO dR false]),.v (.one (.int .i64))],[.one (.int .i64)],λ((a,left,()):CV×dI)=>(0<=left/\left<=1048576,bJ (acv a) left,())⟩
def yE:PA:=⟨33,[.v (.agg [.str,.sl fP dA false]),.v (.one (.int .i64))],[.one (.int .i64)],λ((a,left,()):(bI×l9)×dI)=>(0<=left/\left<=1048576,bJ (adB a) left,())⟩
def tX:PA:=⟨7,[.v (.agg [.int .i64,.int .i64,.int .i64,.bool,.int .i64,.sl fO dR false,.int .i64,.str,.sl fP dA false]),.v (.one (.int .i64))],[.one (.int .i64)],λ((a,left,()):P9×dI)=>(0<=left/\left<=1048576,bJ (zM a) left,())⟩
def qw:PA:=⟨180,[.v (.agg [.int .i64,.int .i64,.str])],[.agg [.int .i64,.int .i64,.str]],λ(((k,i,s,()),()):JZ)=>(True,(k,i,s,()),())⟩
def wR:PA:=⟨157,[.v (.agg [.str,.int .i64,.int .i64,.str])],[.agg [.str,.int .i64,.int .i64,.str]],λ(((n,k,i,s,()),()):Wh×Unit)=>(True,(n,k,i,s,()),())⟩
def wS:PA:=⟨158,[.v (.agg [.int .i64,.int .i64,.int .i64,.str,.int .i64,.int .i64,.str])],[.agg [.int .i64,.int .i64,.int .i64,.str,.int .i64,.int .i64,.str]],λ(((o,l,r,n,k,i,s,()),()):Bl×Unit)=>(True,(o,l,r,n,k,i,s,()),())⟩
def uU:PA:=⟨109,[.v (.one (.sl fO dR false))],[.one (.sl aZ ji true)],λ((a,()):fV×Unit)=>(jL a<=big,a,())⟩
def uV:PA:=⟨110,[.v (.one (.sl fP dA false))],[.one (.sl aC bC true)],λ((a,()):l9)=>(ny a<=big,a,())⟩
def wU:PA:=⟨44,[.v (.agg [.int .i64,.int .i64,.bool,.int .i64,.sl fO dR false])],[.agg [.int .i64,.int .i64,.bool,.int .i64,.sl aZ ji true]],λ(((i,o,s,l,a,()),()):CV×Unit)=>(jL a<=big,(i,o,s,l,a,()),())⟩
def yF:PA:=⟨45,[.v (.agg [.str,.sl fP dA false])],[.agg [.str,.sl aC bC true]],λ(((n,q,()),()):(bI×l9)×Unit)=>(ny q<=big,(n,q,()),())⟩
def tY:PA:=⟨9,[.v (.agg [.int .i64,.int .i64,.int .i64,.bool,.int .i64,.sl fO dR false,.int .i64,.str,.sl fP dA false])],[.agg [.int .i64,.int .i64,.int .i64,.bool,.int .i64,.sl aZ ji true,.int .i64,.str,.sl aC bC true]],λ((a,()):P9×Unit)=>(zM a<=big,a,())⟩
def qx:PA:=⟨188,[.v (.agg [.int .i64,.int .i64,.str]),.v (.agg [.int .i64,.int .i64,.str])],[.one (.bool)],λ((a,b,()):(Int×Int×bU)×JZ)=>(True,qy a b,())⟩
def wV:PA:=⟨167,[.v (.agg [.str,.int .i64,.int .i64,.str]),.v (.agg [.str,.int .i64,.int .i64,.str])],[.one (.bool)],λ((a,b,()):Wh×Wh×Unit)=>(True,FP a b,())⟩
def wW:PA:=⟨168,[.v (.agg [.int .i64,.int .i64,.int .i64,.str,.int .i64,.int .i64,.str]),.v (.agg [.int .i64,.int .i64,.int .i64,.str,.int .i64,.int .i64,.str])],[.one (.bool)],λ((a,b,()):Bl×Bl×Unit)=>(True,FQ a b,())⟩
def uX:PA:=⟨125,[.v (.one (.sl aZ ji false)),.v (.one (.sl aZ ji false))],[.one (.bool)],λ((a,b,()):fV×fV×Unit)=>(True,xZ a b,())⟩
def uY:PA:=⟨126,[.v (.one (.sl aC bC false)),.v (.one (.sl aC bC false))],[.one (.bool)],λ((a,b,()):fA×l9)=>(True,x9 a b,())⟩
def wX:PA:=⟨59,[.v (.agg [.int .i64,.int .i64,.bool,.int .i64,.sl aZ ji false]),.v (.agg [.int .i64,.int .i64,.bool,.int .i64,.sl aZ ji false])],[.one (.bool)],λ((a,b,()):CV×CV×Unit)=>(True,Df a b,())⟩
def yG:PA:=⟨60,[.v (.agg [.str,.sl aC bC false]),.v (.agg [.str,.sl aC bC false])],[.one (.bool)],λ((a,b,()):(bI×l9)×(bI×l9)×Unit)=>(True,Hz a b,())⟩
def tZ:PA:=⟨11,[.v (.agg [.int .i64,.int .i64,.int .i64,.bool,.int .i64,.sl aZ ji false,.int .i64,.str,.sl aC bC false]),.v (.agg [.int .i64,.int .i64,.int .i64,.bool,.int .i64,.sl aZ ji false,.int .i64,.str,.sl aC bC false])],[.one (.bool)],λ((a,b,()):P9×P9×Unit)=>(True,Dh a b,())⟩
def lN:PA:=⟨3,[.v (.agg [.int .i64,.int .i64,.int .i64,.bool,.int .i64,.sl fO dR false,.int .i64,.str,.sl fP dA false])],[.one (.bool)],λ(_,())=>(True,true,())⟩
def iU:PA:=⟨121,[.v (.one (.int .i64))],[.one (.bool)],λ((n,()):dI)=>(True,!aW n,())⟩
def dM:PA:=⟨164,[.v (.one (.sl Qd R_3 false)),.fn 121 []],[.one (.int .i64)],λ((l,_,()):List dI×Unit×Unit)=>(True,Sp.idxOf l,())⟩
def dB:PA:=⟨120,[.v (.one (.sl Qd R_3 false)),.fn 121 []],[.one (.bool)],λ((l,_,()):List dI×Unit×Unit)=>(True,!gU l,())⟩
def pW:PA:=⟨55,[.v (.one (.sl Qd R_3 false))],[.one (.bool)],λ((l,()):List dI×Unit)=>(True,gU l,())⟩
def uf:PA:=⟨173,[.v (.one (.int .i64))],[.agg [.int .i64,.int .i64,.str]],λ((n,()):dI)=>(True,(1,n,[],()),())⟩
def EW[kT]:gG:=BD [(mX,.pure kH),(lH,.pure nY),jq.e,gQ.e]
def HY[kT]:gG:=BD [(nU,.pure ql),gK.e,jl.e]
def H6[kT]:gG:=BD [(nV,.eff (J4 jK) qo),fK.e,lW.e,jl.e,qj.e]
end
end Go.Proofs.Tryz
