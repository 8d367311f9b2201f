import Derived.Test.YtflpicdbkomglaaGreatDoorN
import Derived.Test.YtflpicdbkomglaaGreatDoorSp
namespace Go.Proofs.Tryz
open Go Go.Fw Sp
abbrev dA:=List UInt8
abbrev dG:=dA×Unit
abbrev Ty0:=dA×Int×Int×dG
abbrev jJ:=List Ty0
abbrev D8:=Int×Int×Int×Ty0
abbrev jD:=List D8
abbrev vz:=jD×Unit
abbrev KE:=Int×Int×Int×Bool×Int×jJ×Int×dA×vz
abbrev yj:=List KE
abbrev eY:=Int×Unit
abbrev zM:=Int×Int×yj×dA×eY
abbrev gB:=Bool×Unit
abbrev jk:=gB×Unit
abbrev EI:=Int×Int×Bool×Int×jJ×Unit
abbrev jK:=Unit×Unit
abbrev FD:=Int×Int×Unit×dA×eY
abbrev XU:=Int×Int×Int×Bool×Int×Unit×Int×dA×jK
abbrev kM:=List dG
abbrev MN:=(Int×Int×dG)×Unit
abbrev pX:=eY×Unit
abbrev XV:=Int×Int×Bool×Int×jK
abbrev zS:=kM×Unit
abbrev PX:=(Int×eY)×Unit
abbrev UM:=(jD×eY)×Unit
class oL where n:Nat
abbrev jd[oL]:Nat:=oL.n
noncomputable section
def D9:XA:=⟨140,[.ptr [.sl KF R_5 false,.int .i64,.int .i64]],[.one (.c (.int .i64))],λ(((_,i,_,()),()):(List eY×Int×eY)×Unit)=>(0<=i,λ(z:eY×(List eY×Int×eY)×Unit)=>0<=z.2.1.2.1/\0<=z.1.1/\z.1.1<=255)⟩
def yB:PA:=⟨169,[.v (.one (.int .i64))],[.agg [.int .i64,.int .i64,.str]],λ((n,()):eY)=>(True,(1,n,[],()),())⟩
def tH:PA:=⟨145,[.v (.one (.str))],[.agg [.int .i64,.int .i64,.str]],λ((w,()):dG)=>(True,(2,0,w,()),())⟩
def iq:PA:=⟨38,[.v (.one (.int .i64)),.v (.one (.int .i64)),.v (.one (.int .i64))],[.one (.bool)],λ((x,a,b,()):Int×Int×eY)=>(True,(decide (a<=x)&&decide (x<=b)),())⟩
def jl:PA:=⟨115,[.v (.one (.int .i64)),.v (.one (.int .i64)),.v (.one (.int .i64))],[.one (.bool)],λ((x,a,b,()):Int×Int×eY)=>(True,(decide (a<=x)&&decide (x<=b)),())⟩
def vC:PA:=⟨105,[.v (.one (.str)),.v (.one (.int .i64))],[.one (.bool)],λ((s,m,()):dA×eY)=>(True,(Sp.lower s&&decide (1<=(s.length:Int))&&decide ((s.length:Int)<=m)),())⟩
def je:PA:=⟨39,[.v (.one (.str))],[.one (.bool)],λ((s,()):dG)=>(True,aF s,())⟩
def jf:PA:=⟨50,[.v (.one (.str))],[.one (.bool)],λ((s,()):dG)=>(True,aF s,())⟩
def jw:PA:=⟨102,[.v (.agg [.int .i64,.int .i64,.str])],[.one (.bool)],λ(((k,n,s,()),()):MN)=>(True,bg k n s,())⟩
def jy:PA:=⟨57,[.v (.agg [.int .i64,.int .i64,.str])],[.one (.bool)],λ(((k,n,s,()),()):MN)=>(True,bg k n s,())⟩
def lq:PA:=⟨101,[.v (.one (.str))],[.one (.bool)],λ((s,()):dG)=>(True,eP s,())⟩
def lC:PA:=⟨56,[.v (.one (.str))],[.one (.bool)],λ((s,()):dG)=>(True,eP s,())⟩
def agy:PA:=⟨151,[.v (.one (.sl bG jm false)),.v (.one (.sl bG jm false))],[.one (.bool)],λ((a,b,()):jJ×jJ×Unit)=>(True,decide (a=b),())⟩
def aho:PA:=⟨89,[.v (.agg [.int .i64,.int .i64,.bool,.int .i64,.sl bG jm false]),.v (.agg [.int .i64,.int .i64,.bool,.int .i64,.sl bG jm false])],[.one (.bool)],λ((a,b,()):EI×EI×Unit)=>(True,decide (a=b),())⟩
def tJ:PA:=⟨106,[.v (.agg [.int .i64,.int .i64,.int .i64,.str,.int .i64,.int .i64,.str]),.v (.one (.int .i64))],[.one (.bool)],λ(((o,l,r,nm,vk,vi,vs,()),at',()):D8×eY)=>(True,eG (o,l,r,nm,vk,vi,vs,()) at',())⟩
def tK:PA:=⟨116,[.v (.agg [.int .i64,.int .i64,.int .i64,.str,.int .i64,.int .i64,.str]),.v (.one (.int .i64))],[.one (.bool)],λ(((o,l,r,nm,vk,vi,vs,()),at',()):D8×eY)=>(True,eG (o,l,r,nm,vk,vi,vs,()) at',())⟩
def oG:PA:=⟨107,[.v (.one (.sl aI bY false)),.v (.one (.int .i64))],[.one (.int .i64)],λ((q,at',()):jD×eY)=>(q.length<=2000000,(kS q at':Int),())⟩
def oH:PA:=⟨117,[.v (.one (.sl aI bY false)),.v (.one (.int .i64))],[.one (.int .i64)],λ((q,at',()):jD×eY)=>(q.length<=2000000,(kS q at':Int),())⟩
def oh:PA:=⟨40,[.v (.one (.sl aI bY false))],[.one (.bool)],λ((q,()):vz)=>(q.length<=2000000,aH q,())⟩
def iJ:PA:=⟨51,[.v (.one (.sl aI bY false))],[.one (.bool)],λ((q,()):vz)=>(q.length<=2000000,aH q,())⟩
def agz:PA:=⟨152,[.v (.one (.sl aI bY false)),.v (.one (.sl aI bY false))],[.one (.bool)],λ((a,b,()):jD×vz)=>(True,decide (a=b),())⟩
def ah2:PA:=⟨90,[.v (.agg [.str,.sl aI bY false]),.v (.agg [.str,.sl aI bY false])],[.one (.bool)],λ((a,b,()):(dA×vz)×(dA×vz)×Unit)=>(True,decide (a=b),())⟩
def uQ:PA:=⟨54,[.v (.agg [.int .i64,.int .i64,.bool,.int .i64,.sl bG jm false]),.v (.agg [.int .i64,.int .i64,.bool,.int .i64,.sl bG jm false])],[.one (.bool)],λ((a,b,()):EI×EI×Unit)=>(True,decide (a=b),())⟩
def mW:PA:=⟨119,[.v (.one (.sl bG jm false)),.v (.one (.sl bG jm false))],[.one (.bool)],λ((a,b,()):jJ×jJ×Unit)=>(True,decide (a=b),())⟩
def mX:PA:=⟨118,[.v (.one (.sl aI bY false)),.v (.one (.sl aI bY false))],[.one (.bool)],λ((a,b,()):jD×vz)=>(True,decide (a=b),())⟩
def rX:PA:=⟨52,[.v (.one (.sl aI bY false)),.v (.one (.sl aI bY false))],[.one (.bool)],λ((a,b,()):jD×vz)=>(True,decide (a=b),())⟩
def tN:PA:=⟨174,[.v (.one (.str))],[.agg [.int .i64,.int .i64,.str]],λ((w,()):dG)=>(True,(2,0,w,()),())⟩
def Cm:List gG:=[.v (.one (.int .i64))]
def G6:List nP:=[.one (.str)]
def XW:iT Cm->Prop×mP G6:=λ(n,())=>(-9223372036854775808<=n/\n<=9223372036854775807,Lib.itoa n,())
def Bl:EJ:=iM Cm G6 XW
def CB:List gG:=[.v (.one (.sl eF gm false)),.v (.one (.str))]
def G7:List nP:=[.one (.str)]
def XY:iT CB->Prop×mP G7:=λ(l,sep,())=>(l.length<=140737488355328/\(Lib.join (l.map (·.1)) sep).length<=140737488355328,Lib.join (l.map (·.1)) sep,())
def jL:EJ:=iM CB G7 XY
def wK:List gG:=[.v (.one (.str)),.v (.one (.str))]
def zT:List nP:=[.one (.sl eF gm true)]
def Jk:iT wK->Prop×mP zT:=λ(s,sep,())=>(s.length<=4294960000/\(sep=[32]\/sep=[10]),Sp.pieces (sep.getD 0 0) s,())
def zU:EJ:=iM wK zT Jk
def zV:List gG:=[.v (.one (.str))]
def EK:List nP:=[.one (.sl eF gm true)]
def UN:iT zV->Prop×mP EK:=λ(s,())=>(s.length<=1048576/\jM s=true,Sp.wordsOf s,())
def tV:EJ:=iM zV EK UN
def zW:List gG:=[.v (.one (.str))]
def EL:List nP:=[.one (.int .i64),.one (.bool)]
def UO:iT zW->Prop×mP EL:=λ(s,())=>(True,Sp.parseNum s,aQ s,())
def oM:EJ:=iM zW EL UO
def rq:PA:=⟨128,[.v (.one (.str))],[.one (.int .i64),.one (.bool)],λ((s,()):dG)=>(True,Sp.parseNum s,aQ s,())⟩
def lS:PA:=⟨48,[.v (.one (.int .i64))],[.one (.str)],λ((n,()):eY)=>(True,Lib.itoa n,())⟩
def wL:PA:=⟨104,[.v (.one (.int .i64))],[.one (.int .u8)],λ((x,()):eY)=>(0<=x/\x<10,48+x,())⟩
def jO:PA:=⟨37,[.v (.one (.int .i64))],[.one (.str)],λ((n,()):eY)=>(True,Lib.itoa n,())⟩
def jP:PA:=⟨61,[.v (.one (.str))],[.one (.sl eF gm true),.one (.bool)],λ((s,()):dG)=>(s.length<=1048576,ai s,bZ s,())⟩
def iW:PA:=⟨66,[.v (.one (.str))],[.one (.sl eF gm true),.one (.bool)],λ((s,()):dG)=>(s.length<=1048576,ai s,bZ s,())⟩
def lV:PA:=⟨88,[.v (.one (.sl eF gm false)),.v (.one (.int .i64))],[.one (.str)],λ((w,i,()):kM×eY)=>(0<=i,Sp.wordAt w i,())⟩
def sS:PA:=⟨69,[.v (.one (.sl eF gm false)),.v (.one (.int .i64))],[.one (.str)],λ((w,i,()):kM×eY)=>(0<=i,Sp.wordAt w i,())⟩
def sU:PA:=⟨63,[.v (.one (.sl eF gm false)),.v (.one (.int .i64))],[.one (.int .i64)],λ((w,i,()):kM×eY)=>(0<=i,Sp.numAt w i,())⟩
def tX:PA:=⟨68,[.v (.one (.sl eF gm false)),.v (.one (.int .i64))],[.one (.int .i64),.one (.bool)],λ((w,i,()):kM×eY)=>(0<=i,Sp.numAt w i,aQ (Sp.wordAt w i),())⟩
def qV:PA:=⟨65,[.v (.one (.sl eF gm false))],[.one (.str)],λ((w,()):zS)=>(w.length<=1000/\(dX w).length<=2097152,dX w,())⟩
def oW:PA:=⟨134,[.v (.one (.sl eF gm false)),.v (.one (.sl eF gm false))],[.one (.bool)],λ((a,b,()):kM×zS)=>(True,decide (a=b),())⟩
def qj:PA:=⟨71,[.v (.one (.str)),.v (.one (.sl eF gm false))],[.one (.bool)],λ((s,w,()):dA×zS)=>(s.length<=1048576/\jM s=true,(!(s==[])&&decide (Sp.wordsOf s=w)),())⟩
def uS:PA:=⟨100,[.v (.agg [.int .i64,.int .i64,.bool,.int .i64,.sl bG jm false]),.v (.agg [.int .i64,.int .i64,.bool,.int .i64,.sl bG jm false])],[.one (.bool)],λ((a,b,()):EI×EI×Unit)=>(True,decide (a=b),())⟩
def rY:PA:=⟨41,[.v (.one (.sl aI bY false)),.v (.one (.sl aI bY false))],[.one (.bool)],λ((a,b,()):jD×vz)=>(True,decide (a=b),())⟩
def lW:PA:=⟨112,[.v (.agg [.int .i64,.int .i64,.str])],[.one (.str)],λ(((k,n,s,()),()):MN)=>(True,bC (k,n,s,()),())⟩
def jQ:PA:=⟨103,[.v (.agg [.int .i64,.int .i64,.str])],[.one (.str)],λ(((k,n,s,()),()):MN)=>(True,bC (k,n,s,()),())⟩
def kN:PA:=⟨132,[.v (.one (.str))],[.agg [.int .i64,.int .i64,.str],.one (.bool)],λ((s,()):dG)=>(s.length<=1048576,(aW s).1,(aW s).2,())⟩
def nN:PA:=⟨127,[.v (.one (.str))],[.agg [.int .i64,.int .i64,.str],.one (.bool)],λ((s,()):dG)=>(s.length<=1048576,(aW s).1,(aW s).2,())⟩
def jR:PA:=⟨163,[.v (.one (.int .i64))],[.one (.str)],λ((op,()):eY)=>(True,dZ op,())⟩
def lT:PA:=⟨156,[.v (.one (.int .i64))],[.one (.str)],λ((op,()):eY)=>(True,dZ op,())⟩
def FQ:List gG:=[.v (.one (.sl aI bY false)),.v (.one (.int .i64))]
def EM:List nP:=[.one (.str)]
def UQ:iT FQ->Prop×mP EM:=λ(q,at',())=>(aH q=true/\0<=at'/\at'<q.length,Lib.join (bD (at'.toNat+1) q at') [32],())
def EN:EJ:=iM FQ EM UQ
def Ac:List gG:=[.v (.one (.sl aI bY false)),.v (.one (.int .i64))]
def zN:List nP:=[.one (.str)]
def BH[oL]:iT Ac->Prop×mP zN:=λ(q,at',())=>((aH q=true/\0<=at'/\at'<q.length)/\at'.toNat<jd,Lib.join (bD (at'.toNat+1) q at') [32],())
def sO[oL]:EJ:=iM Ac zN BH
def sQ:List gG:=[.v (.one (.sl aI bY false)),.v (.one (.int .i64))]
def yL:List nP:=[.one (.str)]
def Ad[oL]:iT sQ->Prop×mP yL:=λ(q,at',())=>((aH q=true/\0<=at'/\at'<q.length)/\at'.toNat<jd+1,Lib.join (bD (at'.toNat+1) q at') [32],())
def yM[oL]:EJ:=iM sQ yL Ad
def Jl:List gG:=[.v (.one (.sl aI bY false)),.v (.one (.int .i64))]
def G8:List nP:=[.one (.str)]
def XZ:iT Jl->Prop×mP G8:=λ(q,at',())=>(aH q=true/\0<=at'/\at'<q.length,Lib.join (bD (at'.toNat+1) q at') [32],())
def G9:EJ:=iM Jl G8 XZ
def CG:List gG:=[.v (.one (.sl aI bY false)),.v (.one (.int .i64))]
def BI:List nP:=[.one (.str)]
def DR[oL]:iT CG->Prop×mP BI:=λ(q,at',())=>((aH q=true/\0<=at'/\at'<q.length)/\at'.toNat<jd,Lib.join (bD (at'.toNat+1) q at') [32],())
def vF[oL]:EJ:=iM CG BI DR
def vG:List gG:=[.v (.one (.sl aI bY false)),.v (.one (.int .i64))]
def Ae:List nP:=[.one (.str)]
def CJ[oL]:iT vG->Prop×mP Ae:=λ(q,at',())=>((aH q=true/\0<=at'/\at'<q.length)/\at'.toNat<jd+1,Lib.join (bD (at'.toNat+1) q at') [32],())
def Af[oL]:EJ:=iM vG Ae CJ
def oN:PA:=⟨49,[.v (.one (.sl aI bY false))],[.one (.str)],λ((q,()):vz)=>(q.length<=2000000,Sp.textOf q,())⟩
def lX:PA:=⟨43,[.v (.one (.sl aI bY false))],[.one (.str)],λ((q,()):vz)=>(q.length<=2000000,Sp.textOf q,())⟩
def yC:List iH:=[.p (.v (.one (.sl eF gm false))),.p (.v (.one (.int .i64))),.own aI bY,.p (.v (.one (.int .i64)))]
def He:List ql:=[.one (.own aI bY false),.one (.c (.int .i64))]
def X0:jH yC->Prop×(qB He×oZ yC->Prop):=λ(p,at',q,deep,())=>(p.length<=1000/\0<=at'/\at'.toNat+3*2 ^ (10-deep).toNat<=1000000/\0<=deep/\deep<=10/\(∀x∈p,x.1.length<=1000)/\q.length<=100,λ((r,k,()),())=>r=(Sp.rs (10-deep).toNat (p.drop at'.toNat) q).1/\k=(Sp.rs (10-deep).toNat (p.drop at'.toNat) q).2)
def Hf:JL:=zX yC He X0
def mY:List iH:=[.p (.v (.one (.sl eF gm false))),.p (.v (.one (.int .i64))),.own aI bY,.p (.v (.one (.int .i64)))]
def BJ:List ql:=[.one (.own aI bY false),.one (.c (.int .i64))]
def DT[oL]:jH mY->Prop×(qB BJ×oZ mY->Prop):=λ(p,at',q,deep,())=>((p.length<=1000/\0<=at'/\at'.toNat+3*2 ^ (10-deep).toNat<=1000000/\0<=deep/\deep<=10/\(∀x∈p,x.1.length<=1000)/\q.length<=100)/\(10-deep).toNat<jd,λ((r,k,()),())=>r=(Sp.rs (10-deep).toNat (p.drop at'.toNat) q).1/\k=(Sp.rs (10-deep).toNat (p.drop at'.toNat) q).2)
def vH[oL]:JL:=zX mY BJ DT
def o9:List iH:=[.p (.v (.one (.sl eF gm false))),.p (.v (.one (.int .i64))),.own aI bY,.p (.v (.one (.int .i64)))]
def Ag:List ql:=[.one (.own aI bY false),.one (.c (.int .i64))]
def qC[oL]:jH o9->Prop×(qB Ag×oZ o9->Prop):=λ(p,at',q,deep,())=>((p.length<=1000/\0<=at'/\at'.toNat+3*2 ^ (10-deep).toNat<=1000000/\0<=deep/\deep<=10/\(∀x∈p,x.1.length<=1000)/\q.length<=100)/\(10-deep).toNat<jd+1,λ((r,k,()),())=>r=(Sp.rs (10-deep).toNat (p.drop at'.toNat) q).1/\k=(Sp.rs (10-deep).toNat (p.drop at'.toNat) q).2)
def Ah[oL]:JL:=zX o9 Ag qC
def yN:List gG:=[.v (.one (.str))]
def DU:List nP:=[.one (.sl aI bY true),.one (.bool)]
def Td:iT yN->Prop×mP DU:=λ(s,())=>(s.length<=1048576,eH s,fH s,())
def yt:EJ:=iM yN DU Td
def qm:PA:=⟨64,[.v (.one (.str))],[.one (.sl aI bY false),.one (.bool)],λ((s,()):dG)=>(s.length<=1048576,eH s,fH s,())⟩
def pz:PA:=⟨53,[.v (.one (.sl aI bY false))],[.one (.sl aI bY true)],λ((q,()):vz)=>(q.length<=2000000,eH (Sp.textOf q),())⟩
def pF:PA:=⟨42,[.v (.one (.sl aI bY false))],[.one (.sl aI bY false)],λ((q,()):vz)=>(q.length<=2000000,eH (Sp.textOf q),())⟩
def uT:PA:=⟨47,[.v (.agg [.int .i64,.int .i64,.bool,.int .i64,.sl bG jm false])],[.one (.str)],λ((f,()):EI×Unit)=>(f.2.2.2.2.1.length<=1048576/\(dJ f.2.2.2.2.1).length<=1073741824,fJ f,())⟩
def zi:PA:=⟨36,[.v (.agg [.int .i64,.int .i64,.bool,.int .i64,.sl bG jm false])],[.one (.str)],λ((f,()):EI×Unit)=>(f.2.2.2.2.1.length<=1048576/\(dJ f.2.2.2.2.1).length<=1073741824,Lib.join (dm f) [32],())⟩
def wM:PA:=⟨35,[.v (.agg [.int .i64,.int .i64,.bool,.int .i64,.sl bG jm false])],[.one (.bool)],λ((f,()):EI×Unit)=>(f.2.2.2.2.1.length<=1048576,fC f,())⟩
def zk:PA:=⟨34,[.v (.agg [.int .i64,.int .i64,.bool,.int .i64,.sl bG jm false])],[.one (.bool)],λ((f,()):EI×Unit)=>(True,decide (f=gQ),())⟩
def rZ:PA:=⟨10,[.v (.agg [.int .i64,.int .i64,.int .i64,.bool,.int .i64,.sl bG jm false,.int .i64,.str,.sl aI bY false])],[.one (.str)],λ((x,()):KE×Unit)=>(BK x,bn x,())⟩
def su:PA:=⟨8,[.v (.agg [.int .i64,.int .i64,.int .i64,.bool,.int .i64,.sl bG jm false,.int .i64,.str,.sl aI bY false])],[.one (.str)],λ((x,()):KE×Unit)=>(BK x,bn x,())⟩
def vI:PA:=⟨188,[.v (.agg [.int .i64,.int .i64,.str]),.v (.agg [.int .i64,.int .i64,.str])],[.one (.bool)],λ((a,b,()):(Int×Int×dG)×MN)=>(True,vJ a b,())⟩
def AP:PA:=⟨167,[.v (.agg [.str,.int .i64,.int .i64,.str]),.v (.agg [.str,.int .i64,.int .i64,.str])],[.one (.bool)],λ((a,b,()):Ty0×Ty0×Unit)=>(True,KG a b,())⟩
def AQ:PA:=⟨168,[.v (.agg [.int .i64,.int .i64,.int .i64,.str,.int .i64,.int .i64,.str]),.v (.agg [.int .i64,.int .i64,.int .i64,.str,.int .i64,.int .i64,.str])],[.one (.bool)],λ((a,b,()):D8×D8×Unit)=>(True,KH a b,())⟩
def zl:PA:=⟨125,[.v (.one (.sl bG jm false)),.v (.one (.sl bG jm false))],[.one (.bool)],λ((a,b,()):jJ×jJ×Unit)=>(True,BL a b,())⟩
def zn:PA:=⟨126,[.v (.one (.sl aI bY false)),.v (.one (.sl aI bY false))],[.one (.bool)],λ((a,b,()):jD×vz)=>(True,BM a b,())⟩
def AU:PA:=⟨59,[.v (.agg [.int .i64,.int .i64,.bool,.int .i64,.sl bG jm false]),.v (.agg [.int .i64,.int .i64,.bool,.int .i64,.sl bG jm false])],[.one (.bool)],λ((a,b,()):EI×EI×Unit)=>(True,Hg a b,())⟩
def CO:PA:=⟨60,[.v (.agg [.str,.sl aI bY false]),.v (.agg [.str,.sl aI bY false])],[.one (.bool)],λ((a,b,()):(dA×vz)×(dA×vz)×Unit)=>(True,MO a b,())⟩
def yD:PA:=⟨11,[.v (.agg [.int .i64,.int .i64,.int .i64,.bool,.int .i64,.sl bG jm false,.int .i64,.str,.sl aI bY false]),.v (.agg [.int .i64,.int .i64,.int .i64,.bool,.int .i64,.sl bG jm false,.int .i64,.str,.sl aI bY false])],[.one (.bool)],λ((a,b,()):KE×KE×Unit)=>(True,Ea a b,())⟩
def lg:PA:=⟨121,[.v (.one (.int .i64))],[.one (.bool)],λ((n,()):eY)=>(True,!aN n,())⟩
def fV:PA:=⟨164,[.v (.one (.sl VL R_3 false)),.fn 121 []],[.one (.int .i64)],λ((l,_,()):List eY×jK)=>(True,Sp.idxOf l,())⟩
def fE:PA:=⟨120,[.v (.one (.sl VL R_3 false)),.fn 121 []],[.one (.bool)],λ((l,_,()):List eY×jK)=>(True,!iO l,())⟩
def qo:PA:=⟨55,[.v (.one (.sl VL R_3 false))],[.one (.bool)],λ((l,()):List eY×Unit)=>(True,iO l,())⟩
def yE:PA:=⟨173,[.v (.one (.int .i64))],[.agg [.int .i64,.int .i64,.str]],λ((n,()):eY)=>(True,(1,n,[],()),())⟩
def qE:PA:=⟨91,[.v (.agg [.int .i64,.int .i64,.sl dU vK false,.str,.int .i64])],[.one (.bool)],λ(((k,_,c,_,_,()),()):zM×Unit)=>(True,jS k c.length,())⟩
def qF:PA:=⟨87,[.v (.agg [.int .i64,.int .i64,.sl dU vK false,.str,.int .i64])],[.one (.bool)],λ(((k,_,c,_,_,()),()):zM×Unit)=>(True,jS k c.length,())⟩
def sD:PA:=⟨25,[.v (.agg [.int .i64,.int .i64,.sl dU vK false,.str,.int .i64])],[.one (.str)],λ(((k,u,c,n,a,()),()):zM×Unit)=>(n.length<=1048576,fF k u c.length n a,())⟩
def sF:PA:=⟨20,[.v (.agg [.int .i64,.int .i64,.sl dU vK false,.str,.int .i64])],[.one (.str)],λ(((k,u,c,n,a,()),()):zM×Unit)=>(n.length<=1048576,fF k u c.length n a,())⟩
def tY:PA:=⟨23,[.v (.one (.str))],[.agg [.int .i64,.int .i64,.sl dU vK true,.str,.int .i64],.one (.bool)],λ((s,()):dG)=>(s.length<=1048576,bM s,cu s,())⟩
def lY:PA:=⟨21,[.v (.one (.str))],[.agg [.int .i64,.int .i64,.sl dU vK true,.str,.int .i64],.one (.bool)],λ((s,()):dG)=>(s.length<=1048576,bM s,cu s,())⟩
def zo:PA:=⟨62,[.v (.one (.sl eF gm false)),.v (.one (.int .i64))],[.agg [.int .i64,.int .i64,.bool,.int .i64,.sl bG jm true]],λ((p,id,()):kM×eY)=>(p.length<=1000/\(∀x∈p,x.1.length<=1048576),jE id p,())⟩
def jT:PA:=⟨12,[.v (.one (.str))],[.agg [.int .i64,.int .i64,.int .i64,.bool,.int .i64,.sl bG jm false,.int .i64,.str,.sl aI bY false],.one (.bool)],λ((s,()):dG)=>(s.length<=1048576,bK s,dB s,())⟩
def tZ:XA:=⟨67,[.p (.v (.one (.sl eF gm false)))],[.agg [.c (.int .i64),.c (.int .i64),.c .bool,.c (.int .i64),.own bG jm true],.one (.c .bool)],λ((w,()):zS)=>(w.length<=1000/\(∀x∈w,x.1.length<=1048576),λ(z:(EI×gB)×Unit)=>(z.1.1.1,z.1.1.2.1,z.1.1.2.2.1,z.1.1.2.2.2.1,z.1.1.2.2.2.2.1,())=(lI w).1/\z.1.2.1=(lI w).2)⟩
def nY:List iH:=[.p (.v (.one (.str)))]
def yO:List ql:=[.one (.own aI bY true),.one (.c .bool)]
def JM:jH nY->Prop×(qB yO×oZ nY->Prop):=λ(s,())=>(s.length<=1048576,λ((q,ok,()),())=>q=eH s/\ok=fH s)
def ru:JL:=zX nY yO JM
def jc:XA:=⟨13,[.p (.v (.one (.str)))],[.agg [.c (.int .i64),.c (.int .i64),.c (.int .i64),.c .bool,.c (.int .i64),.own bG jm true,.c (.int .i64),.c .str,.own aI bY true],.one (.c .bool)],λ((s,()):dG)=>(s.length<=1048576,λ(z:(KE×gB)×Unit)=>(z.1.1.1,z.1.1.2.1,z.1.1.2.2.1,z.1.1.2.2.2.1,z.1.1.2.2.2.2.1,z.1.1.2.2.2.2.2.1,z.1.1.2.2.2.2.2.2.1,z.1.1.2.2.2.2.2.2.2.1,z.1.1.2.2.2.2.2.2.2.2.1,())=bK s/\z.1.2.1=dB s)⟩
def iU:PA:=⟨96,[.v (.one (.int .i64))],[.one (.str)],λ((k,()):eY)=>(0<=k/\k<=1000000000,Sp.markT k,())⟩
def wO:PA:=⟨138,[.v (.one (.sl aI bY false)),.v (.one (.int .i64))],[.one (.int .i64)],λ((a,k,()):jD×eY)=>(0<=k/\k<=10000000/\a.length<=1000000,mZ a k,())⟩
def JO[oL]:jG:=F5 [(lZ,.pure jL),(pG,.pure sO),lW.e,jR.e]
def MP[oL]:jG:=F5 [(sG,.pure vF),jQ.e,lT.e]
def MQ[oL]:jG:=F5 [(sH,.eff (KI mY) vH),iq.e,nN.e,lT.e,lV.e]
end
end Go.Proofs.Tryz
