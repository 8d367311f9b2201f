import Derived.Test.YthkihdfanbmegaaGreatDoorN
import Derived.Test.YthkihdfanbmegaaGreatDoorSp
namespace Go.Proofs.Tryz
open Go Go.Fw Sp
abbrev bJ:=List UInt8
abbrev jR:=bJ×Unit
abbrev Ty0:=bJ×Int×Int×jR
abbrev iZ:=List Ty0
abbrev zW:=Int×Int×Bool×Int×iZ×Unit
abbrev Jg:=Int×Int×Int×Ty0
abbrev kK:=List Jg
abbrev yT:=kK×Unit
abbrev kX:=List (bJ×yT)
abbrev gB:=Int×Unit
abbrev dU:=List gB
abbrev nM:=dU×Unit
abbrev lX:=List (bJ×nM)
abbrev gU:=List (bJ×gB)
abbrev dA:=Bool×Unit
abbrev iP:=List zW
abbrev uo:=lX×Unit
abbrev BQ:=gU×iP×Int×kX×uo
abbrev nU:=gU×iP×gB
abbrev Py:=List jR×Unit
abbrev uq:=Py×Unit
abbrev eX:=gB×Unit
abbrev BR:=(Int×Int×jR)×Unit
abbrev yU:=(nU×Unit)×Unit
abbrev uw:=Int×gB
abbrev Jh:=gB×(dU×uw)×Unit
abbrev Pz:=List (bJ×dU×nM)
abbrev Ji:=(zW×Unit)×Unit
abbrev qm:=nM×Unit
abbrev Jj:=(lX×dA)×Unit
abbrev LC:=(gU×Unit)×Unit
abbrev U2:=(lX×Int×dA)×Unit
abbrev PD:=(iZ×Unit)×Unit
abbrev PE:=(dU×dA)×Unit
abbrev yx:=kX×Unit
abbrev yV:=Unit×gB
abbrev ael:=(BQ×Pz×dU×dA)×Unit
abbrev DV:=Unit×Unit
abbrev YO:=(jR×Unit)×Unit
abbrev abp:=(BQ×Unit)×Unit
class yA where n:Nat
abbrev yB[yA]:Nat:=yA.n
noncomputable section
def AZ:QA:=⟨29,[.p (.v (.one (.sl uX JU false)))],[.sl uX JU false,.int .i64,.int .i64],λ((code,()):nM)=>(code.length<=1048576,λ(z:dU×uw)=>z.2.1=0)⟩
def zA:XA:=⟨79,[.ptr [.sl uX JU false,.int .i64,.int .i64]],[.one (.c (.int .i64))],λ(((_,i,_,()),()):(dU×uw)×Unit)=>(0<=i,λ(z:Jh)=>0<=z.2.1.2.1/\0<=z.1.1/\z.1.1<=255)⟩
def yG:XA:=⟨30,[.ptr [.sl uX JU false,.int .i64,.int .i64],.p (.v (.one (.int .i64)))],[.one (.c (.int .i64))],λ(((_,i,_,()),n,()):(dU×uw)×gB)=>(0<=i,λ(z:Jh)=>0<=z.2.1.2.1/\0<=z.1.1/\(0<n->z.1.1<n)/\(n<=0->z.1.1=0))⟩
def yH:XA:=⟨82,[],[.one (.own aA bH true)],λ(())=>(True,λ(z:LC)=>z.1.1=Sp.usual)⟩
def rP:PA:=⟨7,[.v (.one (.int .i64))],[.agg [.int .i64,.int .i64,.str]],λ((n,()):gB)=>(True,(1,n,[],()),())⟩
def afI:PA:=⟨47,[.v (.one (.str))],[.agg [.int .i64,.int .i64,.str]],λ((w,()):jR)=>(True,(2,0,w,()),())⟩
def jq:PA:=⟨56,[.v (.one (.int .i64)),.v (.one (.int .i64)),.v (.one (.int .i64))],[.one (.bool)],λ((x,a,b,()):Int×uw)=>(True,(decide (a<=x)&&decide (x<=b)),())⟩
def jD:PA:=⟨99,[.v (.one (.int .i64)),.v (.one (.int .i64)),.v (.one (.int .i64))],[.one (.bool)],λ((x,a,b,()):Int×uw)=>(True,(decide (a<=x)&&decide (x<=b)),())⟩
def uY:PA:=⟨156,[.v (.one (.str)),.v (.one (.int .i64))],[.one (.bool)],λ((s,m,()):bJ×gB)=>(True,(Sp.lower s&&decide (1<=(s.length:Int))&&decide ((s.length:Int)<=m)),())⟩
def jG:PA:=⟨119,[.v (.one (.str))],[.one (.bool)],λ((s,()):jR)=>(True,dX s,())⟩
def jH:PA:=⟨116,[.v (.one (.str))],[.one (.bool)],λ((s,()):jR)=>(True,dX s,())⟩
def mZ:PA:=⟨69,[.v (.agg [.int .i64,.int .i64,.str])],[.one (.bool)],λ(((k,n,s,()),()):BR)=>(True,bQ k n s,())⟩
def kE:PA:=⟨64,[.v (.agg [.int .i64,.int .i64,.str])],[.one (.bool)],λ(((k,n,s,()),()):BR)=>(True,bQ k n s,())⟩
def kL:PA:=⟨124,[.v (.one (.str))],[.one (.bool)],λ((s,()):jR)=>(True,iq s,())⟩
def kM:PA:=⟨142,[.v (.one (.str))],[.one (.bool)],λ((s,()):jR)=>(True,iq s,())⟩
def wM:PA:=⟨55,[.v (.one (.sl aA bH false)),.v (.one (.str))],[.one (.int .i64)],λ((fs,s,()):gU×jR)=>(True,Sp.kindOf fs s,())⟩
def wO:PA:=⟨26,[.v (.one (.sl aA bH false)),.v (.one (.str))],[.one (.int .i64)],λ((fs,s,()):gU×jR)=>(True,Sp.kindOf fs s,())⟩
def lY:PA:=⟨77,[.v (.one (.sl aA bH false))],[.one (.bool)],λ((fs,()):gU×Unit)=>(True,bK fs,())⟩
def lZ:PA:=⟨98,[.v (.one (.sl aA bH false))],[.one (.bool)],λ((fs,()):gU×Unit)=>(True,bK fs,())⟩
def pz:PA:=⟨123,[.v (.one (.sl aA bH false)),.v (.one (.str)),.v (.agg [.int .i64,.int .i64,.str])],[.one (.bool)],λ((fs,s,(k,n,w,()),()):gU×bJ×BR)=>(True,dY fs s k n w,())⟩
def pF:PA:=⟨140,[.v (.one (.sl aA bH false)),.v (.one (.str)),.v (.agg [.int .i64,.int .i64,.str])],[.one (.bool)],λ((fs,s,(k,n,w,()),()):gU×bJ×BR)=>(True,dY fs s k n w,())⟩
def nV:PA:=⟨76,[.v (.one (.sl aA bH false)),.v (.agg [.int .i64,.int .i64,.bool,.int .i64,.sl aV dD false])],[.one (.bool)],λ((fs,f,()):gU×zW×Unit)=>(True,bU fs f,())⟩
def rQ:PA:=⟨97,[.v (.one (.sl aA bH false)),.v (.agg [.int .i64,.int .i64,.bool,.int .i64,.sl aV dD false])],[.one (.bool)],λ((fs,f,()):gU×zW×Unit)=>(True,bU fs f,())⟩
def ng:PA:=⟨27,[.v (.agg [.sl aA bH false,.sl aQ dB false,.int .i64])],[.one (.bool)],λ((s,()):nU×Unit)=>(True,aB s,())⟩
def ni:PA:=⟨51,[.v (.agg [.sl aA bH false,.sl aQ dB false,.int .i64])],[.one (.bool)],λ((s,()):nU×Unit)=>(True,aB s,())⟩
def uH:PA:=⟨72,[.v (.one (.sl aA bH false)),.v (.one (.sl aA bH false))],[.one (.bool)],λ((a,b,()):gU×gU×Unit)=>(True,decide (a=b),())⟩
def wP:PA:=⟨158,[.v (.one (.sl aV dD false)),.v (.one (.sl aV dD false))],[.one (.bool)],λ((a,b,()):iZ×iZ×Unit)=>(True,decide (a=b),())⟩
def yI:PA:=⟨121,[.v (.agg [.int .i64,.int .i64,.bool,.int .i64,.sl aV dD false]),.v (.agg [.int .i64,.int .i64,.bool,.int .i64,.sl aV dD false])],[.one (.bool)],λ((a,b,()):zW×zW×Unit)=>(True,decide (a=b),())⟩
def wQ:PA:=⟨73,[.v (.one (.sl aQ dB false)),.v (.one (.sl aQ dB false))],[.one (.bool)],λ((a,b,()):iP×iP×Unit)=>(True,decide (a=b),())⟩
def wR:PA:=⟨21,[.v (.agg [.sl aA bH false,.sl aQ dB false,.int .i64]),.v (.agg [.sl aA bH false,.sl aQ dB false,.int .i64])],[.one (.bool)],λ((a,b,()):nU×nU×Unit)=>(True,decide (a=b),())⟩
def uZ:PA:=⟨81,[.v (.agg [.int .i64,.int .i64,.bool,.int .i64,.sl aV dD false])],[.agg [.int .i64,.int .i64,.bool,.int .i64,.sl aV dD true]],λ((f,()):zW×Unit)=>(qo f,f,())⟩
def yJ:PA:=⟨102,[.v (.agg [.int .i64,.int .i64,.bool,.int .i64,.sl aV dD false])],[.agg [.int .i64,.int .i64,.bool,.int .i64,.sl aV dD false]],λ((f,()):zW×Unit)=>(qo f,f,())⟩
def A7:PA:=⟨141,[.v (.one (.int .i64))],[.one (.bool)],λ((u,()):gB)=>(True,(decide (0<=u)&&decide (u<=2)),())⟩
def lS:PA:=⟨95,[.v (.one (.sl aA bH false))],[.one (.sl aA bH false)],λ((l,()):gU×Unit)=>(l.length<=1000,l,())⟩
def l7:PA:=⟨144,[.v (.one (.sl aV dD false))],[.one (.sl aV dD false)],λ((l,()):iZ×Unit)=>(l.length<=1000,l,())⟩
def zB:XA:=⟨37,[.p (.v (.agg [.int .i64,.int .i64,.bool,.int .i64,.sl aV dD false])),.p (.v (.one (.str))),.p (.v (.agg [.int .i64,.int .i64,.str]))],[.agg [.c (.int .i64),.c (.int .i64),.c .bool,.c (.int .i64),.own aV dD true]],λ(((i,o,s,l,a,()),name,(k,n,w,()),()):zW×bJ×BR)=>(a.length<=1000,λ(z:Ji)=>z.1.1.1=i/\z.1.1.2.1=o/\z.1.1.2.2.1=s/\z.1.1.2.2.2.1=l/\z.1.1.2.2.2.2.1=eH a name k n w)⟩
def yK:XA:=⟨35,[.p (.v (.one (.sl aA bH false)))],[.agg [.own aA bH true,.own aQ dB true,.c (.int .i64)]],λ((s,()):gU×Unit)=>(s.length<=1000,λ(z:yU)=>z.1.1.1=s/\z.1.1.2.1=[]/\z.1.1.2.2.1=1)⟩
def ve:XA:=⟨32,[.p (.v (.agg [.sl aA bH false,.sl aQ dB false,.int .i64]))],[.agg [.own aA bH true,.own aQ dB true,.c (.int .i64)]],λ((s,()):nU×Unit)=>(dH s,λ(z:yU)=>(z.1.1.1,z.1.1.2.1,z.1.1.2.2.1,())=s)⟩
def uI:XA:=⟨34,[.p (.v (.agg [.sl aA bH false,.sl aQ dB false,.int .i64])),.p (.v (.agg [.int .i64,.int .i64,.bool,.int .i64,.sl aV dD false]))],[.agg [.own aA bH true,.own aQ dB true,.c (.int .i64)],.one (.c (.int .i64)),.one (.c .bool)],λ((s,f,()):nU×zW×Unit)=>(dH s/\qo f,λ(z:(nU×Int×dA)×Unit)=>z.1.1.1=(dZ s f).1.1/\z.1.1.2.1=(dZ s f).1.2.1/\z.1.1.2.2.1=(dZ s f).1.2.2.1/\z.1.2.1=(dZ s f).2.1/\z.1.2.2.1=(dZ s f).2.2)⟩
def Fh:PA:=⟨5,[.v (.one (.sl uX JU false))],[.one (.bool)],λ((code,()):nM)=>(True,decide (1048576<(code.length:Int)),())⟩
def qp:XA:=⟨96,[.p (.v (.one (.sl aQ dB false)))],[.one (.own aQ dB false)],λ((l,()):iP×Unit)=>(l.length<=1000/\∀f∈l,qo f,λ(z:(iP×Unit)×Unit)=>z.1.1=l)⟩
def qw:XA:=⟨50,[.p (.v (.agg [.sl aA bH false,.sl aQ dB false,.int .i64]))],[.agg [.c (.sl aA bH false),.own aQ dB false,.c (.int .i64)]],λ((s,()):nU×Unit)=>(dH s,λ(z:yU)=>(z.1.1.1,z.1.1.2.1,z.1.1.2.2.1,())=s)⟩
def rU:PA:=⟨199,[.v (.agg [.int .i64,.int .i64,.int .i64,.str,.int .i64,.int .i64,.str]),.v (.one (.int .i64))],[.one (.bool)],λ(((o,l,r,nm,vk,vi,vs,()),at',()):Jg×gB)=>(True,iT (o,l,r,nm,vk,vi,vs,()) at',())⟩
def rV:PA:=⟨204,[.v (.agg [.int .i64,.int .i64,.int .i64,.str,.int .i64,.int .i64,.str]),.v (.one (.int .i64))],[.one (.bool)],λ(((o,l,r,nm,vk,vi,vs,()),at',()):Jg×gB)=>(True,iT (o,l,r,nm,vk,vi,vs,()) at',())⟩
def nN:PA:=⟨200,[.v (.one (.sl bC jr false)),.v (.one (.int .i64))],[.one (.int .i64)],λ((q,at',()):kK×gB)=>(q.length<=1000000,(jW q at':Int),())⟩
def nO:PA:=⟨205,[.v (.one (.sl bC jr false)),.v (.one (.int .i64))],[.one (.int .i64)],λ((q,at',()):kK×gB)=>(q.length<=1000000,(jW q at':Int),())⟩
def kG:PA:=⟨179,[.v (.one (.sl bC jr false))],[.one (.bool)],λ((q,()):yT)=>(q.length<=1000000,aU q,())⟩
def kH:PA:=⟨187,[.v (.one (.sl bC jr false))],[.one (.bool)],λ((q,()):yT)=>(q.length<=1000000,aU q,())⟩
def rW:PA:=⟨159,[.v (.one (.sl bg iQ false))],[.one (.bool)],λ((d,()):yx)=>(bI d,eF d,())⟩
def rX:PA:=⟨164,[.v (.one (.sl bg iQ false))],[.one (.bool)],λ((d,()):yx)=>(bI d,eF d,())⟩
def yL:PA:=⟨209,[.v (.agg [.int .i64,.int .i64,.int .i64,.str,.int .i64,.int .i64,.str])],[.one (.bool)],λ(((o,_,_,_,_,_,_,()),()):Jg×Unit)=>(True,(o==8||o==9),())⟩
def qN:PA:=⟨220,[.v (.one (.sl bC jr false))],[.one (.sl WJ ZP true)],λ((q,()):yT)=>(q.length<=1000,Sp.negated q,())⟩
def qO:PA:=⟨208,[.v (.one (.sl bC jr false))],[.one (.sl WJ ZP true)],λ((q,()):yT)=>(q.length<=1000,Sp.negated q,())⟩
def nX:List fO:=[.p (.v (.one (.sl iD nY false)))]
def yC:List qx:=[.one (.c (.sl iD nY true))]
def EY:kR nX->Prop×(uJ yC×rY nX->Prop):=λ(l,())=>(l.length<=1000,λ((r,()),())=>r.length<=l.length/\∀s,s∈r↔s∈l)
def yD:LD:=PG nX yC EY
def qy:XA:=⟨189,[.p (.v (.one (.sl bC jr false))),.p (.v (.one (.bool)))],[.one (.c (.sl iD nY true))],λ((q,neg,()):kK×dA)=>(q.length<=1000,λ(z:uq)=>gV z.1.1 (dF q neg))⟩
def qP:XA:=⟨166,[.p (.v (.one (.sl bC jr false)))],[.one (.c (.sl iD nY true))],λ((q,()):yT)=>(q.length<=1000,λ(z:uq)=>gV z.1.1 (dF q false))⟩
def qQ:XA:=⟨167,[.p (.v (.one (.sl bC jr false)))],[.one (.c (.sl iD nY true))],λ((q,()):yT)=>(q.length<=1000,λ(z:uq)=>gV z.1.1 (dF q true))⟩
def A8:PA:=⟨221,[.v (.one (.sl iD nY false)),.v (.one (.str))],[.one (.sl iD nY false)],λ((l,s,()):List jR×jR)=>(l.length<=1000,Bg l s,())⟩
def rZ:XA:=⟨201,[.p (.v (.one (.sl bC jr false))),.p (.v (.one (.bool)))],[.one (.c (.sl iD nY true))],λ((q,neg,()):kK×dA)=>(q.length<=1000,λ(z:uq)=>gV z.1.1 (dF q neg))⟩
def qR:XA:=⟨180,[.p (.v (.one (.sl bC jr false)))],[.one (.c (.sl iD nY true))],λ((q,()):yT)=>(q.length<=1000,λ(z:uq)=>gV z.1.1 (dF q false))⟩
def qU:XA:=⟨182,[.p (.v (.one (.sl bC jr false)))],[.one (.c (.sl iD nY true))],λ((q,()):yT)=>(q.length<=1000,λ(z:uq)=>gV z.1.1 (dF q true))⟩
def vw:PA:=⟨207,[.v (.agg [.str,.sl bC jr false]),.kp [.str]],[.one (.bool)],λ(((nm,_,()),name,()):(bJ×yT)×jR×Unit)=>(True,(nm==name.1),())⟩
def fP:PA:=⟨206,[.v (.one (.sl bg iQ false)),.fn 207 [[.str]]],[.one (.int .i64)],λ((d,((name,()),()),()):kX×YO)=>(True,aF d name,())⟩
def BU:PA:=⟨188,[.v (.one (.sl bg iQ false)),.v (.one (.str))],[.one (.int .i64)],λ((d,name,()):kX×jR)=>(True,aF d name,())⟩
def yM:PA:=⟨181,[.v (.one (.sl bg iQ false)),.v (.one (.str))],[.one (.int .i64)],λ((d,name,()):kX×jR)=>(True,aF d name,())⟩
def su:PA:=⟨165,[.v (.one (.sl bg iQ false)),.v (.one (.sl dP iU false)),.v (.one (.sl iD nY false)),.v (.one (.int .i64))],[.one (.int .i64)],λ((d,ak,names,more,()):kX×dU×List jR×gB)=>(d.length<=ak.length/\names.length<=1000/\0<=more/\more<=1/\∀x∈ak,0<=x.1/\x.1<=1000000,sD d ak more names,())⟩
def xJ:XA:=⟨134,[.p (.v (.one (.sl bg iQ false)))],[.one (.c (.sl dP iU true)),.one (.c .bool)],λ((d,()):yx)=>(bI d,λ(z:PE)=>z.1.2.1=ax d/\(z.1.2.1=true->jI d z.1.1))⟩
def oI:XA:=⟨160,[.p (.v (.one (.sl bg iQ false))),.p (.v (.one (.sl dP iU false)))],[.one (.own dP iU true)],λ((d,ak,()):kX×nM)=>(bI d/\d.length<=5/\ak.length=d.length/\∀x∈ak,0<=x.1/\x.1<=1000000,λ(z:qm)=>Sp.raised d ak z.1.1)⟩
def vz:PA:=⟨131,[.v (.one (.sl dP iU false)),.v (.one (.sl dP iU false))],[.one (.bool)],λ((a,b,()):dU×nM)=>(True,decide (a=b),())⟩
def xK:XA:=⟨128,[.p (.v (.one (.sl bg iQ false)))],[.one (.c (.sl dP iU true)),.one (.c .bool)],λ((d,()):yx)=>(bI d,λ(z:PE)=>z.1.2.1=ax d/\(z.1.2.1=true->jI d z.1.1)/\(z.1.2.1=false->z.1.1=[]))⟩
def l9:PA:=⟨162,[.v (.one (.sl bC jr false))],[.one (.sl bC jr false)],λ((l,()):yT)=>(l.length<=1000,l,())⟩
def zC:PA:=⟨132,[.v (.agg [.str,.sl bC jr false])],[.agg [.str,.sl bC jr false]],λ(((n,q,()),()):(bJ×yT)×Unit)=>(q.length<=1000,(n,q,()),())⟩
def sF:PA:=⟨83,[.v (.one (.sl bg iQ false))],[.one (.sl bg iQ false)],λ((d,()):yx)=>(bI d,d,())⟩
def zD:PA:=⟨33,[.v (.one (.sl bg iQ false))],[.one (.sl bg iQ true)],λ((d,()):yx)=>(bI d,d,())⟩
def wS:PA:=⟨138,[.v (.one (.sl bC jr false)),.v (.one (.sl bC jr false))],[.one (.bool)],λ((a,b,()):kK×yT)=>(True,decide (a=b),())⟩
def zF:PA:=⟨89,[.v (.agg [.str,.sl bC jr false]),.v (.agg [.str,.sl bC jr false])],[.one (.bool)],λ((a,b,()):(bJ×yT)×(bJ×yT)×Unit)=>(True,decide (a=b),())⟩
def yN:PA:=⟨43,[.v (.one (.sl bg iQ false)),.v (.one (.sl bg iQ false))],[.one (.bool)],λ((a,b,()):kX×yx)=>(True,decide (a=b),())⟩
def nG:PA:=⟨53,[.v (.agg [.int .i64,.int .i64,.bool,.int .i64,.sl aV dD false]),.v (.one (.str))],[.agg [.int .i64,.int .i64,.str]],λ(((_,_,_,_,a,()),name,()):zW×jR)=>(True,aG a name,())⟩
def vC:PA:=⟨24,[.v (.agg [.int .i64,.int .i64,.bool,.int .i64,.sl aV dD false]),.v (.one (.str))],[.agg [.int .i64,.int .i64,.str]],λ(((_,_,_,_,a,()),name,()):zW×jR)=>(True,aG a name,())⟩
def vF:PA:=⟨211,[.v (.agg [.int .i64,.int .i64,.bool,.int .i64,.sl aV dD false]),.v (.one (.str))],[.one (.int .i64),.one (.bool)],λ(((_,_,_,_,a,()),name,()):zW×jR)=>(True,(bif (aG a name).1==1 then(aG a name).2.1 else 0),((aG a name).1==1),())⟩
def sG:PA:=⟨203,[.v (.one (.sl dP iU false)),.v (.one (.int .i64))],[.one (.int .i64)],λ((s,v,()):dU×gB)=>(True,Sp.findAt (λx=>x.1==v) s,())⟩
def lF:PA:=⟨186,[.v (.one (.sl dP iU false)),.v (.one (.int .i64))],[.one (.bool)],λ((s,v,()):dU×gB)=>(True,fF s v,())⟩
def oJ:PA:=⟨168,[.v (.one (.sl iD nY false)),.v (.one (.str))],[.one (.int .i64)],λ((s,v,()):List jR×jR)=>(True,Sp.findAt (λx=>x.1==v) s,())⟩
def mg:PA:=⟨135,[.v (.one (.sl iD nY false)),.v (.one (.str))],[.one (.bool)],λ((s,v,()):List jR×jR)=>(True,jv s v,())⟩
def o6:PA:=⟨212,[.v (.one (.sl dP iU false)),.v (.one (.int .i64))],[.one (.bool)],λ((s,v,()):dU×gB)=>(True,fF s v,())⟩
def o7:PA:=⟨175,[.v (.one (.sl dP iU false)),.v (.one (.int .i64))],[.one (.bool)],λ((s,v,()):dU×gB)=>(True,fF s v,())⟩
def nZ:PA:=⟨88,[.v (.one (.sl dP iU false))],[.one (.sl dP iU false)],λ((l,()):nM)=>(l.length<=1000,l,())⟩
def jw:PA:=⟨42,[.v (.one (.sl aN bT false)),.v (.one (.str))],[.one (.sl dP iU false)],λ((r,name,()):lX×jR)=>(aZ r,dn r name,())⟩
def qA:PA:=⟨151,[.v (.one (.sl aN bT false)),.v (.one (.str))],[.one (.sl dP iU true)],λ((r,name,()):lX×jR)=>(aZ r,dn r name,())⟩
def EZ:List gm:=[.v (.one (.sl bC jr false)),.v (.one (.int .i64)),.v (.agg [.int .i64,.int .i64,.bool,.int .i64,.sl aV dD false]),.v (.one (.sl aN bT false))]
def En:List ny:=[.one (.bool)]
def U3:jl EZ->Prop×oK En:=λ(q,at',(i,o,s,l,a,()),r,())=>(aU q=true/\0<=at'/\at'<q.length/\aZ r,Sp.val q (i,o,s,l,a,()) (aT r) at'.toNat,())
def Eo:Il:=vG EZ En U3
def Ag:List gm:=[.v (.one (.sl bC jr false)),.v (.one (.int .i64)),.v (.agg [.int .i64,.int .i64,.bool,.int .i64,.sl aV dD false]),.v (.one (.sl aN bT false))]
def zX:List ny:=[.one (.bool)]
def Bq[yA]:jl Ag->Prop×oK zX:=λ(q,at',(i,o,s,l,a,()),r,())=>((aU q=true/\0<=at'/\at'<q.length/\aZ r)/\at'.toNat<yB,Sp.val q (i,o,s,l,a,()) (aT r) at'.toNat,())
def ru[yA]:Il:=vG Ag zX Bq
def rC:List gm:=[.v (.one (.sl bC jr false)),.v (.one (.int .i64)),.v (.agg [.int .i64,.int .i64,.bool,.int .i64,.sl aV dD false]),.v (.one (.sl aN bT false))]
def yX:List ny:=[.one (.bool)]
def Ah[yA]:jl rC->Prop×oK yX:=λ(q,at',(i,o,s,l,a,()),r,())=>((aU q=true/\0<=at'/\at'<q.length/\aZ r)/\at'.toNat<yB+1,Sp.val q (i,o,s,l,a,()) (aT r) at'.toNat,())
def yY[yA]:Il:=vG rC yX Ah
def Io:List gm:=[.v (.one (.sl bC jr false)),.v (.one (.int .i64)),.v (.agg [.int .i64,.int .i64,.bool,.int .i64,.sl aV dD false]),.v (.one (.sl aN bT false))]
def Gj:List ny:=[.one (.bool)]
def YP:jl Io->Prop×oK Gj:=λ(q,at',(i,o,s,l,a,()),r,())=>(aU q=true/\0<=at'/\at'<q.length/\aZ r,Sp.val q (i,o,s,l,a,()) (aT r) at'.toNat,())
def Gl:Il:=vG Io Gj YP
def BV:List gm:=[.v (.one (.sl bC jr false)),.v (.one (.int .i64)),.v (.agg [.int .i64,.int .i64,.bool,.int .i64,.sl aV dD false]),.v (.one (.sl aN bT false))]
def Bz:List ny:=[.one (.bool)]
def Dz[yA]:jl BV->Prop×oK Bz:=λ(q,at',(i,o,s,l,a,()),r,())=>((aU q=true/\0<=at'/\at'<q.length/\aZ r)/\at'.toNat<yB,Sp.val q (i,o,s,l,a,()) (aT r) at'.toNat,())
def vH[yA]:Il:=vG BV Bz Dz
def vI:List gm:=[.v (.one (.sl bC jr false)),.v (.one (.int .i64)),.v (.agg [.int .i64,.int .i64,.bool,.int .i64,.sl aV dD false]),.v (.one (.sl aN bT false))]
def Ai:List ny:=[.one (.bool)]
def BZ[yA]:jl vI->Prop×oK Ai:=λ(q,at',(i,o,s,l,a,()),r,())=>((aU q=true/\0<=at'/\at'<q.length/\aZ r)/\at'.toNat<yB+1,Sp.val q (i,o,s,l,a,()) (aT r) at'.toNat,())
def Aj[yA]:Il:=vG vI Ai BZ
def zG:PA:=⟨170,[.v (.one (.sl bC jr false)),.v (.agg [.int .i64,.int .i64,.bool,.int .i64,.sl aV dD false]),.v (.one (.sl aN bT false))],[.one (.bool)],λ((q,f,r,()):kK×zW×uo)=>(q.length<=1000/\aZ r,gZ q f (aT r),())⟩
def zH:PA:=⟨161,[.v (.one (.sl bC jr false)),.v (.agg [.int .i64,.int .i64,.bool,.int .i64,.sl aV dD false]),.v (.one (.sl aN bT false))],[.one (.bool)],λ((q,f,r,()):kK×zW×uo)=>(q.length<=1000/\aZ r,gZ q f (aT r),())⟩
def sH:PA:=⟨137,[.v (.agg [.sl aA bH false,.sl aQ dB false,.int .i64]),.v (.one (.sl bC jr false)),.v (.one (.sl aN bT false))],[.one (.sl dP iU true)],λ((s,q,r,()):nU×kK×uo)=>(dH s/\q.length<=1000/\aZ r,Sp.sel s.2.1 q (aT r),())⟩
def sJ:PA:=⟨130,[.v (.agg [.sl aA bH false,.sl aQ dB false,.int .i64]),.v (.one (.sl bC jr false)),.v (.one (.sl aN bT false))],[.one (.sl dP iU true)],λ((s,q,r,()):nU×kK×uo)=>(dH s/\q.length<=1000/\aZ r,Sp.sel s.2.1 q (aT r),())⟩
def oh:PA:=⟨127,[.v (.one (.sl dP iU false)),.v (.one (.sl dP iU false))],[.one (.bool)],λ((a,b,()):dU×nM)=>(True,decide (a=b),())⟩
def lG:PA:=⟨126,[.v (.agg [.str,.sl dP iU false]),.v (.agg [.str,.sl dP iU false])],[.one (.bool)],λ((a,b,()):(bJ×nM)×(bJ×nM)×Unit)=>(True,decide (a=b),())⟩
def cu:PA:=⟨125,[.v (.one (.sl aN bT false)),.v (.one (.sl aN bT false)),.fn 126 []],[.one (.bool)],λ((a,b,_,()):lX×lX×DV)=>(True,decide (a=b),())⟩
def qV:PA:=⟨78,[.v (.one (.sl aN bT false)),.v (.one (.sl aN bT false))],[.one (.bool)],λ((a,b,()):lX×uo)=>(True,decide (a=b),())⟩
def wU:XA:=⟨169,[.p (.v (.one (.sl dP iU false)))],[.one (.c (.int .i64))],λ((l,()):nM)=>(0<l.length,λ(z:eX)=>(∀x∈l,x.1<=z.1.1)/\(z.1.1,())∈l)⟩
def uK:XA:=⟨136,[.p (.v (.one (.sl bg iQ false)))],[.one (.c (.int .i64))],λ((d,()):yx)=>(bI d,λ(z:eX)=>WL d z.1.1)⟩
def uM:XA:=⟨129,[.p (.v (.one (.sl bg iQ false)))],[.one (.c (.int .i64))],λ((d,()):yx)=>(bI d,λ(z:eX)=>WL d z.1.1)⟩
def sK:PA:=⟨40,[.v (.one (.sl bg iQ false))],[.one (.sl iD nY true)],λ((d,()):yx)=>(d.length<=1000,iJ d,())⟩
def qB:XA:=⟨87,[.p (.v (.agg [.sl aA bH false,.sl aQ dB false,.int .i64])),.p (.v (.one (.sl bg iQ false))),.p (.v (.one (.sl aN bT false))),.p (.v (.one (.sl iD nY false)))],[.one (.c (.sl aN bT false)),.one (.c (.int .i64)),.one (.c .bool)],λ((s,d,r,names,()):nU×kX×lX×Py)=>(dH s/\bI d/\aZ r,λ(z:U2)=>z.1.2.2.1=(ax d&&aB s)/\(z.1.2.2.1=true->fK s.2.1 d r (jv names) z.1.1))⟩
def sN:XA:=⟨41,[.p (.v (.agg [.sl aA bH false,.sl aQ dB false,.int .i64])),.p (.v (.one (.sl bg iQ false)))],[.one (.c (.sl aN bT false)),.one (.c .bool)],λ((s,d,()):nU×yx)=>(dH s/\bI d,λ(z:Jj)=>z.1.2.1=(ax d&&aB s)/\(z.1.2.1=true->fK s.2.1 d [] (λ_=>true) z.1.1))⟩
def uN:XA:=⟨85,[.p (.v (.agg [.sl aA bH false,.sl aQ dB false,.int .i64])),.p (.v (.one (.sl bg iQ false))),.p (.v (.one (.sl aN bT false))),.p (.v (.one (.sl iD nY false)))],[.one (.c (.sl aN bT false)),.one (.c .bool)],λ((s,d,r,names,()):nU×kX×lX×Py)=>(dH s/\bI d/\aZ r,λ(z:Jj)=>z.1.2.1=(ax d&&aB s)/\(z.1.2.1=true->fK s.2.1 d r (jv names) z.1.1))⟩
def Ba:XA:=⟨80,[.p (.v (.agg [.sl aA bH false,.sl aQ dB false,.int .i64])),.p (.v (.one (.sl bg iQ false)))],[.one (.own aN bT false),.one (.c (.int .i64)),.one (.c .bool)],λ((s,d,()):nU×yx)=>(dH s/\bI d,λ(z:U2)=>z.1.2.2.1=(ax d&&aB s)/\(z.1.2.2.1=true->fK s.2.1 d [] (λ_=>true) z.1.1))⟩
def yO:XA:=⟨31,[.p (.v (.agg [.sl aA bH false,.sl aQ dB false,.int .i64])),.p (.v (.one (.sl bg iQ false)))],[.one (.own aN bT false),.one (.c .bool)],λ((s,d,()):nU×yx)=>(dH s/\bI d,λ(z:Jj)=>z.1.2.1=(ax d&&aB s)/\(z.1.2.1=true->fK s.2.1 d [] (λ_=>true) z.1.1))⟩
def uO:XA:=⟨8,[.p (.v (.agg [.sl aA bH false,.sl aQ dB false,.int .i64])),.p (.v (.one (.sl bg iQ false)))],[.agg [.c (.sl aA bH false),.c (.sl aQ dB false),.c (.int .i64),.c (.sl bg iQ false),.own aN bT false],.one (.c .bool)],λ((s,d,()):nU×yx)=>(dH s/\bI d,λ(z:(BQ×dA)×Unit)=>z.1.2.1=(ax d&&aB s)/\(z.1.2.1=true->(z.1.1.1,z.1.1.2.1,z.1.1.2.2.1,())=s/\z.1.1.2.2.2.1=d/\fK s.2.1 d [] (λ_=>true) z.1.1.2.2.2.2.1)/\(z.1.2.1=false->(z.1.1.1,z.1.1.2.1,z.1.1.2.2.1,z.1.1.2.2.2.1,z.1.1.2.2.2.2.1,())=([],[],0,[],[],())))⟩
def wV:PA:=⟨28,[.v (.agg [.sl aA bH false,.sl aQ dB false,.int .i64,.sl bg iQ false,.sl aN bT false])],[.one (.bool)],λ((c,()):BQ×Unit)=>(qC c,jg c,())⟩
def mY:XA:=⟨88,[.p (.v (.one (.sl dP iU false)))],[.one (.own dP iU false)],λ((l,()):nM)=>(l.length<=1000,λ(z:qm)=>z.1.1=l)⟩
def nH:PA:=⟨185,[.v (.one (.int .i64)),.kp [.sl dP iU false]],[.one (.bool)],λ((x,b,()):Int×qm)=>(True,fF b.1 x,())⟩
def gK:PA:=⟨202,[.v (.one (.sl dP iU false)),.fn 185 [[.sl dP iU false]]],[.one (.int .i64)],λ((l,((b,()),()),()):dU×qm×Unit)=>(True,Sp.findAt (λx=>fF b x.1) l,())⟩
def gG:XA:=⟨184,[.own dP iU,.p (.fn 185 [[.sl dP iU false]])],[.one (.own dP iU false)],λ((s,((b,()),()),()):dU×qm×Unit)=>(s.length<=1000,λ(z:qm)=>z.1.1=s.filter λx=>!fF b x.1)⟩
def zI:XA:=⟨163,[.p (.v (.one (.sl dP iU false))),.p (.v (.one (.sl dP iU false)))],[.one (.own dP iU false)],λ((a,b,()):dU×nM)=>(a.length<=1000,λ(z:qm)=>z.1.1=Sp.without a b)⟩
def zJ:XA:=⟨133,[.p (.v (.one (.sl dP iU false))),.p (.v (.one (.sl dP iU false)))],[.one (.c (.sl dP iU false)),.one (.c (.sl dP iU false))],λ((a,b,()):dU×nM)=>(a.length<=1000/\b.length<=1000,λ(z:(dU×nM)×Unit)=>z.1.1=Sp.without b a/\z.1.2.1=Sp.without a b)⟩
def sO:XA:=⟨86,[.p (.v (.one (.sl aN bT false))),.p (.v (.one (.sl aN bT false)))],[.one (.c (.sl Ak LG false))],λ((a,b,()):lX×uo)=>(aZ a/\aZ b,λ(z:(Pz×Unit)×Unit)=>z.1.1=LH a b)⟩
def sQ:XA:=⟨84,[.p (.v (.one (.sl aN bT false)))],[.one (.c (.sl aN bT false))],λ((r,()):uo)=>(aZ r,λ(z:uo×Unit)=>z.1.1=r)⟩
def oq:XA:=⟨38,[.p (.v (.agg [.sl aA bH false,.sl aQ dB false,.int .i64,.sl bg iQ false,.sl aN bT false]))],[.agg [.c (.sl aA bH false),.c (.sl aQ dB false),.c (.int .i64),.c (.sl bg iQ false),.c (.sl aN bT false)]],λ((c,()):BQ×Unit)=>(qC c,λ(z:abp)=>(z.1.1.1,z.1.1.2.1,z.1.1.2.2.1,z.1.1.2.2.2.1,z.1.1.2.2.2.2.1,())=c)⟩
def wW:XA:=⟨39,[.p (.v (.agg [.sl aA bH false,.sl aQ dB false,.int .i64,.sl bg iQ false,.sl aN bT false])),.p (.v (.agg [.sl aA bH false,.sl aQ dB false,.int .i64])),.p (.v (.one (.sl bg iQ false))),.p (.v (.one (.sl iD nY false)))],[.agg [.c (.sl aA bH false),.c (.sl aQ dB false),.c (.int .i64),.c (.sl bg iQ false),.c (.sl aN bT false)],.one (.c (.sl Ak LG false)),.one (.c .bool)],λ((c,s,d,names,()):BQ×nU×kX×Py)=>(qC c/\dH s/\bI d,λ(z:(BQ×Pz×dA)×Unit)=>Sp.turned c s d (jv names) (z.1.1.1,z.1.1.2.1,z.1.1.2.2.1,z.1.1.2.2.2.1,z.1.1.2.2.2.2.1,()) z.1.2.1 z.1.2.2.1)⟩
def yP:PA:=⟨22,[.v (.one (.sl dP iU false)),.v (.one (.sl dP iU false))],[.one (.bool)],λ((a,b,()):dU×nM)=>(True,decide (a=b),())⟩
def uP:PA:=⟨90,[.v (.agg [.str,.sl dP iU false]),.v (.agg [.str,.sl dP iU false])],[.one (.bool)],λ((a,b,()):(bJ×nM)×(bJ×nM)×Unit)=>(True,decide (a=b),())⟩
def sS:PA:=⟨44,[.v (.one (.sl aN bT false)),.v (.one (.sl aN bT false))],[.one (.bool)],λ((a,b,()):lX×uo)=>(True,decide (a=b),())⟩
def sU:PA:=⟨12,[.v (.agg [.sl aA bH false,.sl aQ dB false,.int .i64,.sl bg iQ false,.sl aN bT false]),.v (.agg [.sl aA bH false,.sl aQ dB false,.int .i64,.sl bg iQ false,.sl aN bT false])],[.one (.bool)],λ((a,b,()):BQ×BQ×Unit)=>(True,decide (a=b),())⟩
def uQ:XA:=⟨6,[.p (.v (.one (.sl uX JU false)))],[.one (.c (.sl dP iU true))],λ((code,()):nM)=>(code.length<=1048576,λ(z:qm)=>z.1.1.length=12/\∀x∈z.1.1,0<=x.1/\x.1<10000)⟩
def sV:PA:=⟨65,[.v (.one (.str))],[.agg [.int .i64,.int .i64,.str]],λ((w,()):jR)=>(True,(2,0,w,()),())⟩
def jm:XA:=⟨144,[.p (.v (.one (.sl aV dD false)))],[.one (.own aV dD false)],λ((l,()):iZ×Unit)=>(l.length<=1000,λ(z:PD)=>z.1.1=l)⟩
def pG:XA:=⟨102,[.p (.v (.agg [.int .i64,.int .i64,.bool,.int .i64,.sl aV dD false]))],[.agg [.c (.int .i64),.c (.int .i64),.c .bool,.c (.int .i64),.own aV dD false]],λ(((i,o,s,l,a,()),()):zW×Unit)=>(a.length<=1000,λ(z:Ji)=>z.1.1.1=i/\z.1.1.2.1=o/\z.1.1.2.2.1=s/\z.1.1.2.2.2.1=l/\z.1.1.2.2.2.2.1=a)⟩
def nI:PA:=⟨104,[.v (.agg [.str,.int .i64,.int .i64,.str]),.kp [.str]],[.one (.bool)],λ(((nm,_,_,_,()),name,()):Ty0×jR×Unit)=>(True,(nm==name.1),())⟩
def fG:PA:=⟨105,[.v (.one (.sl aV dD false)),.fn 104 [[.str]]],[.one (.int .i64)],λ((l,((name,()),()),()):iZ×YO)=>(True,Sp.findAt (λx=>x.1==name) l,())⟩
def fA:XA:=⟨103,[.own aV dD,.p (.fn 104 [[.str]])],[.one (.own aV dD false)],λ((s,((name,()),()),()):iZ×YO)=>(s.length<=1000,λ(z:PD)=>z.1.1=s.filter λx=>!(x.1==name))⟩
def qE:PA:=⟨106,[.v (.agg [.str,.int .i64,.int .i64,.str]),.kp [.str]],[.one (.bool)],λ(((nm,_,_,_,()),name,()):Ty0×jR×Unit)=>(True,Op.bytesLess name.1 nm,())⟩
def fH:PA:=⟨105,[.v (.one (.sl aV dD false)),.fn 106 [[.str]]],[.one (.int .i64)],λ((l,((name,()),()),()):iZ×YO)=>(True,Sp.findAt (λx=>Op.bytesLess name x.1) l,())⟩
def kS:List fO:=[.own aV dD,.p (.v (.one (.int .i64))),.own aV dD]
def wF:List qx:=[.one (.own aV dD false)]
def Fj:kR kS->Prop×(uJ wF×rY kS->Prop):=λ(s,i,v,())=>(0<=i/\i<=s.length/\s.length<=1000/\v.length=1,λ((r,()),())=>r=s.take i.toNat++(v++s.drop i.toNat))
def wG:LD:=PG kS wF Fj
def zK:XA:=⟨54,[.p (.v (.agg [.int .i64,.int .i64,.bool,.int .i64,.sl aV dD false])),.p (.v (.one (.str))),.p (.v (.agg [.int .i64,.int .i64,.str]))],[.agg [.c (.int .i64),.c (.int .i64),.c .bool,.c (.int .i64),.c (.sl aV dD false)]],λ(((i,o,s,l,a,()),name,(k,n,w,()),()):zW×bJ×BR)=>(a.length<=900,λ(z:Ji)=>z.1.1.1=i/\z.1.1.2.1=o/\z.1.1.2.2.1=s/\z.1.1.2.2.2.1=l/\z.1.1.2.2.2.2.1=eH a name k n w)⟩
def yQ:PA:=⟨68,[.v (.one (.int .i64))],[.agg [.int .i64,.int .i64,.str]],λ((n,()):gB)=>(True,(1,n,[],()),())⟩
def pI:List gm:=[.v (.one (.int .i64))]
def xM:List ny:=[.one (.str)]
def Gm:jl pI->Prop×oK xM:=λ(n,())=>(True,fJ n,())
def oU:Il:=vG pI xM Gm
def ou:List gm:=[.v (.one (.str))]
def vJ:List ny:=[.one (.int .i64),.one (.bool)]
def EL:jl ou->Prop×oK vJ:=λ(s,())=>(s.length<=1000,(eG s).1,(eG s).2,())
def nJ:Il:=vG ou vJ EL
def qW:PA:=⟨19,[.v (.agg [.int .i64,.int .i64,.str]),.v (.one (.int .i64))],[.agg [.int .i64,.int .i64,.str],.one (.bool)],λ((v,to,()):(Int×Int×jR)×gB)=>(v.2.2.1.length<=1000,(dJ v to).1,(dJ v to).2,())⟩
def mJ:PA:=⟨101,[.v (.agg [.str,.int .i64]),.kp [.str]],[.one (.bool)],λ(((a,_,()),name,()):(bJ×gB)×jR×Unit)=>(True,(a==name.1),())⟩
def eU:PA:=⟨143,[.v (.one (.sl aA bH false)),.fn 101 [[.str]]],[.one (.int .i64)],λ((l,((name,()),()),()):gU×YO)=>(True,Sp.fieldPlace l name,())⟩
def dW:PA:=⟨100,[.v (.one (.sl aA bH false)),.fn 101 [[.str]]],[.one (.bool)],λ((l,((name,()),()),()):gU×YO)=>(True,!decide (Sp.fieldPlace l name<0),())⟩
def yR:PA:=⟨52,[.v (.one (.sl aA bH false)),.v (.one (.str))],[.one (.bool)],λ((l,name,()):gU×jR)=>(True,!decide (Sp.fieldPlace l name<0),())⟩
def jh:XA:=⟨95,[.p (.v (.one (.sl aA bH false)))],[.one (.own aA bH false)],λ((l,()):gU×Unit)=>(l.length<=1000,λ(z:LC)=>z.1.1=l)⟩
def oL:XA:=⟨50,[.p (.v (.agg [.sl aA bH false,.sl aQ dB false,.int .i64]))],[.agg [.own aA bH false,.own aQ dB false,.c (.int .i64)]],λ((s,()):nU×Unit)=>(dH s,λ(z:yU)=>(z.1.1.1,z.1.1.2.1,z.1.1.2.2.1,())=s)⟩
def nP:XA:=⟨14,[.p (.v (.agg [.sl aA bH false,.sl aQ dB false,.int .i64])),.p (.v (.one (.str))),.p (.v (.one (.int .i64)))],[.agg [.c (.sl aA bH false),.c (.sl aQ dB false),.c (.int .i64)],.one (.c (.sl dP iU false)),.one (.c .bool)],λ((s,name,kind,()):nU×bJ×gB)=>(dH s,λ(z:(nU×dU×dA)×Unit)=>(z.1.1.1,z.1.1.2.1,z.1.1.2.2.1,())=(bM s name kind).1/\z.1.2.1=(bM s name kind).2.1/\z.1.2.2.1=(bM s name kind).2.2)⟩
def jo:XA:=⟨10,[.p (.v (.agg [.sl aA bH false,.sl aQ dB false,.int .i64,.sl bg iQ false,.sl aN bT false])),.p (.v (.one (.str))),.p (.v (.one (.int .i64)))],[.agg [.c (.sl aA bH false),.c (.sl aQ dB false),.c (.int .i64),.c (.sl bg iQ false),.c (.sl aN bT false)],.one (.c (.sl Ak LG false)),.one (.c (.sl dP iU false)),.one (.c .bool)],λ((c,name,kind,()):BQ×bJ×gB)=>(qC c,λ(z:ael)=>Sp.became c (bM (dI c) name kind).1 (gQ c) (jg c&&(bM (dI c) name kind).2.2) (z.1.1.1,z.1.1.2.1,z.1.1.2.2.1,z.1.1.2.2.2.1,z.1.1.2.2.2.2.1,()) z.1.2.1 z.1.2.2.2.1/\z.1.2.2.1=bif z.1.2.2.2.1 then(bM (dI c) name kind).2.1 else[])⟩
def sW:XA:=⟨11,[.p (.v (.agg [.sl aA bH false,.sl aQ dB false,.int .i64])),.p (.v (.one (.sl bg iQ false))),.p (.v (.one (.str)))],[.one (.c (.sl dP iU false))],λ((s,d,name,()):nU×kX×jR)=>(dH s/\bI d/\aB s=true/\ax d=true,λ(z:qm)=>z.1.1=dn (Ep s.2.1 d) name)⟩
def pJ:XA:=⟨36,[],[.one (.own aA bH true)],λ(())=>(True,λ(z:LC)=>z.1.1=Sp.usual)⟩
def sZ:XA:=⟨9,[.p (.v (.one (.int .i64)))],[.agg [.c (.sl aA bH false),.c (.sl aQ dB false),.c (.int .i64)]],λ((n,()):gB)=>(True,λ(z:yU)=>(z.1.1.1,z.1.1.2.1,z.1.1.2.2.1,())=Sp.sample n)⟩
def wX:PA:=⟨3,[.v (.one (.sl uX JU false))],[.one (.bool)],λ(_,())=>(True,true,())⟩
def Jk[yA]:jy:=Ip [o6.e,jw.e,(oM,.pure ru),vF.e,nG.e]
def LJ[yA]:jy:=Ip [o7.e,qA.e,(qX,.pure vH),vC.e]
end
end Go.Proofs.Tryz
