import Derived.Test.YtncbcelpbmlgdaaGreatDoorN
import Derived.Test.YtncbcelpbmlgdaaGreatDoorSp
namespace Go.Proofs.Tryz
open Go Go.Fw Sp
abbrev dh:=List UInt8
abbrev dN:=dh×Unit
abbrev Ee:=dh×Int×Int×dN
abbrev EN:=Int×Int×Int×Ee
abbrev nT:=List EN
abbrev Aw:=nT×Unit
abbrev nU:=List (dh×Aw)
abbrev Gi:=Int×Int×Bool×Int×List Ee×Unit
abbrev gm:=Int×Unit
abbrev kS:=List (dh×gm)
abbrev gW:=Bool×Unit
abbrev Jo:=List dN×Unit
abbrev zH:=Jo×Unit
abbrev oD:=List Gi
abbrev BF:=kS×oD×Int×nU×Unit
abbrev abN:=(kS×oD×gm)×Unit
abbrev rq:=List gm
abbrev uS:=Int×gm
abbrev Jp:=gm×(rq×uS)×Unit
abbrev kD:=gm×Unit
abbrev xJ:=rq×Unit
abbrev P6:=(Unit×gm)×Jo
abbrev Jq:=(Int×Int×dN)×Unit
abbrev EO:=Unit×Unit
abbrev abO:=Int×Int×Bool×Int×EO
abbrev BG:=gW×Unit
abbrev YU:=(kS×Unit)×Unit
abbrev YV:=(rq×gW)×Unit
abbrev aix:=((kS×oD×gm)×Int×gW)×Unit
abbrev Jr:=abN×Unit
class xK where n:Nat
abbrev lD[xK]:Nat:=xK.n
noncomputable section
def Ag:QA:=⟨46,[.p (.v (.one (.sl rH Ir false)))],[.sl rH Ir false,.int .i64,.int .i64],λ((code,()):xJ)=>(code.length<=1048576,λ(z:rq×uS)=>z.2.1=0)⟩
def yU:XA:=⟨95,[.ptr [.sl rH Ir false,.int .i64,.int .i64]],[.one (.c (.int .i64))],λ(((_,i,_,()),()):(rq×uS)×Unit)=>(0<=i,λ(z:Jp)=>0<=z.2.1.2.1/\0<=z.1.1/\z.1.1<=255)⟩
def xR:XA:=⟨47,[.ptr [.sl rH Ir false,.int .i64,.int .i64],.p (.v (.one (.int .i64)))],[.one (.c (.int .i64))],λ(((_,i,_,()),n,()):(rq×uS)×gm)=>(0<=i,λ(z:Jp)=>0<=z.2.1.2.1/\0<=z.1.1/\(0<n->z.1.1<n)/\(n<=0->z.1.1=0))⟩
def xU:XA:=⟨99,[],[.one (.own aI dD true)],λ(())=>(True,λ(z:YU)=>z.1.1=Sp.usual)⟩
def xW:PA:=⟨52,[.v (.one (.int .i64))],[.agg [.int .i64,.int .i64,.str]],λ((n,()):gm)=>(True,(1,n,[],()),())⟩
def agY:PA:=⟨118,[.v (.one (.str))],[.agg [.int .i64,.int .i64,.str]],λ((w,()):dN)=>(True,(2,0,w,()),())⟩
def jc:PA:=⟨91,[.v (.one (.int .i64)),.v (.one (.int .i64)),.v (.one (.int .i64))],[.one (.bool)],λ((x,a,b,()):Int×uS)=>(True,(decide (a<=x)&&decide (x<=b)),())⟩
def iL:PA:=⟨85,[.v (.one (.int .i64)),.v (.one (.int .i64)),.v (.one (.int .i64))],[.one (.bool)],λ((x,a,b,()):Int×uS)=>(True,(decide (a<=x)&&decide (x<=b)),())⟩
def uT:PA:=⟨133,[.v (.one (.str)),.v (.one (.int .i64))],[.one (.bool)],λ((s,m,()):dh×gm)=>(True,(Sp.lower s&&decide (1<=(s.length:Int))&&decide ((s.length:Int)<=m)),())⟩
def kE:PA:=⟨166,[.v (.one (.str))],[.one (.bool)],λ((s,()):dN)=>(True,aS s,())⟩
def kF:PA:=⟨163,[.v (.one (.str))],[.one (.bool)],λ((s,()):dN)=>(True,aS s,())⟩
def lq:PA:=⟨132,[.v (.agg [.int .i64,.int .i64,.str])],[.one (.bool)],λ(((k,n,s,()),()):Jq)=>(True,bn k n s,())⟩
def jD:PA:=⟨128,[.v (.agg [.int .i64,.int .i64,.str])],[.one (.bool)],λ(((k,n,s,()),()):Jq)=>(True,bn k n s,())⟩
def jw:PA:=⟨77,[.v (.one (.str))],[.one (.bool)],λ((s,()):dN)=>(True,bZ s,())⟩
def jy:PA:=⟨76,[.v (.one (.str))],[.one (.bool)],λ((s,()):dN)=>(True,bZ s,())⟩
def vZ:PA:=⟨182,[.v (.one (.sl aI dD false)),.v (.one (.str))],[.one (.int .i64)],λ((fs,s,()):kS×dN)=>(True,Sp.kindOf fs s,())⟩
def wo:PA:=⟨193,[.v (.one (.sl aI dD false)),.v (.one (.str))],[.one (.int .i64)],λ((fs,s,()):kS×dN)=>(True,Sp.kindOf fs s,())⟩
def mX:PA:=⟨137,[.v (.one (.sl aI dD false))],[.one (.bool)],λ((fs,()):kS×Unit)=>(True,dP fs,())⟩
def mY:PA:=⟨135,[.v (.one (.sl aI dD false))],[.one (.bool)],λ((fs,()):kS×Unit)=>(True,dP fs,())⟩
def pR:PA:=⟨142,[.v (.one (.sl aI dD false)),.v (.one (.str)),.v (.agg [.int .i64,.int .i64,.str])],[.one (.bool)],λ((fs,s,(k,n,w,()),()):kS×dh×Jq)=>(True,iy fs s k n w,())⟩
def pU:PA:=⟨167,[.v (.one (.sl aI dD false)),.v (.one (.str)),.v (.agg [.int .i64,.int .i64,.str])],[.one (.bool)],λ((fs,s,(k,n,w,()),()):kS×dh×Jq)=>(True,iy fs s k n w,())⟩
def oG:PA:=⟨98,[.v (.one (.sl aI dD false)),.v (.agg [.int .i64,.int .i64,.bool,.int .i64,.sl fE iM false])],[.one (.bool)],λ((fs,f,()):kS×Gi×Unit)=>(True,cZ fs f,())⟩
def rU:PA:=⟨134,[.v (.one (.sl aI dD false)),.v (.agg [.int .i64,.int .i64,.bool,.int .i64,.sl fE iM false])],[.one (.bool)],λ((fs,f,()):kS×Gi×Unit)=>(True,cZ fs f,())⟩
def nV:PA:=⟨80,[.v (.agg [.sl aI dD false,.sl aW fA false,.int .i64])],[.one (.bool)],λ((s,()):abN)=>(True,eF s,())⟩
def qL:PA:=⟨78,[.v (.agg [.sl aI dD false,.sl aW fA false,.int .i64])],[.one (.bool)],λ((s,()):abN)=>(True,eF s,())⟩
def uq:PA:=⟨82,[.v (.one (.sl aI dD false)),.v (.one (.sl aI dD false))],[.one (.bool)],λ((a,b,()):kS×kS×Unit)=>(True,decide (a=b),())⟩
def wu:PA:=⟨176,[.v (.one (.sl fE iM false)),.v (.one (.sl fE iM false))],[.one (.bool)],λ((a,b,()):List Ee×List Ee×Unit)=>(True,decide (a=b),())⟩
def xX:PA:=⟨139,[.v (.agg [.int .i64,.int .i64,.bool,.int .i64,.sl fE iM false]),.v (.agg [.int .i64,.int .i64,.bool,.int .i64,.sl fE iM false])],[.one (.bool)],λ((a,b,()):Gi×Gi×Unit)=>(True,decide (a=b),())⟩
def wz:PA:=⟨83,[.v (.one (.sl aW fA false)),.v (.one (.sl aW fA false))],[.one (.bool)],λ((a,b,()):oD×oD×Unit)=>(True,decide (a=b),())⟩
def wB:PA:=⟨30,[.v (.agg [.sl aI dD false,.sl aW fA false,.int .i64]),.v (.agg [.sl aI dD false,.sl aW fA false,.int .i64])],[.one (.bool)],λ((a,b,()):(kS×oD×gm)×abN)=>(True,decide (a=b),())⟩
def uU:PA:=⟨97,[.v (.agg [.int .i64,.int .i64,.bool,.int .i64,.sl fE iM false])],[.agg [.int .i64,.int .i64,.bool,.int .i64,.sl fE iM true]],λ((f,()):Gi×Unit)=>(Gj f,f,())⟩
def Ah:PA:=⟨168,[.v (.one (.int .i64))],[.one (.bool)],λ((u,()):gm)=>(True,(decide (0<=u)&&decide (u<=2)),())⟩
def yV:XA:=⟨51,[.p (.v (.agg [.int .i64,.int .i64,.bool,.int .i64,.sl fE iM false])),.p (.v (.one (.str))),.p (.v (.agg [.int .i64,.int .i64,.str]))],[.agg [.c (.int .i64),.c (.int .i64),.c .bool,.c (.int .i64),.own fE iM true]],λ(((i,o,s,l,a,()),name,(k,n,w,()),()):Gi×dh×Jq)=>(a.length<=1000,λ(z:(Gi×Unit)×Unit)=>z.1.1.1=i/\z.1.1.2.1=o/\z.1.1.2.2.1=s/\z.1.1.2.2.2.1=l/\z.1.1.2.2.2.2.1=oO a name k n w)⟩
def xY:XA:=⟨49,[.p (.v (.one (.sl aI dD false)))],[.agg [.own aI dD true,.own aW fA true,.c (.int .i64)]],λ((s,()):kS×Unit)=>(s.length<=1000,λ(z:Jr)=>z.1.1.1=s/\z.1.1.2.1=[]/\z.1.1.2.2.1=1)⟩
def yX:XA:=⟨96,[.p (.v (.agg [.sl aI dD false,.sl aW fA false,.int .i64]))],[.agg [.own aI dD true,.own aW fA true,.c (.int .i64)]],λ((s,()):abN)=>(J8 s,λ(z:Jr)=>(z.1.1.1,z.1.1.2.1,z.1.1.2.2.1,())=s)⟩
def uw:XA:=⟨48,[.p (.v (.agg [.sl aI dD false,.sl aW fA false,.int .i64])),.p (.v (.agg [.int .i64,.int .i64,.bool,.int .i64,.sl fE iM false]))],[.agg [.own aI dD true,.own aW fA true,.c (.int .i64)],.one (.c (.int .i64)),.one (.c .bool)],λ((s,f,()):(kS×oD×gm)×Gi×Unit)=>(J8 s/\Gj f,λ(z:aix)=>z.1.1.1=(dV s f).1.1/\z.1.1.2.1=(dV s f).1.2.1/\z.1.1.2.2.1=(dV s f).1.2.2.1/\z.1.2.1=(dV s f).2.1/\z.1.2.2.1=(dV s f).2.2)⟩
def Fg:PA:=⟨7,[.v (.one (.sl rH Ir false))],[.one (.bool)],λ((code,()):xJ)=>(True,decide (1048576<(code.length:Int)),())⟩
def rV:PA:=⟨158,[.v (.agg [.int .i64,.int .i64,.int .i64,.str,.int .i64,.int .i64,.str]),.v (.one (.int .i64))],[.one (.bool)],λ(((o,l,r,nm,vk,vi,vs,()),at',()):EN×gm)=>(True,dM (o,l,r,nm,vk,vi,vs,()) at',())⟩
def rW:PA:=⟨149,[.v (.agg [.int .i64,.int .i64,.int .i64,.str,.int .i64,.int .i64,.str]),.v (.one (.int .i64))],[.one (.bool)],λ(((o,l,r,nm,vk,vi,vs,()),at',()):EN×gm)=>(True,dM (o,l,r,nm,vk,vi,vs,()) at',())⟩
def oq:PA:=⟨159,[.v (.one (.sl bD dL false)),.v (.one (.int .i64))],[.one (.int .i64)],λ((q,at',()):nT×gm)=>(q.length<=2000000,(fK q at':Int),())⟩
def ou:PA:=⟨150,[.v (.one (.sl bD dL false)),.v (.one (.int .i64))],[.one (.int .i64)],λ((q,at',()):nT×gm)=>(q.length<=2000000,(fK q at':Int),())⟩
def lC:PA:=⟨120,[.v (.one (.sl bD dL false))],[.one (.bool)],λ((q,()):Aw)=>(q.length<=2000000,ay q,())⟩
def iG:PA:=⟨104,[.v (.one (.sl bD dL false))],[.one (.bool)],λ((q,()):Aw)=>(q.length<=2000000,ay q,())⟩
def rX:PA:=⟨173,[.v (.one (.sl bH dX false))],[.one (.bool)],λ((d,()):nU×Unit)=>(jR d,lF d,())⟩
def rY:PA:=⟨169,[.v (.one (.sl bH dX false))],[.one (.bool)],λ((d,()):nU×Unit)=>(jR d,lF d,())⟩
def xZ:PA:=⟨218,[.v (.agg [.int .i64,.int .i64,.int .i64,.str,.int .i64,.int .i64,.str])],[.one (.bool)],λ(((o,_,_,_,_,_,_,()),()):EN×Unit)=>(True,(o==8||o==9),())⟩
def qM:PA:=⟨238,[.v (.one (.sl bD dL false))],[.one (.sl Xa Z4 true)],λ((q,()):Aw)=>(q.length<=1000,Sp.negated q,())⟩
def qN:PA:=⟨217,[.v (.one (.sl bD dL false))],[.one (.sl Xa Z4 true)],λ((q,()):Aw)=>(q.length<=1000,Sp.negated q,())⟩
def oH:List jh:=[.p (.v (.one (.sl bW fP false)))]
def xM:List rZ:=[.one (.c (.sl bW fP true))]
def EY:mZ oH->Prop×(x9 xM×wC oH->Prop):=λ(l,())=>(l.length<=1000,λ((r,()),())=>r.length<=l.length/\∀s,s∈r↔s∈l)
def xO:P7:=abP oH xM EY
def qx:XA:=⟨195,[.p (.v (.one (.sl bD dL false))),.p (.v (.one (.bool)))],[.one (.c (.sl bW fP true))],λ((q,neg,()):nT×gW)=>(q.length<=1000,λ(z:zH)=>iH z.1.1 (dI q neg))⟩
def qO:XA:=⟨171,[.p (.v (.one (.sl bD dL false)))],[.one (.c (.sl bW fP true))],λ((q,()):Aw)=>(q.length<=1000,λ(z:zH)=>iH z.1.1 (dI q false))⟩
def qP:XA:=⟨172,[.p (.v (.one (.sl bD dL false)))],[.one (.c (.sl bW fP true))],λ((q,()):Aw)=>(q.length<=1000,λ(z:zH)=>iH z.1.1 (dI q true))⟩
def Ai:PA:=⟨239,[.v (.one (.sl bW fP false)),.v (.one (.str))],[.one (.sl bW fP false)],λ((l,s,()):List dN×dN)=>(l.length<=1000,Js l s,())⟩
def su:XA:=⟨220,[.p (.v (.one (.sl bD dL false))),.p (.v (.one (.bool)))],[.one (.c (.sl bW fP true))],λ((q,neg,()):nT×gW)=>(q.length<=1000,λ(z:zH)=>iH z.1.1 (dI q neg))⟩
def qQ:XA:=⟨196,[.p (.v (.one (.sl bD dL false)))],[.one (.c (.sl bW fP true))],λ((q,()):Aw)=>(q.length<=1000,λ(z:zH)=>iH z.1.1 (dI q false))⟩
def qR:XA:=⟨198,[.p (.v (.one (.sl bD dL false)))],[.one (.c (.sl bW fP true))],λ((q,()):Aw)=>(q.length<=1000,λ(z:zH)=>iH z.1.1 (dI q true))⟩
def uV:PA:=⟨216,[.v (.agg [.str,.sl bD dL false]),.kp [.str]],[.one (.bool)],λ(((nm,_,()),name,()):(dh×Aw)×dN×Unit)=>(True,(nm==name.1),())⟩
def gJ:PA:=⟨215,[.v (.one (.sl bH dX false)),.fn 216 [[.str]]],[.one (.int .i64)],λ((d,((name,()),()),()):nU×(dN×Unit)×Unit)=>(True,aB d name,())⟩
def BH:PA:=⟨194,[.v (.one (.sl bH dX false)),.v (.one (.str))],[.one (.int .i64)],λ((d,name,()):nU×dN)=>(True,aB d name,())⟩
def yc:PA:=⟨197,[.v (.one (.sl bH dX false)),.v (.one (.str))],[.one (.int .i64)],λ((d,name,()):nU×dN)=>(True,aB d name,())⟩
def sD:PA:=⟨170,[.v (.one (.sl bH dX false)),.v (.one (.sl DW UD false)),.v (.one (.sl bW fP false)),.v (.one (.int .i64))],[.one (.int .i64)],λ((d,aH,names,more,()):nU×rq×List dN×gm)=>(d.length<=aH.length/\names.length<=1000/\0<=more/\more<=1/\∀x∈aH,0<=x.1/\x.1<=1000000,sF d aH more names,())⟩
def Aj:XA:=⟨136,[.p (.v (.one (.sl bH dX false)))],[.one (.c (.sl DW UD true)),.one (.c .bool)],λ((d,()):nU×Unit)=>(jR d,λ(z:YV)=>z.1.2.1=fB d/\(z.1.2.1=true->Iu d z.1.1))⟩
def qU:PA:=⟨79,[.v (.one (.sl bH dX false))],[.one (.bool)],λ((d,()):nU×Unit)=>(jR d,fB d,())⟩
def oP:XA:=⟨174,[.p (.v (.one (.sl bH dX false))),.p (.v (.one (.sl DW UD false)))],[.one (.own DW UD true)],λ((d,aH,()):nU×xJ)=>(jR d/\d.length<=5/\aH.length=d.length/\∀x∈aH,0<=x.1/\x.1<=1000000,λ(z:xJ×Unit)=>Sp.raised d aH z.1.1)⟩
def yY:PA:=⟨175,[.v (.one (.sl DW UD false)),.v (.one (.sl DW UD false))],[.one (.bool)],λ((a,b,()):rq×xJ)=>(True,decide (a=b),())⟩
def Ak:XA:=⟨138,[.p (.v (.one (.sl bH dX false)))],[.one (.c (.sl DW UD true)),.one (.c .bool)],λ((d,()):nU×Unit)=>(jR d,λ(z:YV)=>z.1.2.1=fB d/\(z.1.2.1=true->Iu d z.1.1)/\(z.1.2.1=false->z.1.1=[]))⟩
def qV:PA:=⟨81,[.v (.one (.sl bH dX false))],[.one (.bool)],λ((d,()):nU×Unit)=>(jR d,fB d,())⟩
def gX:PA:=⟨28,[.v (.agg [.sl aI dD false,.sl aW fA false,.int .i64,.sl bH dX false])],[.one (.bool)],λ((x,()):BF×Unit)=>(gq x,bK x,())⟩
def lG:PA:=⟨29,[.v (.agg [.sl aI dD false,.sl aW fA false,.int .i64,.sl bH dX false])],[.one (.bool)],λ((x,()):BF×Unit)=>(gq x,bK x,())⟩
def wE:PA:=⟨143,[.v (.one (.sl bD dL false)),.v (.one (.sl bD dL false))],[.one (.bool)],λ((a,b,()):nT×Aw)=>(True,decide (a=b),())⟩
def yZ:PA:=⟨100,[.v (.agg [.str,.sl bD dL false]),.v (.agg [.str,.sl bD dL false])],[.one (.bool)],λ((a,b,()):(dh×Aw)×(dh×Aw)×Unit)=>(True,decide (a=b),())⟩
def yg:PA:=⟨56,[.v (.one (.sl bH dX false)),.v (.one (.sl bH dX false))],[.one (.bool)],λ((a,b,()):nU×nU×Unit)=>(True,decide (a=b),())⟩
def qW:PA:=⟨12,[.v (.agg [.sl aI dD false,.sl aW fA false,.int .i64,.sl bH dX false]),.v (.agg [.sl aI dD false,.sl aW fA false,.int .i64,.sl bH dX false])],[.one (.bool)],λ((a,b,()):BF×BF×Unit)=>(True,decide (a=b),())⟩
def uy:XA:=⟨8,[.p (.v (.one (.sl rH Ir false)))],[.one (.c (.sl DW UD true))],λ((code,()):xJ)=>(code.length<=1048576,λ(z:xJ×Unit)=>z.1.1.length=12/\∀x∈z.1.1,0<=x.1/\x.1<10000)⟩
def sG:PA:=⟨187,[.v (.one (.str))],[.agg [.int .i64,.int .i64,.str]],λ((w,()):dN)=>(True,(2,0,w,()),())⟩
def pV:XA:=⟨50,[],[.one (.own aI dD true)],λ(())=>(True,λ(z:YU)=>z.1.1=Sp.usual)⟩
def sH:XA:=⟨9,[.p (.v (.one (.int .i64)))],[.agg [.c (.sl aI dD false),.c (.sl aW fA false),.c (.int .i64)]],λ((n,()):gm)=>(True,λ(z:Jr)=>(z.1.1.1,z.1.1.2.1,z.1.1.2.2.1,())=Sp.sample n)⟩
def BI:List gU:=[.v (.one (.int .i64))]
def Gl:List ng:=[.one (.str)]
def YW:ja BI->Prop×lM Gl:=λ(n,())=>(-9223372036854775808<=n/\n<=9223372036854775807,Lib.itoa n,())
def Az:BJ:=iV BI Gl YW
def yh:List gU:=[.v (.one (.sl bW fP false)),.v (.one (.str))]
def AA:List ng:=[.one (.str)]
def J9:ja yh->Prop×lM AA:=λ(l,sep,())=>(l.length<=140737488355328/\(Lib.join (l.map (·.1)) sep).length<=140737488355328,Lib.join (l.map (·.1)) sep,())
def qy:BJ:=iV yh AA J9
def wF:List gU:=[.v (.one (.str)),.v (.one (.str))]
def zA:List ng:=[.one (.sl bW fP true)]
def Iw:ja wF->Prop×lM zA:=λ(s,sep,())=>(s.length<=4294960000/\(sep=[32]\/sep=[10]),Sp.pieces (sep.getD 0 0) s,())
def zB:BJ:=iV wF zA Iw
def zC:List gU:=[.v (.one (.str))]
def Ef:List ng:=[.one (.sl bW fP true)]
def Vl:ja zC->Prop×lM Ef:=λ(s,())=>(s.length<=1048576/\P8 s=true,Sp.wordsOf s,())
def yA:BJ:=iV zC Ef Vl
def uz:List gU:=[.v (.one (.str))]
def yB:List ng:=[.one (.int .i64),.one (.bool)]
def Gm:ja uz->Prop×lM yB:=λ(s,())=>(True,Sp.parseNum s,aU s,())
def oI:BJ:=iV uz yB Gm
def AB:PA:=⟨89,[.v (.one (.str))],[.one (.int .i64),.one (.bool)],λ((s,()):dN)=>(True,Sp.parseNum s,aU s,())⟩
def lV:PA:=⟨58,[.v (.one (.int .i64))],[.one (.str)],λ((n,()):gm)=>(True,Lib.itoa n,())⟩
def wG:PA:=⟨119,[.v (.one (.int .i64))],[.one (.int .u8)],λ((x,()):gm)=>(0<=x/\x<10,48+x,())⟩
def jS:PA:=⟨69,[.v (.one (.int .i64))],[.one (.str)],λ((n,()):gm)=>(True,Lib.itoa n,())⟩
def yC:PA:=⟨110,[.v (.one (.str))],[.one (.sl bW fP true),.one (.bool)],λ((s,()):dN)=>(s.length<=1048576,ni s,l9 s,())⟩
def mg:PA:=⟨153,[.v (.one (.str))],[.one (.sl bW fP true),.one (.bool)],λ((s,()):dN)=>(s.length<=1048576,ni s,l9 s,())⟩
def aj8:PA:=⟨115,[.v (.one (.sl bW fP false))],[.one (.str)],λ((w,()):Jo)=>(w.length<=1000/\(kT w).length<=2097152,kT w,())⟩
def jO:PA:=⟨61,[.v (.one (.sl bW fP false)),.v (.one (.sl bW fP false))],[.one (.bool)],λ((a,b,()):List dN×Jo)=>(True,decide (a=b),())⟩
def mr:PA:=⟨73,[.v (.agg [.int .i64,.int .i64,.str])],[.one (.str)],λ(((k,n,s,()),()):Jq)=>(True,bF (k,n,s,()),())⟩
def mD:PA:=⟨75,[.v (.agg [.int .i64,.int .i64,.str])],[.one (.str)],λ(((k,n,s,()),()):Jq)=>(True,bF (k,n,s,()),())⟩
def kN:PA:=⟨152,[.v (.one (.str))],[.agg [.int .i64,.int .i64,.str],.one (.bool)],λ((s,()):dN)=>(s.length<=1048576,(bU s).1,(bU s).2,())⟩
def jT:PA:=⟨151,[.v (.one (.int .i64))],[.one (.str)],λ((op,()):gm)=>(True,fH op,())⟩
def qA:PA:=⟨160,[.v (.one (.int .i64))],[.one (.str)],λ((op,()):gm)=>(True,fH op,())⟩
def EZ:List gU:=[.v (.one (.sl bD dL false)),.v (.one (.int .i64))]
def Eg:List ng:=[.one (.str)]
def Vm:ja EZ->Prop×lM Eg:=λ(q,at',())=>(ay q=true/\0<=at'/\at'<q.length,Lib.join (bJ (at'.toNat+1) q at') [32],())
def Eh:BJ:=iV EZ Eg Vm
def zI:List gU:=[.v (.one (.sl bD dL false)),.v (.one (.int .i64))]
def zu:List ng:=[.one (.str)]
def A7[xK]:ja zI->Prop×lM zu:=λ(q,at',())=>((ay q=true/\0<=at'/\at'<q.length)/\at'.toNat<lD,Lib.join (bJ (at'.toNat+1) q at') [32],())
def ru[xK]:BJ:=iV zI zu A7
def rC:List gU:=[.v (.one (.sl bD dL false)),.v (.one (.int .i64))]
def yD:List ng:=[.one (.str)]
def zJ[xK]:ja rC->Prop×lM yD:=λ(q,at',())=>((ay q=true/\0<=at'/\at'<q.length)/\at'.toNat<lD+1,Lib.join (bJ (at'.toNat+1) q at') [32],())
def yE[xK]:BJ:=iV rC yD zJ
def Iy:List gU:=[.v (.one (.sl bD dL false)),.v (.one (.int .i64))]
def Gn:List ng:=[.one (.str)]
def YX:ja Iy->Prop×lM Gn:=λ(q,at',())=>(ay q=true/\0<=at'/\at'<q.length,Lib.join (bJ (at'.toNat+1) q at') [32],())
def Gp:BJ:=iV Iy Gn YX
def BK:List gU:=[.v (.one (.sl bD dL false)),.v (.one (.int .i64))]
def A8:List ng:=[.one (.str)]
def Di[xK]:ja BK->Prop×lM A8:=λ(q,at',())=>((ay q=true/\0<=at'/\at'<q.length)/\at'.toNat<lD,Lib.join (bJ (at'.toNat+1) q at') [32],())
def uX[xK]:BJ:=iV BK A8 Di
def uY:List gU:=[.v (.one (.sl bD dL false)),.v (.one (.int .i64))]
def zK:List ng:=[.one (.str)]
def BL[xK]:ja uY->Prop×lM zK:=λ(q,at',())=>((ay q=true/\0<=at'/\at'<q.length)/\at'.toNat<lD+1,Lib.join (bJ (at'.toNat+1) q at') [32],())
def zL[xK]:BJ:=iV uY zK BL
def sJ:PA:=⟨59,[.v (.one (.sl bD dL false))],[.one (.str)],λ((q,()):Aw)=>(q.length<=2000000,Sp.textOf q,())⟩
def sK:PA:=⟨70,[.v (.one (.sl bD dL false))],[.one (.str)],λ((q,()):Aw)=>(q.length<=2000000,Sp.textOf q,())⟩
def sN:List gU:=[.v (.one (.str))]
def xP:List ng:=[.one (.sl bD dL true),.one (.bool)]
def E5:ja sN->Prop×lM xP:=λ(s,())=>(s.length<=1048576,gY s,iP s,())
def Dj:BJ:=iV sN xP E5
def uD:PA:=⟨24,[.v (.agg [.int .i64,.int .i64,.bool,.int .i64,.sl fE iM false])],[.one (.str)],λ((f,()):Gi×Unit)=>(f.2.2.2.2.1.length<=1048576/\(eP f.2.2.2.2.1).length<=1073741824,eG f,())⟩
def yj:PA:=⟨186,[.v (.one (.int .i64))],[.agg [.int .i64,.int .i64,.str]],λ((n,()):gm)=>(True,(1,n,[],()),())⟩
def rJ:PA:=⟨106,[.v (.one (.sl bW fP false))],[.agg [.int .i64,.int .i64,.bool,.int .i64,.sl fE iM true],.one (.bool)],λ((w,()):Jo)=>(w.length<=1000/\(∀x∈w,x.1.length<=1048576),(iQ w).1,(iQ w).2,())⟩
def uF:PA:=⟨25,[.v (.agg [.int .i64,.int .i64,.bool,.int .i64,.sl fE iM false])],[.one (.str)],λ((f,()):Gi×Unit)=>(f.2.2.2.2.1.length<=1048576/\(eP f.2.2.2.2.1).length<=1073741824,eG f,())⟩
def sO:PA:=⟨27,[.v (.agg [.str,.int .i64])],[.one (.str)],λ(((n,k,()),()):(dh×gm)×Unit)=>(n.length<=1048576,cu (n,k,()),())⟩
def sQ:PA:=⟨26,[.v (.agg [.str,.int .i64])],[.one (.str)],λ(((n,k,()),()):(dh×gm)×Unit)=>(n.length<=1048576,cu (n,k,()),())⟩
def jd:PA:=⟨14,[.v (.agg [.sl aI dD false,.sl aW fA false,.int .i64,.sl bH dX false])],[.one (.sl bW fP true)],λ((x,()):BF×Unit)=>(gq x,Sp.enc x,())⟩
def oQ:PA:=⟨22,[.v (.agg [.sl aI dD false,.sl aW fA false,.int .i64,.sl bH dX false])],[.one (.sl bW fP true)],λ((x,()):BF×Unit)=>(gq x,Sp.enc x,())⟩
def tX:List gU:=[.v (.one (.sl bW fP false))]
def zx:List ng:=[.agg [.sl aI dD true,.sl aW fA true,.int .i64,.sl bH dX true],.one (.bool)]
def Ko:ja tX->Prop×lM zx:=λ(l,())=>(Gq l,(Sp.dec l).1,(Sp.dec l).2,())
def rD:BJ:=iV tX zx Ko
def aa2:PA:=⟨4,[.v (.one (.sl rH Ir false))],[.one (.bool)],λ(_,())=>(True,true,())⟩
def yt:PA:=⟨39,[.v (.one (.str))],[.one (.int .i64)],λ((s,()):dN)=>(s.length<=1048576,Sp.sumOf s,())⟩
def yu:PA:=⟨38,[.v (.one (.str))],[.one (.int .i64)],λ((s,()):dN)=>(s.length<=1048576,Sp.sumOf s,())⟩
def zD:PA:=⟨37,[.v (.one (.int .i64)),.v (.agg [.sl aI dD false,.sl aW fA false,.int .i64,.sl bH dX false])],[.one (.str)],λ((n,x,()):Int×BF×Unit)=>(gq x,Sp.slot n x,())⟩
def pF:PA:=⟨32,[.v (.one (.int .i64)),.v (.agg [.sl aI dD false,.sl aW fA false,.int .i64,.sl bH dX false])],[.one (.str)],λ((n,x,()):Int×BF×Unit)=>(gq x,Sp.slot n x,())⟩
def uG:PA:=⟨33,[.v (.one (.str))],[.one (.int .i64),.agg [.sl aI dD true,.sl aW fA true,.int .i64,.sl bH dX true],.one (.bool)],λ((s,()):dN)=>(bY s,(aF s).1,(aF s).2.1,(aF s).2.2,())⟩
def aiy:PA:=⟨93,[.v (.agg [.str,.str])],[.one (.int .i64),.agg [.sl aI dD true,.sl aW fA true,.int .i64,.sl bH dX true],.one (.bool),.one (.bool)],λ(((a,b,()),()):(dh×dN)×Unit)=>(bY a/\bY b,(Sp.latest a b).1,(Sp.latest a b).2.1,(Sp.latest a b).2.2.1,(Sp.latest a b).2.2.2,())⟩
def pG:PA:=⟨55,[.v (.agg [.str,.str])],[.one (.int .i64),.agg [.sl aI dD true,.sl aW fA true,.int .i64,.sl bH dX true],.one (.bool),.one (.bool)],λ(((a,b,()),()):(dh×dN)×Unit)=>(bY a/\bY b,(Sp.latest a b).1,(Sp.latest a b).2.1,(Sp.latest a b).2.2.1,(Sp.latest a b).2.2.2,())⟩
def oU:PA:=⟨11,[.v (.agg [.str,.str])],[.one (.int .i64),.agg [.sl aI dD true,.sl aW fA true,.int .i64,.sl bH dX true],.one (.bool)],λ(((a,b,()),()):(dh×dN)×Unit)=>(bY a/\bY b,(Sp.latest a b).1,(Sp.latest a b).2.1,(Sp.latest a b).2.2.1,())⟩
def yw:PA:=⟨53,[.v (.agg [.str,.str]),.v (.agg [.sl aI dD false,.sl aW fA false,.int .i64,.sl bH dX false])],[.one (.str),.one (.bool)],λ(((a,b,()),x,()):(dh×dN)×BF×Unit)=>(bY a/\bY b/\gq x,bg a b x,!(Sp.latest a b).2.2.2,())⟩
def BM:PA:=⟨54,[.v (.one (.int .i64)),.v (.one (.int .i64)),.v (.one (.int .i64))],[.one (.int .i64)],λ((n,lo,hi,()):Int×uS)=>(lo<=hi,max lo (min n hi),())⟩
def aiz:PA:=⟨41,[.v (.agg [.str,.str]),.v (.agg [.sl aI dD false,.sl aW fA false,.int .i64,.sl bH dX false]),.v (.one (.int .i64))],[.agg [.str,.str],.one (.bool)],λ(((a,b,()),x,k,()):(dh×dN)×BF×gm)=>(bY a/\bY b/\gq x,(bP a b x k).1,(bP a b x k).2.1,())⟩
def wH:PA:=⟨10,[.v (.agg [.str,.str]),.v (.agg [.sl aI dD false,.sl aW fA false,.int .i64,.sl bH dX false]),.v (.one (.int .i64))],[.agg [.str,.str],.one (.bool)],λ(((a,b,()),x,k,()):(dh×dN)×BF×gm)=>(bY a/\bY b/\gq x,(bP a b x k).1,(bP a b x k).2.1,())⟩
def yF:PA:=⟨3,[.v (.one (.sl rH Ir false))],[.one (.bool)],λ(_,())=>(True,true,())⟩
def Jt[xK]:jU:=Iz [(uZ,.pure qy),(oV,.pure ru),mr.e,jT.e]
def L6[xK]:jU:=Iz [(qX,.pure uX),mD.e,qA.e]
end
end Go.Proofs.Tryz
