import Derived.Test.YtflpicdbkomglaaGreatDoorN
import Derived.Test.YtflpicdbkomglaaGreatDoorSp
namespace Go.Proofs.Tryz
open Go Go.Fw Sp
abbrev bY:=List UInt8
abbrev dw:=bY×Unit
abbrev Ty0:=bY×Int×Int×dw
abbrev Il:=Int×Int×Int×Ty0
abbrev iH:=List Il
abbrev iR:=List Ty0
abbrev qY:=iH×Unit
abbrev Ll:=Int×Int×Int×Bool×Int×iR×Int×bY×qY
abbrev AY:=Int×Int×Bool×Int×iR×Unit
abbrev eG:=Int×Unit
abbrev gI:=Bool×Unit
abbrev qZ:=Unit×Unit
abbrev Ty8:=Int×Int×Int×Bool×Int×Unit×Int×bY×qZ
abbrev kS:=gI×Unit
abbrev JE:=(Int×Int×dw)×Unit
abbrev mg:=List dw
abbrev pI:=eG×Unit
abbrev Vj:=Int×Int×Bool×Int×qZ
abbrev QV:=(iH×eG)×Unit
abbrev Vk:=(Int×eG)×Unit
abbrev G6:=mg×Unit
class mX where n:Nat
abbrev iy[mX]:Nat:=mX.n
noncomputable section
def Bq:XA:=⟨140,[.ptr [.sl Io R_5 false,.int .i64,.int .i64]],[.one (.c (.int .i64))],λ(((_,i,_,()),()):(List eG×Int×eG)×Unit)=>(0<=i,λ(z:eG×(List eG×Int×eG)×Unit)=>0<=z.2.1.2.1/\0<=z.1.1/\z.1.1<=255)⟩
def vW:PA:=⟨169,[.v (.one (.int .i64))],[.agg [.int .i64,.int .i64,.str]],λ((n,()):eG)=>(True,(1,n,[],()),())⟩
def qG:PA:=⟨145,[.v (.one (.str))],[.agg [.int .i64,.int .i64,.str]],λ((w,()):dw)=>(True,(2,0,w,()),())⟩
def iD:PA:=⟨38,[.v (.one (.int .i64)),.v (.one (.int .i64)),.v (.one (.int .i64))],[.one (.bool)],λ((x,a,b,()):Int×Int×eG)=>(True,(decide (a<=x)&&decide (x<=b)),())⟩
def jg:PA:=⟨115,[.v (.one (.int .i64)),.v (.one (.int .i64)),.v (.one (.int .i64))],[.one (.bool)],λ((x,a,b,()):Int×Int×eG)=>(True,(decide (a<=x)&&decide (x<=b)),())⟩
def rY:PA:=⟨105,[.v (.one (.str)),.v (.one (.int .i64))],[.one (.bool)],λ((s,m,()):bY×eG)=>(True,(Sp.lower s&&decide (1<=(s.length:Int))&&decide ((s.length:Int)<=m)),())⟩
def jl:PA:=⟨39,[.v (.one (.str))],[.one (.bool)],λ((s,()):dw)=>(True,aG s,())⟩
def jm:PA:=⟨50,[.v (.one (.str))],[.one (.bool)],λ((s,()):dw)=>(True,aG s,())⟩
def iJ:PA:=⟨102,[.v (.agg [.int .i64,.int .i64,.str])],[.one (.bool)],λ(((k,n,s,()),()):JE)=>(True,aU k n s,())⟩
def iK:PA:=⟨57,[.v (.agg [.int .i64,.int .i64,.str])],[.one (.bool)],λ(((k,n,s,()),()):JE)=>(True,aU k n s,())⟩
def jQ:PA:=⟨101,[.v (.one (.str))],[.one (.bool)],λ((s,()):dw)=>(True,dK s,())⟩
def jR:PA:=⟨56,[.v (.one (.str))],[.one (.bool)],λ((s,()):dw)=>(True,dK s,())⟩
def adT:PA:=⟨151,[.v (.one (.sl aT gY false)),.v (.one (.sl aT gY false))],[.one (.bool)],λ((a,b,()):iR×iR×Unit)=>(True,decide (a=b),())⟩
def aeE:PA:=⟨89,[.v (.agg [.int .i64,.int .i64,.bool,.int .i64,.sl aT gY false]),.v (.agg [.int .i64,.int .i64,.bool,.int .i64,.sl aT gY false])],[.one (.bool)],λ((a,b,()):AY×AY×Unit)=>(True,decide (a=b),())⟩
def qH:PA:=⟨106,[.v (.agg [.int .i64,.int .i64,.int .i64,.str,.int .i64,.int .i64,.str]),.v (.one (.int .i64))],[.one (.bool)],λ(((o,l,r,nm,vk,vi,vs,()),at',()):Il×eG)=>(True,dI (o,l,r,nm,vk,vi,vs,()) at',())⟩
def qI:PA:=⟨116,[.v (.agg [.int .i64,.int .i64,.int .i64,.str,.int .i64,.int .i64,.str]),.v (.one (.int .i64))],[.one (.bool)],λ(((o,l,r,nm,vk,vi,vs,()),at',()):Il×eG)=>(True,dI (o,l,r,nm,vk,vi,vs,()) at',())⟩
def mO:PA:=⟨107,[.v (.one (.sl aB bH false)),.v (.one (.int .i64))],[.one (.int .i64)],λ((q,at',()):iH×eG)=>(q.length<=2000000,(jF q at':Int),())⟩
def mP:PA:=⟨117,[.v (.one (.sl aB bH false)),.v (.one (.int .i64))],[.one (.int .i64)],λ((q,at',()):iH×eG)=>(q.length<=2000000,(jF q at':Int),())⟩
def lZ:PA:=⟨40,[.v (.one (.sl aB bH false))],[.one (.bool)],λ((q,()):qY)=>(q.length<=2000000,aC q,())⟩
def gy:PA:=⟨51,[.v (.one (.sl aB bH false))],[.one (.bool)],λ((q,()):qY)=>(q.length<=2000000,aC q,())⟩
def adU:PA:=⟨152,[.v (.one (.sl aB bH false)),.v (.one (.sl aB bH false))],[.one (.bool)],λ((a,b,()):iH×qY)=>(True,decide (a=b),())⟩
def afh:PA:=⟨90,[.v (.agg [.str,.sl aB bH false]),.v (.agg [.str,.sl aB bH false])],[.one (.bool)],λ((a,b,()):(bY×qY)×(bY×qY)×Unit)=>(True,decide (a=b),())⟩
def rF:PA:=⟨54,[.v (.agg [.int .i64,.int .i64,.bool,.int .i64,.sl aT gY false]),.v (.agg [.int .i64,.int .i64,.bool,.int .i64,.sl aT gY false])],[.one (.bool)],λ((a,b,()):AY×AY×Unit)=>(True,decide (a=b),())⟩
def kV:PA:=⟨119,[.v (.one (.sl aT gY false)),.v (.one (.sl aT gY false))],[.one (.bool)],λ((a,b,()):iR×iR×Unit)=>(True,decide (a=b),())⟩
def kW:PA:=⟨118,[.v (.one (.sl aB bH false)),.v (.one (.sl aB bH false))],[.one (.bool)],λ((a,b,()):iH×qY)=>(True,decide (a=b),())⟩
def qh:PA:=⟨52,[.v (.one (.sl aB bH false)),.v (.one (.sl aB bH false))],[.one (.bool)],λ((a,b,()):iH×qY)=>(True,decide (a=b),())⟩
def qJ:PA:=⟨174,[.v (.one (.str))],[.agg [.int .i64,.int .i64,.str]],λ((w,()):dw)=>(True,(2,0,w,()),())⟩
def zO:List fB:=[.v (.one (.int .i64))]
def Eu:List lM:=[.one (.str)]
def Vl:gW zO->Prop×kR Eu:=λ(n,())=>(-9223372036854775808<=n/\n<=9223372036854775807,Lib.itoa n,())
def y8:BZ:=iE zO Eu Vl
def zQ:List fB:=[.v (.one (.sl dM iF false)),.v (.one (.str))]
def Ew:List lM:=[.one (.str)]
def Vm:gW zQ->Prop×kR Ew:=λ(l,sep,())=>(l.length<=140737488355328/\(Lib.join (l.map (·.1)) sep).length<=140737488355328,Lib.join (l.map (·.1)) sep,())
def kD:BZ:=iE zQ Ew Vm
def zf:List fB:=[.v (.one (.str)),.v (.one (.str))]
def Dv:List lM:=[.one (.sl dM iF true)]
def SN:gW zf->Prop×kR Dv:=λ(s,sep,())=>(s.length<=4294960000/\(sep=[32]\/sep=[10]),Sp.pieces (sep.getD 0 0) s,())
def xR:BZ:=iE zf Dv SN
def xU:List fB:=[.v (.one (.str))]
def Cb:List lM:=[.one (.sl dM iF true)]
def QW:gW xU->Prop×kR Cb:=λ(s,())=>(s.length<=1048576/\mY s=true,Sp.wordsOf s,())
def qK:BZ:=iE xU Cb QW
def xW:List fB:=[.v (.one (.str))]
def Cc:List lM:=[.one (.int .i64),.one (.bool)]
def QX:gW xW->Prop×kR Cc:=λ(s,())=>(True,Sp.parseNum s,aQ s,())
def mZ:BZ:=iE xW Cc QX
def pJ:PA:=⟨128,[.v (.one (.str))],[.one (.int .i64),.one (.bool)],λ((s,()):dw)=>(True,Sp.parseNum s,aQ s,())⟩
def mr:PA:=⟨48,[.v (.one (.int .i64))],[.one (.str)],λ((n,()):eG)=>(True,Lib.itoa n,())⟩
def uf:PA:=⟨104,[.v (.one (.int .i64))],[.one (.int .u8)],λ((x,()):eG)=>(0<=x/\x<10,48+x,())⟩
def kE:PA:=⟨37,[.v (.one (.int .i64))],[.one (.str)],λ((n,()):eG)=>(True,Lib.itoa n,())⟩
def ng:PA:=⟨61,[.v (.one (.str))],[.one (.sl dM iF true),.one (.bool)],λ((s,()):dw)=>(s.length<=1048576,aA s,dN s,())⟩
def iW:PA:=⟨66,[.v (.one (.str))],[.one (.sl dM iF true),.one (.bool)],λ((s,()):dw)=>(s.length<=1048576,aA s,dN s,())⟩
def mD:PA:=⟨88,[.v (.one (.sl dM iF false)),.v (.one (.int .i64))],[.one (.str)],λ((w,i,()):mg×eG)=>(0<=i,Sp.wordAt w i,())⟩
def uV:PA:=⟨69,[.v (.one (.sl dM iF false)),.v (.one (.int .i64))],[.one (.str)],λ((w,i,()):mg×eG)=>(0<=i,Sp.wordAt w i,())⟩
def uX:PA:=⟨63,[.v (.one (.sl dM iF false)),.v (.one (.int .i64))],[.one (.int .i64)],λ((w,i,()):mg×eG)=>(0<=i,Sp.numAt w i,())⟩
def vX:PA:=⟨68,[.v (.one (.sl dM iF false)),.v (.one (.int .i64))],[.one (.int .i64),.one (.bool)],λ((w,i,()):mg×eG)=>(0<=i,Sp.numAt w i,aQ (Sp.wordAt w i),())⟩
def rZ:PA:=⟨65,[.v (.one (.sl dM iF false))],[.one (.str)],λ((w,()):G6)=>(w.length<=1000/\(eF w).length<=2097152,eF w,())⟩
def nI:PA:=⟨134,[.v (.one (.sl dM iF false)),.v (.one (.sl dM iF false))],[.one (.bool)],λ((a,b,()):mg×G6)=>(True,decide (a=b),())⟩
def rG:PA:=⟨71,[.v (.one (.str)),.v (.one (.sl dM iF false))],[.one (.bool)],λ((s,w,()):bY×G6)=>(s.length<=1048576/\mY s=true,(!(s==[])&&decide (Sp.wordsOf s=w)),())⟩
def rH:PA:=⟨100,[.v (.agg [.int .i64,.int .i64,.bool,.int .i64,.sl aT gY false]),.v (.agg [.int .i64,.int .i64,.bool,.int .i64,.sl aT gY false])],[.one (.bool)],λ((a,b,()):AY×AY×Unit)=>(True,decide (a=b),())⟩
def qi:PA:=⟨41,[.v (.one (.sl aB bH false)),.v (.one (.sl aB bH false))],[.one (.bool)],λ((a,b,()):iH×qY)=>(True,decide (a=b),())⟩
def kH:PA:=⟨112,[.v (.agg [.int .i64,.int .i64,.str])],[.one (.str)],λ(((k,n,s,()),()):JE)=>(True,aV (k,n,s,()),())⟩
def iY:PA:=⟨103,[.v (.agg [.int .i64,.int .i64,.str])],[.one (.str)],λ(((k,n,s,()),()):JE)=>(True,aV (k,n,s,()),())⟩
def jB:PA:=⟨132,[.v (.one (.str))],[.agg [.int .i64,.int .i64,.str],.one (.bool)],λ((s,()):dw)=>(s.length<=1048576,(aO s).1,(aO s).2,())⟩
def lI:PA:=⟨127,[.v (.one (.str))],[.agg [.int .i64,.int .i64,.str],.one (.bool)],λ((s,()):dw)=>(s.length<=1048576,(aO s).1,(aO s).2,())⟩
def iZ:PA:=⟨163,[.v (.one (.int .i64))],[.one (.str)],λ((op,()):eG)=>(True,dD op,())⟩
def kF:PA:=⟨156,[.v (.one (.int .i64))],[.one (.str)],λ((op,()):eG)=>(True,dD op,())⟩
def Dw:List fB:=[.v (.one (.sl aB bH false)),.v (.one (.int .i64))]
def Ce:List lM:=[.one (.str)]
def QY:gW Dw->Prop×kR Ce:=λ(q,at',())=>(aC q=true/\0<=at'/\at'<q.length,Lib.join (aW (at'.toNat+1) q at') [32],())
def Ci:BZ:=iE Dw Ce QY
def yg:List fB:=[.v (.one (.sl aB bH false)),.v (.one (.int .i64))]
def xO:List lM:=[.one (.str)]
def zu[mX]:gW yg->Prop×kR xO:=λ(q,at',())=>((aC q=true/\0<=at'/\at'<q.length)/\at'.toNat<iy,Lib.join (aW (at'.toNat+1) q at') [32],())
def qw[mX]:BZ:=iE yg xO zu
def qx:List fB:=[.v (.one (.sl aB bH false)),.v (.one (.int .i64))]
def wC:List lM:=[.one (.str)]
def yh[mX]:gW qx->Prop×kR wC:=λ(q,at',())=>((aC q=true/\0<=at'/\at'<q.length)/\at'.toNat<iy+1,Lib.join (aW (at'.toNat+1) q at') [32],())
def wE[mX]:BZ:=iE qx wC yh
def Gi:List fB:=[.v (.one (.sl aB bH false)),.v (.one (.int .i64))]
def Ey:List lM:=[.one (.str)]
def Vo:gW Gi->Prop×kR Ey:=λ(q,at',())=>(aC q=true/\0<=at'/\at'<q.length,Lib.join (aW (at'.toNat+1) q at') [32],())
def Ez:BZ:=iE Gi Ey Vo
def zS:List fB:=[.v (.one (.sl aB bH false)),.v (.one (.int .i64))]
def zx:List lM:=[.one (.str)]
def AZ[mX]:gW zS->Prop×kR zx:=λ(q,at',())=>((aC q=true/\0<=at'/\at'<q.length)/\at'.toNat<iy,Lib.join (aW (at'.toNat+1) q at') [32],())
def su[mX]:BZ:=iE zS zx AZ
def sD:List fB:=[.v (.one (.sl aB bH false)),.v (.one (.int .i64))]
def yj:List lM:=[.one (.str)]
def zT[mX]:gW sD->Prop×kR yj:=λ(q,at',())=>((aC q=true/\0<=at'/\at'<q.length)/\at'.toNat<iy+1,Lib.join (aW (at'.toNat+1) q at') [32],())
def yt[mX]:BZ:=iE sD yj zT
def ni:PA:=⟨49,[.v (.one (.sl aB bH false))],[.one (.str)],λ((q,()):qY)=>(q.length<=2000000,Sp.textOf q,())⟩
def kJ:PA:=⟨43,[.v (.one (.sl aB bH false))],[.one (.str)],λ((q,()):qY)=>(q.length<=2000000,Sp.textOf q,())⟩
def vY:List gm:=[.p (.v (.one (.sl dM iF false))),.p (.v (.one (.int .i64))),.own aB bH,.p (.v (.one (.int .i64)))]
def EC:List ou:=[.one (.own aB bH false),.one (.c (.int .i64))]
def Vp:iU vY->Prop×(oI EC×nJ vY->Prop):=λ(p,at',q,deep,())=>(p.length<=1000/\0<=at'/\at'.toNat+3*2 ^ (10-deep).toNat<=1000000/\0<=deep/\deep<=10/\(∀x∈p,x.1.length<=1000)/\q.length<=100,λ((r,k,()),())=>r=(Sp.rs (10-deep).toNat (p.drop at'.toNat) q).1/\k=(Sp.rs (10-deep).toNat (p.drop at'.toNat) q).2)
def ED:G7:=xX vY EC Vp
def kX:List gm:=[.p (.v (.one (.sl dM iF false))),.p (.v (.one (.int .i64))),.own aB bH,.p (.v (.one (.int .i64)))]
def zy:List ou:=[.one (.own aB bH false),.one (.c (.int .i64))]
def A7[mX]:iU kX->Prop×(oI zy×nJ kX->Prop):=λ(p,at',q,deep,())=>((p.length<=1000/\0<=at'/\at'.toNat+3*2 ^ (10-deep).toNat<=1000000/\0<=deep/\deep<=10/\(∀x∈p,x.1.length<=1000)/\q.length<=100)/\(10-deep).toNat<iy,λ((r,k,()),())=>r=(Sp.rs (10-deep).toNat (p.drop at'.toNat) q).1/\k=(Sp.rs (10-deep).toNat (p.drop at'.toNat) q).2)
def sF[mX]:G7:=xX kX zy A7
def nK:List gm:=[.p (.v (.one (.sl dM iF false))),.p (.v (.one (.int .i64))),.own aB bH,.p (.v (.one (.int .i64)))]
def yu:List ou:=[.one (.own aB bH false),.one (.c (.int .i64))]
def oJ[mX]:iU nK->Prop×(oI yu×nJ nK->Prop):=λ(p,at',q,deep,())=>((p.length<=1000/\0<=at'/\at'.toNat+3*2 ^ (10-deep).toNat<=1000000/\0<=deep/\deep<=10/\(∀x∈p,x.1.length<=1000)/\q.length<=100)/\(10-deep).toNat<iy+1,λ((r,k,()),())=>r=(Sp.rs (10-deep).toNat (p.drop at'.toNat) q).1/\k=(Sp.rs (10-deep).toNat (p.drop at'.toNat) q).2)
def yw[mX]:G7:=xX nK yu oJ
def wF:List fB:=[.v (.one (.str))]
def A8:List lM:=[.one (.sl aB bH true),.one (.bool)]
def PD:gW wF->Prop×kR A8:=λ(s,())=>(s.length<=1048576,dJ s,dV s,())
def vS:BZ:=iE wF A8 PD
def oz:PA:=⟨64,[.v (.one (.str))],[.one (.sl aB bH false),.one (.bool)],λ((s,()):dw)=>(s.length<=1048576,dJ s,dV s,())⟩
def nM:PA:=⟨53,[.v (.one (.sl aB bH false))],[.one (.sl aB bH true)],λ((q,()):qY)=>(q.length<=2000000,dJ (Sp.textOf q),())⟩
def nN:PA:=⟨42,[.v (.one (.sl aB bH false))],[.one (.sl aB bH false)],λ((q,()):qY)=>(q.length<=2000000,dJ (Sp.textOf q),())⟩
def rJ:PA:=⟨47,[.v (.agg [.int .i64,.int .i64,.bool,.int .i64,.sl aT gY false])],[.one (.str)],λ((f,()):AY×Unit)=>(f.2.2.2.2.1.length<=1048576/\(bU f.2.2.2.2.1).length<=1073741824,dW f,())⟩
def wX:PA:=⟨36,[.v (.agg [.int .i64,.int .i64,.bool,.int .i64,.sl aT gY false])],[.one (.str)],λ((f,()):AY×Unit)=>(f.2.2.2.2.1.length<=1048576/\(bU f.2.2.2.2.1).length<=1073741824,Lib.join (bJ f) [32],())⟩
def ug:PA:=⟨35,[.v (.agg [.int .i64,.int .i64,.bool,.int .i64,.sl aT gY false])],[.one (.bool)],λ((f,()):AY×Unit)=>(f.2.2.2.2.1.length<=1048576,dR f,())⟩
def wY:PA:=⟨34,[.v (.agg [.int .i64,.int .i64,.bool,.int .i64,.sl aT gY false])],[.one (.bool)],λ((f,()):AY×Unit)=>(True,decide (f=fD),())⟩
def qj:PA:=⟨10,[.v (.agg [.int .i64,.int .i64,.int .i64,.bool,.int .i64,.sl aT gY false,.int .i64,.str,.sl aB bH false])],[.one (.str)],λ((x,()):Ll×Unit)=>(zA x,aX x,())⟩
def ql:PA:=⟨8,[.v (.agg [.int .i64,.int .i64,.int .i64,.bool,.int .i64,.sl aT gY false,.int .i64,.str,.sl aB bH false])],[.one (.str)],λ((x,()):Ll×Unit)=>(zA x,aX x,())⟩
def sG:PA:=⟨188,[.v (.agg [.int .i64,.int .i64,.str]),.v (.agg [.int .i64,.int .i64,.str])],[.one (.bool)],λ((a,b,()):(Int×Int×dw)×JE)=>(True,sH a b,())⟩
def yM:PA:=⟨167,[.v (.agg [.str,.int .i64,.int .i64,.str]),.v (.agg [.str,.int .i64,.int .i64,.str])],[.one (.bool)],λ((a,b,()):Ty0×Ty0×Unit)=>(True,Ip a b,())⟩
def yN:PA:=⟨168,[.v (.agg [.int .i64,.int .i64,.int .i64,.str,.int .i64,.int .i64,.str]),.v (.agg [.int .i64,.int .i64,.int .i64,.str,.int .i64,.int .i64,.str])],[.one (.bool)],λ((a,b,()):Il×Il×Unit)=>(True,Iq a b,())⟩
def wZ:PA:=⟨125,[.v (.one (.sl aT gY false)),.v (.one (.sl aT gY false))],[.one (.bool)],λ((a,b,()):iR×iR×Unit)=>(True,zB a b,())⟩
def xg:PA:=⟨126,[.v (.one (.sl aB bH false)),.v (.one (.sl aB bH false))],[.one (.bool)],λ((a,b,()):iH×qY)=>(True,zC a b,())⟩
def yO:PA:=⟨59,[.v (.agg [.int .i64,.int .i64,.bool,.int .i64,.sl aT gY false]),.v (.agg [.int .i64,.int .i64,.bool,.int .i64,.sl aT gY false])],[.one (.bool)],λ((a,b,()):AY×AY×Unit)=>(True,EF a b,())⟩
def zU:PA:=⟨60,[.v (.agg [.str,.sl aB bH false]),.v (.agg [.str,.sl aB bH false])],[.one (.bool)],λ((a,b,()):(bY×qY)×(bY×qY)×Unit)=>(True,JF a b,())⟩
def nO:PA:=⟨11,[.v (.agg [.int .i64,.int .i64,.int .i64,.bool,.int .i64,.sl aT gY false,.int .i64,.str,.sl aB bH false]),.v (.agg [.int .i64,.int .i64,.int .i64,.bool,.int .i64,.sl aT gY false,.int .i64,.str,.sl aB bH false])],[.one (.bool)],λ((a,b,()):Ll×Ll×Unit)=>(True,QZ a b,())⟩
def jP:PA:=⟨121,[.v (.one (.int .i64))],[.one (.bool)],λ((n,()):eG)=>(True,!aP n,())⟩
def eU:PA:=⟨164,[.v (.one (.sl SQ R_3 false)),.fn 121 []],[.one (.int .i64)],λ((l,_,()):List eG×qZ)=>(True,Sp.idxOf l,())⟩
def dU:PA:=⟨120,[.v (.one (.sl SQ R_3 false)),.fn 121 []],[.one (.bool)],λ((l,_,()):List eG×qZ)=>(True,!ja l,())⟩
def rM:PA:=⟨55,[.v (.one (.sl SQ R_3 false))],[.one (.bool)],λ((l,()):List eG×Unit)=>(True,ja l,())⟩
def vZ:PA:=⟨173,[.v (.one (.int .i64))],[.agg [.int .i64,.int .i64,.str]],λ((n,()):eG)=>(True,(1,n,[],()),())⟩
def xk:PA:=⟨62,[.v (.one (.sl dM iF false)),.v (.one (.int .i64))],[.agg [.int .i64,.int .i64,.bool,.int .i64,.sl aT gY true]],λ((p,id,()):mg×eG)=>(p.length<=1000/\(∀x∈p,x.1.length<=1048576),iP id p,())⟩
def kK:PA:=⟨12,[.v (.one (.str))],[.agg [.int .i64,.int .i64,.int .i64,.bool,.int .i64,.sl aT gY false,.int .i64,.str,.sl aB bH false],.one (.bool)],λ((s,()):dw)=>(s.length<=1048576,fM s,dO s,())⟩
def qL:XA:=⟨67,[.p (.v (.one (.sl dM iF false)))],[.agg [.c (.int .i64),.c (.int .i64),.c .bool,.c (.int .i64),.own aT gY true],.one (.c .bool)],λ((w,()):G6)=>(w.length<=1000/\(∀x∈w,x.1.length<=1048576),λ(z:(AY×gI)×Unit)=>(z.1.1.1,z.1.1.2.1,z.1.1.2.2.1,z.1.1.2.2.2.1,z.1.1.2.2.2.2.1,())=(jW w).1/\z.1.2.1=(jW w).2)⟩
def lX:List gm:=[.p (.v (.one (.str)))]
def wG:List ou:=[.one (.own aB bH true),.one (.c .bool)]
def G8:iU lX->Prop×(oI wG×nJ lX->Prop):=λ(s,())=>(s.length<=1048576,λ((q,ok,()),())=>q=dJ s/\ok=dV s)
def pK:G7:=xX lX wG G8
def iw:XA:=⟨13,[.p (.v (.one (.str)))],[.agg [.c (.int .i64),.c (.int .i64),.c (.int .i64),.c .bool,.c (.int .i64),.own aT gY true,.c (.int .i64),.c .str,.own aB bH true],.one (.c .bool)],λ((s,()):dw)=>(s.length<=1048576,λ(z:(Ll×gI)×Unit)=>(z.1.1.1,z.1.1.2.1,z.1.1.2.2.1,z.1.1.2.2.2.1,z.1.1.2.2.2.2.1,z.1.1.2.2.2.2.2.1,z.1.1.2.2.2.2.2.2.1,z.1.1.2.2.2.2.2.2.2.1,z.1.1.2.2.2.2.2.2.2.2.1,())=fM s/\z.1.2.1=dO s)⟩
def jG:PA:=⟨96,[.v (.one (.int .i64))],[.one (.str)],λ((k,()):eG)=>(0<=k/\k<=1000000000,Sp.markT k,())⟩
def uh:PA:=⟨137,[.v (.one (.sl aT gY false)),.v (.one (.int .i64))],[.one (.int .i64)],λ((a,k,()):iR×eG)=>(0<=k/\k<=1000/\a.length<=1000000,jX a k,())⟩
def uj:PA:=⟨138,[.v (.one (.sl aB bH false)),.v (.one (.int .i64))],[.one (.int .i64)],λ((a,k,()):iH×eG)=>(0<=k/\k<=10000000/\a.length<=1000000,qm a k,())⟩
def wo:PA:=⟨74,[.v (.agg [.int .i64,.int .i64,.bool,.int .i64,.sl aT gY false]),.v (.one (.int .i64))],[.one (.int .i64)],λ(((_,_,_,_,a,()),k,()):AY×eG)=>(0<=k/\k<=1000/\a.length<=1000000,jX a k,())⟩
def xq:PA:=⟨75,[.v (.agg [.str,.sl aB bH false]),.v (.one (.int .i64))],[.one (.int .i64)],λ(((_,q,()),k,()):(bY×qY)×eG)=>(0<=k/\k<=10000000/\q.length<=1000000,qm q k,())⟩
def lJ:PA:=⟨15,[.v (.agg [.int .i64,.int .i64,.int .i64,.bool,.int .i64,.sl aT gY false,.int .i64,.str,.sl aB bH false]),.v (.one (.int .i64))],[.one (.int .i64)],λ(((_,_,_,_,_,a,_,_,q,()),k,()):Ll×eG)=>(0<=k/\k<=1000/\a.length<=1000000/\q.length<=1000000,OV a q k,())⟩
def G9[mX]:iT:=DJ [(mF,.pure kD),(nP,.pure qw),kH.e,iZ.e]
def JG[mX]:iT:=DJ [(qo,.pure su),iY.e,kF.e]
def JH[mX]:iT:=DJ [(qp,.eff (Ir kX) sF),iD.e,lI.e,kF.e,mD.e]
end
end Go.Proofs.Tryz
