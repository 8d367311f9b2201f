import Derived.Test.YtjomchafleahdaaGreatN
import Derived.Test.YtjomchafleahdaaGreatSp
namespace Go.Proofs.Tryz
open Go Go.Fw Sp
abbrev bG:=List UInt8
abbrev jB:=bG×Unit
abbrev Ty0:=bG×Int×Int×jB
abbrev C9:=Int×Int×Int×Ty0
abbrev jC:=List C9
abbrev qA:=jC×Unit
abbrev gy:=List (bG×qA)
abbrev jG:=List Ty0
abbrev rq:=Int×Int×Bool×Int×jG×Unit
abbrev iy:=List rq
abbrev bn:=Int×Unit
abbrev eX:=List (bG×bn)
abbrev fB:=List bn
abbrev jH:=fB×Unit
abbrev oz:=List (bG×jH)
abbrev abd:=Int×fB×jH
abbrev Dc:=List abd
abbrev Ty6:=Int×bG×fB×Dc×Unit
abbrev VU:=Int×eX×iy×Int×gy×bn
abbrev uH:=List VU
abbrev bQ:=Bool×Unit
abbrev Bf:=List jB
abbrev tV:=(Bf×Unit)×Unit
abbrev tX:=gy×Unit
abbrev Np:=eX×iy×Int×tX
abbrev zh:=List Ty6
abbrev VX:=eX×iy×Int×gy×oz×bG×bG×Int×uH×zh×jH
abbrev eu:=bn×Unit
abbrev zi:=eX×iy×bn
abbrev H9:=(Int×Int×jB)×Unit
abbrev Df:=(Int×bn)×Unit
abbrev Gl:=(oz×bQ)×Unit
abbrev zk:=oz×Unit
abbrev Qr:=(fB×bQ)×Unit
abbrev abe:=(oz×Int×bQ)×Unit
abbrev Dh:=zi×Unit
abbrev aeM:=eX×iy×Int×gy×zk
abbrev abf:=(Np×Unit)×Unit
abbrev abg:=(Np×bQ)×Unit
abbrev DL:=iy×Unit
abbrev DN:=Unit×bn
class yj where n:Nat
abbrev yt[yj]:Nat:=yj.n
noncomputable section
def iJ:PA:=⟨72,[.i,.i,.i],[.b],λ((x,a,b,()):Int×Int×bn)=>(True,(decide (a<=x)&&decide (x<=b)),())⟩
def jK:PA:=⟨118,[.i,.i,.i],[.b],λ((x,a,b,()):Int×Int×bn)=>(True,(decide (a<=x)&&decide (x<=b)),())⟩
def uI:PA:=⟨155,[.s,.i],[.b],λ((s,m,()):bG×bn)=>(True,(Sp.lower s&&decide (1<=(s.length:Int))&&decide ((s.length:Int)<=m)),())⟩
def jQ:PA:=⟨172,[.s],[.b],λ((s,()):jB)=>(True,dX s,())⟩
def jR:PA:=⟨178,[.s],[.b],λ((s,()):jB)=>(True,dX s,())⟩
def mX:PA:=⟨153,[.v (.agg [.i,.i,.s])],[.b],λ(((k,n,s,()),()):H9)=>(True,gJ k n s,())⟩
def mY:PA:=⟨161,[.v (.agg [.i,.i,.s])],[.b],λ(((k,n,s,()),()):H9)=>(True,gJ k n s,())⟩
def kN:PA:=⟨131,[.s],[.b],λ((s,()):jB)=>(True,fM s,())⟩
def kP:PA:=⟨140,[.s],[.b],λ((s,()):jB)=>(True,fM s,())⟩
def vW:PA:=⟨154,[.l au bJ,.s],[.i],λ((fs,s,()):eX×jB)=>(True,Sp.kindOf fs s,())⟩
def vX:PA:=⟨162,[.l au bJ,.s],[.i],λ((fs,s,()):eX×jB)=>(True,Sp.kindOf fs s,())⟩
def lM:PA:=⟨105,[.l au bJ],[.b],λ((fs,()):eX×Unit)=>(True,dL fs,())⟩
def lN:PA:=⟨117,[.l au bJ],[.b],λ((fs,()):eX×Unit)=>(True,dL fs,())⟩
def pG:PA:=⟨130,[.l au bJ,.s,.v (.agg [.i,.i,.s])],[.b],λ((fs,s,(k,n,w,()),()):eX×bG×H9)=>(True,gB fs s k n w,())⟩
def pI:PA:=⟨139,[.l au bJ,.s,.v (.agg [.i,.i,.s])],[.b],λ((fs,s,(k,n,w,()),()):eX×bG×H9)=>(True,gB fs s k n w,())⟩
def rM:PA:=⟨104,[.l au bJ,.v (.agg [.i,.i,.b,.i,.l bK iE])],[.b],λ((fs,f,()):eX×rq×Unit)=>(True,dP fs f,())⟩
def rO:PA:=⟨116,[.l au bJ,.v (.agg [.i,.i,.b,.i,.l bK iE])],[.b],λ((fs,f,()):eX×rq×Unit)=>(True,dP fs f,())⟩
def mZ:PA:=⟨73,[.v (.agg [.l au bJ,.l aA aQ,.i])],[.b],λ((s,()):Dh)=>(True,bf s,())⟩
def ng:PA:=⟨86,[.v (.agg [.l au bJ,.l aA aQ,.i])],[.b],λ((s,()):Dh)=>(True,bf s,())⟩
def uJ:PA:=⟨103,[.v (.agg [.i,.i,.b,.i,.l bK iE])],[.agg [.i,.i,.b,.i,.f bK iE]],λ((f,()):rq×Unit)=>(EX f,f,())⟩
def rP:PA:=⟨122,[.v (.agg [.i,.i,.b,.i,.l bK iE])],[.agg [.i,.i,.b,.i,.l bK iE]],λ((f,()):rq×Unit)=>(EX f,f,())⟩
def rF:PA:=⟨87,[.i],[.b],λ((u,()):bn)=>(True,(decide (0<=u)&&decide (u<=2)),())⟩
def yB:PA:=⟨108,[.v (.agg [.l au bJ,.l aA aQ,.i]),.i],[.i],λ(((_,fs,_,()),id,()):zi×bn)=>(True,Sp.place fs id,())⟩
def jy:PA:=⟨113,[.l au bJ],[.l au bJ],λ((l,()):eX×Unit)=>(l.length<=10000000,l,())⟩
def lQ:PA:=⟨146,[.l bK iE],[.l bK iE],λ((l,()):jG×Unit)=>(l.length<=10000000,l,())⟩
def rQ:PA:=⟨183,[.v (.agg [.i,.i,.i,.s,.i,.i,.s]),.i],[.b],λ(((o,l,r,nm,vk,vi,vs,()),at',()):C9×bn)=>(True,iR (o,l,r,nm,vk,vi,vs,()) at',())⟩
def rU:PA:=⟨188,[.v (.agg [.i,.i,.i,.s,.i,.i,.s]),.i],[.b],λ(((o,l,r,nm,vk,vi,vs,()),at',()):C9×bn)=>(True,iR (o,l,r,nm,vk,vi,vs,()) at',())⟩
def nJ:PA:=⟨184,[.l bg fU,.i],[.i],λ((q,at',()):jC×bn)=>(q.length<=2000000,(kC q at':Int),())⟩
def nK:PA:=⟨189,[.l bg fU,.i],[.i],λ((q,at',()):jC×bn)=>(q.length<=2000000,(kC q at':Int),())⟩
def kL:PA:=⟨173,[.l bg fU],[.b],λ((q,()):qA)=>(q.length<=2000000,aU q,())⟩
def kM:PA:=⟨179,[.l bg fU],[.b],λ((q,()):qA)=>(q.length<=2000000,aU q,())⟩
def rV:PA:=⟨156,[.l aI aY],[.b],λ((d,()):tX)=>(fO d,dR d,())⟩
def rW:PA:=⟨163,[.l aI aY],[.b],λ((d,()):tX)=>(fO d,dR d,())⟩
def yC:PA:=⟨193,[.v (.agg [.i,.i,.i,.s,.i,.i,.s])],[.b],λ(((o,_,_,_,_,_,_,()),()):C9×Unit)=>(True,(o==8||o==9),())⟩
def qM:PA:=⟨198,[.l bg fU],[.f Ym R_4],λ((q,()):qA)=>(q.length<=1000,Sp.negated q,())⟩
def qN:PA:=⟨192,[.l bg fU],[.f Ym R_4],λ((q,()):qA)=>(q.length<=1000,Sp.negated q,())⟩
def nU:List gV:=[.p (.v (.one (.sl iZ o7 false)))]
def yu:List lq:=[.one (.c (.sl iZ o7 true))]
def Gv:lS nU->Prop×(yD yu×vY nU->Prop):=λ(l,())=>(l.length<=1000,λ((r,()),())=>r.length<=l.length/\∀s,s∈r↔s∈l)
def yw:Qs:=aeN nU yu Gv
def qB:XA:=⟨181,[.l bg fU,.b],[.f iZ o7],λ((q,neg,()):jC×bQ)=>(q.length<=1000,λ(z:tV)=>gK z.1.1 (dM q neg))⟩
def qO:XA:=⟨165,[.l bg fU],[.f iZ o7],λ((q,()):qA)=>(q.length<=1000,λ(z:tV)=>gK z.1.1 (dM q false))⟩
def qP:XA:=⟨166,[.l bg fU],[.f iZ o7],λ((q,()):qA)=>(q.length<=1000,λ(z:tV)=>gK z.1.1 (dM q true))⟩
def BU:PA:=⟨199,[.l iZ o7,.s],[.l iZ o7],λ((l,s,()):Bf×jB)=>(l.length<=1000,Di l s,())⟩
def rX:XA:=⟨185,[.l bg fU,.b],[.f iZ o7],λ((q,neg,()):jC×bQ)=>(q.length<=1000,λ(z:tV)=>gK z.1.1 (dM q neg))⟩
def qQ:XA:=⟨174,[.l bg fU],[.f iZ o7],λ((q,()):qA)=>(q.length<=1000,λ(z:tV)=>gK z.1.1 (dM q false))⟩
def qR:XA:=⟨176,[.l bg fU],[.f iZ o7],λ((q,()):qA)=>(q.length<=1000,λ(z:tV)=>gK z.1.1 (dM q true))⟩
def uK:PA:=⟨191,[.v (.agg [.s,.l bg fU]),.kp [.s]],[.b],λ(((nm,_,()),name,()):(bG×qA)×jB×Unit)=>(True,(nm==name.1),())⟩
def fJ:PA:=⟨190,[.l aI aY,.fn 191 [[.s]]],[.i],λ((d,((name,()),()),()):gy×(jB×Unit)×Unit)=>(True,aG d name,())⟩
def DR:PA:=⟨180,[.l aI aY,.s],[.i],λ((d,name,()):gy×jB)=>(True,aG d name,())⟩
def yE:PA:=⟨175,[.l aI aY,.s],[.i],λ((d,name,()):gy×jB)=>(True,aG d name,())⟩
def rY:PA:=⟨164,[.l aI aY,.l aV dn,.l iZ o7,.i],[.i],λ((d,ax,names,more,()):gy×fB×Bf×bn)=>(d.length<=ax.length/\names.length<=1000/\0<=more/\more<=1/\∀x∈ax,0<=x.1/\x.1<=1000000,rZ d ax more names,())⟩
def xq:XA:=⟨141,[.l aI aY],[.f aV dn,.b],λ((d,()):tX)=>(fO d,λ(z:Qr)=>z.1.2.1=aK d/\(z.1.2.1=true->jS d z.1.1))⟩
def oC:XA:=⟨157,[.l aI aY,.l aV dn],[.o aV dn],λ((d,ax,()):gy×jH)=>(qC d/\d.length<=5/\ax.length=d.length/\∀x∈ax,0<=x.1/\x.1<=1000000,λ(z:jH×Unit)=>Sp.raised d ax z.1.1)⟩
def uM:PA:=⟨135,[.l aV dn,.l aV dn],[.b],λ((a,b,()):fB×jH)=>(True,decide (a=b),())⟩
def xu:XA:=⟨132,[.l aI aY],[.f aV dn,.b],λ((d,()):tX)=>(fO d,λ(z:Qr)=>z.1.2.1=aK d/\(z.1.2.1=true->jS d z.1.1)/\(z.1.2.1=false->z.1.1=[]))⟩
def qo:PA:=⟨195,[.v (.agg [.i,.i,.b,.i,.l bK iE]),.s],[.agg [.i,.i,.s]],λ(((_,_,_,_,a,()),name,()):rq×jB)=>(True,eH a name,())⟩
def uN:PA:=⟨186,[.v (.agg [.i,.i,.b,.i,.l bK iE]),.s],[.agg [.i,.i,.s]],λ(((_,_,_,_,a,()),name,()):rq×jB)=>(True,eH a name,())⟩
def uO:PA:=⟨196,[.v (.agg [.i,.i,.b,.i,.l bK iE]),.s],[.i,.b],λ(((_,_,_,_,a,()),name,()):rq×jB)=>(True,(bif (eH a name).1==1 then(eH a name).2.1 else 0),((eH a name).1==1),())⟩
def su:PA:=⟨206,[.l aV dn,.i],[.i],λ((s,v,()):fB×bn)=>(True,Sp.findAt (λx=>x.1==v) s,())⟩
def oD:PA:=⟨203,[.l aV dn,.i],[.b],λ((s,v,()):fB×bn)=>(True,jh s v,())⟩
def oG:PA:=⟨167,[.l iZ o7,.s],[.i],λ((s,v,()):Bf×jB)=>(True,Sp.findAt (λx=>x.1==v) s,())⟩
def lT:PA:=⟨142,[.l iZ o7,.s],[.b],λ((s,v,()):Bf×jB)=>(True,qE s v,())⟩
def o8:PA:=⟨197,[.l aV dn,.i],[.b],λ((s,v,()):fB×bn)=>(True,jh s v,())⟩
def o9:PA:=⟨187,[.l aV dn,.i],[.b],λ((s,v,()):fB×bn)=>(True,jh s v,())⟩
def sD:PA:=⟨90,[.l aV dn],[.f aV dn],λ((l,()):jH)=>(l.length<=10000000,l,())⟩
def kZ:PA:=⟨51,[.l aS fV,.s],[.f aV dn],λ((r,name,()):oz×jB)=>(bU r,dY r name,())⟩
def nC:PA:=⟨42,[.l aS fV,.s],[.f aV dn],λ((r,name,()):oz×jB)=>(bU r,dY r name,())⟩
def Gw:List fP:=[.v (.one (.sl bg fU false)),.v (.one (.int .i64)),.v (.agg [.int .i64,.int .i64,.bool,.int .i64,.sl bK iE false]),.v (.one (.sl aS fV false))]
def FU:List kX:=[.one (.bool)]
def VY:kD Gw->Prop×qU FU:=λ(q,at',(i,o,s,l,a,()),r,())=>(aU q=true/\0<=at'/\at'<q.length/\bU r,Sp.val q (i,o,s,l,a,()) (aW r) at'.toNat,())
def FV:O5:=nV Gw FU VY
def Bl:List fP:=[.v (.one (.sl bg fU false)),.v (.one (.int .i64)),.v (.agg [.int .i64,.int .i64,.bool,.int .i64,.sl bK iE false]),.v (.one (.sl aS fV false))]
def Ba:List kX:=[.one (.bool)]
def Dn[yj]:kD Bl->Prop×qU Ba:=λ(q,at',(i,o,s,l,a,()),r,())=>((aU q=true/\0<=at'/\at'<q.length/\bU r)/\at'.toNat<yt,Sp.val q (i,o,s,l,a,()) (aW r) at'.toNat,())
def ru[yj]:O5:=nV Bl Ba Dn
def rC:List fP:=[.v (.one (.sl bg fU false)),.v (.one (.int .i64)),.v (.agg [.int .i64,.int .i64,.bool,.int .i64,.sl bK iE false]),.v (.one (.sl aS fV false))]
def zl:List kX:=[.one (.bool)]
def Bo[yj]:kD rC->Prop×qU zl:=λ(q,at',(i,o,s,l,a,()),r,())=>((aU q=true/\0<=at'/\at'<q.length/\bU r)/\at'.toNat<yt+1,Sp.val q (i,o,s,l,a,()) (aW r) at'.toNat,())
def zn[yj]:O5:=nV rC zl Bo
def Jt:List fP:=[.v (.one (.sl bg fU false)),.v (.one (.int .i64)),.v (.agg [.int .i64,.int .i64,.bool,.int .i64,.sl bK iE false]),.v (.one (.sl aS fV false))]
def Ia:List kX:=[.one (.bool)]
def abh:kD Jt->Prop×qU Ia:=λ(q,at',(i,o,s,l,a,()),r,())=>(aU q=true/\0<=at'/\at'<q.length/\bU r,Sp.val q (i,o,s,l,a,()) (aW r) at'.toNat,())
def Ib:O5:=nV Jt Ia abh
def DT:List fP:=[.v (.one (.sl bg fU false)),.v (.one (.int .i64)),.v (.agg [.int .i64,.int .i64,.bool,.int .i64,.sl bK iE false]),.v (.one (.sl aS fV false))]
def Dp:List kX:=[.one (.bool)]
def EN[yj]:kD DT->Prop×qU Dp:=λ(q,at',(i,o,s,l,a,()),r,())=>((aU q=true/\0<=at'/\at'<q.length/\bU r)/\at'.toNat<yt,Sp.val q (i,o,s,l,a,()) (aW r) at'.toNat,())
def uP[yj]:O5:=nV DT Dp EN
def uQ:List fP:=[.v (.one (.sl bg fU false)),.v (.one (.int .i64)),.v (.agg [.int .i64,.int .i64,.bool,.int .i64,.sl bK iE false]),.v (.one (.sl aS fV false))]
def Bq:List kX:=[.one (.bool)]
def DU[yj]:kD uQ->Prop×qU Bq:=λ(q,at',(i,o,s,l,a,()),r,())=>((aU q=true/\0<=at'/\at'<q.length/\bU r)/\at'.toNat<yt+1,Sp.val q (i,o,s,l,a,()) (aW r) at'.toNat,())
def Bv[yj]:O5:=nV uQ Bq DU
def zO:PA:=⟨169,[.l bg fU,.v (.agg [.i,.i,.b,.i,.l bK iE]),.l aS fV],[.b],λ((q,f,r,()):jC×rq×zk)=>(q.length<=1000/\bU r,ku q f (aW r),())⟩
def zQ:PA:=⟨158,[.l bg fU,.v (.agg [.i,.i,.b,.i,.l bK iE]),.l aS fV],[.b],λ((q,f,r,()):jC×rq×zk)=>(q.length<=1000/\bU r,ku q f (aW r),())⟩
def sF:PA:=⟨144,[.v (.agg [.l au bJ,.l aA aQ,.i]),.l bg fU,.l aS fV],[.f aV dn],λ((s,q,r,()):zi×jC×zk)=>(iK s/\q.length<=1000/\bU r,Sp.sel s.2.1 q (aW r),())⟩
def sG:PA:=⟨134,[.v (.agg [.l au bJ,.l aA aQ,.i]),.l bg fU,.l aS fV],[.f aV dn],λ((s,q,r,()):zi×jC×zk)=>(iK s/\q.length<=1000/\bU r,Sp.sel s.2.1 q (aW r),())⟩
def sH:PA:=⟨145,[.l aV dn,.l aV dn],[.b],λ((a,b,()):fB×jH)=>(True,decide (a=b),())⟩
def vZ:XA:=⟨168,[.l aV dn],[.i],λ((l,()):jH)=>(0<l.length,λ(z:eu)=>(∀x∈l,x.1<=z.1.1)/\z.1∈l)⟩
def um:XA:=⟨143,[.l aI aY],[.i],λ((d,()):tX)=>(fO d,λ(z:eu)=>Yn d z.1.1)⟩
def uo:XA:=⟨133,[.l aI aY],[.i],λ((d,()):tX)=>(fO d,λ(z:eu)=>Yn d z.1.1)⟩
def yF:PA:=⟨120,[.l aI aY],[.f iZ o7],λ((d,()):tX)=>(d.length<=2000000,lU d,())⟩
def wo:XA:=⟨119,[.p (.v (.agg [.l au bJ,.l aA aQ,.i])),.l aI aY,.l aS fV,.l iZ o7],[.l aS fV,.i,.b],λ((s,d,r,names,()):zi×gy×oz×Bf×Unit)=>(iK s/\fO d/\bU r,λ(z:abe)=>z.1.2.2.1=(aK d&&bf s)/\((z.1.2.2.1=true->kE s.2.1 d r (qE names) z.1.1)/\(z.1.2.2.1=false->z.1.1=[])))⟩
def yG:XA:=⟨88,[.p (.v (.agg [.l au bJ,.l aA aQ,.i])),.l aI aY],[.l aS fV,.b],λ((s,d,()):zi×tX)=>(iK s/\fO d,λ(z:Gl)=>z.1.2.1=(aK d&&bf s)/\((z.1.2.1=true->kE s.2.1 d [] (λ_=>true) z.1.1)/\(z.1.2.1=false->z.1.1=[])))⟩
def BV:XA:=⟨106,[.p (.v (.agg [.l au bJ,.l aA aQ,.i])),.l aI aY],[.one (.own aS fV false),.i,.b],λ((s,d,()):zi×tX)=>(iK s/\fO d,λ(z:abe)=>z.1.2.2.1=(aK d&&bf s)/\((z.1.2.2.1=true->kE s.2.1 d [] (λ_=>true) z.1.1)/\(z.1.2.2.1=false->z.1.1=[])))⟩
def yH:XA:=⟨74,[.p (.v (.agg [.l au bJ,.l aA aQ,.i])),.l aI aY],[.one (.own aS fV false),.b],λ((s,d,()):zi×tX)=>(iK s/\fO d,λ(z:Gl)=>z.1.2.1=(aK d&&bf s)/\((z.1.2.1=true->kE s.2.1 d [] (λ_=>true) z.1.1)/\(z.1.2.1=false->z.1.1=[])))⟩
def BZ:PA:=⟨123,[.v (.agg [.l au bJ,.l aA aQ,.i]),.i],[.i],λ(((_,fs,_,()),id,()):zi×bn)=>(True,Sp.place fs id,())⟩
def sJ:PA:=⟨148,[.v (.agg [.i,.i,.b,.i,.l bK iE]),.kp [.i]],[.b],λ(((i,_,_,_,_,()),id,()):rq×eu)=>(True,decide (i=id.1),())⟩
def fG:PA:=⟨147,[.l aA aQ,.fn 148 [[.i]]],[.i],λ((l,((id,()),()),()):iy×eu×Unit)=>(True,Sp.place l id,())⟩
def zS:PA:=⟨107,[.v (.agg [.i,.i,.b,.i,.l bK iE]),.i],[.b],λ((f,u,()):rq×bn)=>(True,iF f u,())⟩
def zT:PA:=⟨121,[.v (.agg [.i,.i,.b,.i,.l bK iE]),.i],[.b],λ((f,u,()):rq×bn)=>(True,iF f u,())⟩
def qV:PA:=⟨75,[.v (.agg [.l au bJ,.l aA aQ,.i]),.i],[.agg [.l au bJ,.l aA aQ,.i]],λ((s,u,()):zi×bn)=>(iK s,Sp.visible s u,())⟩
def qW:PA:=⟨89,[.v (.agg [.l au bJ,.l aA aQ,.i]),.i],[.agg [.l au bJ,.l aA aQ,.i]],λ((s,u,()):zi×bn)=>(iK s,Sp.visible s u,())⟩
def nM:XA:=⟨50,[.p (.v (.agg [.l au bJ,.l aA aQ,.i])),.l aI aY,.i],[.l aS fV,.b],λ((s,d,u,()):zi×gy×bn)=>(fO d,λ(z:Gl)=>z.1.1=(iU s d u).1/\z.1.2.1=(iU s d u).2)⟩
def nN:XA:=⟨41,[.p (.v (.agg [.l au bJ,.l aA aQ,.i])),.l aI aY,.i],[.l aS fV,.b],λ((s,d,u,()):zi×gy×bn)=>(fO d,λ(z:Gl)=>z.1.1=(iU s d u).1/\z.1.2.1=(iU s d u).2)⟩
def zU:PA:=⟨26,[.v (.agg [.l au bJ,.l aA aQ,.i]),.l aI aY,.i,.s],[.f aV dn],λ((s,d,u,name,()):zi×gy×Int×jB)=>(fO d,xO s d u name,())⟩
def zV:PA:=⟨19,[.v (.agg [.l au bJ,.l aA aQ,.i]),.l aI aY,.i,.s],[.f aV dn],λ((s,d,u,name,()):zi×gy×Int×jB)=>(fO d,xO s d u name,())⟩
def lV:PA:=⟨138,[.l bg fU],[.l bg fU],λ((l,()):qA)=>(l.length<=10000000,l,())⟩
def zW:PA:=⟨115,[.v (.agg [.s,.l bg fU])],[.agg [.s,.l bg fU]],λ(((n,q,()),()):(bG×qA)×Unit)=>(q.length<=10000000,(n,q,()),())⟩
def yI:PA:=⟨85,[.l aI aY],[.l aI aY],λ((d,()):tX)=>(fO d,d,())⟩
def zX:PA:=⟨71,[.l aI aY],[.f aI aY],λ((d,()):tX)=>(fO d,d,())⟩
def wu:XA:=⟨114,[.l aA aQ],[.one (.own aA aQ false)],λ((l,()):DL)=>(l.length<=2000000/\∀f∈l,EX f,λ(z:DL×Unit)=>z.1.1=l)⟩
def wz:XA:=⟨84,[.p (.v (.agg [.l au bJ,.l aA aQ,.i]))],[.agg [.l au bJ,.own aA aQ false,.i]],λ((s,()):Dh)=>(Sp.bigS s,λ(z:Dh×Unit)=>z.1.1=s)⟩
def zY:XA:=⟨70,[.p (.v (.agg [.l au bJ,.l aA aQ,.i]))],[.agg [.own au bJ true,.own aA aQ true,.i]],λ((s,()):Dh)=>(Sp.bigS s,λ(z:Dh×Unit)=>z.1.1=s)⟩
def qX:XA:=⟨49,[.p (.v (.agg [.l au bJ,.l aA aQ,.i,.l aI aY]))],[.agg [.l au bJ,.l aA aQ,.i,.l aI aY]],λ((x,()):Np×Unit)=>(abj x,λ(z:abf)=>z.1.1=x)⟩
def yJ:XA:=⟨40,[.p (.v (.agg [.l au bJ,.l aA aQ,.i,.l aI aY]))],[.agg [.f au bJ,.f aA aQ,.i,.f aI aY]],λ((x,()):Np×Unit)=>(abj x,λ(z:abf)=>z.1.1=x)⟩
def yK:PA:=⟨39,[.l dN pJ,.i],[.i],λ((v,n,()):uH×bn)=>(True,bF v n,())⟩
def nX:PA:=⟨83,[.v (.agg [.i,.l au bJ,.l aA aQ,.i,.l aI aY,.i]),.kp [.i]],[.b],λ(((n,_,_,_,_,_,()),number,()):VU×eu)=>(True,(n==number.1),())⟩
def eP:PA:=⟨82,[.l dN pJ,.fn 83 [[.i]]],[.i],λ((v,((n,()),()),()):uH×eu×Unit)=>(True,bF v n,())⟩
def wB:PA:=⟨48,[.l dN pJ,.i],[.i],λ((v,n,()):uH×bn)=>(True,bF v n,())⟩
def sK:XA:=⟨25,[.l dN pJ,.i],[.agg [.l au bJ,.l aA aQ,.i,.l aI aY],.b],λ((v,n,()):uH×bn)=>(yx v,λ(z:abg)=>z.1.1=(dI v n).1/\z.1.2.1=(dI v n).2)⟩
def sN:XA:=⟨18,[.l dN pJ,.i],[.agg [.f au bJ,.f aA aQ,.i,.f aI aY],.b],λ((v,n,()):uH×bn)=>(yx v,λ(z:abg)=>z.1.1=(dI v n).1/\z.1.2.1=(dI v n).2)⟩
def iV:PA:=⟨7,[.v (.agg [.l au bJ,.l aA aQ,.i,.l aI aY,.l aS fV,.s,.s,.i,.l dN pJ,.l ig sO,.l aV dn]),.i,.i,.s],[.f aV dn,.b],λ(((_,_,_,_,_,_,_,_,v,_,_,()),n,u,name,()):VX×Int×Int×jB)=>(yx v,zo v n u name,(dI v n).2,())⟩
def iW:PA:=⟨5,[.v (.agg [.l au bJ,.l aA aQ,.i,.l aI aY,.l aS fV,.s,.s,.i,.l dN pJ,.l ig sO,.l aV dn]),.i,.i,.s],[.f aV dn,.b],λ(((_,_,_,_,_,_,_,_,v,_,_,()),n,u,name,()):VX×Int×Int×jB)=>(yx v,zo v n u name,(dI v n).2,())⟩
def oH:PA:=⟨62,[.i],[.s],λ((k,()):bn)=>(0<=k/\k<=1000000000,Sp.markT k,())⟩
def oI:PA:=⟨12,[.l aV dn,.i],[.i],λ((a,k,()):fB×bn)=>(0<=k/\k<=10000000/\a.length<=4000000,GK a k,())⟩
def uS:PA:=⟨152,[.v (.agg [.i,.i,.s]),.i],[.i],λ(((_,_,s,()),left,()):(Int×Int×jB)×bn)=>(0<=left/\left<=1048576,aH s.length left,())⟩
def Cb:PA:=⟨151,[.v (.agg [.s,.i,.i,.s]),.i],[.i],λ((a,left,()):Ty0×bn)=>(0<=left/\left<=1048576,aH (Nq a) left,())⟩
def Cc:PA:=⟨129,[.v (.agg [.i,.i,.i,.s,.i,.i,.s]),.i],[.i],λ((a,left,()):C9×bn)=>(0<=left/\left<=1048576,aH (Nr a) left,())⟩
def zZ:PA:=⟨128,[.l qf qY,.i],[.i],λ((a,left,()):jG×bn)=>(0<=left/\left<=1048576,aH (zq a) left,())⟩
def Aa:PA:=⟨101,[.l qg kF,.i],[.i],λ((a,left,()):jC×bn)=>(0<=left/\left<=1048576,aH (Bz a) left,())⟩
def Ce:PA:=⟨100,[.v (.agg [.i,.i,.b,.i,.l qf qY]),.i],[.i],λ((a,left,()):rq×bn)=>(0<=left/\left<=1048576,aH (Fq a) left,())⟩
def DV:PA:=⟨66,[.v (.agg [.s,.l qg kF]),.i],[.i],λ((a,left,()):(bG×qA)×bn)=>(0<=left/\left<=1048576,aH (Kw a) left,())⟩
def Ac:PA:=⟨99,[.v (.agg [.s,.i]),.i],[.i],λ((a,left,()):(bG×bn)×bn)=>(0<=left/\left<=1048576,aH (Ic a) left,())⟩
def yL:PA:=⟨64,[.l bY dF,.i],[.i],λ((a,left,()):eX×bn)=>(0<=left/\left<=1048576,aH (qp a) left,())⟩
def Ad:PA:=⟨65,[.l dG jE,.i],[.i],λ((a,left,()):iy×bn)=>(0<=left/\left<=1048576,aH (BA a) left,())⟩
def uT:PA:=⟨34,[.v (.agg [.l bY dF,.l dG jE,.i]),.i],[.i],λ((a,left,()):zi×bn)=>(0<=left/\left<=1048576,aH (zu a) left,())⟩
def xw:PA:=⟨35,[.l fA lJ,.i],[.i],λ((a,left,()):gy×bn)=>(0<=left/\left<=1048576,aH (pK a) left,())⟩
def yM:PA:=⟨67,[.v (.agg [.s,.l aV dn]),.i],[.i],λ((a,left,()):(bG×jH)×bn)=>(0<=left/\left<=1048576,aH (abk a) left,())⟩
def wC:PA:=⟨36,[.l gu iI,.i],[.i],λ((a,left,()):oz×bn)=>(0<=left/\left<=1048576,aH (Fv a) left,())⟩
def wE:PA:=⟨13,[.v (.agg [.l bY dF,.l dG jE,.i,.l fA lJ,.l gu iI]),.i],[.i],λ((a,left,()):aeM×bn)=>(0<=left/\left<=1048576,aH (Qu a) left,())⟩
def uq:PA:=⟨68,[.v (.agg [.l bY dF,.l dG jE,.i,.l fA lJ]),.i],[.i],λ((a,left,()):Np×bn)=>(0<=left/\left<=1048576,aH (Ju a) left,())⟩
def wF:PA:=⟨37,[.v (.agg [.i,.l bY dF,.l dG jE,.i,.l fA lJ,.i]),.i],[.i],λ((a,left,()):VU×bn)=>(0<=left/\left<=1048576,aH (Ky a) left,())⟩
def uw:PA:=⟨15,[.l jk Gm,.i],[.i],λ((a,left,()):uH×bn)=>(0<=left/\left<=1048576,aH (sQ a) left,())⟩
def Ae:PA:=⟨102,[.v (.agg [.i,.l aV dn,.l aV dn]),.i],[.i],λ((a,left,()):abd×bn)=>(0<=left/\left<=1048576,aH (wEv a) left,())⟩
def yN:PA:=⟨69,[.l nY Af,.i],[.i],λ((a,left,()):Dc×bn)=>(0<=left/\left<=1048576,aH (EY a) left,())⟩
def Ag:PA:=⟨38,[.v (.agg [.i,.s,.l aV dn,.l nY Af]),.i],[.i],λ((a,left,()):Ty6×bn)=>(0<=left/\left<=1048576,aH (VZ a) left,())⟩
def yO:PA:=⟨16,[.l kQ Gn,.i],[.i],λ((a,left,()):zh×bn)=>(0<=left/\left<=1048576,aH (Ci a) left,())⟩
def oJ:PA:=⟨4,[.v (.agg [.l bY dF,.l dG jE,.i,.l fA lJ,.l gu iI,.s,.s,.i,.l jk Gm,.l kQ Gn,.l aV dn]),.i],[.i],λ((a,left,()):VX×bn)=>(0<=left/\left<=1048576,aH (Ns a) left,())⟩
def oV:PA:=⟨17,[.l aV dn,.i],[.i],λ((a,left,()):fB×bn)=>(0<=left/\left<=1048576,aH a.length left,())⟩
def Cj:PA:=⟨14,[.v (.agg [.s,.s]),.i],[.i],λ(((a,b,()),left,()):(bG×jB)×bn)=>(0<=left/\left<=1048576,aH (a.length+b.length) left,())⟩
def uU:PA:=⟨160,[.v (.agg [.i,.i,.s])],[.agg [.i,.i,.s]],λ(((k,i,s,()),()):H9)=>(True,(k,i,s,()),())⟩
def Cm:PA:=⟨159,[.v (.agg [.s,.i,.i,.s])],[.agg [.s,.i,.i,.s]],λ(((n,k,i,s,()),()):Ty0×Unit)=>(True,(n,k,i,s,()),())⟩
def CB:PA:=⟨137,[.v (.agg [.i,.i,.i,.s,.i,.i,.s])],[.agg [.i,.i,.i,.s,.i,.i,.s]],λ(((o,l,r,n,k,i,s,()),()):C9×Unit)=>(True,(o,l,r,n,k,i,s,()),())⟩
def Ah:PA:=⟨136,[.l qf qY],[.f bK iE],λ((a,()):jG×Unit)=>(zq a<=big,a,())⟩
def Ai:PA:=⟨111,[.l qg kF],[.f bg fU],λ((a,()):qA)=>(Bz a<=big,a,())⟩
def CG:PA:=⟨110,[.v (.agg [.i,.i,.b,.i,.l qf qY])],[.agg [.i,.i,.b,.i,.f bK iE]],λ(((i,o,s,l,a,()),()):rq×Unit)=>(zq a<=big,(i,o,s,l,a,()),())⟩
def DW:PA:=⟨78,[.v (.agg [.s,.l qg kF])],[.agg [.s,.f bg fU]],λ(((n,q,()),()):(bG×qA)×Unit)=>(Bz q<=big,(n,q,()),())⟩
def Aj:PA:=⟨109,[.v (.agg [.s,.i])],[.agg [.s,.i]],λ(((n,k,()),()):(bG×bn)×Unit)=>(True,(n,k,()),())⟩
def yP:PA:=⟨76,[.l bY dF],[.f au bJ],λ((a,()):eX×Unit)=>(qp a<=big,a,())⟩
def Ak:PA:=⟨77,[.l dG jE],[.f aA aQ],λ((a,()):DL)=>(BA a<=big,a,())⟩
def uV:PA:=⟨43,[.v (.agg [.l bY dF,.l dG jE,.i])],[.agg [.f au bJ,.f aA aQ,.i]],λ(((a,l,n,()),()):Dh)=>(zu (a,l,n,())<=big,(a,l,n,()),())⟩
def xA:PA:=⟨44,[.l fA lJ],[.f aI aY],λ((a,()):tX)=>(pK a<=big,a,())⟩
def oW:PA:=⟨24,[.l aV dn],[.f aV dn],λ((a,()):jH)=>(a.length<=big,a,())⟩
def yQ:PA:=⟨79,[.v (.agg [.s,.l aV dn])],[.agg [.s,.f aV dn]],λ(((n,l,()),()):(bG×jH)×Unit)=>(l.length<=big,(n,l,()),())⟩
def wG:PA:=⟨45,[.l gu iI],[.f aS fV],λ((a,()):zk)=>(Fv a<=big,a,())⟩
def wH:PA:=⟨20,[.v (.agg [.l bY dF,.l dG jE,.i,.l fA lJ,.l gu iI])],[.agg [.f au bJ,.f aA aQ,.i,.f aI aY,.f aS fV]],λ(((a,l,n,d,r,()),()):aeM×Unit)=>(Qu (a,l,n,d,r,())<=big,(a,l,n,d,r,()),())⟩
def CJ:PA:=⟨21,[.v (.agg [.s,.s])],[.agg [.s,.s]],λ(((a,b,()),()):(bG×jB)×Unit)=>(True,(a,b,()),())⟩
def uy:PA:=⟨80,[.v (.agg [.l bY dF,.l dG jE,.i,.l fA lJ])],[.agg [.f au bJ,.f aA aQ,.i,.f aI aY]],λ(((a,l,n,d,()),()):Np×Unit)=>(Ju (a,l,n,d,())<=big,(a,l,n,d,()),())⟩
def wI:PA:=⟨46,[.v (.agg [.i,.l bY dF,.l dG jE,.i,.l fA lJ,.i])],[.agg [.i,.f au bJ,.f aA aQ,.i,.f aI aY,.i]],λ(((m,a,l,n,d,p,()),()):VU×Unit)=>(Ju (a,l,n,d,())<=big,(m,a,l,n,d,p,()),())⟩
def uz:PA:=⟨22,[.l jk Gm],[.f dN pJ],λ((a,()):uH×Unit)=>(sQ a<=big,a,())⟩
def Am:PA:=⟨112,[.v (.agg [.i,.l aV dn,.l aV dn])],[.agg [.i,.f aV dn,.f aV dn]],λ(((n,a,b,()),()):abd×Unit)=>(a.length+b.length<=big,(n,a,b,()),())⟩
def yR:PA:=⟨81,[.l nY Af],[.f je CO],λ((a,()):Dc×Unit)=>(EY a<=big,a,())⟩
def Ap:PA:=⟨47,[.v (.agg [.i,.s,.l aV dn,.l nY Af])],[.agg [.i,.s,.f aV dn,.f je CO]],λ(((u,n,l,e,()),()):Ty6×Unit)=>(l.length+EY e<=big,(u,n,l,e,()),())⟩
def yS:PA:=⟨23,[.l kQ Gn],[.f ig sO],λ((a,()):zh×Unit)=>(Ci a<=big,a,())⟩
def oK:PA:=⟨6,[.v (.agg [.l bY dF,.l dG jE,.i,.l fA lJ,.l gu iI,.s,.s,.i,.l jk Gm,.l kQ Gn,.l aV dn])],[.agg [.f au bJ,.f aA aQ,.i,.f aI aY,.f aS fV,.s,.s,.i,.f dN pJ,.f ig sO,.f aV dn]],λ(((a,l,n,d,r,da,db,m,v,w,q,()),()):VX×Unit)=>(Ns (a,l,n,d,r,da,db,m,v,w,q,())<=big,(a,l,n,d,r,da,db,m,v,w,q,()),())⟩
def uX:PA:=⟨171,[.v (.agg [.i,.i,.s]),.v (.agg [.i,.i,.s])],[.b],λ((a,b,()):(Int×Int×jB)×H9)=>(a=b,true,())⟩
def CP:PA:=⟨170,[.v (.agg [.s,.i,.i,.s]),.v (.agg [.s,.i,.i,.s])],[.b],λ((a,b,()):Ty0×Ty0×Unit)=>(a=b,true,())⟩
def CQ:PA:=⟨150,[.v (.agg [.i,.i,.i,.s,.i,.i,.s]),.v (.agg [.i,.i,.i,.s,.i,.i,.s])],[.b],λ((a,b,()):C9×C9×Unit)=>(a=b,true,())⟩
def Aq:PA:=⟨149,[.l bK iE,.l bK iE],[.b],λ((a,b,()):jG×jG×Unit)=>(a=b,true,())⟩
def Ar:PA:=⟨126,[.l bg fU,.l bg fU],[.b],λ((a,b,()):jC×qA)=>(a=b,true,())⟩
def CS:PA:=⟨125,[.v (.agg [.i,.i,.b,.i,.l bK iE]),.v (.agg [.i,.i,.b,.i,.l bK iE])],[.b],λ((a,b,()):rq×rq×Unit)=>(a=b,true,())⟩
def DX:PA:=⟨93,[.v (.agg [.s,.l bg fU]),.v (.agg [.s,.l bg fU])],[.b],λ((a,b,()):(bG×qA)×(bG×qA)×Unit)=>(a=b,true,())⟩
def Au:PA:=⟨124,[.v (.agg [.s,.i]),.v (.agg [.s,.i])],[.b],λ((a,b,()):(bG×bn)×(bG×bn)×Unit)=>(a=b,true,())⟩
def yT:PA:=⟨91,[.l au bJ,.l au bJ],[.b],λ((a,b,()):eX×eX×Unit)=>(a=b,true,())⟩
def Aw:PA:=⟨92,[.l aA aQ,.l aA aQ],[.b],λ((a,b,()):iy×DL)=>(a=b,true,())⟩
def uY:PA:=⟨52,[.v (.agg [.l au bJ,.l aA aQ,.i]),.v (.agg [.l au bJ,.l aA aQ,.i])],[.b],λ((a,b,()):zi×Dh)=>(a=b,true,())⟩
def xB:PA:=⟨53,[.l aI aY,.l aI aY],[.b],λ((a,b,()):gy×tX)=>(a=b,true,())⟩
def jL:PA:=⟨8,[.l aV dn,.l aV dn],[.b],λ((a,b,()):fB×jH)=>(a=b,true,())⟩
def yU:PA:=⟨94,[.v (.agg [.s,.l aV dn]),.v (.agg [.s,.l aV dn])],[.b],λ((a,b,()):(bG×jH)×(bG×jH)×Unit)=>(a=b,true,())⟩
def wJ:PA:=⟨54,[.l aS fV,.l aS fV],[.b],λ((a,b,()):oz×zk)=>(a=b,true,())⟩
def wK:PA:=⟨27,[.v (.agg [.l au bJ,.l aA aQ,.i,.l aI aY,.l aS fV]),.v (.agg [.l au bJ,.l aA aQ,.i,.l aI aY,.l aS fV])],[.b],λ((a,b,()):aeM×aeM×Unit)=>(a=b,true,())⟩
def CU:PA:=⟨28,[.v (.agg [.s,.s]),.v (.agg [.s,.s])],[.b],λ((a,b,()):(bG×jB)×(bG×jB)×Unit)=>(a=b,true,())⟩
def uD:PA:=⟨95,[.v (.agg [.l au bJ,.l aA aQ,.i,.l aI aY]),.v (.agg [.l au bJ,.l aA aQ,.i,.l aI aY])],[.b],λ((a,b,()):Np×Np×Unit)=>(a=b,true,())⟩
def wL:PA:=⟨55,[.v (.agg [.i,.l au bJ,.l aA aQ,.i,.l aI aY,.i]),.v (.agg [.i,.l au bJ,.l aA aQ,.i,.l aI aY,.i])],[.b],λ((a,b,()):VU×VU×Unit)=>(a=b,true,())⟩
def uF:PA:=⟨29,[.l dN pJ,.l dN pJ],[.b],λ((a,b,()):uH×uH×Unit)=>(a=b,true,())⟩
def Az:PA:=⟨127,[.v (.agg [.i,.l aV dn,.l aV dn]),.v (.agg [.i,.l aV dn,.l aV dn])],[.b],λ((a,b,()):abd×abd×Unit)=>(a=b,true,())⟩
def yV:PA:=⟨96,[.l je CO,.l je CO],[.b],λ((a,b,()):Dc×Dc×Unit)=>(a=b,true,())⟩
def AA:PA:=⟨56,[.v (.agg [.i,.s,.l aV dn,.l je CO]),.v (.agg [.i,.s,.l aV dn,.l je CO])],[.b],λ((a,b,()):Ty6×Ty6×Unit)=>(a=b,true,())⟩
def yX:PA:=⟨30,[.l ig sO,.l ig sO],[.b],λ((a,b,()):zh×zh×Unit)=>(a=b,true,())⟩
def oL:PA:=⟨9,[.v (.agg [.l au bJ,.l aA aQ,.i,.l aI aY,.l aS fV,.s,.s,.i,.l dN pJ,.l ig sO,.l aV dn]),.v (.agg [.l au bJ,.l aA aQ,.i,.l aI aY,.l aS fV,.s,.s,.i,.l dN pJ,.l ig sO,.l aV dn])],[.b],λ((a,b,()):VX×VX×Unit)=>(a=b,true,())⟩
def Kz[yj]:jf:=Fz [o8.e,kZ.e,(oM,.pure ru),uO.e,qo.e]
def Nu[yj]:jf:=Fz [o9.e,nC.e,(qZ,.pure uP),uN.e]
end
end Go.Proofs.Tryz
