import Derived.Test.YtkogcnaellmcdaaGreatN
import Derived.Test.YtkogcnaellmcdaaGreatSp
namespace Go.Proofs.Tryz
open Go Go.Fw Sp
abbrev bf:=List UInt8
abbrev ku:=bf×Unit
abbrev Ty0:=bf×Int×Int×ku
abbrev CG:=Int×Int×Int×Ty0
abbrev jr:=List CG
abbrev uY:=jr×Unit
abbrev fQ:=List (bf×uY)
abbrev aX:=Int×Unit
abbrev dG:=List aX
abbrev ji:=List Ty0
abbrev sG:=Int×Int×Bool×Int×ji×Unit
abbrev fO:=List sG
abbrev eG:=List (bf×aX)
abbrev gG:=dG×Unit
abbrev uZ:=List (Int×dG×gG)
abbrev ED:=uZ×Unit
abbrev KW:=Int×bf×dG×ED
abbrev lD:=List (bf×gG)
abbrev aaO:=Int×eG×fO×Int×fQ×aX
abbrev qO:=List aaO
abbrev bG:=Bool×Unit
abbrev qP:=List KW
abbrev Hr:=eG×fO×Int×fQ×lD×bf×bf×Int×qO×qP×gG
abbrev AL:=List ku
abbrev sH:=(AL×Unit)×Unit
abbrev dW:=aX×Unit
abbrev pY:=eG×fO×aX
abbrev Ht:=(Int×Int×ku)×Unit
abbrev Dl:=(Int×aX)×Unit
abbrev FW:=(lD×bG)×Unit
abbrev VU:=(Int×dG×gG)×Unit
abbrev yP:=lD×Unit
abbrev CJ:=fQ×Unit
abbrev Qd:=(dG×bG)×Unit
abbrev aaP:=(lD×Int×bG)×Unit
abbrev CO:=gG×Unit
abbrev aea:=eG×fO×Int×fQ×yP
abbrev aaQ:=(KW×Unit)×Unit
abbrev aaR:=(KW×bG)×Unit
abbrev aeb:=eG×fO×Int×CJ
abbrev FX:=Unit×aX
class xI where n:Nat
abbrev xJ[xI]:Nat:=xI.n
noncomputable section
def gW:PA:=⟨81,[.i,.i,.i],[.b],λ((x,a,b,()):Int×Int×aX)=>(True,(decide (a<=x)&&decide (x<=b)),())⟩
def iR:PA:=⟨90,[.i,.i,.i],[.b],λ((x,a,b,()):Int×Int×aX)=>(True,(decide (a<=x)&&decide (x<=b)),())⟩
def tY:PA:=⟨186,[.s,.i],[.b],λ((s,m,()):bf×aX)=>(True,(Sp.lower s&&decide (1<=(s.length:Int))&&decide ((s.length:Int)<=m)),())⟩
def jw:PA:=⟨212,[.s],[.b],λ((s,()):ku)=>(True,dU s,())⟩
def jy:PA:=⟨218,[.s],[.b],λ((s,()):ku)=>(True,dU s,())⟩
def mQ:PA:=⟨184,[.v (.agg [.i,.i,.s])],[.b],λ(((k,n,s,()),()):Ht)=>(True,gq k n s,())⟩
def mV:PA:=⟨190,[.v (.agg [.i,.i,.s])],[.b],λ(((k,n,s,()),()):Ht)=>(True,gq k n s,())⟩
def kz:PA:=⟨159,[.s],[.b],λ((s,()):ku)=>(True,fA s,())⟩
def kC:PA:=⟨165,[.s],[.b],λ((s,()):ku)=>(True,fA s,())⟩
def ve:PA:=⟨185,[.l ax bW,.s],[.i],λ((fs,s,()):eG×ku)=>(True,Sp.kindOf fs s,())⟩
def vg:PA:=⟨191,[.l ax bW,.s],[.i],λ((fs,s,()):eG×ku)=>(True,Sp.kindOf fs s,())⟩
def lF:PA:=⟨133,[.l ax bW],[.b],λ((fs,()):eG×Unit)=>(True,bP fs,())⟩
def lG:PA:=⟨141,[.l ax bW],[.b],λ((fs,()):eG×Unit)=>(True,bP fs,())⟩
def oW:PA:=⟨158,[.l ax bW,.s,.v (.agg [.i,.i,.s])],[.b],λ((fs,s,(k,n,w,()),()):eG×bf×Ht)=>(True,fU fs s k n w,())⟩
def oZ:PA:=⟨164,[.l ax bW,.s,.v (.agg [.i,.i,.s])],[.b],λ((fs,s,(k,n,w,()),()):eG×bf×Ht)=>(True,fU fs s k n w,())⟩
def qZ:PA:=⟨132,[.l ax bW,.v (.agg [.i,.i,.b,.i,.l bK iF])],[.b],λ((fs,f,()):eG×sG×Unit)=>(True,dJ fs f,())⟩
def rq:PA:=⟨140,[.l ax bW,.v (.agg [.i,.i,.b,.i,.l bK iF])],[.b],λ((fs,f,()):eG×sG×Unit)=>(True,dJ fs f,())⟩
def mW:PA:=⟨101,[.v (.agg [.l ax bW,.l aJ aY,.i])],[.b],λ((s,()):pY×Unit)=>(True,aW s,())⟩
def mX:PA:=⟨108,[.v (.agg [.l ax bW,.l aJ aY,.i])],[.b],λ((s,()):pY×Unit)=>(True,aW s,())⟩
def zx:PA:=⟨131,[.v (.agg [.i,.i,.b,.i,.l bK iF])],[.agg [.i,.i,.b,.i,.f bK iF]],λ((f,()):sG×Unit)=>(Hu f,f,())⟩
def xW:PA:=⟨145,[.v (.agg [.i,.i,.b,.i,.l bK iF])],[.agg [.i,.i,.b,.i,.l bK iF]],λ((f,()):sG×Unit)=>(Hu f,f,())⟩
def qV:PA:=⟨109,[.i],[.b],λ((u,()):aX)=>(True,(decide (0<=u)&&decide (u<=2)),())⟩
def xX:PA:=⟨136,[.v (.agg [.l ax bW,.l aJ aY,.i]),.i],[.i],λ(((_,fs,_,()),id,()):pY×aX)=>(True,Sp.place fs id,())⟩
def kZ:PA:=⟨137,[.l ax bW],[.l ax bW],λ((l,()):eG×Unit)=>(l.length<=1000,l,())⟩
def lH:PA:=⟨170,[.l bK iF],[.l bK iF],λ((l,()):ji×Unit)=>(l.length<=1000,l,())⟩
def ru:PA:=⟨229,[.v (.agg [.i,.i,.i,.s,.i,.i,.s]),.i],[.b],λ(((o,l,r,nm,vk,vi,vs,()),at',()):CG×aX)=>(True,iI (o,l,r,nm,vk,vi,vs,()) at',())⟩
def rC:PA:=⟨233,[.v (.agg [.i,.i,.i,.s,.i,.i,.s]),.i],[.b],λ(((o,l,r,nm,vk,vi,vs,()),at',()):CG×aX)=>(True,iI (o,l,r,nm,vk,vi,vs,()) at',())⟩
def nD:PA:=⟨230,[.l bH iw,.i],[.i],λ((q,at',()):jr×aX)=>(q.length<=2000000,(jQ q at':Int),())⟩
def nG:PA:=⟨234,[.l bH iw,.i],[.i],λ((q,at',()):jr×aX)=>(q.length<=2000000,(jQ q at':Int),())⟩
def jY:PA:=⟨213,[.l bH iw],[.b],λ((q,()):uY)=>(q.length<=2000000,aS q,())⟩
def jZ:PA:=⟨219,[.l bH iw],[.b],λ((q,()):uY)=>(q.length<=2000000,aS q,())⟩
def rD:PA:=⟨187,[.l aQ bn],[.b],λ((d,()):CJ)=>(iq d,dM d,())⟩
def rE:PA:=⟨192,[.l aQ bn],[.b],λ((d,()):CJ)=>(iq d,dM d,())⟩
def xY:PA:=⟨238,[.v (.agg [.i,.i,.i,.s,.i,.i,.s])],[.b],λ(((o,_,_,_,_,_,_,()),()):CG×Unit)=>(True,(o==8||o==9),())⟩
def qw:PA:=⟨244,[.l bH iw],[.f X9 R_4],λ((q,()):uY)=>(q.length<=1000,Sp.negated q,())⟩
def qx:PA:=⟨237,[.l bH iw],[.f X9 R_4],λ((q,()):uY)=>(q.length<=1000,Sp.negated q,())⟩
def nS:List gJ:=[.p (.v (.one (.sl iO oO false)))]
def xK:List kN:=[.one (.c (.sl iO oO true))]
def Gl:lI nS->Prop×(xZ xK×vw nS->Prop):=λ(l,())=>(l.length<=1000,λ((r,()),())=>r.length<=l.length/\∀s,s∈r↔s∈l)
def xM:Qe:=aaS nS xK Gl
def qc:XA:=⟨221,[.l bH iw,.b],[.f iO oO],λ((q,neg,()):jr×bG)=>(q.length<=1000,λ(z:sH)=>gu z.1.1 (dH q neg))⟩
def qy:XA:=⟨194,[.l bH iw],[.f iO oO],λ((q,()):uY)=>(q.length<=1000,λ(z:sH)=>gu z.1.1 (dH q false))⟩
def qA:XA:=⟨195,[.l bH iw],[.f iO oO],λ((q,()):uY)=>(q.length<=1000,λ(z:sH)=>gu z.1.1 (dH q true))⟩
def BH:PA:=⟨245,[.l iO oO,.s],[.l iO oO],λ((l,s,()):AL×ku)=>(l.length<=1000,CP l s,())⟩
def rF:XA:=⟨231,[.l bH iw,.b],[.f iO oO],λ((q,neg,()):jr×bG)=>(q.length<=1000,λ(z:sH)=>gu z.1.1 (dH q neg))⟩
def qB:XA:=⟨214,[.l bH iw],[.f iO oO],λ((q,()):uY)=>(q.length<=1000,λ(z:sH)=>gu z.1.1 (dH q false))⟩
def qC:XA:=⟨216,[.l bH iw],[.f iO oO],λ((q,()):uY)=>(q.length<=1000,λ(z:sH)=>gu z.1.1 (dH q true))⟩
def tZ:PA:=⟨236,[.v (.agg [.s,.l bH iw]),.kp [.s]],[.b],λ(((nm,_,()),name,()):(bf×uY)×ku×Unit)=>(True,(nm==name.1),())⟩
def fD:PA:=⟨235,[.l aQ bn,.fn 236 [[.s]]],[.i],λ((d,((name,()),()),()):fQ×(ku×Unit)×Unit)=>(True,aC d name,())⟩
def Dn:PA:=⟨220,[.l aQ bn,.s],[.i],λ((d,name,()):fQ×ku)=>(True,aC d name,())⟩
def yc:PA:=⟨215,[.l aQ bn,.s],[.i],λ((d,name,()):fQ×ku)=>(True,aC d name,())⟩
def rG:PA:=⟨193,[.l aQ bn,.l aF bD,.l iO oO,.i],[.i],λ((d,au,names,more,()):fQ×dG×AL×aX)=>(d.length<=au.length/\names.length<=1000/\0<=more/\more<=1/\∀x∈au,0<=x.1/\x.1<=1000000,rH d au more names,())⟩
def wL:XA:=⟨166,[.l aQ bn],[.f aF bD,.b],λ((d,()):CJ)=>(iq d,λ(z:Qd)=>z.1.2.1=aI d/\(z.1.2.1=true->jA d z.1.1))⟩
def oh:XA:=⟨188,[.l aQ bn,.l aF bD],[.o aF bD],λ((d,au,()):fQ×gG)=>(qf d/\d.length<=5/\au.length=d.length/\∀x∈au,0<=x.1/\x.1<=1000000,λ(z:CO)=>Sp.raised d au z.1.1)⟩
def pR:PA:=⟨45,[.l aF bD,.l aF bD],[.b],λ((a,b,()):dG×gG)=>(True,decide (a=b),())⟩
def wM:XA:=⟨160,[.l aQ bn],[.f aF bD,.b],λ((d,()):CJ)=>(iq d,λ(z:Qd)=>z.1.2.1=aI d/\(z.1.2.1=true->jA d z.1.1)/\(z.1.2.1=false->z.1.1=[]))⟩
def pU:PA:=⟨240,[.v (.agg [.i,.i,.b,.i,.l bK iF]),.s],[.agg [.i,.i,.s]],λ(((_,_,_,_,a,()),name,()):sG×ku)=>(True,dY a name,())⟩
def uf:PA:=⟨232,[.v (.agg [.i,.i,.b,.i,.l bK iF]),.s],[.agg [.i,.i,.s]],λ(((_,_,_,_,a,()),name,()):sG×ku)=>(True,dY a name,())⟩
def ug:PA:=⟨241,[.v (.agg [.i,.i,.b,.i,.l bK iF]),.s],[.i,.b],λ(((_,_,_,_,a,()),name,()):sG×ku)=>(True,(bif (dY a name).1==1 then(dY a name).2.1 else 0),((dY a name).1==1),())⟩
def rJ:PA:=⟨200,[.l aF bD,.i],[.i],λ((s,v,()):dG×aX)=>(True,Sp.findAt (λx=>x.1==v) s,())⟩
def kP:PA:=⟨179,[.l aF bD,.i],[.b],λ((s,v,()):dG×aX)=>(True,dh s v,())⟩
def oq:PA:=⟨196,[.l iO oO,.s],[.i],λ((s,v,()):AL×ku)=>(True,Sp.findAt (λx=>x.1==v) s,())⟩
def lJ:PA:=⟨167,[.l iO oO,.s],[.b],λ((s,v,()):AL×ku)=>(True,qg s v,())⟩
def oP:PA:=⟨242,[.l aF bD,.i],[.b],λ((s,v,()):dG×aX)=>(True,dh s v,())⟩
def l7:PA:=⟨149,[.l aF bD,.i],[.b],λ((s,v,()):dG×aX)=>(True,dh s v,())⟩
def jk:PA:=⟨112,[.l aF bD],[.l aF bD],λ((l,()):gG)=>(l.length<=10000000,l,())⟩
def kL:PA:=⟨67,[.l aO fE,.s],[.l aF bD],λ((r,name,()):lD×ku)=>(bQ r,dV r name,())⟩
def ng:PA:=⟨63,[.l aO fE,.s],[.f aF bD],λ((r,name,()):lD×ku)=>(bQ r,dV r name,())⟩
def Gm:List fC:=[.v (.one (.sl bH iw false)),.v (.one (.int .i64)),.v (.agg [.int .i64,.int .i64,.bool,.int .i64,.sl bK iF false]),.v (.one (.sl aO fE false))]
def Fp:List kD:=[.one (.bool)]
def VW:jB Gm->Prop×o5 Fp:=λ(q,at',(i,o,s,l,a,()),r,())=>(aS q=true/\0<=at'/\at'<q.length/\bQ r,Sp.val q (i,o,s,l,a,()) (aT r) at'.toNat,())
def Fq:KX:=xO Gm Fp VW
def A8:List fC:=[.v (.one (.sl bH iw false)),.v (.one (.int .i64)),.v (.agg [.int .i64,.int .i64,.bool,.int .i64,.sl bK iF false]),.v (.one (.sl aO fE false))]
def Az:List kD:=[.one (.bool)]
def CW[xI]:jB A8->Prop×o5 Az:=λ(q,at',(i,o,s,l,a,()),r,())=>((aS q=true/\0<=at'/\at'<q.length/\bQ r)/\at'.toNat<xJ,Sp.val q (i,o,s,l,a,()) (aT r) at'.toNat,())
def qQ[xI]:KX:=xO A8 Az CW
def qR:List fC:=[.v (.one (.sl bH iw false)),.v (.one (.int .i64)),.v (.agg [.int .i64,.int .i64,.bool,.int .i64,.sl bK iF false]),.v (.one (.sl aO fE false))]
def yQ:List kD:=[.one (.bool)]
def Ba[xI]:jB qR->Prop×o5 yQ:=λ(q,at',(i,o,s,l,a,()),r,())=>((aS q=true/\0<=at'/\at'<q.length/\bQ r)/\at'.toNat<xJ+1,Sp.val q (i,o,s,l,a,()) (aT r) at'.toNat,())
def yR[xI]:KX:=xO qR yQ Ba
def Ji:List fC:=[.v (.one (.sl bH iw false)),.v (.one (.int .i64)),.v (.agg [.int .i64,.int .i64,.bool,.int .i64,.sl bK iF false]),.v (.one (.sl aO fE false))]
def Hw:List kD:=[.one (.bool)]
def aaT:jB Ji->Prop×o5 Hw:=λ(q,at',(i,o,s,l,a,()),r,())=>(aS q=true/\0<=at'/\at'<q.length/\bQ r,Sp.val q (i,o,s,l,a,()) (aT r) at'.toNat,())
def Hy:KX:=xO Ji Hw aaT
def Dp:List fC:=[.v (.one (.sl bH iw false)),.v (.one (.int .i64)),.v (.agg [.int .i64,.int .i64,.bool,.int .i64,.sl bK iF false]),.v (.one (.sl aO fE false))]
def CX:List kD:=[.one (.bool)]
def Ep[xI]:jB Dp->Prop×o5 CX:=λ(q,at',(i,o,s,l,a,()),r,())=>((aS q=true/\0<=at'/\at'<q.length/\bQ r)/\at'.toNat<xJ,Sp.val q (i,o,s,l,a,()) (aT r) at'.toNat,())
def uh[xI]:KX:=xO Dp CX Ep
def uj:List fC:=[.v (.one (.sl bH iw false)),.v (.one (.int .i64)),.v (.agg [.int .i64,.int .i64,.bool,.int .i64,.sl bK iF false]),.v (.one (.sl aO fE false))]
def Bc:List kD:=[.one (.bool)]
def Dq[xI]:jB uj->Prop×o5 Bc:=λ(q,at',(i,o,s,l,a,()),r,())=>((aS q=true/\0<=at'/\at'<q.length/\bQ r)/\at'.toNat<xJ+1,Sp.val q (i,o,s,l,a,()) (aT r) at'.toNat,())
def Bd[xI]:KX:=xO uj Bc Dq
def zy:PA:=⟨198,[.l bH iw,.v (.agg [.i,.i,.b,.i,.l bK iF]),.l aO fE],[.b],λ((q,f,r,()):jr×sG×yP)=>(q.length<=1000/\bQ r,jM q f (aT r),())⟩
def zA:PA:=⟨189,[.l bH iw,.v (.agg [.i,.i,.b,.i,.l bK iF]),.l aO fE],[.b],λ((q,f,r,()):jr×sG×yP)=>(q.length<=1000/\bQ r,jM q f (aT r),())⟩
def rM:PA:=⟨169,[.v (.agg [.l ax bW,.l aJ aY,.i]),.l bH iw,.l aO fE],[.f aF bD],λ((s,q,r,()):pY×jr×yP)=>(iy s/\q.length<=1000/\bQ r,Sp.sel s.2.1 q (aT r),())⟩
def rO:PA:=⟨162,[.v (.agg [.l ax bW,.l aJ aY,.i]),.l bH iw,.l aO fE],[.f aF bD],λ((s,q,r,()):pY×jr×yP)=>(iy s/\q.length<=1000/\bQ r,Sp.sel s.2.1 q (aT r),())⟩
def nT:PA:=⟨53,[.l aF bD,.l aF bD],[.b],λ((a,b,()):dG×gG)=>(True,decide (a=b),())⟩
def vz:XA:=⟨197,[.l aF bD],[.i],λ((l,()):gG)=>(0<l.length,λ(z:dW)=>(∀x∈l,x.1<=z.1.1)/\z.1∈l)⟩
def tq:XA:=⟨168,[.l aQ bn],[.i],λ((d,()):CJ)=>(iq d,λ(z:dW)=>Ya d z.1.1)⟩
def tu:XA:=⟨161,[.l aQ bn],[.i],λ((d,()):CJ)=>(iq d,λ(z:dW)=>Ya d z.1.1)⟩
def yg:PA:=⟨143,[.l aQ bn],[.f iO oO],λ((d,()):CJ)=>(d.length<=2000000,lK d,())⟩
def vC:XA:=⟨142,[.p (.v (.agg [.l ax bW,.l aJ aY,.i])),.l aQ bn,.l aO fE,.l iO oO],[.l aO fE,.i,.b],λ((s,d,r,names,()):pY×fQ×lD×AL×Unit)=>(iy s/\iq d/\bQ r,λ(z:aaP)=>z.1.2.2.1=(aI d&&aW s)/\((z.1.2.2.1=true->jR s.2.1 d r (qg names) z.1.1)/\(z.1.2.2.1=false->z.1.1=[])))⟩
def yh:XA:=⟨110,[.p (.v (.agg [.l ax bW,.l aJ aY,.i])),.l aQ bn],[.l aO fE,.b],λ((s,d,()):pY×CJ)=>(iy s/\iq d,λ(z:FW)=>z.1.2.1=(aI d&&aW s)/\((z.1.2.1=true->jR s.2.1 d [] (λ_=>true) z.1.1)/\(z.1.2.1=false->z.1.1=[])))⟩
def BI:XA:=⟨134,[.p (.v (.agg [.l ax bW,.l aJ aY,.i])),.l aQ bn],[.one (.own aO fE false),.i,.b],λ((s,d,()):pY×CJ)=>(iy s/\iq d,λ(z:aaP)=>z.1.2.2.1=(aI d&&aW s)/\((z.1.2.2.1=true->jR s.2.1 d [] (λ_=>true) z.1.1)/\(z.1.2.2.1=false->z.1.1=[])))⟩
def yj:XA:=⟨102,[.p (.v (.agg [.l ax bW,.l aJ aY,.i])),.l aQ bn],[.one (.own aO fE false),.b],λ((s,d,()):pY×CJ)=>(iy s/\iq d,λ(z:FW)=>z.1.2.1=(aI d&&aW s)/\((z.1.2.1=true->jR s.2.1 d [] (λ_=>true) z.1.1)/\(z.1.2.1=false->z.1.1=[])))⟩
def BJ:PA:=⟨146,[.v (.agg [.l ax bW,.l aJ aY,.i]),.i],[.i],λ(((_,fs,_,()),id,()):pY×aX)=>(True,Sp.place fs id,())⟩
def rP:PA:=⟨172,[.v (.agg [.i,.i,.b,.i,.l bK iF]),.kp [.i]],[.b],λ(((i,_,_,_,_,()),id,()):sG×dW)=>(True,decide (i=id.1),())⟩
def eY:PA:=⟨171,[.l aJ aY,.fn 172 [[.i]]],[.i],λ((l,((id,()),()),()):fO×dW×Unit)=>(True,Sp.place l id,())⟩
def mM:XA:=⟨112,[.l aF bD],[.one (.own aF bD false)],λ((l,()):gG)=>(l.length<=10000000,λ(z:CO)=>z.1.1=l)⟩
def ni:PA:=⟨178,[.i,.kp [.l aF bD]],[.b],λ((x,b,()):Int×CO)=>(True,dh b.1 x,())⟩
def gm:PA:=⟨199,[.l aF bD,.fn 178 [[.l aF bD]]],[.i],λ((l,((b,()),()),()):dG×CO×Unit)=>(True,Sp.findAt (λx=>dh b x.1) l,())⟩
def fP:XA:=⟨177,[.own aF bD,.p (.fn 178 [[.l aF bD]])],[.one (.own aF bD false)],λ((s,((b,()),()),()):dG×CO×Unit)=>(s.length<=10000000,λ(z:CO)=>z.1.1=s.filter λx=>!dh b x.1)⟩
def pV:XA:=⟨153,[.l aF bD,.l aF bD],[.one (.own aF bD false)],λ((a,b,()):dG×gG)=>(a.length<=10000000,λ(z:CO)=>z.1.1=Sp.without a b)⟩
def yt:PA:=⟨150,[.l aF bD,.i],[.l aF bD],λ((l,n,()):dG×aX)=>(l.length<=10000000,xP l n,())⟩
def ou:PA:=⟨120,[.l aF bD,.v (.agg [.s,.l aF bD,.l aF bD])],[.f aF bD],λ((l,(_,x,y,()),()):dG×(bf×dG×gG)×Unit)=>(l.length+x.length<=8000000,lM l x y,())⟩
def zB:PA:=⟨135,[.v (.agg [.i,.i,.b,.i,.l bK iF]),.i],[.b],λ((f,u,()):sG×aX)=>(True,ig f u,())⟩
def zC:PA:=⟨144,[.v (.agg [.i,.i,.b,.i,.l bK iF]),.i],[.b],λ((f,u,()):sG×aX)=>(True,ig f u,())⟩
def qE:PA:=⟨103,[.v (.agg [.l ax bW,.l aJ aY,.i]),.i],[.agg [.l ax bW,.l aJ aY,.i]],λ((s,u,()):pY×aX)=>(iy s,Sp.visible s u,())⟩
def qF:PA:=⟨111,[.v (.agg [.l ax bW,.l aJ aY,.i]),.i],[.agg [.l ax bW,.l aJ aY,.i]],λ((s,u,()):pY×aX)=>(iy s,Sp.visible s u,())⟩
def nH:XA:=⟨66,[.p (.v (.agg [.l ax bW,.l aJ aY,.i])),.l aQ bn,.i],[.l aO fE,.b],λ((s,d,u,()):pY×fQ×aX)=>(iq d,λ(z:FW)=>z.1.1=(iK s d u).1/\z.1.2.1=(iK s d u).2)⟩
def nI:XA:=⟨62,[.p (.v (.agg [.l ax bW,.l aJ aY,.i])),.l aQ bn,.i],[.l aO fE,.b],λ((s,d,u,()):pY×fQ×aX)=>(iq d,λ(z:FW)=>z.1.1=(iK s d u).1/\z.1.2.1=(iK s d u).2)⟩
def zD:PA:=⟨35,[.v (.agg [.l ax bW,.l aJ aY,.i]),.l aQ bn,.i,.s],[.l aF bD],λ((s,d,u,name,()):pY×fQ×Int×ku)=>(iq d,zF s d u name,())⟩
def zG:PA:=⟨33,[.v (.agg [.l ax bW,.l aJ aY,.i]),.l aQ bn,.i,.s],[.l aF bD],λ((s,d,u,name,()):pY×fQ×Int×ku)=>(iq d,zF s d u name,())⟩
def CQ:List fC:=[.v (.one (.sl aF bD false)),.v (.one (.sl aF bD false)),.v (.one (.sl aF bD false))]
def Gn:List kD:=[.one (.sl aF bD true)]
def Yb:jB CQ->Prop×o5 Gn:=λ(ids,added,removed,())=>(ids.length+added.length<=8000000,lM ids added removed,())
def AO:KX:=xO CQ Gn Yb
def qG:PA:=⟨92,[.l aF bD,.l dK mO],[.l aF bD],λ((ids,es,()):dG×ED)=>(MZ ids es,Sp.replay ids es,())⟩
def qH:PA:=⟨83,[.l aF bD,.l dK mO],[.f aF bD],λ((ids,es,()):dG×ED)=>(MZ ids es,Sp.replay ids es,())⟩
def qI:PA:=⟨54,[.v (.agg [.i,.s,.l aF bD,.l dK mO])],[.l aF bD],λ((w,()):KW×Unit)=>(EF w,Sp.listing w,())⟩
def qJ:PA:=⟨46,[.v (.agg [.i,.s,.l aF bD,.l dK mO])],[.f aF bD],λ((w,()):KW×Unit)=>(EF w,Sp.listing w,())⟩
def vF:XA:=⟨125,[.p (.v (.agg [.i,.l aF bD,.l aF bD]))],[.agg [.i,.l aF bD,.l aF bD]],λ((e,()):VU)=>(aaU e,λ(z:VU×Unit)=>z.1.1=e)⟩
def vG:XA:=⟨91,[.p (.v (.agg [.i,.s,.l aF bD,.l dK mO]))],[.agg [.i,.s,.l aF bD,.own dK mO false]],λ((w,()):KW×Unit)=>(EF w,λ(z:aaQ)=>z.1.1=w)⟩
def vH:XA:=⟨119,[.l dK mO],[.o dK mO],λ((es,()):ED)=>(es.length<=4000000/\∀e∈es,aaU e,λ(z:ED×Unit)=>z.1.1=es)⟩
def oz:XA:=⟨82,[.p (.v (.agg [.i,.s,.l aF bD,.l dK mO]))],[.agg [.i,.s,.l aF bD,.l dK mO]],λ((w,()):KW×Unit)=>(EF w,λ(z:aaQ)=>z.1.1=w)⟩
def vI:XA:=⟨52,[.p (.v (.agg [.l ax bW,.l aJ aY,.i,.l aQ bn,.l aO fE,.s,.s,.i,.l eF nJ,.l fG sJ,.l aF bD])),.i],[.agg [.i,.s,.l aF bD,.l dK mO],.b],λ((x,i,()):Hr×aX)=>(Sp.hugeS x,λ(z:aaR)=>z.1.1=(jC x i).1/\z.1.2.1=(jC x i).2)⟩
def lg:PA:=⟨27,[.v (.agg [.l ax bW,.l aJ aY,.i,.l aQ bn,.l aO fE,.s,.s,.i,.l eF nJ,.l fG sJ,.l aF bD]),.i],[.b],λ((x,i,()):Hr×aX)=>(Sp.hugeS x,sK x i,())⟩
def jS:PA:=⟨8,[.v (.agg [.l ax bW,.l aJ aY,.i,.l aQ bn,.l aO fE,.s,.s,.i,.l eF nJ,.l fG sJ,.l aF bD])],[.b],λ((x,()):Hr×Unit)=>(Sp.hugeS x,Sp.streams x,())⟩
def vJ:XA:=⟨44,[.p (.v (.agg [.l ax bW,.l aJ aY,.i,.l aQ bn,.l aO fE,.s,.s,.i,.l eF nJ,.l fG sJ,.l aF bD])),.i],[.agg [.i,.s,.l aF bD,.l dK mO],.b],λ((x,i,()):Hr×aX)=>(Sp.hugeS x,λ(z:aaR)=>z.1.1=(jC x i).1/\z.1.2.1=(jC x i).2)⟩
def lq:PA:=⟨21,[.v (.agg [.l ax bW,.l aJ aY,.i,.l aQ bn,.l aO fE,.s,.s,.i,.l eF nJ,.l fG sJ,.l aF bD]),.i],[.b],λ((x,i,()):Hr×aX)=>(Sp.hugeS x,sK x i,())⟩
def jT:PA:=⟨6,[.v (.agg [.l ax bW,.l aJ aY,.i,.l aQ bn,.l aO fE,.s,.s,.i,.l eF nJ,.l fG sJ,.l aF bD])],[.b],λ((x,()):Hr×Unit)=>(Sp.hugeS x,Sp.streams x,())⟩
def um:PA:=⟨174,[.v (.agg [.i,.i,.s]),.i],[.i],λ(((_,_,s,()),left,()):(Int×Int×ku)×aX)=>(0<=left/\left<=1048576,aG s.length left,())⟩
def BK:PA:=⟨173,[.v (.agg [.s,.i,.i,.s]),.i],[.i],λ((a,left,()):Ty0×aX)=>(0<=left/\left<=1048576,aG (Yc a) left,())⟩
def BL:PA:=⟨148,[.v (.agg [.i,.i,.i,.s,.i,.i,.s]),.i],[.i],λ((a,left,()):CG×aX)=>(0<=left/\left<=1048576,aG (Tt a) left,())⟩
def zH:PA:=⟨147,[.l pz qK,.i],[.i],λ((a,left,()):ji×aX)=>(0<=left/\left<=1048576,aG (Dt a) left,())⟩
def zI:PA:=⟨117,[.l pF jU,.i],[.i],λ((a,left,()):jr×aX)=>(0<=left/\left<=1048576,aG (Bf a) left,())⟩
def BM:PA:=⟨116,[.v (.agg [.i,.i,.b,.i,.l pz qK]),.i],[.i],λ((a,left,()):sG×aX)=>(0<=left/\left<=1048576,aG (Tv a) left,())⟩
def Du:PA:=⟨77,[.v (.agg [.s,.l pF jU]),.i],[.i],λ((a,left,()):(bf×uY)×aX)=>(0<=left/\left<=1048576,aG (J3 a) left,())⟩
def zJ:PA:=⟨115,[.v (.agg [.s,.i]),.i],[.i],λ((a,left,()):(bf×aX)×aX)=>(0<=left/\left<=1048576,aG (Qg a) left,())⟩
def yu:PA:=⟨75,[.l dn dD,.i],[.i],λ((a,left,()):eG×aX)=>(0<=left/\left<=1048576,aG (xq a) left,())⟩
def zK:PA:=⟨76,[.l dF jD,.i],[.i],λ((a,left,()):fO×aX)=>(0<=left/\left<=1048576,aG (Hz a) left,())⟩
def uo:PA:=⟨39,[.v (.agg [.l dn dD,.l dF jD,.i]),.i],[.i],λ((a,left,()):pY×aX)=>(0<=left/\left<=1048576,aG (wO a) left,())⟩
def wP:PA:=⟨40,[.l eU lN,.i],[.i],λ((a,left,()):fQ×aX)=>(0<=left/\left<=1048576,aG (qL a) left,())⟩
def yw:PA:=⟨78,[.v (.agg [.s,.l aF bD]),.i],[.i],λ((a,left,()):(bf×gG)×aX)=>(0<=left/\left<=1048576,aG (aaV a) left,())⟩
def vK:PA:=⟨41,[.l gV gX,.i],[.i],λ((a,left,()):lD×aX)=>(0<=left/\left<=1048576,aG (Gv a) left,())⟩
def vM:PA:=⟨16,[.v (.agg [.l dn dD,.l dF jD,.i,.l eU lN,.l gV gX]),.i],[.i],λ((a,left,()):aea×aX)=>(0<=left/\left<=1048576,aG (Qh a) left,())⟩
def tC:PA:=⟨79,[.v (.agg [.l dn dD,.l dF jD,.i,.l eU lN]),.i],[.i],λ((a,left,()):aeb×aX)=>(0<=left/\left<=1048576,aG (Jj a) left,())⟩
def vN:PA:=⟨42,[.v (.agg [.i,.l dn dD,.l dF jD,.i,.l eU lN,.i]),.i],[.i],λ((a,left,()):aaO×aX)=>(0<=left/\left<=1048576,aG (aaW a) left,())⟩
def tH:PA:=⟨18,[.l jE HY,.i],[.i],λ((a,left,()):qO×aX)=>(0<=left/\left<=1048576,aG (yx a) left,())⟩
def zL:PA:=⟨118,[.v (.agg [.i,.l aF bD,.l aF bD]),.i],[.i],λ((a,left,()):(Int×dG×gG)×aX)=>(0<=left/\left<=1048576,aG (U2 a) left,())⟩
def yA:PA:=⟨80,[.l nU nK,.i],[.i],λ((a,left,()):uZ×aX)=>(0<=left/\left<=1048576,aG (yS a) left,())⟩
def zM:PA:=⟨43,[.v (.agg [.i,.s,.l aF bD,.l nU nK]),.i],[.i],λ((a,left,()):KW×aX)=>(0<=left/\left<=1048576,aG (H6 a) left,())⟩
def yB:PA:=⟨19,[.l lQ H7,.i],[.i],λ((a,left,()):qP×aX)=>(0<=left/\left<=1048576,aG (BN a) left,())⟩
def yC:PA:=⟨5,[.v (.agg [.l dn dD,.l dF jD,.i,.l eU lN,.l gV gX,.s,.s,.i,.l jE HY,.l lQ H7,.l aF bD]),.i],[.i],λ((a,left,()):Hr×aX)=>(0<=left/\left<=1048576,aG (Na a) left,())⟩
def oK:PA:=⟨20,[.l aF bD,.i],[.i],λ((a,left,()):dG×aX)=>(0<=left/\left<=1048576,aG a.length left,())⟩
def BO:PA:=⟨17,[.v (.agg [.s,.s]),.i],[.i],λ(((a,b,()),left,()):(bf×ku)×aX)=>(0<=left/\left<=1048576,aG (a.length+b.length) left,())⟩
def uq:PA:=⟨176,[.v (.agg [.i,.i,.s])],[.agg [.i,.i,.s]],λ(((k,i,s,()),()):Ht)=>(True,(k,i,s,()),())⟩
def BP:PA:=⟨175,[.v (.agg [.s,.i,.i,.s])],[.agg [.s,.i,.i,.s]],λ(((n,k,i,s,()),()):Ty0×Unit)=>(True,(n,k,i,s,()),())⟩
def BQ:PA:=⟨152,[.v (.agg [.i,.i,.i,.s,.i,.i,.s])],[.agg [.i,.i,.i,.s,.i,.i,.s]],λ(((o,l,r,n,k,i,s,()),()):CG×Unit)=>(True,(o,l,r,n,k,i,s,()),())⟩
def zN:PA:=⟨151,[.l pz qK],[.f bK iF],λ((a,()):ji×Unit)=>(Dt a<=big,a,())⟩
def zO:PA:=⟨123,[.l pF jU],[.f bH iw],λ((a,()):uY)=>(Bf a<=big,a,())⟩
def BR:PA:=⟨122,[.v (.agg [.i,.i,.b,.i,.l pz qK])],[.agg [.i,.i,.b,.i,.f bK iF]],λ(((i,o,s,l,a,()),()):sG×Unit)=>(Dt a<=big,(i,o,s,l,a,()),())⟩
def Dv:PA:=⟨86,[.v (.agg [.s,.l pF jU])],[.agg [.s,.f bH iw]],λ(((n,q,()),()):(bf×uY)×Unit)=>(Bf q<=big,(n,q,()),())⟩
def zQ:PA:=⟨121,[.v (.agg [.s,.i])],[.agg [.s,.i]],λ(((n,k,()),()):(bf×aX)×Unit)=>(True,(n,k,()),())⟩
def yD:PA:=⟨84,[.l dn dD],[.f ax bW],λ((a,()):eG×Unit)=>(xq a<=big,a,())⟩
def zS:PA:=⟨85,[.l dF jD],[.f aJ aY],λ((a,()):fO×Unit)=>(Hz a<=big,a,())⟩
def uw:PA:=⟨47,[.v (.agg [.l dn dD,.l dF jD,.i])],[.agg [.f ax bW,.f aJ aY,.i]],λ(((a,l,n,()),()):pY×Unit)=>(wO (a,l,n,())<=big,(a,l,n,()),())⟩
def wQ:PA:=⟨48,[.l eU lN],[.f aQ bn],λ((a,()):CJ)=>(qL a<=big,a,())⟩
def oL:PA:=⟨26,[.l aF bD],[.f aF bD],λ((a,()):gG)=>(a.length<=big,a,())⟩
def yE:PA:=⟨87,[.v (.agg [.s,.l aF bD])],[.agg [.s,.f aF bD]],λ(((n,l,()),()):(bf×gG)×Unit)=>(l.length<=big,(n,l,()),())⟩
def vO:PA:=⟨49,[.l gV gX],[.f aO fE],λ((a,()):yP)=>(Gv a<=big,a,())⟩
def vP:PA:=⟨22,[.v (.agg [.l dn dD,.l dF jD,.i,.l eU lN,.l gV gX])],[.agg [.f ax bW,.f aJ aY,.i,.f aQ bn,.f aO fE]],λ(((a,l,n,d,r,()),()):aea×Unit)=>(Qh (a,l,n,d,r,())<=big,(a,l,n,d,r,()),())⟩
def BU:PA:=⟨23,[.v (.agg [.s,.s])],[.agg [.s,.s]],λ(((a,b,()),()):(bf×ku)×Unit)=>(True,(a,b,()),())⟩
def tJ:PA:=⟨88,[.v (.agg [.l dn dD,.l dF jD,.i,.l eU lN])],[.agg [.f ax bW,.f aJ aY,.i,.f aQ bn]],λ(((a,l,n,d,()),()):aeb×Unit)=>(Jj (a,l,n,d,())<=big,(a,l,n,d,()),())⟩
def vS:PA:=⟨50,[.v (.agg [.i,.l dn dD,.l dF jD,.i,.l eU lN,.i])],[.agg [.i,.f ax bW,.f aJ aY,.i,.f aQ bn,.i]],λ(((m,a,l,n,d,p,()),()):aaO×Unit)=>(Jj (a,l,n,d,())<=big,(m,a,l,n,d,p,()),())⟩
def tK:PA:=⟨24,[.l jE HY],[.f eF nJ],λ((a,()):qO×Unit)=>(yx a<=big,a,())⟩
def zT:PA:=⟨124,[.v (.agg [.i,.l aF bD,.l aF bD])],[.agg [.i,.f aF bD,.f aF bD]],λ(((n,a,b,()),()):VU)=>(a.length+b.length<=big,(n,a,b,()),())⟩
def yF:PA:=⟨89,[.l nU nK],[.f dK mO],λ((a,()):ED)=>(yS a<=big,a,())⟩
def zU:PA:=⟨51,[.v (.agg [.i,.s,.l aF bD,.l nU nK])],[.agg [.i,.s,.f aF bD,.f dK mO]],λ(((u,n,l,e,()),()):KW×Unit)=>(l.length+yS e<=big,(u,n,l,e,()),())⟩
def yG:PA:=⟨25,[.l lQ H7],[.f fG sJ],λ((a,()):qP×Unit)=>(BN a<=big,a,())⟩
def yH:PA:=⟨7,[.v (.agg [.l dn dD,.l dF jD,.i,.l eU lN,.l gV gX,.s,.s,.i,.l jE HY,.l lQ H7,.l aF bD])],[.agg [.f ax bW,.f aJ aY,.i,.f aQ bn,.f aO fE,.s,.s,.i,.f eF nJ,.f fG sJ,.f aF bD]],λ(((a,l,n,d,r,da,db,m,v,w,q,()),()):Hr×Unit)=>(Na (a,l,n,d,r,da,db,m,v,w,q,())<=big,(a,l,n,d,r,da,db,m,v,w,q,()),())⟩
def uy:PA:=⟨183,[.v (.agg [.i,.i,.s]),.v (.agg [.i,.i,.s])],[.b],λ((a,b,()):(Int×Int×ku)×Ht)=>(a=b,true,())⟩
def BV:PA:=⟨182,[.v (.agg [.s,.i,.i,.s]),.v (.agg [.s,.i,.i,.s])],[.b],λ((a,b,()):Ty0×Ty0×Unit)=>(a=b,true,())⟩
def BZ:PA:=⟨157,[.v (.agg [.i,.i,.i,.s,.i,.i,.s]),.v (.agg [.i,.i,.i,.s,.i,.i,.s])],[.b],λ((a,b,()):CG×CG×Unit)=>(a=b,true,())⟩
def zV:PA:=⟨156,[.l bK iF,.l bK iF],[.b],λ((a,b,()):ji×ji×Unit)=>(a=b,true,())⟩
def zW:PA:=⟨129,[.l bH iw,.l bH iw],[.b],λ((a,b,()):jr×uY)=>(a=b,true,())⟩
def Cb:PA:=⟨128,[.v (.agg [.i,.i,.b,.i,.l bK iF]),.v (.agg [.i,.i,.b,.i,.l bK iF])],[.b],λ((a,b,()):sG×sG×Unit)=>(a=b,true,())⟩
def Dw:PA:=⟨95,[.v (.agg [.s,.l bH iw]),.v (.agg [.s,.l bH iw])],[.b],λ((a,b,()):(bf×uY)×(bf×uY)×Unit)=>(a=b,true,())⟩
def zX:PA:=⟨127,[.v (.agg [.s,.i]),.v (.agg [.s,.i])],[.b],λ((a,b,()):(bf×aX)×(bf×aX)×Unit)=>(a=b,true,())⟩
def yI:PA:=⟨93,[.l ax bW,.l ax bW],[.b],λ((a,b,()):eG×eG×Unit)=>(a=b,true,())⟩
def zY:PA:=⟨94,[.l aJ aY,.l aJ aY],[.b],λ((a,b,()):fO×fO×Unit)=>(a=b,true,())⟩
def uz:PA:=⟨55,[.v (.agg [.l ax bW,.l aJ aY,.i]),.v (.agg [.l ax bW,.l aJ aY,.i])],[.b],λ((a,b,()):pY×pY×Unit)=>(a=b,true,())⟩
def wR:PA:=⟨56,[.l aQ bn,.l aQ bn],[.b],λ((a,b,()):fQ×CJ)=>(a=b,true,())⟩
def oM:PA:=⟨12,[.l aF bD,.l aF bD],[.b],λ((a,b,()):dG×gG)=>(a=b,true,())⟩
def yJ:PA:=⟨96,[.v (.agg [.s,.l aF bD]),.v (.agg [.s,.l aF bD])],[.b],λ((a,b,()):(bf×gG)×(bf×gG)×Unit)=>(a=b,true,())⟩
def vT:PA:=⟨57,[.l aO fE,.l aO fE],[.b],λ((a,b,()):lD×yP)=>(a=b,true,())⟩
def vU:PA:=⟨28,[.v (.agg [.l ax bW,.l aJ aY,.i,.l aQ bn,.l aO fE]),.v (.agg [.l ax bW,.l aJ aY,.i,.l aQ bn,.l aO fE])],[.b],λ((a,b,()):aea×aea×Unit)=>(a=b,true,())⟩
def Cc:PA:=⟨29,[.v (.agg [.s,.s]),.v (.agg [.s,.s])],[.b],λ((a,b,()):(bf×ku)×(bf×ku)×Unit)=>(a=b,true,())⟩
def tN:PA:=⟨97,[.v (.agg [.l ax bW,.l aJ aY,.i,.l aQ bn]),.v (.agg [.l ax bW,.l aJ aY,.i,.l aQ bn])],[.b],λ((a,b,()):aeb×aeb×Unit)=>(a=b,true,())⟩
def vV:PA:=⟨58,[.v (.agg [.i,.l ax bW,.l aJ aY,.i,.l aQ bn,.i]),.v (.agg [.i,.l ax bW,.l aJ aY,.i,.l aQ bn,.i])],[.b],λ((a,b,()):aaO×aaO×Unit)=>(a=b,true,())⟩
def tV:PA:=⟨30,[.l eF nJ,.l eF nJ],[.b],λ((a,b,()):qO×qO×Unit)=>(a=b,true,())⟩
def zZ:PA:=⟨130,[.v (.agg [.i,.l aF bD,.l aF bD]),.v (.agg [.i,.l aF bD,.l aF bD])],[.b],λ((a,b,()):(Int×dG×gG)×VU)=>(a=b,true,())⟩
def yK:PA:=⟨98,[.l dK mO,.l dK mO],[.b],λ((a,b,()):uZ×ED)=>(a=b,true,())⟩
def Aa:PA:=⟨59,[.v (.agg [.i,.s,.l aF bD,.l dK mO]),.v (.agg [.i,.s,.l aF bD,.l dK mO])],[.b],λ((a,b,()):KW×KW×Unit)=>(a=b,true,())⟩
def yL:PA:=⟨31,[.l fG sJ,.l fG sJ],[.b],λ((a,b,()):qP×qP×Unit)=>(a=b,true,())⟩
def yM:PA:=⟨9,[.v (.agg [.l ax bW,.l aJ aY,.i,.l aQ bn,.l aO fE,.s,.s,.i,.l eF nJ,.l fG sJ,.l aF bD]),.v (.agg [.l ax bW,.l aJ aY,.i,.l aQ bn,.l aO fE,.s,.s,.i,.l eF nJ,.l fG sJ,.l aF bD])],[.b],λ((a,b,()):Hr×Hr×Unit)=>(a=b,true,())⟩
def jO:PA:=⟨3,[.v (.agg [.l dn dD,.l dF jD,.i,.l eU lN,.l gV gX,.s,.s,.i,.l jE HY,.l lQ H7,.l aF bD])],[.b],λ(_,())=>(True,true,())⟩
def J4[xI]:iT:=EX [oP.e,kL.e,(oC,.pure qQ),ug.e,pU.e]
def Nb[xI]:iT:=EX [l7.e,ng.e,(qM,.pure uh),uf.e]
end
end Go.Proofs.Tryz
