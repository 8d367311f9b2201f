import Derived.Test.YtlmamafnoigopaaGreatDoorN
import Derived.Test.YtlmamafnoigopaaGreatDoorSp
namespace Go.Proofs.Tryz
open Go Go.Fw Sp
abbrev bH:=List UInt8
abbrev fP:=bH×Unit
abbrev Ty0:=bH×Int×Int×fP
abbrev DN:=Int×Int×Int×Ty0
abbrev jR:=List DN
abbrev uy:=jR×Unit
abbrev gy:=List (bH×uy)
abbrev jq:=List Ty0
abbrev DR:=Int×Int×Bool×Int×jq×Unit
abbrev fV:=List DR
abbrev bn:=Int×Unit
abbrev dU:=List bn
abbrev kE:=dU×Unit
abbrev eU:=List (bH×bn)
abbrev zK:=List (Int×dU×kE)
abbrev Ty8:=Int×bH×dU×zK×Unit
abbrev oW:=List (bH×kE)
abbrev zL:=List fP
abbrev DT:=zL×Unit
abbrev bT:=Bool×Unit
abbrev acM:=Int×eU×fV×Int×gy×bn
abbrev zM:=List acM
abbrev zN:=List Ty8
abbrev XJ:=eU×fV×Int×gy×oW×bH×bH×Int×zM×zN×kE
abbrev fC:=bn×Unit
abbrev kT:=eU×fV×bn
abbrev Jc:=(Int×Int×fP)×Unit
abbrev DU:=(Int×bn)×Unit
abbrev Eo:=(oW×bT)×Unit
abbrev Hy:=(Unit×bn)×DT
abbrev uz:=DT×Unit
abbrev Jd:=(bH×bn)×Unit
abbrev zO:=oW×Unit
abbrev RU:=(dU×bT)×Unit
abbrev DV:=gy×Unit
abbrev acN:=(oW×Int×bT)×Unit
abbrev agb:=eU×fV×Int×gy×zO
abbrev agc:=(Int×dU×kE)×Unit
abbrev agd:=eU×fV×Int×DV
abbrev Je:=DR×Unit
class yM where n:Nat
abbrev yN[yM]:Nat:=yM.n
noncomputable section
def iO:PA:=⟨76,[.i,.i,.i],[.b],λ((x,a,b,()):Int×Int×bn)=>(True,(decide (a<=x)&&decide (x<=b)),())⟩
def jO:PA:=⟨124,[.i,.i,.i],[.b],λ((x,a,b,()):Int×Int×bn)=>(True,(decide (a<=x)&&decide (x<=b)),())⟩
def vC:PA:=⟨177,[.s,.i],[.b],λ((s,m,()):bH×bn)=>(True,(Sp.lower s&&decide (1<=(s.length:Int))&&decide ((s.length:Int)<=m)),())⟩
def jT:PA:=⟨201,[.s],[.b],λ((s,()):fP)=>(True,eF s,())⟩
def jU:PA:=⟨209,[.s],[.b],λ((s,()):fP)=>(True,eF s,())⟩
def nJ:PA:=⟨175,[.v (.agg [.i,.i,.s])],[.b],λ(((k,n,s,()),()):Jc)=>(True,gV k n s,())⟩
def nK:PA:=⟨189,[.v (.agg [.i,.i,.s])],[.b],λ(((k,n,s,()),()):Jc)=>(True,gV k n s,())⟩
def kU:PA:=⟨143,[.s],[.b],λ((s,()):fP)=>(True,gq s,())⟩
def kV:PA:=⟨157,[.s],[.b],λ((s,()):fP)=>(True,gq s,())⟩
def wM:PA:=⟨176,[.l ax bM,.s],[.i],λ((fs,s,()):eU×fP)=>(True,Sp.kindOf fs s,())⟩
def wO:PA:=⟨190,[.l ax bM,.s],[.i],λ((fs,s,()):eU×fP)=>(True,Sp.kindOf fs s,())⟩
def l7:PA:=⟨110,[.l ax bM],[.b],λ((fs,()):eU×Unit)=>(True,dO fs,())⟩
def l9:PA:=⟨123,[.l ax bM],[.b],λ((fs,()):eU×Unit)=>(True,dO fs,())⟩
def qw:PA:=⟨142,[.l ax bM,.s,.v (.agg [.i,.i,.s])],[.b],λ((fs,s,(k,n,w,()),()):eU×bH×Jc)=>(True,gK fs s k n w,())⟩
def qx:PA:=⟨156,[.l ax bM,.s,.v (.agg [.i,.i,.s])],[.b],λ((fs,s,(k,n,w,()),()):eU×bH×Jc)=>(True,gK fs s k n w,())⟩
def su:PA:=⟨109,[.l ax bM,.v (.agg [.i,.i,.b,.i,.l bF gI])],[.b],λ((fs,f,()):eU×Je)=>(True,dL fs f,())⟩
def sD:PA:=⟨122,[.l ax bM,.v (.agg [.i,.i,.b,.i,.l bF gI])],[.b],λ((fs,f,()):eU×Je)=>(True,dL fs f,())⟩
def nM:PA:=⟨77,[.v (.agg [.l ax bM,.l aC aX,.i])],[.b],λ((s,()):kT×Unit)=>(True,bf s,())⟩
def nN:PA:=⟨90,[.v (.agg [.l ax bM,.l aC aX,.i])],[.b],λ((s,()):kT×Unit)=>(True,bf s,())⟩
def vF:PA:=⟨113,[.v (.agg [.i,.i,.b,.i,.l bF gI])],[.agg [.i,.i,.b,.i,.f bF gI]],λ((f,()):Je)=>(XK f,f,())⟩
def sF:PA:=⟨129,[.v (.agg [.i,.i,.b,.i,.l bF gI])],[.agg [.i,.i,.b,.i,.l bF gI]],λ((f,()):Je)=>(XK f,f,())⟩
def rW:PA:=⟨91,[.i],[.b],λ((u,()):bn)=>(True,(decide (0<=u)&&decide (u<=2)),())⟩
def sG:PA:=⟨114,[.v (.agg [.l ax bM,.l aC aX,.i]),.i],[.i],λ(((_,fs,_,()),id,()):kT×bn)=>(True,Sp.place fs id,())⟩
def lV:PA:=⟨127,[.l ax bM],[.l ax bM],λ((l,()):eU×Unit)=>(l.length<=10000000,l,())⟩
def mg:PA:=⟨162,[.l bF gI],[.l bF gI],λ((l,()):jq×Unit)=>(l.length<=10000000,l,())⟩
def sH:PA:=⟨216,[.v (.agg [.i,.i,.i,.s,.i,.i,.s]),.i],[.b],λ(((o,l,r,nm,vk,vi,vs,()),at',()):DN×bn)=>(True,iY (o,l,r,nm,vk,vi,vs,()) at',())⟩
def sJ:PA:=⟨220,[.v (.agg [.i,.i,.i,.s,.i,.i,.s]),.i],[.b],λ(((o,l,r,nm,vk,vi,vs,()),at',()):DN×bn)=>(True,iY (o,l,r,nm,vk,vi,vs,()) at',())⟩
def oz:PA:=⟨217,[.l bI iF,.i],[.i],λ((q,at',()):jR×bn)=>(q.length<=2000000,(kF q at':Int),())⟩
def oC:PA:=⟨221,[.l bI iF,.i],[.i],λ((q,at',()):jR×bn)=>(q.length<=2000000,(kF q at':Int),())⟩
def kP:PA:=⟨202,[.l bI iF],[.b],λ((q,()):uy)=>(q.length<=2000000,aW q,())⟩
def kQ:PA:=⟨210,[.l bI iF],[.b],λ((q,()):uy)=>(q.length<=2000000,aW q,())⟩
def sK:PA:=⟨178,[.l aN bC],[.b],λ((d,()):DV)=>(fF d,dV d,())⟩
def sN:PA:=⟨191,[.l aN bC],[.b],λ((d,()):DV)=>(fF d,dV d,())⟩
def yR:PA:=⟨225,[.v (.agg [.i,.i,.i,.s,.i,.i,.s])],[.b],λ(((o,_,_,_,_,_,_,()),()):DN×Unit)=>(True,(o==8||o==9),())⟩
def rE:PA:=⟨229,[.l bI iF],[.f ZN R_4],λ((q,()):uy)=>(q.length<=1000,Sp.negated q,())⟩
def rF:PA:=⟨224,[.l bI iF],[.f ZN R_4],λ((q,()):uy)=>(q.length<=1000,Sp.negated q,())⟩
def oM:List gZ:=[.p (.v (.one (.sl dF fO false)))]
def yO:List lJ:=[.one (.c (.sl dF fO true))]
def Ie:mr oM->Prop×(yS yO×wP oM->Prop):=λ(l,())=>(l.length<=1000,λ((r,()),())=>r.length<=l.length/\∀s,s∈r↔s∈l)
def yP:RV:=agf oM yO Ie
def qV:XA:=⟨212,[.l bI iF,.b],[.f dF fO],λ((q,neg,()):jR×bT)=>(q.length<=1000,λ(z:uz)=>gW z.1.1 (dP q neg))⟩
def rG:XA:=⟨193,[.l bI iF],[.f dF fO],λ((q,()):uy)=>(q.length<=1000,λ(z:uz)=>gW z.1.1 (dP q false))⟩
def rH:XA:=⟨194,[.l bI iF],[.f dF fO],λ((q,()):uy)=>(q.length<=1000,λ(z:uz)=>gW z.1.1 (dP q true))⟩
def Df:PA:=⟨230,[.l dF fO,.s],[.l dF fO],λ((l,s,()):zL×fP)=>(l.length<=1000,DW l s,())⟩
def sO:XA:=⟨218,[.l bI iF,.b],[.f dF fO],λ((q,neg,()):jR×bT)=>(q.length<=1000,λ(z:uz)=>gW z.1.1 (dP q neg))⟩
def rJ:XA:=⟨203,[.l bI iF],[.f dF fO],λ((q,()):uy)=>(q.length<=1000,λ(z:uz)=>gW z.1.1 (dP q false))⟩
def rM:XA:=⟨205,[.l bI iF],[.f dF fO],λ((q,()):uy)=>(q.length<=1000,λ(z:uz)=>gW z.1.1 (dP q true))⟩
def vG:PA:=⟨223,[.v (.agg [.s,.l bI iF]),.kp [.s]],[.b],λ(((nm,_,()),name,()):(bH×uy)×fP×Unit)=>(True,(nm==name.1),())⟩
def fZ:PA:=⟨222,[.l aN bC,.fn 223 [[.s]]],[.i],λ((d,((name,()),()),()):gy×(fP×Unit)×Unit)=>(True,aG d name,())⟩
def Ep:PA:=⟨211,[.l aN bC,.s],[.i],λ((d,name,()):gy×fP)=>(True,aG d name,())⟩
def yT:PA:=⟨204,[.l aN bC,.s],[.i],λ((d,name,()):gy×fP)=>(True,aG d name,())⟩
def sQ:PA:=⟨192,[.l aN bC,.l bg dN,.l dF fO,.i],[.i],λ((d,au,names,more,()):gy×dU×zL×bn)=>(d.length<=au.length/\names.length<=1000/\0<=more/\more<=1/\∀x∈au,0<=x.1/\x.1<=1000000,sS d au more names,())⟩
def xU:XA:=⟨158,[.l aN bC],[.f bg dN,.b],λ((d,()):DV)=>(fF d,λ(z:RU)=>z.1.2.1=aI d/\(z.1.2.1=true->jV d z.1.1))⟩
def oZ:XA:=⟨179,[.l aN bC,.l bg dN],[.o bg dN],λ((d,au,()):gy×kE)=>(qW d/\d.length<=5/\au.length=d.length/\∀x∈au,0<=x.1/\x.1<=1000000,λ(z:kE×Unit)=>Sp.raised d au z.1.1)⟩
def vH:PA:=⟨147,[.l bg dN,.l bg dN],[.b],λ((a,b,()):dU×kE)=>(True,decide (a=b),())⟩
def xW:XA:=⟨144,[.l aN bC],[.f bg dN,.b],λ((d,()):DV)=>(fF d,λ(z:RU)=>z.1.2.1=aI d/\(z.1.2.1=true->jV d z.1.1)/\(z.1.2.1=false->z.1.1=[]))⟩
def nT:PA:=⟨165,[.v (.agg [.i,.i,.b,.i,.l bF gI]),.s],[.agg [.i,.i,.s]],λ(((_,_,_,_,a,()),name,()):DR×fP)=>(True,bU a name,())⟩
def qQ:PA:=⟨181,[.v (.agg [.i,.i,.b,.i,.l bF gI]),.s],[.agg [.i,.i,.s]],λ(((_,_,_,_,a,()),name,()):DR×fP)=>(True,bU a name,())⟩
def vI:PA:=⟨227,[.v (.agg [.i,.i,.b,.i,.l bF gI]),.s],[.i,.b],λ(((_,_,_,_,a,()),name,()):DR×fP)=>(True,(bif (bU a name).1==1 then(bU a name).2.1 else 0),((bU a name).1==1),())⟩
def sU:PA:=⟨237,[.l bg dN,.i],[.i],λ((s,v,()):dU×bn)=>(True,Sp.findAt (λx=>x.1==v) s,())⟩
def o5:PA:=⟨234,[.l bg dN,.i],[.b],λ((s,v,()):dU×bn)=>(True,jh s v,())⟩
def o6:PA:=⟨166,[.l dF fO,.s],[.i],λ((s,v,()):zL×fP)=>(True,Sp.findAt (λx=>x.1==v) s,())⟩
def jG:PA:=⟨133,[.l dF fO,.s],[.b],λ((s,v,()):zL×fP)=>(True,lG s v,())⟩
def qg:PA:=⟨228,[.l bg dN,.i],[.b],λ((s,v,()):dU×bn)=>(True,jh s v,())⟩
def qh:PA:=⟨219,[.l bg dN,.i],[.b],λ((s,v,()):dU×bn)=>(True,jh s v,())⟩
def sV:PA:=⟨167,[.l bg dN],[.f bg dN],λ((l,()):kE)=>(l.length<=10000000,l,())⟩
def lH:PA:=⟨134,[.l aU gB,.s],[.f bg dN],λ((r,name,()):oW×fP)=>(bW r,dZ r name,())⟩
def nU:PA:=⟨116,[.l aU gB,.s],[.f bg dN],λ((r,name,()):oW×fP)=>(bW r,dZ r name,())⟩
def Ig:List fQ:=[.v (.one (.sl bI iF false)),.v (.one (.int .i64)),.v (.agg [.int .i64,.int .i64,.bool,.int .i64,.sl bF gI false]),.v (.one (.sl aU gB false))]
def GV:List kG:=[.one (.bool)]
def XL:jD Ig->Prop×o7 GV:=λ(q,at',(i,o,s,l,a,()),r,())=>(aW q=true/\0<=at'/\at'<q.length/\bW r,Sp.val q (i,o,s,l,a,()) (aY r) at'.toNat,())
def GX:Kw:=lZ Ig GV XL
def Cb:List fQ:=[.v (.one (.sl bI iF false)),.v (.one (.int .i64)),.v (.agg [.int .i64,.int .i64,.bool,.int .i64,.sl bF gI false]),.v (.one (.sl aU gB false))]
def BN:List kG:=[.one (.bool)]
def Ea[yM]:jD Cb->Prop×o7 BN:=λ(q,at',(i,o,s,l,a,()),r,())=>((aW q=true/\0<=at'/\at'<q.length/\bW r)/\at'.toNat<yN,Sp.val q (i,o,s,l,a,()) (aY r) at'.toNat,())
def rQ[yM]:Kw:=lZ Cb BN Ea
def rU:List fQ:=[.v (.one (.sl bI iF false)),.v (.one (.int .i64)),.v (.agg [.int .i64,.int .i64,.bool,.int .i64,.sl bF gI false]),.v (.one (.sl aU gB false))]
def zQ:List kG:=[.one (.bool)]
def Cc[yM]:jD rU->Prop×o7 zQ:=λ(q,at',(i,o,s,l,a,()),r,())=>((aW q=true/\0<=at'/\at'<q.length/\bW r)/\at'.toNat<yN+1,Sp.val q (i,o,s,l,a,()) (aY r) at'.toNat,())
def zS[yM]:Kw:=lZ rU zQ Cc
def Ky:List fQ:=[.v (.one (.sl bI iF false)),.v (.one (.int .i64)),.v (.agg [.int .i64,.int .i64,.bool,.int .i64,.sl bF gI false]),.v (.one (.sl aU gB false))]
def Jf:List kG:=[.one (.bool)]
def acO:jD Ky->Prop×o7 Jf:=λ(q,at',(i,o,s,l,a,()),r,())=>(aW q=true/\0<=at'/\at'<q.length/\bW r,Sp.val q (i,o,s,l,a,()) (aY r) at'.toNat,())
def Jg:Kw:=lZ Ky Jf acO
def Es:List fQ:=[.v (.one (.sl bI iF false)),.v (.one (.int .i64)),.v (.agg [.int .i64,.int .i64,.bool,.int .i64,.sl bF gI false]),.v (.one (.sl aU gB false))]
def Eb:List kG:=[.one (.bool)]
def FP[yM]:jD Es->Prop×o7 Eb:=λ(q,at',(i,o,s,l,a,()),r,())=>((aW q=true/\0<=at'/\at'<q.length/\bW r)/\at'.toNat<yN,Sp.val q (i,o,s,l,a,()) (aY r) at'.toNat,())
def vJ[yM]:Kw:=lZ Es Eb FP
def vK:List fQ:=[.v (.one (.sl bI iF false)),.v (.one (.int .i64)),.v (.agg [.int .i64,.int .i64,.bool,.int .i64,.sl bF gI false]),.v (.one (.sl aU gB false))]
def Ce:List kG:=[.one (.bool)]
def Et[yM]:jD vK->Prop×o7 Ce:=λ(q,at',(i,o,s,l,a,()),r,())=>((aW q=true/\0<=at'/\at'<q.length/\bW r)/\at'.toNat<yN+1,Sp.val q (i,o,s,l,a,()) (aY r) at'.toNat,())
def Ci[yM]:Kw:=lZ vK Ce Et
def Ap:PA:=⟨196,[.l bI iF,.v (.agg [.i,.i,.b,.i,.l bF gI]),.l aU gB],[.b],λ((q,f,r,()):jR×DR×zO)=>(q.length<=1000/\bW r,kC q f (aY r),())⟩
def Aq:PA:=⟨180,[.l bI iF,.v (.agg [.i,.i,.b,.i,.l bF gI]),.l aU gB],[.b],λ((q,f,r,()):jR×DR×zO)=>(q.length<=1000/\bW r,kC q f (aY r),())⟩
def sW:PA:=⟨160,[.v (.agg [.l ax bM,.l aC aX,.i]),.l bI iF,.l aU gB],[.f bg dN],λ((s,q,r,()):kT×jR×zO)=>(dH s/\q.length<=1000/\bW r,Sp.sel s.2.1 q (aY r),())⟩
def sZ:PA:=⟨146,[.v (.agg [.l ax bM,.l aC aX,.i]),.l bI iF,.l aU gB],[.f bg dN],λ((s,q,r,()):kT×jR×zO)=>(dH s/\q.length<=1000/\bW r,Sp.sel s.2.1 q (aY r),())⟩
def tq:PA:=⟨161,[.l bg dN,.l bg dN],[.b],λ((a,b,()):dU×kE)=>(True,decide (a=b),())⟩
def wQ:XA:=⟨195,[.l bg dN],[.i],λ((l,()):kE)=>(0<l.length,λ(z:fC)=>(∀x∈l,x.1<=z.1.1)/\z.1∈l)⟩
def uO:XA:=⟨159,[.l aN bC],[.i],λ((d,()):DV)=>(fF d,λ(z:fC)=>ZO d z.1.1)⟩
def uP:XA:=⟨145,[.l aN bC],[.i],λ((d,()):DV)=>(fF d,λ(z:fC)=>ZO d z.1.1)⟩
def yU:PA:=⟨126,[.l aN bC],[.f dF fO],λ((d,()):DV)=>(d.length<=2000000,mD d,())⟩
def wR:XA:=⟨125,[.p (.v (.agg [.l ax bM,.l aC aX,.i])),.l aN bC,.l aU gB,.l dF fO],[.l aU gB,.i,.b],λ((s,d,r,names,()):kT×gy×oW×DT)=>(dH s/\fF d/\bW r,λ(z:acN)=>z.1.2.2.1=(aI d&&bf s)/\((z.1.2.2.1=true->kH s.2.1 d r (lG names) z.1.1)/\(z.1.2.2.1=false->z.1.1=[])))⟩
def yV:XA:=⟨92,[.p (.v (.agg [.l ax bM,.l aC aX,.i])),.l aN bC],[.l aU gB,.b],λ((s,d,()):kT×DV)=>(dH s/\fF d,λ(z:Eo)=>z.1.2.1=(aI d&&bf s)/\((z.1.2.1=true->kH s.2.1 d [] (λ_=>true) z.1.1)/\(z.1.2.1=false->z.1.1=[])))⟩
def Dh:XA:=⟨111,[.p (.v (.agg [.l ax bM,.l aC aX,.i])),.l aN bC],[.one (.own aU gB false),.i,.b],λ((s,d,()):kT×DV)=>(dH s/\fF d,λ(z:acN)=>z.1.2.2.1=(aI d&&bf s)/\((z.1.2.2.1=true->kH s.2.1 d [] (λ_=>true) z.1.1)/\(z.1.2.2.1=false->z.1.1=[])))⟩
def yX:XA:=⟨78,[.p (.v (.agg [.l ax bM,.l aC aX,.i])),.l aN bC],[.one (.own aU gB false),.b],λ((s,d,()):kT×DV)=>(dH s/\fF d,λ(z:Eo)=>z.1.2.1=(aI d&&bf s)/\((z.1.2.1=true->kH s.2.1 d [] (λ_=>true) z.1.1)/\(z.1.2.1=false->z.1.1=[])))⟩
def xX:PA:=⟨130,[.v (.agg [.l ax bM,.l aC aX,.i]),.i],[.i],λ(((_,fs,_,()),id,()):kT×bn)=>(True,Sp.place fs id,())⟩
def tu:PA:=⟨164,[.v (.agg [.i,.i,.b,.i,.l bF gI]),.kp [.i]],[.b],λ(((i,_,_,_,_,()),id,()):DR×fC)=>(True,decide (i=id.1),())⟩
def fM:PA:=⟨163,[.l aC aX,.fn 164 [[.i]]],[.i],λ((l,((id,()),()),()):fV×fC×Unit)=>(True,Sp.place l id,())⟩
def Ar:PA:=⟨112,[.v (.agg [.i,.i,.b,.i,.l bF gI]),.i],[.b],λ((f,u,()):DR×bn)=>(True,iJ f u,())⟩
def Au:PA:=⟨128,[.v (.agg [.i,.i,.b,.i,.l bF gI]),.i],[.b],λ((f,u,()):DR×bn)=>(True,iJ f u,())⟩
def nO:PA:=⟨79,[.v (.agg [.l ax bM,.l aC aX,.i]),.i],[.agg [.l ax bM,.l aC aX,.i]],λ((s,u,()):kT×bn)=>(dH s,Sp.visible s u,())⟩
def nP:PA:=⟨93,[.v (.agg [.l ax bM,.l aC aX,.i]),.i],[.agg [.l ax bM,.l aC aX,.i]],λ((s,u,()):kT×bn)=>(dH s,Sp.visible s u,())⟩
def kW:XA:=⟨55,[.p (.v (.agg [.l ax bM,.l aC aX,.i])),.l aN bC,.i],[.l aU gB,.b],λ((s,d,u,()):kT×gy×bn)=>(fF d,λ(z:Eo)=>z.1.1=(dR s d u).1/\z.1.2.1=(dR s d u).2)⟩
def kX:XA:=⟨45,[.p (.v (.agg [.l ax bM,.l aC aX,.i])),.l aN bC,.i],[.l aU gB,.b],λ((s,d,u,()):kT×gy×bn)=>(fF d,λ(z:Eo)=>z.1.1=(dR s d u).1/\z.1.2.1=(dR s d u).2)⟩
def Aw:PA:=⟨95,[.v (.agg [.l ax bM,.l aC aX,.i]),.l aN bC,.i,.s],[.f bg dN],λ((s,d,u,name,()):kT×gy×Int×fP)=>(fF d,jB s d u name,())⟩
def Az:PA:=⟨81,[.v (.agg [.l ax bM,.l aC aX,.i]),.l aN bC,.i,.s],[.f bg dN],λ((s,d,u,name,()):kT×gy×Int×fP)=>(fF d,jB s d u name,())⟩
def nV:PA:=⟨8,[.l dF fO,.l dF fO],[.b],λ((a,b,()):zL×DT)=>(a=b,true,())⟩
def Eu:List fQ:=[.v (.one (.int .i64))]
def Jh:List kG:=[.one (.str)]
def acP:jD Eu->Prop×o7 Jh:=λ(n,())=>(-9223372036854775808<=n/\n<=9223372036854775807,Lib.itoa n,())
def DX:Kw:=lZ Eu Jh acP
def Ew:List fQ:=[.v (.one (.sl dF fO false)),.v (.one (.str))]
def Ji:List kG:=[.one (.str)]
def acQ:jD Ew->Prop×o7 Ji:=λ(l,sep,())=>(l.length<=140737488355328/\(Lib.join (l.map (·.1)) sep).length<=140737488355328,Lib.join (l.map (·.1)) sep,())
def DY:Kw:=lZ Ew Ji acQ
def jH:PA:=⟨26,[.i],[.s],λ((n,()):bn)=>(True,Lib.itoa n,())⟩
def wS:PA:=⟨44,[.i],[.one (.int .u8)],λ((x,()):bn)=>(0<=x/\x<10,48+x,())⟩
def jI:PA:=⟨18,[.i],[.s],λ((n,()):bn)=>(True,Lib.itoa n,())⟩
def wU:PA:=⟨82,[.l bg dN],[.s],λ((ids,()):kE)=>(ids.length<=1048576,jW ids,())⟩
def wV:PA:=⟨96,[.l bg dN],[.s],λ((ids,()):kE)=>(ids.length<=1048576,jW ids,())⟩
def AA:PA:=⟨47,[.s,.l bg dN],[.s],λ((s,ids,()):bH×kE)=>(s.length<=2097152/\ids.length<=1048576,Sp.withIds s ids,())⟩
def AB:PA:=⟨57,[.s,.l bg dN],[.s],λ((s,ids,()):bH×kE)=>(s.length<=2097152/\ids.length<=1048576,Sp.withIds s ids,())⟩
def tC:PA:=⟨48,[.v (.agg [.i,.l bg dN,.l bg dN])],[.s],λ(((v,a,r,()),()):agc)=>(a.length<=1048576/\r.length<=1048576,GY v a r,())⟩
def tH:PA:=⟨58,[.v (.agg [.i,.l bg dN,.l bg dN])],[.s],λ(((v,a,r,()),()):agc)=>(a.length<=1048576/\r.length<=1048576,GY v a r,())⟩
def tJ:PA:=⟨20,[.v (.agg [.i,.s,.l bg dN,.l iG yY])],[.f dF fO],λ((w,()):Ty8×Unit)=>(uD w<=1048576,oN w,())⟩
def tK:PA:=⟨28,[.v (.agg [.i,.s,.l bg dN,.l iG yY])],[.f dF fO],λ((w,()):Ty8×Unit)=>(uD w<=1048576,oN w,())⟩
def lK:PA:=⟨12,[.l dF fO,.i],[.i],λ((a,k,()):zL×bn)=>(0<=k/\k<=10000000/\a.length<=4000000,Ip a k,())⟩
def yZ:PA:=⟨132,[.v (.agg [.i,.i,.b,.i,.l bF gI])],[.s],λ((f,()):Je)=>(True,Sp.baseName f,())⟩
def zf:PA:=⟨149,[.v (.agg [.i,.i,.b,.i,.l bF gI])],[.s],λ((f,()):Je)=>(True,Sp.baseName f,())⟩
def zh:PA:=⟨131,[.v (.agg [.l ax bM,.l aC aX,.i]),.i],[.agg [.i,.i,.b,.i,.l bF gI],.b],λ((s,id,()):kT×bn)=>(dH s,(dn s id).1,(dn s id).2,())⟩
def zi:PA:=⟨148,[.v (.agg [.l ax bM,.l aC aX,.i]),.i],[.agg [.i,.i,.b,.i,.l bF gI],.b],λ((s,id,()):kT×bn)=>(dH s,(dn s id).1,(dn s id).2,())⟩
def AL:PA:=⟨115,[.v (.agg [.l ax bM,.l aC aX,.i]),.i],[.s],λ((s,id,()):kT×bn)=>(dH s,Sp.aP s id,())⟩
def uQ:PA:=⟨94,[.v (.agg [.l ax bM,.l aC aX,.i]),.l bg dN],[.f dF fO],λ((s,ids,()):kT×kE)=>(dH s/\qy s/\ids.length<=1000,Sp.entries s ids,())⟩
def uS:PA:=⟨80,[.v (.agg [.l ax bM,.l aC aX,.i]),.l bg dN],[.f dF fO],λ((s,ids,()):kT×kE)=>(dH s/\qy s/\ids.length<=1000,Sp.entries s ids,())⟩
def zk:PA:=⟨56,[.v (.agg [.l ax bM,.l aC aX,.i]),.l aN bC,.i,.s],[.s],λ((s,d,u,name,()):kT×gy×Int×fP)=>(dH s/\qy s/\fF d/\name.length<=2000000,zT s d u name,())⟩
def AO:PA:=⟨46,[.v (.agg [.l ax bM,.l aC aX,.i]),.l aN bC,.i,.s],[.s],λ((s,d,u,name,()):kT×gy×Int×fP)=>(dH s/\qy s/\fF d/\name.length<=2000000,zT s d u name,())⟩
def uT:PA:=⟨27,[.v (.agg [.l ax bM,.l aC aX,.i]),.l aN bC,.i],[.f dF fO],λ((s,d,u,()):kT×gy×bn)=>(qy s/\fF d/\∀x∈d,x.1.length<=2000000,Sp.aj s d u,())⟩
def uU:PA:=⟨19,[.v (.agg [.l ax bM,.l aC aX,.i]),.l aN bC,.i],[.f dF fO],λ((s,d,u,()):kT×gy×bn)=>(qy s/\fF d/\∀x∈d,x.1.length<=2000000,Sp.aj s d u,())⟩
def kR:PA:=⟨7,[.v (.agg [.l ax bM,.l aC aX,.i,.l aN bC,.l aU gB,.s,.s,.i,.l fU o8,.l iH uF,.l bg dN])],[.f dF fO],λ((x,()):XJ×Unit)=>(zU x<=1048576,F5 x,())⟩
def kS:PA:=⟨5,[.v (.agg [.l ax bM,.l aC aX,.i,.l aN bC,.l aU gB,.s,.s,.i,.l fU o8,.l iH uF,.l bg dN])],[.f dF fO],λ((x,()):XJ×Unit)=>(zU x<=1048576,F5 x,())⟩
def mF:PA:=⟨38,[.i],[.s],λ((k,()):bn)=>(0<=k/\k<=1000000000,Sp.markT k,())⟩
def vM:PA:=⟨174,[.v (.agg [.i,.i,.s]),.i],[.i],λ(((_,_,s,()),left,()):(Int×Int×fP)×bn)=>(0<=left/\left<=1048576,aH s.length left,())⟩
def Di:PA:=⟨173,[.v (.agg [.s,.i,.i,.s]),.i],[.i],λ((a,left,()):Ty0×bn)=>(0<=left/\left<=1048576,aH (Kz a) left,())⟩
def Dj:PA:=⟨141,[.v (.agg [.i,.i,.i,.s,.i,.i,.s]),.i],[.i],λ((a,left,()):DN×bn)=>(0<=left/\left<=1048576,aH (KA a) left,())⟩
def AP:PA:=⟨140,[.l qI rO,.i],[.i],λ((a,left,()):jq×bn)=>(0<=left/\left<=1048576,aH (zV a) left,())⟩
def AQ:PA:=⟨107,[.l qJ kJ,.i],[.i],λ((a,left,()):jR×bn)=>(0<=left/\left<=1048576,aH (Cj a) left,())⟩
def Dk:PA:=⟨106,[.v (.agg [.i,.i,.b,.i,.l qI rO]),.i],[.i],λ((a,left,()):DR×bn)=>(0<=left/\left<=1048576,aH (Iq a) left,())⟩
def Ey:PA:=⟨72,[.v (.agg [.s,.l qJ kJ]),.i],[.i],λ((a,left,()):(bH×uy)×bn)=>(0<=left/\left<=1048576,aH (Hz a) left,())⟩
def AU:PA:=⟨105,[.v (.agg [.s,.i]),.i],[.i],λ((a,left,()):(bH×bn)×bn)=>(0<=left/\left<=1048576,aH (RX a) left,())⟩
def zl:PA:=⟨70,[.l cZ cu,.i],[.i],λ((a,left,()):eU×bn)=>(0<=left/\left<=1048576,aH (o9 a) left,())⟩
def AX:PA:=⟨71,[.l dJ jE,.i],[.i],λ((a,left,()):fV×bn)=>(0<=left/\left<=1048576,aH (Cm a) left,())⟩
def vN:PA:=⟨39,[.v (.agg [.l cZ cu,.l dJ jE,.i]),.i],[.i],λ((a,left,()):kT×bn)=>(0<=left/\left<=1048576,aH (zW a) left,())⟩
def xY:PA:=⟨40,[.l fE lW,.i],[.i],λ((a,left,()):gy×bn)=>(0<=left/\left<=1048576,aH (qA a) left,())⟩
def zn:PA:=⟨73,[.v (.agg [.s,.l bg dN]),.i],[.i],λ((a,left,()):(bH×kE)×bn)=>(0<=left/\left<=1048576,aH (acR a) left,())⟩
def wW:PA:=⟨41,[.l gJ iy,.i],[.i],λ((a,left,()):oW×bn)=>(0<=left/\left<=1048576,aH (Ez a) left,())⟩
def wX:PA:=⟨13,[.v (.agg [.l cZ cu,.l dJ jE,.i,.l fE lW,.l gJ iy]),.i],[.i],λ((a,left,()):agb×bn)=>(0<=left/\left<=1048576,aH (RY a) left,())⟩
def uV:PA:=⟨74,[.v (.agg [.l cZ cu,.l dJ jE,.i,.l fE lW]),.i],[.i],λ((a,left,()):agd×bn)=>(0<=left/\left<=1048576,aH (KC a) left,())⟩
def wY:PA:=⟨42,[.v (.agg [.i,.l cZ cu,.l dJ jE,.i,.l fE lW,.i]),.i],[.i],λ((a,left,()):acM×bn)=>(0<=left/\left<=1048576,aH (acS a) left,())⟩
def uX:PA:=⟨15,[.l ji HY,.i],[.i],λ((a,left,()):zM×bn)=>(0<=left/\left<=1048576,aH (uY a) left,())⟩
def AY:PA:=⟨108,[.v (.agg [.i,.l bg dN,.l bg dN]),.i],[.i],λ((a,left,()):(Int×dU×kE)×bn)=>(0<=left/\left<=1048576,aH (GZ a) left,())⟩
def zo:PA:=⟨75,[.l oO wZ,.i],[.i],λ((a,left,()):zK×bn)=>(0<=left/\left<=1048576,aH (DZ a) left,())⟩
def AZ:PA:=⟨43,[.v (.agg [.i,.s,.l bg dN,.l oO wZ]),.i],[.i],λ((a,left,()):Ty8×bn)=>(0<=left/\left<=1048576,aH (uD a) left,())⟩
def zq:PA:=⟨16,[.l kY H6,.i],[.i],λ((a,left,()):zN×bn)=>(0<=left/\left<=1048576,aH (pq a) left,())⟩
def pz:PA:=⟨4,[.v (.agg [.l cZ cu,.l dJ jE,.i,.l fE lW,.l gJ iy,.s,.s,.i,.l ji HY,.l kY H6,.l bg dN]),.i],[.i],λ((a,left,()):XJ×bn)=>(0<=left/\left<=1048576,aH (zU a) left,())⟩
def pW:PA:=⟨17,[.l bg dN,.i],[.i],λ((a,left,()):dU×bn)=>(0<=left/\left<=1048576,aH a.length left,())⟩
def Dl:PA:=⟨14,[.v (.agg [.s,.s]),.i],[.i],λ(((a,b,()),left,()):(bH×fP)×bn)=>(0<=left/\left<=1048576,aH (a.length+b.length) left,())⟩
def vO:PA:=⟨183,[.v (.agg [.i,.i,.s])],[.agg [.i,.i,.s]],λ(((k,i,s,()),()):Jc)=>(True,(k,i,s,()),())⟩
def Dn:PA:=⟨182,[.v (.agg [.s,.i,.i,.s])],[.agg [.s,.i,.i,.s]],λ(((n,k,i,s,()),()):Ty0×Unit)=>(True,(n,k,i,s,()),())⟩
def Dp:PA:=⟨151,[.v (.agg [.i,.i,.i,.s,.i,.i,.s])],[.agg [.i,.i,.i,.s,.i,.i,.s]],λ(((o,l,r,n,k,i,s,()),()):DN×Unit)=>(True,(o,l,r,n,k,i,s,()),())⟩
def A7:PA:=⟨150,[.l qI rO],[.f bF gI],λ((a,()):jq×Unit)=>(zV a<=big,a,())⟩
def A8:PA:=⟨119,[.l qJ kJ],[.f bI iF],λ((a,()):uy)=>(Cj a<=big,a,())⟩
def Dq:PA:=⟨118,[.v (.agg [.i,.i,.b,.i,.l qI rO])],[.agg [.i,.i,.b,.i,.f bF gI]],λ(((i,o,s,l,a,()),()):Je)=>(zV a<=big,(i,o,s,l,a,()),())⟩
def EC:PA:=⟨85,[.v (.agg [.s,.l qJ kJ])],[.agg [.s,.f bI iF]],λ(((n,q,()),()):(bH×uy)×Unit)=>(Cj q<=big,(n,q,()),())⟩
def Ba:PA:=⟨117,[.v (.agg [.s,.i])],[.agg [.s,.i]],λ(((n,k,()),()):Jd)=>(True,(n,k,()),())⟩
def zu:PA:=⟨83,[.l cZ cu],[.f ax bM],λ((a,()):eU×Unit)=>(o9 a<=big,a,())⟩
def Bc:PA:=⟨84,[.l dJ jE],[.f aC aX],λ((a,()):fV×Unit)=>(Cm a<=big,a,())⟩
def vP:PA:=⟨49,[.v (.agg [.l cZ cu,.l dJ jE,.i])],[.agg [.f ax bM,.f aC aX,.i]],λ(((a,l,n,()),()):kT×Unit)=>(zW (a,l,n,())<=big,(a,l,n,()),())⟩
def xZ:PA:=⟨50,[.l fE lW],[.f aN bC],λ((a,()):DV)=>(qA a<=big,a,())⟩
def pX:PA:=⟨25,[.l bg dN],[.f bg dN],λ((a,()):kE)=>(a.length<=big,a,())⟩
def zx:PA:=⟨86,[.v (.agg [.s,.l bg dN])],[.agg [.s,.f bg dN]],λ(((n,l,()),()):(bH×kE)×Unit)=>(l.length<=big,(n,l,()),())⟩
def xg:PA:=⟨51,[.l gJ iy],[.f aU gB],λ((a,()):zO)=>(Ez a<=big,a,())⟩
def xk:PA:=⟨21,[.v (.agg [.l cZ cu,.l dJ jE,.i,.l fE lW,.l gJ iy])],[.agg [.f ax bM,.f aC aX,.i,.f aN bC,.f aU gB]],λ(((a,l,n,d,r,()),()):agb×Unit)=>(RY (a,l,n,d,r,())<=big,(a,l,n,d,r,()),())⟩
def Dt:PA:=⟨22,[.v (.agg [.s,.s])],[.agg [.s,.s]],λ(((a,b,()),()):(bH×fP)×Unit)=>(True,(a,b,()),())⟩
def uZ:PA:=⟨87,[.v (.agg [.l cZ cu,.l dJ jE,.i,.l fE lW])],[.agg [.f ax bM,.f aC aX,.i,.f aN bC]],λ(((a,l,n,d,()),()):agd×Unit)=>(KC (a,l,n,d,())<=big,(a,l,n,d,()),())⟩
def xq:PA:=⟨52,[.v (.agg [.i,.l cZ cu,.l dJ jE,.i,.l fE lW,.i])],[.agg [.i,.f ax bM,.f aC aX,.i,.f aN bC,.i]],λ(((m,a,l,n,d,p,()),()):acM×Unit)=>(KC (a,l,n,d,())<=big,(m,a,l,n,d,p,()),())⟩
def ve:PA:=⟨23,[.l ji HY],[.f fU o8],λ((a,()):zM×Unit)=>(uY a<=big,a,())⟩
def Bd:PA:=⟨120,[.v (.agg [.i,.l bg dN,.l bg dN])],[.agg [.i,.f bg dN,.f bg dN]],λ(((n,a,b,()),()):agc)=>(a.length+b.length<=big,(n,a,b,()),())⟩
def zy:PA:=⟨88,[.l oO wZ],[.f iG yY],λ((a,()):zK×Unit)=>(DZ a<=big,a,())⟩
def Bf:PA:=⟨53,[.v (.agg [.i,.s,.l bg dN,.l oO wZ])],[.agg [.i,.s,.f bg dN,.f iG yY]],λ(((u,n,l,e,()),()):Ty8×Unit)=>(l.length+DZ e<=big,(u,n,l,e,()),())⟩
def zA:PA:=⟨24,[.l kY H6],[.f iH uF],λ((a,()):zN×Unit)=>(pq a<=big,a,())⟩
def pF:PA:=⟨6,[.v (.agg [.l cZ cu,.l dJ jE,.i,.l fE lW,.l gJ iy,.s,.s,.i,.l ji HY,.l kY H6,.l bg dN])],[.agg [.f ax bM,.f aC aX,.i,.f aN bC,.f aU gB,.s,.s,.i,.f fU o8,.f iH uF,.f bg dN]],λ(((a,l,n,d,r,da,db,m,v,w,q,()),()):XJ×Unit)=>(zU (a,l,n,d,r,da,db,m,v,w,q,())<=big,(a,l,n,d,r,da,db,m,v,w,q,()),())⟩
def vS:PA:=⟨200,[.v (.agg [.i,.i,.s]),.v (.agg [.i,.i,.s])],[.b],λ((a,b,()):(Int×Int×fP)×Jc)=>(a=b,true,())⟩
def Du:PA:=⟨199,[.v (.agg [.s,.i,.i,.s]),.v (.agg [.s,.i,.i,.s])],[.b],λ((a,b,()):Ty0×Ty0×Unit)=>(a=b,true,())⟩
def Dv:PA:=⟨172,[.v (.agg [.i,.i,.i,.s,.i,.i,.s]),.v (.agg [.i,.i,.i,.s,.i,.i,.s])],[.b],λ((a,b,()):DN×DN×Unit)=>(a=b,true,())⟩
def Bg:PA:=⟨171,[.l bF gI,.l bF gI],[.b],λ((a,b,()):jq×jq×Unit)=>(a=b,true,())⟩
def Bh:PA:=⟨138,[.l bI iF,.l bI iF],[.b],λ((a,b,()):jR×uy)=>(a=b,true,())⟩
def Dw:PA:=⟨137,[.v (.agg [.i,.i,.b,.i,.l bF gI]),.v (.agg [.i,.i,.b,.i,.l bF gI])],[.b],λ((a,b,()):DR×Je)=>(a=b,true,())⟩
def ED:PA:=⟨99,[.v (.agg [.s,.l bI iF]),.v (.agg [.s,.l bI iF])],[.b],λ((a,b,()):(bH×uy)×(bH×uy)×Unit)=>(a=b,true,())⟩
def Bj:PA:=⟨136,[.v (.agg [.s,.i]),.v (.agg [.s,.i])],[.b],λ((a,b,()):(bH×bn)×Jd)=>(a=b,true,())⟩
def zB:PA:=⟨97,[.l ax bM,.l ax bM],[.b],λ((a,b,()):eU×eU×Unit)=>(a=b,true,())⟩
def Bl:PA:=⟨98,[.l aC aX,.l aC aX],[.b],λ((a,b,()):fV×fV×Unit)=>(a=b,true,())⟩
def vT:PA:=⟨59,[.v (.agg [.l ax bM,.l aC aX,.i]),.v (.agg [.l ax bM,.l aC aX,.i])],[.b],λ((a,b,()):kT×kT×Unit)=>(a=b,true,())⟩
def yc:PA:=⟨60,[.l aN bC,.l aN bC],[.b],λ((a,b,()):gy×DV)=>(a=b,true,())⟩
def pY:PA:=⟨33,[.l bg dN,.l bg dN],[.b],λ((a,b,()):dU×kE)=>(a=b,true,())⟩
def zC:PA:=⟨100,[.v (.agg [.s,.l bg dN]),.v (.agg [.s,.l bg dN])],[.b],λ((a,b,()):(bH×kE)×(bH×kE)×Unit)=>(a=b,true,())⟩
def xu:PA:=⟨61,[.l aU gB,.l aU gB],[.b],λ((a,b,()):oW×zO)=>(a=b,true,())⟩
def xw:PA:=⟨29,[.v (.agg [.l ax bM,.l aC aX,.i,.l aN bC,.l aU gB]),.v (.agg [.l ax bM,.l aC aX,.i,.l aN bC,.l aU gB])],[.b],λ((a,b,()):agb×agb×Unit)=>(a=b,true,())⟩
def Dx:PA:=⟨30,[.v (.agg [.s,.s]),.v (.agg [.s,.s])],[.b],λ((a,b,()):(bH×fP)×(bH×fP)×Unit)=>(a=b,true,())⟩
def vg:PA:=⟨101,[.v (.agg [.l ax bM,.l aC aX,.i,.l aN bC]),.v (.agg [.l ax bM,.l aC aX,.i,.l aN bC])],[.b],λ((a,b,()):agd×agd×Unit)=>(a=b,true,())⟩
def xA:PA:=⟨62,[.v (.agg [.i,.l ax bM,.l aC aX,.i,.l aN bC,.i]),.v (.agg [.i,.l ax bM,.l aC aX,.i,.l aN bC,.i])],[.b],λ((a,b,()):acM×acM×Unit)=>(a=b,true,())⟩
def vw:PA:=⟨31,[.l fU o8,.l fU o8],[.b],λ((a,b,()):zM×zM×Unit)=>(a=b,true,())⟩
def Bo:PA:=⟨139,[.v (.agg [.i,.l bg dN,.l bg dN]),.v (.agg [.i,.l bg dN,.l bg dN])],[.b],λ((a,b,()):(Int×dU×kE)×agc)=>(a=b,true,())⟩
def zD:PA:=⟨102,[.l iG yY,.l iG yY],[.b],λ((a,b,()):zK×zK×Unit)=>(a=b,true,())⟩
def Bq:PA:=⟨63,[.v (.agg [.i,.s,.l bg dN,.l iG yY]),.v (.agg [.i,.s,.l bg dN,.l iG yY])],[.b],λ((a,b,()):Ty8×Ty8×Unit)=>(a=b,true,())⟩
def zF:PA:=⟨32,[.l iH uF,.l iH uF],[.b],λ((a,b,()):zN×zN×Unit)=>(a=b,true,())⟩
def pG:PA:=⟨9,[.v (.agg [.l ax bM,.l aC aX,.i,.l aN bC,.l aU gB,.s,.s,.i,.l fU o8,.l iH uF,.l bg dN]),.v (.agg [.l ax bM,.l aC aX,.i,.l aN bC,.l aU gB,.s,.s,.i,.l fU o8,.l iH uF,.l bg dN])],[.b],λ((a,b,()):XJ×XJ×Unit)=>(a=b,true,())⟩
def L6[yM]:je:=Gq [qg.e,lH.e,(pI,.pure rQ),vI.e,nT.e]
def OD[yM]:je:=Gq [qh.e,nU.e,(rP,.pure vJ),qQ.e]
end
end Go.Proofs.Tryz
