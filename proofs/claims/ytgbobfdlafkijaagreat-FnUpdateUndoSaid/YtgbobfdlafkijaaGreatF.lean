import Derived.Test.YtgbobfdlafkijaaGreatN
import Derived.Test.YtgbobfdlafkijaaGreatSp
namespace Go.Proofs.Tryz
open Go Go.Fw
class yU where
 n:Nat
abbrev yg [yU]:Nat:=yU.n
noncomputable section
def yh:List dM:=[.p (.v (.one (.sl jy EJ false)))]
def aas:List jD:=[.sl jy EJ false, .int .i64, .int .i64]
def Wp:cO yh→Prop×(vI aas→Prop):=fun (code,())=>(code.length≤1048576,fun (_,i,_,())=>i=0)
def zW:fE:=aB2 yh aas Wp
def zX:List dM:=[.ptr [.sl jy EJ false, .int .i64, .int .i64]]
def Yy:List fQ:=[.one (.c (.int .i64))]
def UE:cO zX→Prop×(dm Yy×cZ zX→Prop):=fun ((_,i,_,()),())=>(0≤i,fun ((x,()),((_,i',_,()),()))=>0≤i'∧0≤x∧x≤255)
def I4:fE:=dR zX Yy UE
def dn:List dM:=[.ptr [.sl jy EJ false, .int .i64, .int .i64], .p (.v (.one (.int .i64)))]
def WZ:List fQ:=[.one (.c (.int .i64))]
def QG:cO dn→Prop×(dm WZ×cZ dn→Prop):=fun ((_,i,_,()),n,())=>(0≤i,fun ((x,()),((_,i',_,()),()))=>0≤i'∧0≤x∧(0<n→x<n)∧(n≤0→x=0))
def dw:fE:=dR dn WZ QG
def mr:List dM:=[.ptr [.sl jy EJ false, .int .i64, .int .i64], .p (.v (.one (.int .i64)))]
def Yz:List fQ:=[.one (.c .bool)]
def UF:cO mr→Prop×(dm Yz×cZ mr→Prop):=fun ((_,i,_,()),_,())=>(0≤i,fun ((_,()),((_,i',_,()),()))=>0≤i')
def o9:fE:=dR mr Yz UF
def mD:List dM:=[.ptr [.sl jy EJ false, .int .i64, .int .i64], .p (.v (.one (.sl fB vN false)))]
def YA:List fQ:=[.one (.c .str)]
def UG:cO mD→Prop×(dm YA×cZ mD→Prop):=fun ((_,i,_,()),list,())=>(0≤i∧list≠[],fun ((x,()),((_,i',_,()),()))=>0≤i'∧(x,())∈list)
def pq:fE:=dR mD YA UG
def uo:List dM:=[.ptr [.sl jy EJ false, .int .i64, .int .i64], .p (.v (.one (.sl fU lF false)))]
def TN:List fQ:=[.one (.c (.int .i64))]
def Nz:cO uo→Prop×(dm TN×cZ uo→Prop):=fun ((_,i,_,()),list,())=>(0≤i∧list≠[],fun ((x,()),((_,i',_,()),()))=>0≤i'∧(x,())∈list)
def DZ:fE:=dR uo TN Nz
def yj:List dM:=[]
def W9:List fQ:=[.one (.own aO eU true)]
def QI:cO yj→Prop×(dm W9×cZ yj→Prop):=fun (())=>(True,fun ((s,()),())=>s=Sp.usual)
def Gu:fE:=dR yj W9 QI
def O4:List bW:=[.v (.one (.int .i64))]
def Xa:List dG:=[.agg [.int .i64, .int .i64, .str]]
def ap6:aY O4→Prop×bg Xa:=fun (n,())=>(True,(1,n,[],()),())
def oh:dX:=bY O4 Xa ap6
def Kz:List bW:=[.v (.one (.str))]
def QJ:List dG:=[.agg [.int .i64, .int .i64, .str]]
def ahK:aY Kz→Prop×bg QJ:=fun (w,())=>(True,(2,0,w,()),())
def qo:dX:=bY Kz QJ ahK
def Wq:List bW:=[.v (.one (.int .i64)), .v (.one (.int .i64)), .v (.one (.int .i64))]
def ab7:List dG:=[.one (.bool)]
def aw8:aY Wq→Prop×bg ab7:=fun (x,a,b,())=>(True,(decide (a≤x)&&decide (x≤b)),())
def gX:dX:=bY Wq ab7 aw8
def UH:List bW:=[.v (.one (.int .i64)), .v (.one (.int .i64)), .v (.one (.int .i64))]
def aat:List dG:=[.one (.bool)]
def awi:aY UH→Prop×bg aat:=fun (x,a,b,())=>(True,(decide (a≤x)&&decide (x≤b)),())
def iF:dX:=bY UH aat awi
def QK:List bW:=[.v (.one (.str)), .v (.one (.int .i64))]
def YB:List dG:=[.one (.bool)]
def atn:aY QK→Prop×bg YB:=fun (s,m,())=>(True,(Sp.lower s&&decide (1≤(s.length:Int))&&decide ((s.length:Int)≤m)),())
def yt:dX:=bY QK YB atn
def GZ:List bW:=[.v (.one (.str))]
def Oq:List dG:=[.one (.bool)]
def adG:aY GZ→Prop×bg Oq:=fun (s,())=>(True,Sp.jf s,())
def jO:dX:=bY GZ Oq adG
def G5:List bW:=[.v (.one (.str))]
def Ot:List dG:=[.one (.bool)]
def adH:aY G5→Prop×bg Ot:=fun (s,())=>(True,Sp.jf s,())
def jP:dX:=bY G5 Ot adH
def I5:List bW:=[.v (.agg [.int .i64, .int .i64, .str])]
def PZ:List dG:=[.one (.bool)]
def afO:aY I5→Prop×bg PZ:=fun ((k,n,s,()),())=>(True,Sp.kF k n s,())
def o5:dX:=bY I5 PZ afO
def I7:List bW:=[.v (.agg [.int .i64, .int .i64, .str])]
def P5:List dG:=[.one (.bool)]
def afP:aY I7→Prop×bg P5:=fun ((k,n,s,()),())=>(True,Sp.kF k n s,())
def o6:dX:=bY I7 P5 afP
def Es:List bW:=[.v (.one (.str))]
def Ls:List dG:=[.one (.bool)]
def aa6:aY Es→Prop×bg Ls:=fun (s,())=>(True,Sp.kN s,())
def lM:dX:=bY Es Ls aa6
def Et:List bW:=[.v (.one (.str))]
def Lu:List dG:=[.one (.bool)]
def aa7:aY Et→Prop×bg Lu:=fun (s,())=>(True,Sp.kN s,())
def lN:dX:=bY Et Lu aa7
def NC:List bW:=[.v (.one (.sl aO eU false)), .v (.one (.str))]
def Vq:List dG:=[.one (.int .i64)]
def anB:aY NC→Prop×bg Vq:=fun (fs,s,())=>(True,Sp.kindOf fs s,())
def EK:dX:=bY NC Vq anB
def ND:List bW:=[.v (.one (.sl aO eU false)), .v (.one (.str))]
def Vr:List dG:=[.one (.int .i64)]
def anC:aY ND→Prop×bg Vr:=fun (fs,s,())=>(True,Sp.kindOf fs s,())
def EL:dX:=bY ND Vr anC
def G6:List bW:=[.v (.one (.sl aO eU false))]
def Ou:List dG:=[.one (.bool)]
def adI:aY G6→Prop×bg Ou:=fun (fs,())=>(True,Sp.fZ fs,())
def nS:dX:=bY G6 Ou adI
def G7:List bW:=[.v (.one (.sl aO eU false))]
def Ov:List dG:=[.one (.bool)]
def adJ:aY G7→Prop×bg Ov:=fun (fs,())=>(True,Sp.fZ fs,())
def nT:dX:=bY G7 Ov adJ
def G8:List bW:=[.v (.one (.sl aO eU false)), .v (.one (.str)), .v (.agg [.int .i64, .int .i64, .str])]
def Ox:List dG:=[.one (.bool)]
def adK:aY G8→Prop×bg Ox:=fun (fs,s,(k,n,w,()),())=>(True,Sp.jb fs s k n w,())
def yO:dX:=bY G8 Ox adK
def G9:List bW:=[.v (.one (.sl aO eU false)), .v (.one (.str)), .v (.agg [.int .i64, .int .i64, .str])]
def Oy:List dG:=[.one (.bool)]
def adL:aY G9→Prop×bg Oy:=fun (fs,s,(k,n,w,()),())=>(True,Sp.jb fs s k n w,())
def yP:dX:=bY G9 Oy adL
def KA:List bW:=[.v (.one (.sl aO eU false)), .v (.agg [.int .i64, .int .i64, .bool, .int .i64, .sl bK kP false])]
def QL:List dG:=[.one (.bool)]
def ahL:aY KA→Prop×bg QL:=fun (fs,f,())=>(True,Sp.dA fs f,())
def qp:dX:=bY KA QL ahL
def KC:List bW:=[.v (.one (.sl aO eU false)), .v (.agg [.int .i64, .int .i64, .bool, .int .i64, .sl bK kP false])]
def QM:List dG:=[.one (.bool)]
def ahM:aY KC→Prop×bg QM:=fun (fs,f,())=>(True,Sp.dA fs f,())
def qw:dX:=bY KC QM ahM
def I8:List bW:=[.v (.agg [.sl aO eU false, .sl aZ jg false, .int .i64])]
def P6:List dG:=[.one (.bool)]
def afQ:aY I8→Prop×bg P6:=fun (s,())=>(True,Sp.aN s,())
def kG:dX:=bY I8 P6 afQ
def I9:List bW:=[.v (.agg [.sl aO eU false, .sl aZ jg false, .int .i64])]
def P7:List dG:=[.one (.bool)]
def afR:aY I9→Prop×bg P7:=fun (s,())=>(True,Sp.aN s,())
def o7:dX:=bY I9 P7 afR
def LC:List bW:=[.v (.one (.sl aO eU false)), .v (.one (.sl aO eU false))]
def TP:List dG:=[.one (.bool)]
def alc:aY LC→Prop×bg TP:=fun (a,b,())=>(True,decide (a=b),())
def D5:dX:=bY LC TP alc
def NG:List bW:=[.v (.one (.sl bK kP false)), .v (.one (.sl bK kP false))]
def Vs:List dG:=[.one (.bool)]
def anD:aY NG→Prop×bg Vs:=fun (a,b,())=>(True,decide (a=b),())
def EM:dX:=bY NG Vs anD
def O5:List bW:=[.v (.agg [.int .i64, .int .i64, .bool, .int .i64, .sl bK kP false]), .v (.agg [.int .i64, .int .i64, .bool, .int .i64, .sl bK kP false])]
def Xb:List dG:=[.one (.bool)]
def ap7:aY O5→Prop×bg Xb:=fun (a,b,())=>(True,decide (a=b),())
def Gv:dX:=bY O5 Xb ap7
def NH:List bW:=[.v (.one (.sl aZ jg false)), .v (.one (.sl aZ jg false))]
def Vt:List dG:=[.one (.bool)]
def anE:aY NH→Prop×bg Vt:=fun (a,b,())=>(True,decide (a=b),())
def EN:dX:=bY NH Vt anE
def NI:List bW:=[.v (.agg [.sl aO eU false, .sl aZ jg false, .int .i64]), .v (.agg [.sl aO eU false, .sl aZ jg false, .int .i64])]
def Vu:List dG:=[.one (.bool)]
def anF:aY NI→Prop×bg Vu:=fun (a,b,())=>(True,decide (a=b),())
def EO:dX:=bY NI Vu anF
def QN:List bW:=[.v (.agg [.int .i64, .int .i64, .bool, .int .i64, .sl bK kP false])]
def YC:List dG:=[.agg [.int .i64, .int .i64, .bool, .int .i64, .sl bK kP true]]
def ato:aY QN→Prop×bg YC:=fun (f,())=>(Sp.dK f,f,())
def yu:dX:=bY QN YC ato
def O6:List bW:=[.v (.agg [.int .i64, .int .i64, .bool, .int .i64, .sl bK kP false])]
def Xc:List dG:=[.agg [.int .i64, .int .i64, .bool, .int .i64, .sl bK kP false]]
def ap8:aY O6→Prop×bg Xc:=fun (f,())=>(Sp.dK f,f,())
def oq:dX:=bY O6 Xc ap8
def UI:List bW:=[.v (.one (.int .i64))]
def aau:List dG:=[.one (.bool)]
def awj:aY UI→Prop×bg aau:=fun (u,())=>(True,(decide (0≤u)&&decide (u≤2)),())
def Lh:dX:=bY UI aau awj
def O7:List bW:=[.v (.agg [.sl aO eU false, .sl aZ jg false, .int .i64]), .v (.one (.int .i64))]
def Xd:List dG:=[.one (.int .i64)]
def ap9:aY O7→Prop×bg Xd:=fun ((_,fs,_,()),id,())=>(True,Sp.place fs id,())
def Gw:dX:=bY O7 Xd ap9
def AU:List bW:=[.v (.one (.sl aO eU false))]
def IQ:List dG:=[.one (.sl aO eU false)]
def XI:aY AU→Prop×bg IQ:=fun (l,())=>(l.length≤1000,l,())
def rH:dX:=bY AU IQ XI
def BU:List bW:=[.v (.one (.sl bK kP false))]
def JR:List dG:=[.one (.sl bK kP false)]
def YD:aY BU→Prop×bg JR:=fun (l,())=>(l.length≤1000,l,())
def sU:dX:=bY BU JR YD
def zY:List dM:=[.p (.v (.agg [.int .i64, .int .i64, .bool, .int .i64, .sl bK kP false])), .p (.v (.one (.str))), .p (.v (.agg [.int .i64, .int .i64, .str]))]
def YE:List fQ:=[.agg [.c (.int .i64), .c (.int .i64), .c .bool, .c (.int .i64), .own bK kP true]]
def UJ:cO zY→Prop×(dm YE×cZ zY→Prop):=fun ((i,o,s,l,a,()),name,(k,n,w,()),())=>(a.length≤1000,fun (((i',o',s',l',a',()),()),())=>i'=i∧o'=o∧s'=s∧l'=l∧a'=Sp.kH a name k n w)
def Ja:fE:=dR zY YE UJ
def zZ:List dM:=[.ptr [.sl jy EJ false, .int .i64, .int .i64], .p (.v (.one (.int .i64)))]
def YF:List fQ:=[.agg [.c (.int .i64), .c (.int .i64), .c .bool, .c (.int .i64), .own bK kP true]]
def UK:cO zZ→Prop×(dm YF×cZ zZ→Prop):=fun ((_,i,_,()),id,())=>(0≤i,fun (((d,o,_,l,a,()),()),((_,i',_,()),()))=>0≤i'∧d=id∧0≤o∧o≤2∧0≤l∧l≤6∧Sp.lQ Sp.usual a=true∧a.length≤4)
def Jb:fE:=dR zZ YF UK
def yw:List dM:=[.p (.v (.one (.sl aO eU false)))]
def Xe:List fQ:=[.agg [.own aO eU true, .own aZ jg true, .c (.int .i64)]]
def QO:cO yw→Prop×(dm Xe×cZ yw→Prop):=fun (s,())=>(s.length≤1000,fun (((a,l,nx,()),()),())=>a=s∧l=[]∧nx=1)
def Gx:fE:=dR yw Xe QO
def mF:List dM:=[.p (.v (.agg [.sl aO eU false, .sl aZ jg false, .int .i64]))]
def YG:List fQ:=[.agg [.own aO eU true, .own aZ jg true, .c (.int .i64)]]
def UL:cO mF→Prop×(dm YG×cZ mF→Prop):=fun (s,())=>(Sp.bQ s,fun (((a,l,nx,()),()),())=>(a,l,nx,())=s)
def pz:fE:=dR mF YG UL
def uq:List dM:=[.p (.v (.agg [.sl aO eU false, .sl aZ jg false, .int .i64])), .p (.v (.agg [.int .i64, .int .i64, .bool, .int .i64, .sl bK kP false]))]
def TQ:List fQ:=[.agg [.own aO eU true, .own aZ jg true, .c (.int .i64)], .one (.c (.int .i64)), .one (.c .bool)]
def NJ:cO uq→Prop×(dm TQ×cZ uq→Prop):=fun (s,f,())=>(Sp.bQ s∧Sp.dK f,fun (((a,l,nx,()),id,ok,()),())=>a=(Sp.dV s f).1.1∧l=(Sp.dV s f).1.2.1∧nx=(Sp.dV s f).1.2.2.1∧id=(Sp.dV s f).2.1∧ok=(Sp.dV s f).2.2)
def D6:fE:=dR uq TQ NJ
def uw:List dM:=[.p (.v (.agg [.sl aO eU false, .sl aZ jg false, .int .i64])), .p (.v (.one (.int .i64)))]
def TR:List fQ:=[.agg [.own aO eU true, .own aZ jg true, .c (.int .i64)], .one (.c .bool)]
def NK:cO uw→Prop×(dm TR×cZ uw→Prop):=fun (s,id,())=>(Sp.bQ s,fun (((a,l,nx,()),ok,()),())=>a=(Sp.fJ s id).1.1∧l=(Sp.fJ s id).1.2.1∧nx=(Sp.fJ s id).1.2.2.1∧ok=(Sp.fJ s id).2)
def D7:fE:=dR uw TR NK
def yx:List dM:=[.ptr [.sl jy EJ false, .int .i64, .int .i64]]
def Xf:List fQ:=[.agg [.own aO eU true, .own aZ jg true, .c (.int .i64)]]
def QS:cO yx→Prop×(dm Xf×cZ yx→Prop):=fun ((_,i,_,()),())=>(0≤i,fun (((a,l,nx,()),()),((_,i',_,()),()))=>0≤i'∧a=Sp.usual∧Sp.aN (a,l,nx,())=true∧nx≤l.length+2∧Sp.bQ (a,l,nx,())∧0<l.length)
def Gy:fE:=dR yx Xf QS
def aa8:List bW:=[.v (.one (.sl jy EJ false))]
def ahN:List dG:=[.one (.bool)]
def azM:aY aa8→Prop×bg ahN:=fun (code,())=>(True,decide (1048576<(code.length:Int)),())
def QT:dX:=bY aa8 ahN azM
def wJ:List dM:=[.p (.v (.one (.sl aZ jg false)))]
def Vw:List fQ:=[.one (.own aZ jg false)]
def O8:cO wJ→Prop×(dm Vw×cZ wJ→Prop):=fun (l,())=>(l.length≤1000∧∀ f∈l,Sp.dK f,fun ((r,()),())=>r=l)
def EP:fE:=dR wJ Vw O8
def kM:List dM:=[.p (.v (.agg [.sl aO eU false, .sl aZ jg false, .int .i64]))]
def Vx:List fQ:=[.agg [.c (.sl aO eU false), .own aZ jg false, .c (.int .i64)]]
def O9:cO kM→Prop×(dm Vx×cZ kM→Prop):=fun (s,())=>(Sp.bQ s,fun (((a,l,nx,()),()),())=>(a,l,nx,())=s)
def mM:fE:=dR kM Vx O9
def uy:List dM:=[.ptr [.sl jy EJ false, .int .i64, .int .i64]]
def TS:List fQ:=[.one (.c .str)]
def NM:cO uy→Prop×(dm TS×cZ uy→Prop):=fun ((_,i,_,()),())=>(0≤i,fun ((x,()),((_,i',_,()),()))=>0≤i'∧x.length≤10)
def D8:fE:=dR uy TS NM
def Aa:List dM:=[.ptr [.sl jy EJ false, .int .i64, .int .i64]]
def YH:List fQ:=[.agg [.c (.int .i64), .c (.int .i64), .c (.int .i64), .c .str, .c (.int .i64), .c (.int .i64), .c .str]]
def UM:cO Aa→Prop×(dm YH×cZ Aa→Prop):=fun ((_,i,_,()),())=>(0≤i,fun (((_,_,_,_,_,_,_,()),()),((_,i',_,()),()))=>0≤i'∧True)
def Jc:fE:=dR Aa YH UM
def QU:List dM:=[.ptr [.sl jy EJ false, .int .i64, .int .i64], .own bG iO, .p (.v (.one (.int .i64))), .p (.v (.one (.bool)))]
def YI:List fQ:=[.one (.own bG iO false)]
def ab8:cO QU→Prop×(dm YI×cZ QU→Prop):=fun ((_,i,_,()),q,deep,_,())=>(0≤i∧0≤deep∧deep≤4∧q.length+2*deep.toNat≤900,fun ((r,()),((_,i',_,()),()))=>0≤i'∧q.length<r.length∧r.length≤q.length+2*deep.toNat+1)
def anG:fE:=dR QU YI ab8
def vS:List dM:=[.ptr [.sl jy EJ false, .int .i64, .int .i64], .own bG iO, .p (.v (.one (.int .i64))), .p (.v (.one (.bool)))]
def P8:List fQ:=[.one (.own bG iO false)]
def TT [yU]:cO vS→Prop×(dm P8×cZ vS→Prop):=fun ((_,i,_,()),q,deep,_,())=>((0≤i∧0≤deep∧deep≤4∧q.length+2*deep.toNat≤900)∧deep.toNat<yg,fun ((r,()),((_,i',_,()),()))=>0≤i'∧q.length<r.length∧r.length≤q.length+2*deep.toNat+1)
def He [yU]:fE:=dR vS P8 TT
def Ac:List dM:=[.ptr [.sl jy EJ false, .int .i64, .int .i64], .own bG iO, .p (.v (.one (.int .i64))), .p (.v (.one (.bool)))]
def Oz:List fQ:=[.one (.own bG iO false)]
def BV [yU]:cO Ac→Prop×(dm Oz×cZ Ac→Prop):=fun ((_,i,_,()),q,deep,_,())=>((0≤i∧0≤deep∧deep≤4∧q.length+2*deep.toNat≤900)∧deep.toNat<yg+1,fun ((r,()),((_,i',_,()),()))=>0≤i'∧q.length<r.length∧r.length≤q.length+2*deep.toNat+1)
def OA [yU]:fE:=dR Ac Oz BV
def nC:List dM:=[.ptr [.sl jy EJ false, .int .i64, .int .i64], .p (.v (.one .nil)), .p (.v (.one (.int .i64))), .p (.v (.one (.bool)))]
def P9:List fQ:=[.one (.own bG iO false)]
def TU:cO nC→Prop×(dm P9×cZ nC→Prop):=fun ((_,i,_,()),(),deep,_,())=>(0≤i∧0≤deep∧deep≤4,fun ((r,()),((_,i',_,()),()))=>0≤i'∧0<r.length∧r.length≤0+2*deep.toNat+1)
def uz:fE:=dR nC P9 TU
def D9:List dM:=[.ptr [.sl jy EJ false, .int .i64, .int .i64]]
def QV:List fQ:=[.one (.own bG iO false)]
def LD:cO D9→Prop×(dm QV×cZ D9→Prop):=fun ((_,i,_,()),())=>(0≤i,fun ((r,()),((_,i',_,()),()))=>0≤i'∧0<r.length∧r.length≤9)
def QW:fE:=dR D9 QV LD
def kT:List dM:=[.ptr [.sl jy EJ false, .int .i64, .int .i64]]
def IU:List fQ:=[.one (.c (.sl bG iO false))]
def BZ:cO kT→Prop×(dm IU×cZ kT→Prop):=fun ((_,i,_,()),())=>(0≤i,fun ((r,()),((_,i',_,()),()))=>0≤i'∧0<r.length∧r.length≤9)
def rJ:fE:=dR kT IU BZ
def Ad:List dM:=[.ptr [.sl jy EJ false, .int .i64, .int .i64]]
def YJ:List fQ:=[.one (.own bH gY false)]
def UN:cO Ad→Prop×(dm YJ×cZ Ad→Prop):=fun ((_,i,_,()),())=>(0≤i,fun ((d,()),((_,i',_,()),()))=>0≤i'∧0<d.length∧d.length≤4∧Sp.aS d)
def Jd:fE:=dR Ad YJ UN
def Ae:List dM:=[.ptr [.sl jy EJ false, .int .i64, .int .i64]]
def YK:List fQ:=[.one (.c (.sl bH gY false))]
def UO:cO Ae→Prop×(dm YK×cZ Ae→Prop):=fun ((_,i,_,()),())=>(0≤i,fun ((d,()),((_,i',_,()),()))=>0≤i'∧d.length≤10∧Sp.aS d∧Sp.aH d=true)
def Je:fE:=dR Ae YK UO
def ER:List dM:=[.ptr [.sl jy EJ false, .int .i64, .int .i64]]
def TV:List fQ:=[.one (.c (.int .i64))]
def NP:cO ER→Prop×(dm TV×cZ ER→Prop):=fun ((_,i,_,()),())=>(0≤i,fun ((_,()),((_,i',_,()),()))=>0≤i'∧True)
def TW:fE:=dR ER TV NP
def KD:List bW:=[.v (.agg [.int .i64, .int .i64, .int .i64, .str, .int .i64, .int .i64, .str]), .v (.one (.int .i64))]
def QX:List dG:=[.one (.bool)]
def ahO:aY KD→Prop×bg QX:=fun ((o,l,r,nm,vk,vi,vs,()),at',())=>(True,Sp.lG (o,l,r,nm,vk,vi,vs,()) at',())
def Cb:dX:=bY KD QX ahO
def KE:List bW:=[.v (.agg [.int .i64, .int .i64, .int .i64, .str, .int .i64, .int .i64, .str]), .v (.one (.int .i64))]
def QY:List dG:=[.one (.bool)]
def ahP:aY KE→Prop×bg QY:=fun ((o,l,r,nm,vk,vi,vs,()),at',())=>(True,Sp.lG (o,l,r,nm,vk,vi,vs,()) at',())
def Cc:dX:=bY KE QY ahP
def Eu:List bW:=[.v (.one (.sl bG iO false)), .v (.one (.int .i64))]
def LG:List dG:=[.one (.int .i64)]
def aa9:aY Eu→Prop×bg LG:=fun (q,at',())=>(q.length≤1000000,(Sp.ou q at':Int),())
def vT:dX:=bY Eu LG aa9
def Ew:List bW:=[.v (.one (.sl bG iO false)), .v (.one (.int .i64))]
def LH:List dG:=[.one (.int .i64)]
def abb:aY Ew→Prop×bg LH:=fun (q,at',())=>(q.length≤1000000,(Sp.ou q at':Int),())
def vU:dX:=bY Ew LH abb
def Jf:List bW:=[.v (.one (.sl bG iO false))]
def Qa:List dG:=[.one (.bool)]
def afS:aY Jf→Prop×bg Qa:=fun (q,())=>(q.length≤1000000,Sp.bT q,())
def kJ:dX:=bY Jf Qa afS
def Jg:List bW:=[.v (.one (.sl bG iO false))]
def Qb:List dG:=[.one (.bool)]
def afT:aY Jg→Prop×bg Qb:=fun (q,())=>(q.length≤1000000,Sp.bT q,())
def kK:dX:=bY Jg Qb afT
def KF:List bW:=[.v (.one (.sl bH gY false))]
def QZ:List dG:=[.one (.bool)]
def ahQ:aY KF→Prop×bg QZ:=fun (d,())=>(Sp.aS d,Sp.gZ d,())
def Ce:dX:=bY KF QZ ahQ
def KG:List bW:=[.v (.one (.sl bH gY false))]
def Q5:List dG:=[.one (.bool)]
def ahR:aY KG→Prop×bg Q5:=fun (d,())=>(Sp.aS d,Sp.gZ d,())
def Ci:dX:=bY KG Q5 ahR
def Pe:List bW:=[.v (.agg [.int .i64, .int .i64, .int .i64, .str, .int .i64, .int .i64, .str])]
def Xg:List dG:=[.one (.bool)]
def aqa:aY Pe→Prop×bg Xg:=fun ((o,_,_,_,_,_,_,()),())=>(True,(o==8||o==9),())
def wK:dX:=bY Pe Xg aqa
def Jh:List bW:=[.v (.one (.sl bG iO false))]
def Qc:List dG:=[.one (.sl aqb R_4 true)]
def afU:aY Jh→Prop×bg Qc:=fun (q,())=>(q.length≤1000,Sp.negated q,())
def Af:dX:=bY Jh Qc afU
def Ji:List bW:=[.v (.one (.sl bG iO false))]
def Qd:List dG:=[.one (.sl aqb R_4 true)]
def afV:aY Ji→Prop×bg Qd:=fun (q,())=>(q.length≤1000,Sp.negated q,())
def Ag:dX:=bY Ji Qd afV
def gU:List dM:=[.p (.v (.one (.sl fB vN false)))]
def KH:List fQ:=[.one (.c (.sl fB vN true))]
def Xh:cO gU→Prop×(dm KH×cZ gU→Prop):=fun (l,())=>(l.length≤1000,fun ((r,()),())=>r.length≤l.length∧∀ s,s∈r↔s∈l)
def iK:fE:=dR gU KH Xh
def oz:List dM:=[.p (.v (.one (.sl bG iO false))), .p (.v (.one (.bool)))]
def Vy:List fQ:=[.one (.c (.sl fB vN true))]
def Pg:cO oz→Prop×(dm Vy×cZ oz→Prop):=fun (q,neg,())=>(q.length≤1000,fun ((r,()),())=>Sp.dN r (Sp.eX q neg))
def uD:fE:=dR oz Vy Pg
def qx:List dM:=[.p (.v (.one (.sl bG iO false)))]
def Qe:List fQ:=[.one (.c (.sl fB vN true))]
def KI:cO qx→Prop×(dm Qe×cZ qx→Prop):=fun (q,())=>(q.length≤1000,fun ((r,()),())=>Sp.dN r (Sp.eX q false))
def Ah:fE:=dR qx Qe KI
def qy:List dM:=[.p (.v (.one (.sl bG iO false)))]
def Qg:List fQ:=[.one (.c (.sl fB vN true))]
def KJ:cO qy→Prop×(dm Qg×cZ qy→Prop):=fun (q,())=>(q.length≤1000,fun ((r,()),())=>Sp.dN r (Sp.eX q true))
def Ai:fE:=dR qy Qg KJ
def UQ:List bW:=[.v (.one (.sl fB vN false)), .v (.one (.str))]
def aav:List dG:=[.one (.sl fB vN false)]
def awk:aY UQ→Prop×bg aav:=fun (l,s,())=>(l.length≤1000,Sp.YL l s,())
def Lj:dX:=bY UQ aav awk
def pF:List dM:=[.p (.v (.one (.sl bG iO false))), .p (.v (.one (.bool)))]
def Xi:List fQ:=[.one (.c (.sl fB vN true))]
def Q7:cO pF→Prop×(dm Xi×cZ pF→Prop):=fun (q,neg,())=>(q.length≤1000,fun ((r,()),())=>Sp.dN r (Sp.eX q neg))
def wL:fE:=dR pF Xi Q7
def qA:List dM:=[.p (.v (.one (.sl bG iO false)))]
def Qh:List fQ:=[.one (.c (.sl fB vN true))]
def KL:cO qA→Prop×(dm Qh×cZ qA→Prop):=fun (q,())=>(q.length≤1000,fun ((r,()),())=>Sp.dN r (Sp.eX q false))
def Aj:fE:=dR qA Qh KL
def qB:List dM:=[.p (.v (.one (.sl bG iO false)))]
def Qi:List fQ:=[.one (.c (.sl fB vN true))]
def KN:cO qB→Prop×(dm Qi×cZ qB→Prop):=fun (q,())=>(q.length≤1000,fun ((r,()),())=>Sp.dN r (Sp.eX q true))
def Ak:fE:=dR qB Qi KN
def Q8:List bW:=[.v (.agg [.str, .sl bG iO false]), .kp [.str]]
def YM:List dG:=[.one (.bool)]
def atp:aY Q8→Prop×bg YM:=fun ((nm,_,()),name,())=>(True,(nm==name.1),())
def yA:dX:=bY Q8 YM atp
def lS:List bW:=[.v (.one (.sl bH gY false)), .fn 251 [[.str]]]
def tN:List dG:=[.one (.int .i64)]
def II:aY lS→Prop×bg tN:=fun (d,((name,()),()),())=>(True,Sp.aU d name,())
def jq:dX:=bY lS tN II
def Ws:List bW:=[.v (.one (.sl bH gY false)), .v (.one (.str))]
def ab9:List dG:=[.one (.int .i64)]
def aw9:aY Ws→Prop×bg ab9:=fun (d,name,())=>(True,Sp.aU d name,())
def MQ:dX:=bY Ws ab9 aw9
def Ph:List bW:=[.v (.one (.sl bH gY false)), .v (.one (.str))]
def Xj:List dG:=[.one (.int .i64)]
def aqc:aY Ph→Prop×bg Xj:=fun (d,name,())=>(True,Sp.aU d name,())
def Gz:dX:=bY Ph Xj aqc
def KO:List bW:=[.v (.one (.sl bH gY false)), .v (.one (.sl fU lF false)), .v (.one (.sl fB vN false)), .v (.one (.int .i64))]
def Q9:List dG:=[.one (.int .i64)]
def ahS:aY KO→Prop×bg Q9:=fun (d,aF,names,more,())=>(d.length≤aF.length∧names.length≤1000∧0≤more∧more≤1∧∀ x∈aF,0≤x.1∧x.1≤1000000,Sp.Du d aF more names,())
def Cj:dX:=bY KO Q9 ahS
def uF:List dM:=[.p (.v (.one (.sl bH gY false)))]
def aaw:List fQ:=[.one (.c (.sl fU lF true)), .one (.c .bool)]
def Wu:cO uF→Prop×(dm aaw×cZ uF→Prop):=fun (d,())=>(Sp.aS d,fun ((s,ok,()),())=>ok=Sp.aH d∧(ok=true→Sp.nR d s))
def Am:fE:=dR uF aaw Wu
def yB:List dM:=[.p (.v (.one (.sl bH gY false))), .p (.v (.one (.sl fU lF false)))]
def Xk:List fQ:=[.one (.own fU lF true)]
def ES:cO yB→Prop×(dm Xk×cZ yB→Prop):=fun (d,aF,())=>(Sp.aS d∧d.length≤5∧aF.length=d.length∧∀ x∈aF,0≤x.1∧x.1≤1000000,fun ((r,()),())=>Sp.raised d aF r)
def GH:fE:=dR yB Xk ES
def Rf:List bW:=[.v (.one (.sl fU lF false)), .v (.one (.sl fU lF false))]
def YN:List dG:=[.one (.bool)]
def atq:aY Rf→Prop×bg YN:=fun (a,b,())=>(True,decide (a=b),())
def yC:dX:=bY Rf YN atq
def nU:List dM:=[.p (.v (.one (.sl bH gY false)))]
def aax:List fQ:=[.one (.c (.sl fU lF true)), .one (.c .bool)]
def Wv:cO nU→Prop×(dm aax×cZ nU→Prop):=fun (d,())=>(Sp.aS d,fun ((s,ok,()),())=>ok=Sp.aH d∧(ok=true→Sp.nR d s)∧(ok=false→s=[]))
def rM:fE:=dR nU aax Wv
def Jj:List bW:=[.v (.one (.sl bH gY false))]
def Qj:List dG:=[.one (.bool)]
def afW:aY Jj→Prop×bg Qj:=fun (d,())=>(Sp.aS d,Sp.aH d,())
def Ap:dX:=bY Jj Qj afW
def Cm:List bW:=[.v (.one (.sl bG iO false))]
def JS:List dG:=[.one (.sl bG iO false)]
def YO:aY Cm→Prop×bg JS:=fun (l,())=>(l.length≤1000,l,())
def sV:dX:=bY Cm JS YO
def Rh:List bW:=[.v (.agg [.str, .sl bG iO false])]
def YP:List dG:=[.agg [.str, .sl bG iO false]]
def atr:aY Rh→Prop×bg YP:=fun ((n,q,()),())=>(q.length≤1000,(n,q,()),())
def Jk:dX:=bY Rh YP atr
def Pj:List bW:=[.v (.one (.sl bH gY false))]
def Xl:List dG:=[.one (.sl bH gY false)]
def aqd:aY Pj→Prop×bg Xl:=fun (d,())=>(Sp.aS d,d,())
def wM:dX:=bY Pj Xl aqd
def Ri:List bW:=[.v (.one (.sl bH gY false))]
def YQ:List dG:=[.one (.sl bH gY true)]
def att:aY Ri→Prop×bg YQ:=fun (d,())=>(Sp.aS d,d,())
def Jl:dX:=bY Ri YQ att
def NQ:List bW:=[.v (.one (.sl bG iO false)), .v (.one (.sl bG iO false))]
def Vz:List dG:=[.one (.bool)]
def anH:aY NQ→Prop×bg Vz:=fun (a,b,())=>(True,decide (a=b),())
def ET:dX:=bY NQ Vz anH
def Rj:List bW:=[.v (.agg [.str, .sl bG iO false]), .v (.agg [.str, .sl bG iO false])]
def YR:List dG:=[.one (.bool)]
def atu:aY Rj→Prop×bg YR:=fun (a,b,())=>(True,decide (a=b),())
def Jm:dX:=bY Rj YR atu
def Pm:List bW:=[.v (.one (.sl bH gY false)), .v (.one (.sl bH gY false))]
def Xm:List dG:=[.one (.bool)]
def aqe:aY Pm→Prop×bg Xm:=fun (a,b,())=>(True,decide (a=b),())
def GI:dX:=bY Pm Xm aqe
def Rk:List bW:=[.v (.agg [.int .i64, .int .i64, .bool, .int .i64, .sl bK kP false]), .v (.one (.str))]
def YS:List dG:=[.agg [.int .i64, .int .i64, .str]]
def atv:aY Rk→Prop×bg YS:=fun ((_,_,_,_,a,()),name,())=>(True,Sp.dF a name,())
def pG:dX:=bY Rk YS atv
def Rl:List bW:=[.v (.agg [.int .i64, .int .i64, .bool, .int .i64, .sl bK kP false]), .v (.one (.str))]
def YT:List dG:=[.agg [.int .i64, .int .i64, .str]]
def atw:aY Rl→Prop×bg YT:=fun ((_,_,_,_,a,()),name,())=>(True,Sp.dF a name,())
def Jo:dX:=bY Rl YT atw
def Rn:List bW:=[.v (.agg [.int .i64, .int .i64, .bool, .int .i64, .sl bK kP false]), .v (.one (.str))]
def YU:List dG:=[.one (.int .i64), .one (.bool)]
def atx:aY Rn→Prop×bg YU:=fun ((_,_,_,_,a,()),name,())=>(True,(bif (Sp.dF a name).1==1 then (Sp.dF a name).2.1 else 0),((Sp.dF a name).1==1),())
def Jp:dX:=bY Rn YU atx
def KP:List bW:=[.v (.one (.sl fU lF false)), .v (.one (.int .i64))]
def Ro:List dG:=[.one (.int .i64)]
def ahT:aY KP→Prop×bg Ro:=fun (s,v,())=>(True,Sp.findAt (fun x=>x.1==v) s,())
def CB:dX:=bY KP Ro ahT
def FY:List bW:=[.v (.one (.sl fU lF false)), .v (.one (.int .i64))]
def Nj:List dG:=[.one (.bool)]
def acd:aY FY→Prop×bg Nj:=fun (s,v,())=>(True,Sp.dS s v,())
def mY:dX:=bY FY Nj acd
def FZ:List bW:=[.v (.one (.sl fB vN false)), .v (.one (.str))]
def Nk:List dG:=[.one (.int .i64)]
def ace:aY FZ→Prop×bg Nk:=fun (s,v,())=>(True,Sp.findAt (fun x=>x.1==v) s,())
def xB:dX:=bY FZ Nk ace
def CG:List bW:=[.v (.one (.sl fB vN false)), .v (.one (.str))]
def JU:List dG:=[.one (.bool)]
def YV:aY CG→Prop×bg JU:=fun (s,v,())=>(True,Sp.iG s v,())
def gu:dX:=bY CG JU YV
def LJ:List bW:=[.v (.one (.sl fU lF false)), .v (.one (.int .i64))]
def TY:List dG:=[.one (.bool)]
def ald:aY LJ→Prop×bg TY:=fun (s,v,())=>(True,Sp.dS s v,())
def Ea:dX:=bY LJ TY ald
def LK:List bW:=[.v (.one (.sl fU lF false)), .v (.one (.int .i64))]
def Ua:List dG:=[.one (.bool)]
def ale:aY LK→Prop×bg Ua:=fun (s,v,())=>(True,Sp.dS s v,())
def su:dX:=bY LK Ua ale
def KQ:List bW:=[.v (.one (.sl fU lF false))]
def Rq:List dG:=[.one (.sl fU lF false)]
def ahU:aY KQ→Prop×bg Rq:=fun (l,())=>(l.length≤1000,l,())
def qC:dX:=bY KQ Rq ahU
def NR:List bW:=[.v (.one (.sl aX iT false)), .v (.one (.str))]
def VA:List dG:=[.one (.sl fU lF false)]
def anI:aY NR→Prop×bg VA:=fun (r,name,())=>(Sp.bJ r,Sp.gV r name,())
def mO:dX:=bY NR VA anI
def NS:List bW:=[.v (.one (.sl aX iT false)), .v (.one (.str))]
def VB:List dG:=[.one (.sl fU lF true)]
def anJ:aY NS→Prop×bg VB:=fun (r,name,())=>(Sp.bJ r,Sp.gV r name,())
def EU:dX:=bY NS VB anJ
def Xn:List bW:=[.v (.one (.sl bG iO false)), .v (.one (.int .i64)), .v (.agg [.int .i64, .int .i64, .bool, .int .i64, .sl bK kP false]), .v (.one (.sl aX iT false))]
def VD:List dG:=[.one (.bool)]
def anK:aY Xn→Prop×bg VD:=fun (q,at',(i,o,s,l,a,()),r,())=>(Sp.bT q=true∧0≤at'∧at'<q.length∧Sp.bJ r,Sp.val q (i,o,s,l,a,()) (Sp.bD r) at'.toNat,())
def LM:dX:=bY Xn VD anK
def OB:List bW:=[.v (.one (.sl bG iO false)), .v (.one (.int .i64)), .v (.agg [.int .i64, .int .i64, .bool, .int .i64, .sl bK kP false]), .v (.one (.sl aX iT false))]
def Nl:List dG:=[.one (.bool)]
def Qk [yU]:aY OB→Prop×bg Nl:=fun (q,at',(i,o,s,l,a,()),r,())=>((Sp.bT q=true∧0≤at'∧at'<q.length∧Sp.bJ r)∧at'.toNat<yg,Sp.val q (i,o,s,l,a,()) (Sp.bD r) at'.toNat,())
def Ey [yU]:dX:=bY OB Nl Qk
def Ez:List bW:=[.v (.one (.sl bG iO false)), .v (.one (.int .i64)), .v (.agg [.int .i64, .int .i64, .bool, .int .i64, .sl bK kP false]), .v (.one (.sl aX iT false))]
def LP:List dG:=[.one (.bool)]
def OC [yU]:aY Ez→Prop×bg LP:=fun (q,at',(i,o,s,l,a,()),r,())=>((Sp.bT q=true∧0≤at'∧at'<q.length∧Sp.bJ r)∧at'.toNat<yg+1,Sp.val q (i,o,s,l,a,()) (Sp.bD r) at'.toNat,())
def LQ [yU]:dX:=bY Ez LP OC
def aay:List bW:=[.v (.one (.sl bG iO false)), .v (.one (.int .i64)), .v (.agg [.int .i64, .int .i64, .bool, .int .i64, .sl bK kP false]), .v (.one (.sl aX iT false))]
def YW:List dG:=[.one (.bool)]
def aty:aY aay→Prop×bg YW:=fun (q,at',(i,o,s,l,a,()),r,())=>(Sp.bT q=true∧0≤at'∧at'<q.length∧Sp.bJ r,Sp.val q (i,o,s,l,a,()) (Sp.bD r) at'.toNat,())
def Pn:dX:=bY aay YW aty
def Rt:List bW:=[.v (.one (.sl bG iO false)), .v (.one (.int .i64)), .v (.agg [.int .i64, .int .i64, .bool, .int .i64, .sl bK kP false]), .v (.one (.sl aX iT false))]
def Ql:List dG:=[.one (.bool)]
def Ub [yU]:aY Rt→Prop×bg Ql:=fun (q,at',(i,o,s,l,a,()),r,())=>((Sp.bT q=true∧0≤at'∧at'<q.length∧Sp.bJ r)∧at'.toNat<yg,Sp.val q (i,o,s,l,a,()) (Sp.bD r) at'.toNat,())
def Hf [yU]:dX:=bY Rt Ql Ub
def Hg:List bW:=[.v (.one (.sl bG iO false)), .v (.one (.int .i64)), .v (.agg [.int .i64, .int .i64, .bool, .int .i64, .sl bK kP false]), .v (.one (.sl aX iT false))]
def OD:List dG:=[.one (.bool)]
def Ru [yU]:aY Hg→Prop×bg OD:=fun (q,at',(i,o,s,l,a,()),r,())=>((Sp.bT q=true∧0≤at'∧at'<q.length∧Sp.bJ r)∧at'.toNat<yg+1,Sp.val q (i,o,s,l,a,()) (Sp.bD r) at'.toNat,())
def OE [yU]:dX:=bY Hg OD Ru
def Rw:List bW:=[.v (.one (.sl bG iO false)), .v (.agg [.int .i64, .int .i64, .bool, .int .i64, .sl bK kP false]), .v (.one (.sl aX iT false))]
def YX:List dG:=[.one (.bool)]
def atz:aY Rw→Prop×bg YX:=fun (q,f,r,())=>(q.length≤1000∧Sp.bJ r,Sp.jh q f (Sp.bD r),())
def Jq:dX:=bY Rw YX atz
def Rx:List bW:=[.v (.one (.sl bG iO false)), .v (.agg [.int .i64, .int .i64, .bool, .int .i64, .sl bK kP false]), .v (.one (.sl aX iT false))]
def YZ:List dG:=[.one (.bool)]
def atA:aY Rx→Prop×bg YZ:=fun (q,f,r,())=>(q.length≤1000∧Sp.bJ r,Sp.jh q f (Sp.bD r),())
def Jr:dX:=bY Rx YZ atA
def KR:List bW:=[.v (.agg [.sl aO eU false, .sl aZ jg false, .int .i64]), .v (.one (.sl bG iO false)), .v (.one (.sl aX iT false))]
def Ry:List dG:=[.one (.sl fU lF true)]
def ahV:aY KR→Prop×bg Ry:=fun (s,q,r,())=>(Sp.bQ s∧q.length≤1000∧Sp.bJ r,Sp.sel s.2.1 q (Sp.bD r),())
def CJ:dX:=bY KR Ry ahV
def KT:List bW:=[.v (.agg [.sl aO eU false, .sl aZ jg false, .int .i64]), .v (.one (.sl bG iO false)), .v (.one (.sl aX iT false))]
def Rz:List dG:=[.one (.sl fU lF true)]
def ahW:aY KT→Prop×bg Rz:=fun (s,q,r,())=>(Sp.bQ s∧q.length≤1000∧Sp.bJ r,Sp.sel s.2.1 q (Sp.bD r),())
def CO:dX:=bY KT Rz ahW
def KU:List bW:=[.v (.one (.sl fU lF false)), .v (.one (.sl fU lF false))]
def RD:List dG:=[.one (.bool)]
def ahX:aY KU→Prop×bg RD:=fun (a,b,())=>(True,decide (a=b),())
def qE:dX:=bY KU RD ahX
def F5:List bW:=[.v (.agg [.str, .sl fU lF false]), .v (.agg [.str, .sl fU lF false])]
def Np:List dG:=[.one (.bool)]
def acf:aY F5→Prop×bg Np:=fun (a,b,())=>(True,decide (a=b),())
def mZ:dX:=bY F5 Np acf
def iD:List bW:=[.v (.one (.sl aX iT false)), .v (.one (.sl aX iT false)), .fn 120 []]
def jW:List dG:=[.one (.bool)]
def uG:aY iD→Prop×bg jW:=fun (a,b,_,())=>(True,decide (a=b),())
def eY:dX:=bY iD jW uG
def Js:List bW:=[.v (.one (.sl aX iT false)), .v (.one (.sl aX iT false))]
def Qm:List dG:=[.one (.bool)]
def afX:aY Js→Prop×bg Qm:=fun (a,b,())=>(True,decide (a=b),())
def Aq:dX:=bY Js Qm afX
def wO:List dM:=[.p (.v (.one (.sl fU lF false)))]
def VE:List fQ:=[.one (.c (.int .i64))]
def Po:cO wO→Prop×(dm VE×cZ wO→Prop):=fun (l,())=>(0<l.length,fun ((m,()),())=>(∀ x∈l,x.1≤m)∧(m,())∈l)
def EW:fE:=dR wO VE Po
def uH:List dM:=[.p (.v (.one (.sl bH gY false)))]
def Uc:List fQ:=[.one (.c (.int .i64))]
def NT:cO uH→Prop×(dm Uc×cZ uH→Prop):=fun (d,())=>(Sp.aS d,fun ((m,()),())=>Sp.acg d m)
def Eb:fE:=dR uH Uc NT
def uI:List dM:=[.p (.v (.one (.sl bH gY false)))]
def Ud:List fQ:=[.one (.c (.int .i64))]
def NU:cO uI→Prop×(dm Ud×cZ uI→Prop):=fun (d,())=>(Sp.aS d,fun ((m,()),())=>Sp.acg d m)
def Ec:fE:=dR uI Ud NU
def Pq:List bW:=[.v (.one (.sl bH gY false))]
def Xo:List dG:=[.one (.sl fB vN true)]
def aqf:aY Pq→Prop×bg Xo:=fun (d,())=>(d.length≤1000,Sp.lT d,())
def wP:dX:=bY Pq Xo aqf
def oC:List dM:=[.p (.v (.agg [.sl aO eU false, .sl aZ jg false, .int .i64])), .p (.v (.one (.sl bH gY false))), .p (.v (.one (.sl aX iT false))), .p (.v (.one (.sl fB vN false)))]
def VF:List fQ:=[.one (.c (.sl aX iT false)), .one (.c (.int .i64)), .one (.c .bool)]
def Pv:cO oC→Prop×(dm VF×cZ oC→Prop):=fun (s,d,r,names,())=>(Sp.bQ s∧Sp.aS d∧Sp.bJ r,fun ((out,_,ok,()),())=>ok=(Sp.aH d&&Sp.aN s)∧(ok=true→Sp.iY s.2.1 d r (Sp.iG names) out))
def uJ:fE:=dR oC VF Pv
def yD:List dM:=[.p (.v (.agg [.sl aO eU false, .sl aZ jg false, .int .i64])), .p (.v (.one (.sl bH gY false)))]
def Xp:List fQ:=[.one (.c (.sl aX iT false)), .one (.c .bool)]
def RG:cO yD→Prop×(dm Xp×cZ yD→Prop):=fun (s,d,())=>(Sp.bQ s∧Sp.aS d,fun ((out,ok,()),())=>ok=(Sp.aH d&&Sp.aN s)∧(ok=true→Sp.iY s.2.1 d [] (fun _=>true) out))
def GK:fE:=dR yD Xp RG
def uK:List dM:=[.p (.v (.agg [.sl aO eU false, .sl aZ jg false, .int .i64])), .p (.v (.one (.sl bH gY false))), .p (.v (.one (.sl aX iT false))), .p (.v (.one (.sl fB vN false)))]
def Ue:List fQ:=[.one (.c (.sl aX iT false)), .one (.c .bool)]
def NV:cO uK→Prop×(dm Ue×cZ uK→Prop):=fun (s,d,r,names,())=>(Sp.bQ s∧Sp.aS d∧Sp.bJ r,fun ((out,ok,()),())=>ok=(Sp.aH d&&Sp.aN s)∧(ok=true→Sp.iY s.2.1 d r (Sp.iG names) out))
def Ed:fE:=dR uK Ue NV
def Dl:List dM:=[.p (.v (.agg [.sl aO eU false, .sl aZ jg false, .int .i64])), .p (.v (.one (.sl bH gY false)))]
def aaz:List fQ:=[.one (.c (.sl aX iT false)), .one (.c (.int .i64)), .one (.c .bool)]
def Wx:cO Dl→Prop×(dm aaz×cZ Dl→Prop):=fun (s,d,())=>(Sp.bQ s∧Sp.aS d,fun ((out,_,ok,()),())=>ok=(Sp.aH d&&Sp.aN s)∧(ok=true→Sp.iY s.2.1 d [] (fun _=>true) out))
def Ll:fE:=dR Dl aaz Wx
def yE:List dM:=[.p (.v (.agg [.sl aO eU false, .sl aZ jg false, .int .i64])), .p (.v (.one (.sl bH gY false)))]
def Xq:List fQ:=[.one (.c (.sl aX iT false)), .one (.c .bool)]
def RH:cO yE→Prop×(dm Xq×cZ yE→Prop):=fun (s,d,())=>(Sp.bQ s∧Sp.aS d,fun ((out,ok,()),())=>ok=(Sp.aH d&&Sp.aN s)∧(ok=true→Sp.iY s.2.1 d [] (fun _=>true) out))
def GL:fE:=dR yE Xq RH
def uM:List dM:=[.p (.v (.agg [.sl aO eU false, .sl aZ jg false, .int .i64])), .p (.v (.one (.sl bH gY false)))]
def Uf:List fQ:=[.agg [.c (.sl aO eU false), .c (.sl aZ jg false), .c (.int .i64), .c (.sl bH gY false), .c (.sl aX iT false)], .one (.c .bool)]
def NW:cO uM→Prop×(dm Uf×cZ uM→Prop):=fun (s,d,())=>(Sp.bQ s∧Sp.aS d,fun (((a,l,nx,e,r,()),ok,()),())=>ok=(Sp.aH d&&Sp.aN s)∧(ok=true→(a,l,nx,())=s∧e=d∧Sp.iY s.2.1 d [] (fun _=>true) r)∧(ok=false→(a,l,nx,e,r,())=([],[],0,[],[],())))
def Ee:fE:=dR uM Uf NW
def NY:List bW:=[.v (.agg [.sl aO eU false, .sl aZ jg false, .int .i64, .sl bH gY false, .sl aX iT false])]
def VG:List dG:=[.one (.bool)]
def anL:aY NY→Prop×bg VG:=fun (c,())=>(Sp.uN c,Sp.yQ c,())
def EX:dX:=bY NY VG anL
def UR:List bW:=[.v (.agg [.sl aO eU false, .sl aZ jg false, .int .i64]), .v (.one (.int .i64))]
def aaA:List dG:=[.one (.int .i64)]
def awl:aY UR→Prop×bg aaA:=fun ((_,fs,_,()),id,())=>(True,Sp.place fs id,())
def Ar:dX:=bY UR aaA awl
def Px:List bW:=[.v (.agg [.int .i64, .int .i64, .bool, .int .i64, .sl bK kP false]), .kp [.int .i64]]
def Xr:List dG:=[.one (.bool)]
def aqg:aY Px→Prop×bg Xr:=fun ((i,_,_,_,_,()),id,())=>(True,decide (i=id.1),())
def wQ:dX:=bY Px Xr aqg
def kX:List bW:=[.v (.one (.sl aZ jg false)), .fn 161 [[.int .i64]]]
def rO:List dG:=[.one (.int .i64)]
def Gp:aY kX→Prop×bg rO:=fun (l,((id,()),()),())=>(True,Sp.place l id,())
def je:dX:=bY kX rO Gp
def Py:List bW:=[.v (.agg [.sl aO eU false, .sl aZ jg false, .int .i64]), .v (.one (.int .i64))]
def Xt:List dG:=[.agg [.int .i64, .int .i64, .bool, .int .i64, .sl bK kP false], .one (.bool)]
def aqh:aY Py→Prop×bg Xt:=fun (s,id,())=>(Sp.bQ s,(Sp.jY s id).1,(Sp.jY s id).2,())
def GN:dX:=bY Py Xt aqh
def sD:List dM:=[.p (.v (.agg [.sl aO eU false, .sl aZ jg false, .int .i64])), .p (.v (.agg [.int .i64, .int .i64, .bool, .int .i64, .sl bK kP false]))]
def RI:List fQ:=[.agg [.c (.sl aO eU false), .own aZ jg false, .c (.int .i64)], .one (.c .bool)]
def LU:cO sD→Prop×(dm RI×cZ sD→Prop):=fun (s,f,())=>(Sp.bQ s∧Sp.dK f,fun (((a,l,nx,()),ok,()),())=>a=(Sp.bU s f).1.1∧l=(Sp.bU s f).1.2.1∧nx=(Sp.bU s f).1.2.2.1∧ok=(Sp.bU s f).2)
def CP:fE:=dR sD RI LU
def NZ:List bW:=[.v (.agg [.int .i64, .int .i64, .bool, .int .i64, .sl bK kP false])]
def VH:List dG:=[.one (.sl fB vN true)]
def anM:aY NZ→Prop×bg VH:=fun ((_,_,_,_,a,()),())=>(a.length≤1000,Sp.kU a,())
def VI:dX:=bY NZ VH anM
def qF:List dM:=[.p (.v (.agg [.int .i64, .int .i64, .bool, .int .i64, .sl bK kP false])), .p (.v (.agg [.int .i64, .int .i64, .bool, .int .i64, .sl bK kP false]))]
def Qn:List fQ:=[.one (.c (.sl fB vN true))]
def KW:cO qF→Prop×(dm Qn×cZ qF→Prop):=fun (f,g,())=>(Sp.dK f∧Sp.dK g∧f.2.2.2.2.1.length+g.2.2.2.2.1.length≤1000,fun ((r,()),())=>Sp.dN r (Sp.oH f g))
def Au:fE:=dR qF Qn KW
def uO:List dM:=[.p (.v (.one (.sl bG iO false)))]
def Ug:List fQ:=[.one (.c (.sl fB vN true))]
def N7:cO uO→Prop×(dm Ug×cZ uO→Prop):=fun (q,())=>(q.length≤1000,fun ((r,()),())=>Sp.dN r (Sp.wR q))
def Ef:fE:=dR uO Ug N7
def wS:List dM:=[.p (.v (.one (.sl bG iO false)))]
def VJ:List fQ:=[.one (.c (.sl fB vN true))]
def Pz:cO wS→Prop×(dm VJ×cZ wS→Prop):=fun (q,())=>(q.length≤1000,fun ((r,()),())=>Sp.dN r (Sp.JV q))
def EY:fE:=dR wS VJ Pz
def uP:List dM:=[.p (.v (.one (.sl bH gY false))), .p (.v (.one (.str)))]
def Uh:List fQ:=[.one (.c (.sl fB vN true))]
def N8:cO uP→Prop×(dm Uh×cZ uP→Prop):=fun (d,name,())=>(Sp.aS d,fun ((r,()),())=>r=Sp.asking d name)
def Eg:fE:=dR uP Uh N8
def jU:List dM:=[.p (.v (.one (.sl bH gY false))), .p (.v (.one (.sl fB vN false)))]
def Gm:List fQ:=[.one (.c (.sl fB vN true))]
def yV:cO jU→Prop×(dm Gm×cZ jU→Prop):=fun (d,names,())=>(Sp.aS d∧d.length≤5∧names.length≤900,fun ((r,()),())=>Sp.reached d names r)
def o8:fE:=dR jU Gm yV
def AX:List bW:=[.v (.agg [.int .i64, .int .i64, .int .i64, .str, .int .i64, .int .i64, .str])]
def IV:List dG:=[.one (.bool)]
def XJ:aY AX→Prop×bg IV:=fun ((o,_,_,_,_,_,_,()),())=>(True,(o==9),())
def iQ:dX:=bY AX IV XJ
def jm:List bW:=[.v (.one (.sl bG iO false)), .fn 177 []]
def mG:List dG:=[.one (.int .i64)]
def zO:aY jm→Prop×bg mG:=fun (q,_,())=>(True,Sp.findAt (fun n=>n.1==9) q,())
def gI:dX:=bY jm mG zO
def jc:List bW:=[.v (.one (.sl bG iO false)), .fn 177 []]
def lH:List dG:=[.one (.bool)]
def yF:aY jc→Prop×bg lH:=fun (q,_,())=>(True,Sp.linked q,())
def fV:dX:=bY jc lH yF
def lU:List dM:=[.p (.v (.one (.sl bH gY false))), .p (.v (.agg [.int .i64, .int .i64, .bool, .int .i64, .sl bK kP false])), .p (.v (.agg [.int .i64, .int .i64, .bool, .int .i64, .sl bK kP false]))]
def Lm:List fQ:=[.one (.c (.sl fB vN true))]
def EC:cO lU→Prop×(dm Lm×cZ lU→Prop):=fun (d,f,g,())=>(Sp.aS d∧Sp.dK f∧Sp.dK g∧f.2.2.2.2.1.length+g.2.2.2.2.1.length≤1000,fun ((r,()),())=>Sp.touched d f g r)
def vJ:fE:=dR lU Lm EC
def AY:List bW:=[.v (.one (.str)), .kp [.sl fB vN false]]
def IW:List dG:=[.one (.bool)]
def XK:aY AY→Prop×bg IW:=fun (nm,attrs,())=>(True,Sp.iG attrs.1 nm,())
def iR:dX:=bY AY IW XK
def jF:List bW:=[.v (.one (.sl fB vN false)), .fn 175 [[.sl fB vN false]]]
def nM:List dG:=[.one (.int .i64)]
def CQ:aY jF→Prop×bg nM:=fun (l,((attrs,()),()),())=>(True,Sp.findAt (fun x=>Sp.iG attrs x.1) l,())
def iw:dX:=bY jF nM CQ
def jo:List bW:=[.v (.one (.sl fB vN false)), .fn 175 [[.sl fB vN false]]]
def mJ:List dG:=[.one (.bool)]
def zQ:aY jo→Prop×bg mJ:=fun (l,((attrs,()),()),())=>(True,l.any fun x=>Sp.iG attrs x.1,())
def gJ:dX:=bY jo mJ zQ
def kL:List dM:=[.p (.v (.one (.sl fB vN false)))]
def Hl:List fQ:=[.one (.own fB vN false)]
def AZ:cO kL→Prop×(dm Hl×cZ kL→Prop):=fun (l,())=>(l.length≤1000,fun ((r,()),())=>r=l)
def qG:fE:=dR kL Hl AZ
def lV:List dM:=[.p (.v (.one (.sl fU lF false)))]
def Lp:List fQ:=[.one (.own fU lF false)]
def ED:cO lV→Prop×(dm Lp×cZ lV→Prop):=fun (l,())=>(l.length≤1000,fun ((r,()),())=>r=l)
def vK:fE:=dR lV Lp ED
def N9:List bW:=[.v (.one (.int .i64)), .kp [.sl fU lF false]]
def VK:List dG:=[.one (.bool)]
def anN:aY N9→Prop×bg VK:=fun (x,b,())=>(True,Sp.dS b.1 x,())
def mP:dX:=bY N9 VK anN
def nN:List bW:=[.v (.one (.sl fU lF false)), .fn 239 [[.sl fU lF false]]]
def vV:List dG:=[.one (.int .i64)]
def KX:aY nN→Prop×bg vV:=fun (l,((b,()),()),())=>(True,Sp.findAt (fun x=>Sp.dS b x.1) l,())
def jJ:dX:=bY nN vV KX
def gB:List dM:=[.own fU lF, .p (.fn 239 [[.sl fU lF false]])]
def vO:List fQ:=[.one (.own fU lF false)]
def nO:cO gB→Prop×(dm vO×cZ gB→Prop):=fun (s,((b,()),()),())=>(s.length≤1000,fun ((r,()),())=>r=s.filter fun x=>!Sp.dS b x.1)
def jE:fE:=dR gB vO nO
def Aw:List dM:=[.p (.v (.one (.sl fU lF false))), .p (.v (.one (.sl fU lF false)))]
def Y0:List fQ:=[.one (.own fU lF false)]
def UU:cO Aw→Prop×(dm Y0×cZ Aw→Prop):=fun (a,b,())=>(a.length≤1000,fun ((r,()),())=>r=Sp.without a b)
def Jt:fE:=dR Aw Y0 UU
def Az:List dM:=[.p (.v (.one (.sl fU lF false))), .p (.v (.one (.sl fU lF false)))]
def Y3:List fQ:=[.one (.c (.sl fU lF false)), .one (.c (.sl fU lF false))]
def UW:cO Az→Prop×(dm Y3×cZ Az→Prop):=fun (a,b,())=>(a.length≤1000∧b.length≤1000,fun ((x,y,()),())=>x=Sp.without b a∧y=Sp.without a b)
def Ju:fE:=dR Az Y3 UW
def sF:List dM:=[.p (.v (.one (.sl aX iT false))), .p (.v (.one (.sl aX iT false)))]
def RJ:List fQ:=[.one (.c (.sl Kr akQ false))]
def LV:cO sF→Prop×(dm RJ×cZ sF→Prop):=fun (a,b,())=>(Sp.bJ a∧Sp.bJ b,fun ((r,()),())=>r=Sp.GR a b)
def CS:fE:=dR sF RJ LV
def sG:List dM:=[.p (.v (.one (.sl aX iT false)))]
def RN:List fQ:=[.one (.c (.sl aX iT false))]
def LW:cO sG→Prop×(dm RN×cZ sG→Prop):=fun (r,())=>(Sp.bJ r,fun ((q,()),())=>q=r)
def CU:fE:=dR sG RN LW
def lK:List dM:=[.p (.v (.agg [.sl aO eU false, .sl aZ jg false, .int .i64, .sl bH gY false, .sl aX iT false]))]
def RP:List fQ:=[.agg [.c (.sl aO eU false), .c (.sl aZ jg false), .c (.int .i64), .c (.sl bH gY false), .c (.sl aX iT false)]]
def LX:cO lK→Prop×(dm RP×cZ lK→Prop):=fun (c,())=>(Sp.uN c,fun (((a,l,nx,d,r,()),()),())=>(a,l,nx,d,r,())=c)
def qH:fE:=dR lK RP LX
def qI:List dM:=[.p (.v (.one (.sl bH gY false))), .p (.v (.agg [.int .i64, .int .i64, .bool, .int .i64, .sl bK kP false])), .p (.v (.agg [.int .i64, .int .i64, .bool, .int .i64, .sl bK kP false]))]
def Qo:List fQ:=[.one (.c (.sl fB vN true))]
def KY:cO qI→Prop×(dm Qo×cZ qI→Prop):=fun (d,f,g,())=>(Sp.aS d∧d.length≤5∧Sp.dK f∧Sp.dK g∧f.2.2.2.2.1.length+g.2.2.2.2.1.length≤1000,fun ((r,()),())=>Sp.isSet r (Sp.Aff d f g))
def AA:fE:=dR qI Qo KY
def wU:List dM:=[.p (.v (.agg [.sl aO eU false, .sl aZ jg false, .int .i64, .sl bH gY false, .sl aX iT false])), .p (.v (.agg [.sl aO eU false, .sl aZ jg false, .int .i64])), .p (.v (.one (.sl bH gY false))), .p (.v (.one (.sl fB vN false)))]
def VL:List fQ:=[.agg [.c (.sl aO eU false), .c (.sl aZ jg false), .c (.int .i64), .c (.sl bH gY false), .c (.sl aX iT false)], .one (.c (.sl Kr akQ false)), .one (.c .bool)]
def PD:cO wU→Prop×(dm VL×cZ wU→Prop):=fun (c,s,d,names,())=>(Sp.uN c∧Sp.bQ s∧Sp.aS d,fun (((a,l,nx,e,r,()),df,ok,()),())=>Sp.turned c s d (Sp.iG names) (a,l,nx,e,r,()) df ok)
def EZ:fE:=dR wU VL PD
def uQ:List dM:=[.p (.v (.agg [.sl aO eU false, .sl aZ jg false, .int .i64, .sl bH gY false, .sl aX iT false])), .p (.v (.agg [.int .i64, .int .i64, .bool, .int .i64, .sl bK kP false]))]
def Ui:List fQ:=[.agg [.c (.sl aO eU false), .c (.sl aZ jg false), .c (.int .i64), .c (.sl bH gY false), .c (.sl aX iT false)], .one (.c (.sl Kr akQ false)), .one (.c .bool)]
def Oa:cO uQ→Prop×(dm Ui×cZ uQ→Prop):=fun (c,f,())=>(Sp.uN c∧Sp.dK f∧Sp.akR c∧Sp.adM f,fun (((a,l,nx,e,r,()),df,ok,()),())=>Sp.updated c f (a,l,nx,e,r,()) df ok)
def Eh:fE:=dR uQ Ui Oa
def PE:List bW:=[.v (.one (.sl fU lF false)), .v (.one (.sl fU lF false))]
def Xu:List dG:=[.one (.bool)]
def aqi:aY PE→Prop×bg Xu:=fun (a,b,())=>(True,decide (a=b),())
def GU:dX:=bY PE Xu aqi
def LY:List bW:=[.v (.agg [.str, .sl fU lF false]), .v (.agg [.str, .sl fU lF false])]
def Uj:List dG:=[.one (.bool)]
def alf:aY LY→Prop×bg Uj:=fun (a,b,())=>(True,decide (a=b),())
def Ei:dX:=bY LY Uj alf
def KZ:List bW:=[.v (.one (.sl aX iT false)), .v (.one (.sl aX iT false))]
def RQ:List dG:=[.one (.bool)]
def ahZ:aY KZ→Prop×bg RQ:=fun (a,b,())=>(True,decide (a=b),())
def qJ:dX:=bY KZ RQ ahZ
def La:List bW:=[.v (.agg [.sl aO eU false, .sl aZ jg false, .int .i64, .sl bH gY false, .sl aX iT false]), .v (.agg [.sl aO eU false, .sl aZ jg false, .int .i64, .sl bH gY false, .sl aX iT false])]
def RS:List dG:=[.one (.bool)]
def ah0:aY La→Prop×bg RS:=fun (a,b,())=>(True,decide (a=b),())
def CV:dX:=bY La RS ah0
def AB:List dM:=[.ptr [.sl jy EJ false, .int .i64, .int .i64]]
def Y4:List fQ:=[.agg [.c (.sl aO eU false), .c (.sl aZ jg false), .c (.int .i64), .c (.sl bH gY false), .c (.sl aX iT false)]]
def UX:cO AB→Prop×(dm Y4×cZ AB→Prop):=fun ((_,i,_,()),())=>(0≤i,fun (((a,l,nx,d,r,()),()),((_,i',_,()),()))=>0≤i'∧Sp.XL (a,l,nx,d,r,()))
def Jv:fE:=dR AB Y4 UX
def sH:List dM:=[.p (.v (.one (.sl jy EJ false)))]
def RU:List fQ:=[.agg [.c (.sl aO eU false), .c (.sl aZ jg false), .c (.int .i64), .c (.sl bH gY false), .c (.sl aX iT false)]]
def LZ:cO sH→Prop×(dm RU×cZ sH→Prop):=fun (code,())=>(code.length≤1048576,fun (((a,l,nx,d,r,()),()),())=>Sp.XL (a,l,nx,d,r,()))
def CW:fE:=dR sH RU LZ
def uS:List dM:=[.p (.v (.one (.sl jy EJ false)))]
def Uk:List fQ:=[.one (.c (.sl fU lF true))]
def Ob:cO uS→Prop×(dm Uk×cZ uS→Prop):=fun (code,())=>(code.length≤1048576,fun ((p,()),())=>p.length=12∧∀ x∈p,0≤x.1∧x.1<10000)
def Ej:fE:=dR uS Uk Ob
def PG:List bW:=[.v (.one (.sl fU lF false)), .v (.one (.int .i64))]
def Xv:List dG:=[.one (.sl fU lF false)]
def aqj:aY PG→Prop×bg Xv:=fun (l,n,())=>(l.length≤1000,Sp.Jw l n,())
def GV:dX:=bY PG Xv aqj
def F6:List bW:=[.v (.one (.sl fU lF false)), .v (.agg [.str, .sl fU lF false, .sl fU lF false])]
def Nq:List dG:=[.one (.sl fU lF true)]
def ach:aY F6→Prop×bg Nq:=fun (l,(_,x,y,()),())=>(l.length≤400∧x.length≤400,Sp.A7 l x y,())
def xC:dX:=bY F6 Nq ach
def uT:List dM:=[.p (.v (.one (.sl aX iT false))), .p (.v (.one (.sl Kr akQ false)))]
def Ul:List fQ:=[.one (.c (.sl aX iT false))]
def Oc:cO uT→Prop×(dm Ul×cZ uT→Prop):=fun (a,d,())=>(Sp.UY a∧Sp.UZ d,fun ((r,()),())=>r=Sp.oO a d)
def Em:fE:=dR uT Ul Oc
def Jy:List bW:=[.v (.one (.sl jy EJ false))]
def Qp:List dG:=[.one (.bool)]
def afY:aY Jy→Prop×bg Qp:=fun (_,())=>(True,true,())
def Qq:dX:=bY Jy Qp afY
def nV:List dM:=[.p (.v (.agg [.int .i64, .int .i64, .bool, .int .i64, .sl bK kP false]))]
def Nr:List fQ:=[.one (.own fB vN true)]
def Ho:cO nV→Prop×(dm Nr×cZ nV→Prop):=fun ((_,_,_,_,a,()),())=>(a.length≤1000,fun ((r,()),())=>r=Sp.kU a)
def xE:fE:=dR nV Nr Ho
def nX:List dM:=[.p (.v (.agg [.int .i64, .int .i64, .bool, .int .i64, .sl bK kP false])), .p (.v (.one (.str))), .p (.v (.agg [.int .i64, .int .i64, .str]))]
def Ns:List fQ:=[.agg [.c (.int .i64), .c (.int .i64), .c .bool, .c (.int .i64), .c (.sl bK kP true)]]
def Hq:cO nX→Prop×(dm Ns×cZ nX→Prop):=fun ((i,o,s,l,a,()),name,(k,n,w,()),())=>(a.length≤1000,fun (((i',o',s',l',a',()),()),())=>i'=i∧o'=o∧s'=s∧l'=l∧a'=Sp.kH a name k n w)
def xG:fE:=dR nX Ns Hq
def awm:aJ:=aI []
def atB:aJ:=aI []
def aqk:aJ:=aI [(Hr, .eff (ay zX) I4)]
def atC:aJ:=aI [(dH, .eff (ay dn) dw)]
def atD:aJ:=aI [(dH, .eff (ay dn) dw)]
def alg:aJ:=aI [(dH, .eff (ay dn) dw)]
def aql:aJ:=aI []
def aqm:aJ:=aI []
def ah1:aJ:=aI []
def axa:aJ:=aI []
def awn:aJ:=aI []
def atE:aJ:=aI [(iU, .pure gX)]
def adN:aJ:=aI [(yG, .pure yt)]
def adO:aJ:=aI [(iZ, .pure iF)]
def afZ:aJ:=aI [(jK, .pure jO),(iU, .pure gX)]
def af0:aJ:=aI [(jL, .pure jP),(iZ, .pure iF)]
def abd:aJ:=aI [(yG, .pure yt)]
def abe:aJ:=aI []
def anO:aJ:=aI []
def anP:aJ:=aI []
def adP:aJ:=aI [(iU, .pure gX),(kY, .pure lM)]
def adQ:aJ:=aI [(kZ, .pure lN)]
def adR:aJ:=aI [(Dv, .pure EK),(oI, .pure o5)]
def adS:aJ:=aI [(Dw, .pure EL),(oJ, .pure o6)]
def ah2:aJ:=aI [(iU, .pure gX),(nD, .pure nS),(vW, .pure yO)]
def ah3:aJ:=aI [(nG, .pure nT),(JW, .pure Lh),(iZ, .pure iF),(vX, .pure yP)]
def af2:aJ:=aI [(iU, .pure gX),(nD, .pure nS),(pI, .pure qp)]
def af4:aJ:=aI [(iZ, .pure iF),(nG, .pure nT),(pJ, .pure qw)]
def alh:aJ:=aI []
def anQ:aJ:=aI []
def aqn:aJ:=aI [(Dx, .pure EM)]
def anR:aJ:=aI [(E5, .pure Gv)]
def anS:aJ:=aI [(Dy, .pure EN),(Bo, .pure D5)]
def atF:aJ:=aI []
def aqo:aJ:=aI [(pK, .pure sU)]
def awo:aJ:=aI [(iZ, .pure iF)]
def aqp:aJ:=aI []
def XM:aJ:=aI []
def Y5:aJ:=aI []
def atG:aJ:=aI []
def atH:aJ:=aI [(pO, .pure qo),(qK, .eff (ay mD) pq),(Ht, .eff (ay zY) Ja),(oP, .pure oh),(qL, .eff (ay mr) o9),(dH, .eff (ay dn) dw)]
def aqr:aJ:=aI []
def atI:aJ:=aI [(yH, .pure yu)]
def ali:aJ:=aI [(pI, .pure qp),(kz, .pure kG),(yH, .pure yu),(qM, .eff (ay mF) pz)]
def alj:aJ:=aI [(kz, .pure kG),(E8, .pure Gw),(qM, .eff (ay mF) pz)]
def aqs:aJ:=aI [(Bq, .eff (ay uw) D7),(qL, .eff (ay mr) o9),(Bv, .eff (ay uq) D6),(Hu, .eff (ay zZ) Jb),(dH, .eff (ay dn) dw),(Fa, .eff (ay yw) Gx),(Fb, .eff (ay yj) Gu)]
def azN:aJ:=aI []
def anT:aJ:=aI [(oQ, .pure oq)]
def anU:aJ:=aI [(Dz, .eff (ay wJ) EP),(oU, .pure rH)]
def alk:aJ:=aI [(qK, .eff (ay mD) pq)]
def atJ:aJ:=aI [(Bz, .eff (ay uy) D8),(pO, .pure qo),(oP, .pure oh),(qK, .eff (ay mD) pq),(dH, .eff (ay dn) dw)]
def adT [yU]:aJ:=aI [(En, .eff (ay vS) He),(dH, .eff (ay dn) dw),(Hw, .eff (ay Aa) Jc),(qL, .eff (ay mr) o9)]
def ah4:aJ:=aI [(sJ, .eff (ay nC) uz),(dH, .eff (ay dn) dw)]
def XO:aJ:=aI [(sJ, .eff (ay nC) uz),(dH, .eff (ay dn) dw)]
def atK:aJ:=aI [(oV, .eff (ay kT) rJ),(dH, .eff (ay dn) dw)]
def atL:aJ:=aI [(xH, .pure Ap),(Hy, .eff (ay Ad) Jd)]
def alm:aJ:=aI [(BA, .eff (ay uo) DZ)]
def ah5:aJ:=aI [(jK, .pure jO),(oI, .pure o5),(kY, .pure lM),(iU, .pure gX)]
def ah6:aJ:=aI [(jL, .pure jP),(iZ, .pure iF),(oJ, .pure o6),(kZ, .pure lN)]
def abf:aJ:=aI []
def abg:aJ:=aI []
def af5:aJ:=aI [(iU, .pure gX),(sK, .pure vT),(yX, .pure Cb)]
def af6:aJ:=aI [(iZ, .pure iF),(sN, .pure vU),(yY, .pure Cc)]
def ah7:aJ:=aI [(kC, .pure kJ),(jK, .pure jO)]
def ah8:aJ:=aI [(kD, .pure kK),(jL, .pure jP)]
def aqt:aJ:=aI []
def af7:aJ:=aI [(kC, .pure kJ)]
def af8:aJ:=aI [(kD, .pure kK)]
def anV:aJ:=aI [(jl, .eff (ay gU) iK),(vY, .pure wK),(xI, .pure Ag)]
def af9:aJ:=aI [(tX, .eff (ay oz) uD)]
def aga:aJ:=aI [(tX, .eff (ay oz) uD)]
def awq:aJ:=aI []
def aqu:aJ:=aI [(JX, .pure Lj),(iU, .pure gX),(xJ, .pure Af)]
def agb:aJ:=aI [(vZ, .eff (ay pF) wL)]
def agc:aJ:=aI [(vZ, .eff (ay pF) wL)]
def atM:aJ:=aI []
def IJ:aJ:=aI [(yI, .pure yA)]
def axb:aJ:=aI [(iL, .pure jq),(yI, .pure yA)]
def aqv:aJ:=aI []
def ah9:aJ:=aI [(L6, .pure MQ)]
def awr:aJ:=aI [(xK, .eff (ay qy) Ai),(yZ, .pure Cj),(xM, .eff (ay qx) Ah),(zf, .pure Ci)]
def aqw:aJ:=aI [(xO, .eff (ay qB) Ak),(Fe, .pure Gz),(xP, .eff (ay qA) Aj)]
def atN:aJ:=aI []
def aws:aJ:=aI [(yJ, .pure yC),(Fg, .eff (ay yB) GH),(zh, .pure Ce)]
def agd:aJ:=aI [(sW, .eff (ay nU) rM)]
def Y6:aJ:=aI []
def atO:aJ:=aI [(pR, .pure sV)]
def aqx:aJ:=aI [(Hz, .pure Jk)]
def atP:aJ:=aI []
def anW:aJ:=aI []
def atQ:aJ:=aI [(DC, .pure ET)]
def aqy:aJ:=aI [(HY, .pure Jm)]
def atS:aJ:=aI []
def atT:aJ:=aI []
def atU:aJ:=aI [(qN, .pure pG)]
def aia:aJ:=aI []
def aci:aJ:=aI [(zi, .pure CB)]
def acj:aJ:=aI []
def Y7:aJ:=aI [(uU, .pure xB)]
def aln:aJ:=aI [(lW, .pure mY)]
def alo:aJ:=aI []
def aib:aJ:=aI []
def anX:aJ:=aI [(pU, .pure qC)]
def anY:aJ:=aI []
def abh [yU]:aJ:=aI [(BB, .pure Ea),(nH, .pure mO),(AL, .pure Ey),(H6, .pure Jp),(qN, .pure pG)]
def adU [yU]:aJ:=aI [(ru, .pure su),(DF, .pure EU),(Eo, .pure Hf),(H7, .pure Jo)]
def atV:aJ:=aI [(Jz, .pure LM),(kD, .pure kK)]
def atW:aJ:=aI [(MR, .pure Pn),(kC, .pure kJ)]
def aic:aJ:=aI [(H8, .pure Jq)]
def aid:aJ:=aI [(H9, .pure Jr)]
def aie:aJ:=aI []
def ack:aJ:=aI [(pV, .pure qE)]
def uV:aJ:=aI [(lX, .pure mZ)]
def agf:aJ:=aI [(lX, .pure mZ),(dL, .pure eY)]
def anZ:aJ:=aI []
def alp:aJ:=aI [(DI, .eff (ay wO) EW),(A8, .eff (ay uF) Am)]
def alq:aJ:=aI [(sW, .eff (ay nU) rM)]
def aqz:aJ:=aI []
def an0:aJ:=aI [(pV, .pure qE),(zk, .pure CJ),(BD, .eff (ay uH) Eb),(nH, .pure mO),(gm, .pure gu),(oK, .pure o7),(A8, .eff (ay uF) Am)]
def aqA:aJ:=aI [(tY, .eff (ay oC) uJ),(wo, .pure wP)]
def alr:aJ:=aI [(tY, .eff (ay oC) uJ)]
def awt:aJ:=aI [(yJ, .pure yC),(zl, .pure CO),(BF, .eff (ay uI) Ec),(kz, .pure kG),(sW, .eff (ay nU) rM)]
def aqB:aJ:=aI [(JY, .eff (ay Dl) Ll)]
def als:aJ:=aI [(Ia, .pure Jl),(qM, .eff (ay mF) pz),(Fh, .eff (ay yE) GL)]
def an1:aJ:=aI [(xQ, .pure Aq),(Fj, .eff (ay yD) GK)]
def awu:aJ:=aI [(iC, .pure je),(wu, .pure wQ)]
def aqC:aJ:=aI []
def Gq:aJ:=aI [(wu, .pure wQ)]
def aqD:aJ:=aI [(oQ, .pure oq),(Ba, .pure Ar)]
def aif:aJ:=aI [(oQ, .pure oq),(pJ, .pure qw),(oK, .pure o7),(Ba, .pure Ar),(nI, .eff (ay kM) mM)]
def an2:aJ:=aI []
def agh:aJ:=aI [(jl, .eff (ay gU) iK),(qN, .pure pG),(uX, .eff (ay nV) xE)]
def alu:aJ:=aI [(jl, .eff (ay gU) iK)]
def an3:aJ:=aI [(jl, .eff (ay gU) iK),(vY, .pure wK)]
def alv:aJ:=aI [(gm, .pure gu),(DJ, .eff (ay wS) EY)]
def VN:aJ:=aI [(jl, .eff (ay gU) iK),(gm, .pure gu),(BG, .eff (ay uP) Eg),(nP, .eff (ay kL) qG)]
def XP:aJ:=aI []
def zS:aJ:=aI [(iI, .pure iQ)]
def yK:aJ:=aI [(fC, .pure gI),(iI, .pure iQ)]
def ZY:aJ:=aI [(iI, .pure iQ),(dZ, .pure fV),(fD, .pure gJ),(iJ, .pure iR),(BH, .eff (ay uO) Ef),(xR, .eff (ay qF) Au),(wo, .pure wP)]
def XQ:aJ:=aI [(gm, .pure gu)]
def CX:aJ:=aI [(iJ, .pure iR)]
def zT:aJ:=aI [(fP, .pure iw),(iJ, .pure iR)]
def Wy:aJ:=aI []
def Z4:aJ:=aI []
def an4:aJ:=aI [(lW, .pure mY)]
def Lc:aJ:=aI [(nJ, .pure mP)]
def JZ:aJ:=aI [(jd, .pure jJ),(nJ, .pure mP)]
def atX:aJ:=aI [(ja, .eff (ay gB) jE),(nJ, .pure mP),(qV, .eff (ay lV) vK)]
def atY:aJ:=aI [(Ib, .eff (ay Aw) Jt)]
def aii:aJ:=aI [(Ic, .eff (ay Az) Ju),(nH, .pure mO)]
def aij:aJ:=aI [(pU, .pure qC)]
def aik:aJ:=aI [(zn, .eff (ay sG) CU),(wz, .pure wM),(nI, .eff (ay kM) mM)]
def agi:aJ:=aI [(mQ, .eff (ay jU) o8),(qW, .eff (ay lU) vJ)]
def an5:aJ:=aI [(zo, .eff (ay sF) CS),(wz, .pure wM),(nI, .eff (ay kM) mM),(pW, .eff (ay lK) qH),(BI, .eff (ay uK) Ed)]
def alx:aJ:=aI [(DK, .eff (ay wU) EZ),(xU, .eff (ay qI) AA),(Fp, .pure GN),(pW, .eff (ay lK) qH),(DL, .pure EX),(zq, .eff (ay sD) CP)]
def aqE:aJ:=aI []
def aly:aJ:=aI [(Fq, .pure GU)]
def ail:aJ:=aI [(BJ, .pure Ei)]
def aim:aJ:=aI [(pX, .pure qJ),(Fv, .pure GI),(DN, .pure EO)]
def atZ:aJ:=aI [(BK, .eff (ay uM) Ee),(Ie, .eff (ay Ae) Je),(Fz, .eff (ay yx) Gy)]
def ain:aJ:=aI [(Ig, .eff (ay AB) Jv),(Bc, .eff (ay yh) zW)]
def alz:aJ:=aI [(dH, .eff (ay dn) dw),(Bc, .eff (ay yh) zW)]
def aqF:aJ:=aI []
def acn:aJ:=aI [(FB, .pure GV),(ru, .pure su)]
def alA:aJ:=aI [(uY, .pure xC)]
def agj:aJ:=aI [(pX, .pure qJ),(BL, .eff (ay uT) Em),(zu, .pure CV),(BM, .eff (ay uQ) Eh),(uZ, .eff (ay nX) xG),(oP, .pure oh),(BN, .eff (ay uS) Ej),(zx, .eff (ay sH) CW),(RV, .pure QT)]
def aco:aJ:=aI []
def acp:aJ:=aI []
end
end Go.Proofs.Tryz
