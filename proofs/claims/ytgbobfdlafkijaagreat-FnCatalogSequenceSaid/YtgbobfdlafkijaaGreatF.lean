import Derived.Test.YtgbobfdlafkijaaGreatN
import Derived.Test.YtgbobfdlafkijaaGreatSp
namespace Go.Proofs.Tryz
open Go Go.Fw
class Af where
 n:Nat
abbrev zA [Af]:Nat:=Af.n
noncomputable section
def zB:List dO:=[.p (.v (.one (.sl jP xC false)))]
def acU:List jW:=[.sl jP xC false, .int .i64, .int .i64]
def YI:bV zB→Prop×(xq acU→Prop):=fun (code,())=>(code.length≤1048576,fun (_,i,_,())=>i=0)
def BB:eF:=aFe zB acU YI
def BD:List dO:=[.ptr [.sl jP xC false, .int .i64, .int .i64]]
def aaN:List fG:=[.one (.c (.int .i64))]
def WS:bV BD→Prop×(cu aaN×bZ BD→Prop):=fun ((_,i,_,()),())=>(0≤i,fun ((x,()),((_,i',_,()),()))=>0≤i'∧0≤x∧x≤255)
def KC:eF:=dM BD aaN WS
def dI:List dO:=[.ptr [.sl jP xC false, .int .i64, .int .i64], .p (.v (.one (.int .i64)))]
def Zf:List fG:=[.one (.c (.int .i64))]
def Ud:bV dI→Prop×(cu Zf×bZ dI→Prop):=fun ((_,i,_,()),n,())=>(0≤i,fun ((x,()),((_,i',_,()),()))=>0≤i'∧0≤x∧(0<n→x<n)∧(n≤0→x=0))
def dK:eF:=dM dI Zf Ud
def nM:List dO:=[.ptr [.sl jP xC false, .int .i64, .int .i64], .p (.v (.one (.int .i64)))]
def aaO:List fG:=[.one (.c .bool)]
def WT:bV nM→Prop×(cu aaO×bZ nM→Prop):=fun ((_,i,_,()),_,())=>(0≤i,fun ((_,()),((_,i',_,()),()))=>0≤i')
def qF:eF:=dM nM aaO WT
def nN:List dO:=[.ptr [.sl jP xC false, .int .i64, .int .i64], .p (.v (.one (.sl dL gq false)))]
def aaP:List fG:=[.one (.c .str)]
def WU:bV nN→Prop×(cu aaP×bZ nN→Prop):=fun ((_,i,_,()),list,())=>(0≤i∧list≠[],fun ((x,()),((_,i',_,()),()))=>0≤i'∧(x,())∈list)
def qG:eF:=dM nN aaP WU
def vU:List dO:=[.ptr [.sl jP xC false, .int .i64, .int .i64], .p (.v (.one (.sl iD mP false)))]
def VS:List fG:=[.one (.c (.int .i64))]
def PK:bV vU→Prop×(cu VS×bZ vU→Prop):=fun ((_,i,_,()),list,())=>(0≤i∧list≠[],fun ((x,()),((_,i',_,()),()))=>0≤i'∧(x,())∈list)
def FH:eF:=dM vU VS PK
def zC:List dO:=[]
def Zg:List fG:=[.one (.own aN bU true)]
def Ue:bV zC→Prop×(cu Zg×bZ zC→Prop):=fun (())=>(True,fun ((s,()),())=>s=Sp.usual)
def IU:eF:=dM zC Zg Ue
def Rt:List dw:=[.v (.one (.int .i64))]
def Zh:List dP:=[.agg [.int .i64, .int .i64, .str]]
def atw:bn Rt→Prop×bG Zh:=fun (n,())=>(True,(1,n,[],()),())
def pG:fB:=dm Rt Zh atw
def MW:List dw:=[.v (.one (.str))]
def Uf:List dP:=[.agg [.int .i64, .int .i64, .str]]
def akq:bn MW→Prop×bG Uf:=fun (w,())=>(True,(2,0,w,()),())
def rF:fB:=dm MW Uf akq
def YJ:List dw:=[.v (.one (.int .i64)), .v (.one (.int .i64)), .v (.one (.int .i64))]
def aeB:List dP:=[.one (.bool)]
def aAp:bn YJ→Prop×bG aeB:=fun (x,a,b,())=>(True,(decide (a≤x)&&decide (x≤b)),())
def fU:fB:=dm YJ aeB aAp
def WV:List dw:=[.v (.one (.int .i64)), .v (.one (.int .i64)), .v (.one (.int .i64))]
def acV:List dP:=[.one (.bool)]
def azB:bn WV→Prop×bG acV:=fun (x,a,b,())=>(True,(decide (a≤x)&&decide (x≤b)),())
def iV:fB:=dm WV acV azB
def Ug:List dw:=[.v (.one (.str)), .v (.one (.int .i64))]
def aaQ:List dP:=[.one (.bool)]
def awV:bn Ug→Prop×bG aaQ:=fun (s,m,())=>(True,(Sp.lower s&&decide (1≤(s.length:Int))&&decide ((s.length:Int)≤m)),())
def zD:fB:=dm Ug aaQ awV
def Jd:List dw:=[.v (.one (.str))]
def QC:List dP:=[.one (.bool)]
def af0:bn Jd→Prop×bG QC:=fun (s,())=>(True,Sp.jB s,())
def kG:fB:=dm Jd QC af0
def Je:List dw:=[.v (.one (.str))]
def QD:List dP:=[.one (.bool)]
def af2:bn Je→Prop×bG QD:=fun (s,())=>(True,Sp.jB s,())
def kH:fB:=dm Je QD af2
def KD:List dw:=[.v (.agg [.int .i64, .int .i64, .str])]
def SN:List dP:=[.one (.bool)]
def aim:bn KD→Prop×bG SN:=fun ((k,n,s,()),())=>(True,Sp.kY k n s,())
def qy:fB:=dm KD SN aim
def KE:List dw:=[.v (.agg [.int .i64, .int .i64, .str])]
def SQ:List dP:=[.one (.bool)]
def ain:bn KE→Prop×bG SQ:=fun ((k,n,s,()),())=>(True,Sp.kY k n s,())
def qA:fB:=dm KE SQ ain
def Gg:List dw:=[.v (.one (.str))]
def Oc:List dP:=[.one (.bool)]
def adF:bn Gg→Prop×bG Oc:=fun (s,())=>(True,Sp.lD s,())
def mQ:fB:=dm Gg Oc adF
def Gh:List dw:=[.v (.one (.str))]
def Oe:List dP:=[.one (.bool)]
def adG:bn Gh→Prop×bG Oe:=fun (s,())=>(True,Sp.lD s,())
def mV:fB:=dm Gh Oe adG
def PL:List dw:=[.v (.one (.sl aN bU false)), .v (.one (.str))]
def XQ:List dP:=[.one (.int .i64)]
def aqB:bn PL→Prop×bG XQ:=fun (fs,s,())=>(True,Sp.kindOf fs s,())
def Gx:fB:=dm PL XQ aqB
def PN:List dw:=[.v (.one (.sl aN bU false)), .v (.one (.str))]
def XR:List dP:=[.one (.int .i64)]
def aqC:bn PN→Prop×bG XR:=fun (fs,s,())=>(True,Sp.kindOf fs s,())
def Gy:fB:=dm PN XR aqC
def Jf:List dw:=[.v (.one (.sl aN bU false))]
def QE:List dP:=[.one (.bool)]
def af4:bn Jf→Prop×bG QE:=fun (fs,())=>(True,Sp.ig fs,())
def o6:fB:=dm Jf QE af4
def Jg:List dw:=[.v (.one (.sl aN bU false))]
def QF:List dP:=[.one (.bool)]
def af5:bn Jg→Prop×bG QF:=fun (fs,())=>(True,Sp.ig fs,())
def o7:fB:=dm Jg QF af5
def Jh:List dw:=[.v (.one (.sl aN bU false)), .v (.one (.str)), .v (.agg [.int .i64, .int .i64, .str])]
def QG:List dP:=[.one (.bool)]
def af6:bn Jh→Prop×bG QG:=fun (fs,s,(k,n,w,()),())=>(True,Sp.jh fs s k n w,())
def zX:fB:=dm Jh QG af6
def Ji:List dw:=[.v (.one (.sl aN bU false)), .v (.one (.str)), .v (.agg [.int .i64, .int .i64, .str])]
def QI:List dP:=[.one (.bool)]
def af7:bn Ji→Prop×bG QI:=fun (fs,s,(k,n,w,()),())=>(True,Sp.jh fs s k n w,())
def zY:fB:=dm Ji QI af7
def MX:List dw:=[.v (.one (.sl aN bU false)), .v (.agg [.int .i64, .int .i64, .bool, .int .i64, .sl bD eu false])]
def Uh:List dP:=[.one (.bool)]
def akr:bn MX→Prop×bG Uh:=fun (fs,f,())=>(True,Sp.dD fs f,())
def lJ:fB:=dm MX Uh akr
def MZ:List dw:=[.v (.one (.sl aN bU false)), .v (.agg [.int .i64, .int .i64, .bool, .int .i64, .sl bD eu false])]
def Ui:List dP:=[.one (.bool)]
def aks:bn MZ→Prop×bG Ui:=fun (fs,f,())=>(True,Sp.dD fs f,())
def rG:fB:=dm MZ Ui aks
def KF:List dw:=[.v (.agg [.sl aN bU false, .sl aV dR false, .int .i64])]
def SS:List dP:=[.one (.bool)]
def aio:bn KF→Prop×bG SS:=fun (s,())=>(True,Sp.aH s,())
def iH:fB:=dm KF SS aio
def KG:List dw:=[.v (.agg [.sl aN bU false, .sl aV dR false, .int .i64])]
def SX:List dP:=[.one (.bool)]
def aip:bn KG→Prop×bG SX:=fun (s,())=>(True,Sp.aH s,())
def qB:fB:=dm KG SX aip
def Og:List dw:=[.v (.one (.sl aN bU false)), .v (.one (.sl aN bU false))]
def VT:List dP:=[.one (.bool)]
def an7:bn Og→Prop×bG VT:=fun (a,b,())=>(True,decide (a=b),())
def FI:fB:=dm Og VT an7
def PO:List dw:=[.v (.one (.sl bD eu false)), .v (.one (.sl bD eu false))]
def XT:List dP:=[.one (.bool)]
def aqD:bn PO→Prop×bG XT:=fun (a,b,())=>(True,decide (a=b),())
def Gz:fB:=dm PO XT aqD
def Ru:List dw:=[.v (.agg [.int .i64, .int .i64, .bool, .int .i64, .sl bD eu false]), .v (.agg [.int .i64, .int .i64, .bool, .int .i64, .sl bD eu false])]
def Zi:List dP:=[.one (.bool)]
def atx:bn Ru→Prop×bG Zi:=fun (a,b,())=>(True,decide (a=b),())
def IV:fB:=dm Ru Zi atx
def PS:List dw:=[.v (.one (.sl aV dR false)), .v (.one (.sl aV dR false))]
def XU:List dP:=[.one (.bool)]
def aqE:bn PS→Prop×bG XU:=fun (a,b,())=>(True,decide (a=b),())
def GH:fB:=dm PS XU aqE
def PU:List dw:=[.v (.agg [.sl aN bU false, .sl aV dR false, .int .i64]), .v (.agg [.sl aN bU false, .sl aV dR false, .int .i64])]
def XV:List dP:=[.one (.bool)]
def aqF:bn PU→Prop×bG XV:=fun (a,b,())=>(True,decide (a=b),())
def GI:fB:=dm PU XV aqF
def Uj:List dw:=[.v (.agg [.int .i64, .int .i64, .bool, .int .i64, .sl bD eu false])]
def aaR:List dP:=[.agg [.int .i64, .int .i64, .bool, .int .i64, .sl bD eu true]]
def awW:bn Uj→Prop×bG aaR:=fun (f,())=>(Sp.bH f,f,())
def lQ:fB:=dm Uj aaR awW
def Rw:List dw:=[.v (.agg [.int .i64, .int .i64, .bool, .int .i64, .sl bD eu false])]
def Zj:List dP:=[.agg [.int .i64, .int .i64, .bool, .int .i64, .sl bD eu false]]
def aty:bn Rw→Prop×bG Zj:=fun (f,())=>(Sp.bH f,f,())
def pI:fB:=dm Rw Zj aty
def WW:List dw:=[.v (.one (.int .i64))]
def acW:List dP:=[.one (.bool)]
def azC:bn WW→Prop×bG acW:=fun (u,())=>(True,(decide (0≤u)&&decide (u≤2)),())
def NU:fB:=dm WW acW azC
def Rx:List dw:=[.v (.agg [.sl aN bU false, .sl aV dR false, .int .i64]), .v (.one (.int .i64))]
def Zk:List dP:=[.one (.int .i64)]
def atz:bn Rx→Prop×bG Zk:=fun ((_,fs,_,()),id,())=>(True,Sp.place fs id,())
def pJ:fB:=dm Rx Zk atz
def CW:List dw:=[.v (.one (.sl aN bU false))]
def Kt:List dP:=[.one (.sl aN bU false)]
def ZQ:bn CW→Prop×bG Kt:=fun (l,())=>(l.length≤1000,l,())
def tV:fB:=dm CW Kt ZQ
def D6:List dw:=[.v (.one (.sl bD eu false))]
def LZ:List dP:=[.one (.sl bD eu false)]
def aaS:bn D6→Prop×bG LZ:=fun (l,())=>(l.length≤1000,l,())
def uT:fB:=dm D6 LZ aaS
def BF:List dO:=[.p (.v (.agg [.int .i64, .int .i64, .bool, .int .i64, .sl bD eu false])), .p (.v (.one (.str))), .p (.v (.agg [.int .i64, .int .i64, .str]))]
def aaT:List fG:=[.agg [.c (.int .i64), .c (.int .i64), .c .bool, .c (.int .i64), .own bD eu true]]
def WX:bV BF→Prop×(cu aaT×bZ BF→Prop):=fun ((i,o,s,l,a,()),name,(k,n,w,()),())=>(a.length≤1000,fun (((i',o',s',l',a',()),()),())=>i'=i∧o'=o∧s'=s∧l'=l∧a'=Sp.jQ a name k n w)
def KH:eF:=dM BF aaT WX
def BG:List dO:=[.ptr [.sl jP xC false, .int .i64, .int .i64], .p (.v (.one (.int .i64)))]
def aaU:List fG:=[.agg [.c (.int .i64), .c (.int .i64), .c .bool, .c (.int .i64), .own bD eu true]]
def WY:bV BG→Prop×(cu aaU×bZ BG→Prop):=fun ((_,i,_,()),id,())=>(0≤i,fun (((d,o,_,l,a,()),()),((_,i',_,()),()))=>0≤i'∧d=id∧0≤o∧o≤2∧0≤l∧l≤6∧Sp.mW Sp.usual a=true∧a.length≤4)
def KI:eF:=dM BG aaU WY
def zF:List dO:=[.p (.v (.one (.sl aN bU false)))]
def Zl:List fG:=[.agg [.own aN bU true, .own aV dR true, .c (.int .i64)]]
def Uk:bV zF→Prop×(cu Zl×bZ zF→Prop):=fun (s,())=>(s.length≤1000,fun (((a,l,nx,()),()),())=>a=s∧l=[]∧nx=1)
def IW:eF:=dM zF Zl Uk
def jy:List dO:=[.p (.v (.agg [.sl aN bU false, .sl aV dR false, .int .i64]))]
def aaV:List fG:=[.agg [.own aN bU true, .own aV dR true, .c (.int .i64)]]
def WZ:bV jy→Prop×(cu aaV×bZ jy→Prop):=fun (s,())=>(Sp.bC s,fun (((a,l,nx,()),()),())=>(a,l,nx,())=s)
def jT:eF:=dM jy aaV WZ
def vV:List dO:=[.p (.v (.agg [.sl aN bU false, .sl aV dR false, .int .i64])), .p (.v (.agg [.int .i64, .int .i64, .bool, .int .i64, .sl bD eu false]))]
def VU:List fG:=[.agg [.own aN bU true, .own aV dR true, .c (.int .i64)], .one (.c (.int .i64)), .one (.c .bool)]
def PV:bV vV→Prop×(cu VU×bZ vV→Prop):=fun (s,f,())=>(Sp.bC s∧Sp.bH f,fun (((a,l,nx,()),id,ok,()),())=>a=(Sp.fD s f).1.1∧l=(Sp.fD s f).1.2.1∧nx=(Sp.fD s f).1.2.2.1∧id=(Sp.fD s f).2.1∧ok=(Sp.fD s f).2.2)
def FK:eF:=dM vV VU PV
def vW:List dO:=[.p (.v (.agg [.sl aN bU false, .sl aV dR false, .int .i64])), .p (.v (.one (.int .i64)))]
def VW:List fG:=[.agg [.own aN bU true, .own aV dR true, .c (.int .i64)], .one (.c .bool)]
def PW:bV vW→Prop×(cu VW×bZ vW→Prop):=fun (s,id,())=>(Sp.bC s,fun (((a,l,nx,()),ok,()),())=>a=(Sp.gJ s id).1.1∧l=(Sp.gJ s id).1.2.1∧nx=(Sp.gJ s id).1.2.2.1∧ok=(Sp.gJ s id).2)
def FM:eF:=dM vW VW PW
def zG:List dO:=[.ptr [.sl jP xC false, .int .i64, .int .i64]]
def Zm:List fG:=[.agg [.own aN bU true, .own aV dR true, .c (.int .i64)]]
def Ul:bV zG→Prop×(cu Zm×bZ zG→Prop):=fun ((_,i,_,()),())=>(0≤i,fun (((a,l,nx,()),()),((_,i',_,()),()))=>0≤i'∧a=Sp.usual∧Sp.aH (a,l,nx,())=true∧nx≤l.length+2∧Sp.bC (a,l,nx,())∧0<l.length)
def IX:eF:=dM zG Zm Ul
def adH:List dw:=[.v (.one (.sl jP xC false))]
def akt:List dP:=[.one (.bool)]
def aC1:bn adH→Prop×bG akt:=fun (code,())=>(True,decide (1048576<(code.length:Int)),())
def Um:fB:=dm adH akt aC1
def yh:List dO:=[.p (.v (.one (.sl aV dR false)))]
def XW:List fG:=[.one (.own aV dR false)]
def Ry:bV yh→Prop×(cu XW×bZ yh→Prop):=fun (l,())=>(l.length≤1000∧∀ f∈l,Sp.bH f,fun ((r,()),())=>r=l)
def GK:eF:=dM yh XW Ry
def lC:List dO:=[.p (.v (.agg [.sl aN bU false, .sl aV dR false, .int .i64]))]
def XY:List fG:=[.agg [.c (.sl aN bU false), .own aV dR false, .c (.int .i64)]]
def Rz:bV lC→Prop×(cu XY×bZ lC→Prop):=fun (s,())=>(Sp.bC s,fun (((a,l,nx,()),()),())=>(a,l,nx,())=s)
def nS:eF:=dM lC XY Rz
def vX:List dO:=[.ptr [.sl jP xC false, .int .i64, .int .i64]]
def VX:List fG:=[.one (.c .str)]
def PX:bV vX→Prop×(cu VX×bZ vX→Prop):=fun ((_,i,_,()),())=>(0≤i,fun ((x,()),((_,i',_,()),()))=>0≤i'∧x.length≤10)
def FN:eF:=dM vX VX PX
def BH:List dO:=[.ptr [.sl jP xC false, .int .i64, .int .i64]]
def aaW:List fG:=[.agg [.c (.int .i64), .c (.int .i64), .c (.int .i64), .c .str, .c (.int .i64), .c (.int .i64), .c .str]]
def W9:bV BH→Prop×(cu aaW×bZ BH→Prop):=fun ((_,i,_,()),())=>(0≤i,fun (((_,_,_,_,_,_,_,()),()),((_,i',_,()),()))=>0≤i'∧True)
def KJ:eF:=dM BH aaW W9
def Un:List dO:=[.ptr [.sl jP xC false, .int .i64, .int .i64], .own bM eP, .p (.v (.one (.int .i64))), .p (.v (.one (.bool)))]
def aaX:List fG:=[.one (.own bM eP false)]
def aeC:bV Un→Prop×(cu aaX×bZ Un→Prop):=fun ((_,i,_,()),q,deep,_,())=>(0≤i∧0≤deep∧deep≤4∧q.length+2*deep.toNat≤900,fun ((r,()),((_,i',_,()),()))=>0≤i'∧q.length<r.length∧r.length≤q.length+2*deep.toNat+1)
def aqG:eF:=dM Un aaX aeC
def xH:List dO:=[.ptr [.sl jP xC false, .int .i64, .int .i64], .own bM eP, .p (.v (.one (.int .i64))), .p (.v (.one (.bool)))]
def SY:List fG:=[.one (.own bM eP false)]
def VY [Af]:bV xH→Prop×(cu SY×bZ xH→Prop):=fun ((_,i,_,()),q,deep,_,())=>((0≤i∧0≤deep∧deep≤4∧q.length+2*deep.toNat≤900)∧deep.toNat<zA,fun ((r,()),((_,i',_,()),()))=>0≤i'∧q.length<r.length∧r.length≤q.length+2*deep.toNat+1)
def Jj [Af]:eF:=dM xH SY VY
def BI:List dO:=[.ptr [.sl jP xC false, .int .i64, .int .i64], .own bM eP, .p (.v (.one (.int .i64))), .p (.v (.one (.bool)))]
def QJ:List fG:=[.one (.own bM eP false)]
def D7 [Af]:bV BI→Prop×(cu QJ×bZ BI→Prop):=fun ((_,i,_,()),q,deep,_,())=>((0≤i∧0≤deep∧deep≤4∧q.length+2*deep.toNat≤900)∧deep.toNat<zA+1,fun ((r,()),((_,i',_,()),()))=>0≤i'∧q.length<r.length∧r.length≤q.length+2*deep.toNat+1)
def QK [Af]:eF:=dM BI QJ D7
def oI:List dO:=[.ptr [.sl jP xC false, .int .i64, .int .i64], .p (.v (.one .nil)), .p (.v (.one (.int .i64))), .p (.v (.one (.bool)))]
def S9:List fG:=[.one (.own bM eP false)]
def VZ:bV oI→Prop×(cu S9×bZ oI→Prop):=fun ((_,i,_,()),(),deep,_,())=>(0≤i∧0≤deep∧deep≤4,fun ((r,()),((_,i',_,()),()))=>0≤i'∧0<r.length∧r.length≤0+2*deep.toNat+1)
def vY:eF:=dM oI S9 VZ
def FO:List dO:=[.ptr [.sl jP xC false, .int .i64, .int .i64]]
def Uo:List fG:=[.one (.own bM eP false)]
def Oh:bV FO→Prop×(cu Uo×bZ FO→Prop):=fun ((_,i,_,()),())=>(0≤i,fun ((r,()),((_,i',_,()),()))=>0≤i'∧0<r.length∧r.length≤9)
def Ur:eF:=dM FO Uo Oh
def lG:List dO:=[.ptr [.sl jP xC false, .int .i64, .int .i64]]
def Ku:List fG:=[.one (.c (.sl bM eP false))]
def D8:bV lG→Prop×(cu Ku×bZ lG→Prop):=fun ((_,i,_,()),())=>(0≤i,fun ((r,()),((_,i',_,()),()))=>0≤i'∧0<r.length∧r.length≤9)
def tX:eF:=dM lG Ku D8
def BJ:List dO:=[.ptr [.sl jP xC false, .int .i64, .int .i64]]
def aaY:List fG:=[.one (.own bf bI false)]
def Xa:bV BJ→Prop×(cu aaY×bZ BJ→Prop):=fun ((_,i,_,()),())=>(0≤i,fun ((d,()),((_,i',_,()),()))=>0≤i'∧0<d.length∧d.length≤4∧Sp.aO d)
def KL:eF:=dM BJ aaY Xa
def BK:List dO:=[.ptr [.sl jP xC false, .int .i64, .int .i64]]
def aaZ:List fG:=[.one (.c (.sl bf bI false))]
def Xb:bV BK→Prop×(cu aaZ×bZ BK→Prop):=fun ((_,i,_,()),())=>(0≤i,fun ((d,()),((_,i',_,()),()))=>0≤i'∧d.length≤10∧Sp.aO d∧Sp.aF d=true)
def KN:eF:=dM BK aaZ Xb
def GL:List dO:=[.ptr [.sl jP xC false, .int .i64, .int .i64]]
def V3:List fG:=[.one (.c (.int .i64))]
def PY:bV GL→Prop×(cu V3×bZ GL→Prop):=fun ((_,i,_,()),())=>(0≤i,fun ((_,()),((_,i',_,()),()))=>0≤i'∧True)
def V4:eF:=dM GL V3 PY
def Na:List dw:=[.v (.agg [.int .i64, .int .i64, .int .i64, .str, .int .i64, .int .i64, .str]), .v (.one (.int .i64))]
def Us:List dP:=[.one (.bool)]
def aku:bn Na→Prop×bG Us:=fun ((o,l,r,nm,vk,vi,vs,()),at',())=>(True,Sp.mr (o,l,r,nm,vk,vi,vs,()) at',())
def D9:fB:=dm Na Us aku
def Nb:List dw:=[.v (.agg [.int .i64, .int .i64, .int .i64, .str, .int .i64, .int .i64, .str]), .v (.one (.int .i64))]
def Ut:List dP:=[.one (.bool)]
def akv:bn Nb→Prop×bG Ut:=fun ((o,l,r,nm,vk,vi,vs,()),at',())=>(True,Sp.mr (o,l,r,nm,vk,vi,vs,()) at',())
def Ea:fB:=dm Nb Ut akv
def Gi:List dw:=[.v (.one (.sl bM eP false)), .v (.one (.int .i64))]
def Oi:List dP:=[.one (.int .i64)]
def adI:bn Gi→Prop×bG Oi:=fun (q,at',())=>(q.length≤1000000,(Sp.pK q at':Int),())
def xI:fB:=dm Gi Oi adI
def Gj:List dw:=[.v (.one (.sl bM eP false)), .v (.one (.int .i64))]
def Oj:List dP:=[.one (.int .i64)]
def adJ:bn Gj→Prop×bG Oj:=fun (q,at',())=>(q.length≤1000000,(Sp.pK q at':Int),())
def xJ:fB:=dm Gj Oj adJ
def KO:List dw:=[.v (.one (.sl bM eP false))]
def Tc:List dP:=[.one (.bool)]
def aiq:bn KO→Prop×bG Tc:=fun (q,())=>(q.length≤1000000,Sp.dn q,())
def kZ:fB:=dm KO Tc aiq
def KP:List dw:=[.v (.one (.sl bM eP false))]
def Td:List dP:=[.one (.bool)]
def air:bn KP→Prop×bG Td:=fun (q,())=>(q.length≤1000000,Sp.dn q,())
def lg:fB:=dm KP Td air
def Nc:List dw:=[.v (.one (.sl bf bI false))]
def Uu:List dP:=[.one (.bool)]
def akw:bn Nc→Prop×bG Uu:=fun (d,())=>(Sp.aO d,Sp.iY d,())
def Eb:fB:=dm Nc Uu akw
def Nh:List dw:=[.v (.one (.sl bf bI false))]
def Uw:List dP:=[.one (.bool)]
def akx:bn Nh→Prop×bG Uw:=fun (d,())=>(Sp.aO d,Sp.iY d,())
def Ec:fB:=dm Nh Uw akx
def RD:List dw:=[.v (.agg [.int .i64, .int .i64, .int .i64, .str, .int .i64, .int .i64, .str])]
def Zn:List dP:=[.one (.bool)]
def atA:bn RD→Prop×bG Zn:=fun ((o,_,_,_,_,_,_,()),())=>(True,(o==8||o==9),())
def yj:fB:=dm RD Zn atA
def KQ:List dw:=[.v (.one (.sl bM eP false))]
def Tf:List dP:=[.one (.sl atB R_4 true)]
def ais:bn KQ→Prop×bG Tf:=fun (q,())=>(q.length≤1000,Sp.negated q,())
def BL:fB:=dm KQ Tf ais
def KR:List dw:=[.v (.one (.sl bM eP false))]
def Ti:List dP:=[.one (.sl atB R_4 true)]
def ait:bn KR→Prop×bG Ti:=fun (q,())=>(q.length≤1000,Sp.negated q,())
def BM:fB:=dm KR Ti ait
def iK:List dO:=[.p (.v (.one (.sl dL gq false)))]
def Nj:List fG:=[.one (.c (.sl dL gq true))]
def Zo:bV iK→Prop×(cu Nj×bZ iK→Prop):=fun (l,())=>(l.length≤1000,fun ((r,()),())=>r.length≤l.length∧∀ s,s∈r↔s∈l)
def jc:eF:=dM iK Nj Zo
def pO:List dO:=[.p (.v (.one (.sl bM eP false))), .p (.v (.one (.bool)))]
def XZ:List fG:=[.one (.c (.sl dL gq true))]
def RG:bV pO→Prop×(cu XZ×bZ pO→Prop):=fun (q,neg,())=>(q.length≤1000,fun ((r,()),())=>Sp.cO r (Sp.fP q neg))
def vZ:eF:=dM pO XZ RG
def rH:List dO:=[.p (.v (.one (.sl bM eP false)))]
def Tj:List fG:=[.one (.c (.sl dL gq true))]
def Nk:bV rH→Prop×(cu Tj×bZ rH→Prop):=fun (q,())=>(q.length≤1000,fun ((r,()),())=>Sp.cO r (Sp.fP q false))
def BN:eF:=dM rH Tj Nk
def rJ:List dO:=[.p (.v (.one (.sl bM eP false)))]
def Tm:List fG:=[.one (.c (.sl dL gq true))]
def Nl:bV rJ→Prop×(cu Tm×bZ rJ→Prop):=fun (q,())=>(q.length≤1000,fun ((r,()),())=>Sp.cO r (Sp.fP q true))
def BO:eF:=dM rJ Tm Nl
def Xc:List dw:=[.v (.one (.sl dL gq false)), .v (.one (.str))]
def acX:List dP:=[.one (.sl dL gq false)]
def azD:bn Xc→Prop×bG acX:=fun (l,s,())=>(l.length≤1000,Sp.Il l s,())
def kS:fB:=dm Xc acX azD
def qH:List dO:=[.p (.v (.one (.sl bM eP false))), .p (.v (.one (.bool)))]
def Zp:List fG:=[.one (.c (.sl dL gq true))]
def Ux:bV qH→Prop×(cu Zp×bZ qH→Prop):=fun (q,neg,())=>(q.length≤1000,fun ((r,()),())=>Sp.cO r (Sp.fP q neg))
def yt:eF:=dM qH Zp Ux
def rM:List dO:=[.p (.v (.one (.sl bM eP false)))]
def Tn:List fG:=[.one (.c (.sl dL gq true))]
def Np:bV rM→Prop×(cu Tn×bZ rM→Prop):=fun (q,())=>(q.length≤1000,fun ((r,()),())=>Sp.cO r (Sp.fP q false))
def BP:eF:=dM rM Tn Np
def rO:List dO:=[.p (.v (.one (.sl bM eP false)))]
def Tq:List fG:=[.one (.c (.sl dL gq true))]
def Nq:bV rO→Prop×(cu Tq×bZ rO→Prop):=fun (q,())=>(q.length≤1000,fun ((r,()),())=>Sp.cO r (Sp.fP q true))
def BQ:eF:=dM rO Tq Nq
def Uy:List dw:=[.v (.agg [.str, .sl bM eP false]), .kp [.str]]
def aa0:List dP:=[.one (.bool)]
def awX:bn Uy→Prop×bG aa0:=fun ((nm,_,()),name,())=>(True,(nm==name.1),())
def zH:fB:=dm Uy aa0 awX
def mX:List dw:=[.v (.one (.sl bf bI false)), .fn 251 [[.str]]]
def vC:List dP:=[.one (.int .i64)]
def J9:bn mX→Prop×bG vC:=fun (d,((name,()),()),())=>(True,Sp.aX d name,())
def jO:fB:=dm mX vC J9
def YK:List dw:=[.v (.one (.sl bf bI false)), .v (.one (.str))]
def aeD:List dP:=[.one (.int .i64)]
def aAq:bn YK→Prop×bG aeD:=fun (d,name,())=>(True,Sp.aX d name,())
def O4:fB:=dm YK aeD aAq
def RH:List dw:=[.v (.one (.sl bf bI false)), .v (.one (.str))]
def Zq:List dP:=[.one (.int .i64)]
def atC:bn RH→Prop×bG Zq:=fun (d,name,())=>(True,Sp.aX d name,())
def IY:fB:=dm RH Zq atC
def Nr:List dw:=[.v (.one (.sl bf bI false)), .v (.one (.sl iD mP false)), .v (.one (.sl dL gq false)), .v (.one (.int .i64))]
def Uz:List dP:=[.one (.int .i64)]
def aky:bn Nr→Prop×bG Uz:=fun (d,aI,names,more,())=>(d.length≤aI.length∧names.length≤1000∧0≤more∧more≤1∧∀ x∈aI,0≤x.1∧x.1≤1000000,Sp.ET d aI more names,())
def Ed:fB:=dm Nr Uz aky
def wo:List dO:=[.p (.v (.one (.sl bf bI false)))]
def acY:List fG:=[.one (.c (.sl iD mP true)), .one (.c .bool)]
def YL:bV wo→Prop×(cu acY×bZ wo→Prop):=fun (d,())=>(Sp.aO d,fun ((s,ok,()),())=>ok=Sp.aF d∧(ok=true→Sp.mO d s))
def BR:eF:=dM wo acY YL
def zI:List dO:=[.p (.v (.one (.sl bf bI false))), .p (.v (.one (.sl iD mP false)))]
def Zr:List fG:=[.one (.own iD mP true)]
def GN:bV zI→Prop×(cu Zr×bZ zI→Prop):=fun (d,aI,())=>(Sp.aO d∧d.length≤5∧aI.length=d.length∧∀ x∈aI,0≤x.1∧x.1≤1000000,fun ((r,()),())=>Sp.raised d aI r)
def IZ:eF:=dM zI Zr GN
def UA:List dw:=[.v (.one (.sl iD mP false)), .v (.one (.sl iD mP false))]
def aa1:List dP:=[.one (.bool)]
def awY:bn UA→Prop×bG aa1:=fun (a,b,())=>(True,decide (a=b),())
def lS:fB:=dm UA aa1 awY
def lH:List dO:=[.p (.v (.one (.sl bf bI false)))]
def acZ:List fG:=[.one (.c (.sl iD mP true)), .one (.c .bool)]
def YM:bV lH→Prop×(cu acZ×bZ lH→Prop):=fun (d,())=>(Sp.aO d,fun ((s,ok,()),())=>ok=Sp.aF d∧(ok=true→Sp.mO d s)∧(ok=false→s=[]))
def nO:eF:=dM lH acZ YM
def KT:List dw:=[.v (.one (.sl bf bI false))]
def Tt:List dP:=[.one (.bool)]
def aiu:bn KT→Prop×bG Tt:=fun (d,())=>(Sp.aO d,Sp.aF d,())
def BU:fB:=dm KT Tt aiu
def Ee:List dw:=[.v (.one (.sl bM eP false))]
def L6:List dP:=[.one (.sl bM eP false)]
def aa2:bn Ee→Prop×bG L6:=fun (l,())=>(l.length≤1000,l,())
def uU:fB:=dm Ee L6 aa2
def UB:List dw:=[.v (.agg [.str, .sl bM eP false])]
def aa3:List dP:=[.agg [.str, .sl bM eP false]]
def awZ:bn UB→Prop×bG aa3:=fun ((n,q,()),())=>(q.length≤1000,(n,q,()),())
def KU:fB:=dm UB aa3 awZ
def RI:List dw:=[.v (.one (.sl bf bI false))]
def Zt:List dP:=[.one (.sl bf bI false)]
def atD:bn RI→Prop×bG Zt:=fun (d,())=>(Sp.aO d,d,())
def yu:fB:=dm RI Zt atD
def UC:List dw:=[.v (.one (.sl bf bI false))]
def aa4:List dP:=[.one (.sl bf bI true)]
def aw0:bn UC→Prop×bG aa4:=fun (d,())=>(Sp.aO d,d,())
def zJ:fB:=dm UC aa4 aw0
def PZ:List dw:=[.v (.one (.sl bM eP false)), .v (.one (.sl bM eP false))]
def X0:List dP:=[.one (.bool)]
def aqH:bn PZ→Prop×bG X0:=fun (a,b,())=>(True,decide (a=b),())
def GR:fB:=dm PZ X0 aqH
def UD:List dw:=[.v (.agg [.str, .sl bM eP false]), .v (.agg [.str, .sl bM eP false])]
def aa5:List dP:=[.one (.bool)]
def aw1:bn UD→Prop×bG aa5:=fun (a,b,())=>(True,decide (a=b),())
def KW:fB:=dm UD aa5 aw1
def RJ:List dw:=[.v (.one (.sl bf bI false)), .v (.one (.sl bf bI false))]
def Zu:List dP:=[.one (.bool)]
def atE:bn RJ→Prop×bG Zu:=fun (a,b,())=>(True,decide (a=b),())
def I4:fB:=dm RJ Zu atE
def UE:List dw:=[.v (.agg [.int .i64, .int .i64, .bool, .int .i64, .sl bD eu false]), .v (.one (.str))]
def aa6:List dP:=[.agg [.int .i64, .int .i64, .str]]
def aw2:bn UE→Prop×bG aa6:=fun ((_,_,_,_,a,()),name,())=>(True,Sp.dF a name,())
def qI:fB:=dm UE aa6 aw2
def UF:List dw:=[.v (.agg [.int .i64, .int .i64, .bool, .int .i64, .sl bD eu false]), .v (.one (.str))]
def aa7:List dP:=[.agg [.int .i64, .int .i64, .str]]
def aw3:bn UF→Prop×bG aa7:=fun ((_,_,_,_,a,()),name,())=>(True,Sp.dF a name,())
def zK:fB:=dm UF aa7 aw3
def UG:List dw:=[.v (.agg [.int .i64, .int .i64, .bool, .int .i64, .sl bD eu false]), .v (.one (.str))]
def aa8:List dP:=[.one (.int .i64), .one (.bool)]
def aw4:bn UG→Prop×bG aa8:=fun ((_,_,_,_,a,()),name,())=>(True,(bif (Sp.dF a name).1==1 then (Sp.dF a name).2.1 else 0),((Sp.dF a name).1==1),())
def KX:fB:=dm UG aa8 aw4
def Ns:List dw:=[.v (.one (.sl iD mP false)), .v (.one (.int .i64))]
def UH:List dP:=[.one (.int .i64)]
def akz:bn Ns→Prop×bG UH:=fun (s,v,())=>(True,Sp.findAt (fun x=>x.1==v) s,())
def Ef:fB:=dm Ns UH akz
def Io:List dw:=[.v (.one (.sl iD mP false)), .v (.one (.int .i64))]
def Pn:List dP:=[.one (.bool)]
def aeE:bn Io→Prop×bG Pn:=fun (s,v,())=>(True,Sp.gu s v,())
def oz:fB:=dm Io Pn aeE
def Ip:List dw:=[.v (.one (.sl dL gq false)), .v (.one (.str))]
def Po:List dP:=[.one (.int .i64)]
def aeF:bn Ip→Prop×bG Po:=fun (s,v,())=>(True,Sp.findAt (fun x=>x.1==v) s,())
def yN:fB:=dm Ip Po aeF
def Eg:List dw:=[.v (.one (.sl dL gq false)), .v (.one (.str))]
def L8:List dP:=[.one (.bool)]
def aa9:bn Eg→Prop×bG L8:=fun (s,v,())=>(True,Sp.dY s v,())
def iy:fB:=dm Eg L8 aa9
def Ol:List dw:=[.v (.one (.sl iD mP false)), .v (.one (.int .i64))]
def V5:List dP:=[.one (.bool)]
def an8:bn Ol→Prop×bG V5:=fun (s,v,())=>(True,Sp.gu s v,())
def FP:fB:=dm Ol V5 an8
def Om:List dw:=[.v (.one (.sl iD mP false)), .v (.one (.int .i64))]
def V6:List dP:=[.one (.bool)]
def an9:bn Om→Prop×bG V6:=fun (s,v,())=>(True,Sp.gu s v,())
def uy:fB:=dm Om V6 an9
def Nu:List dw:=[.v (.one (.sl iD mP false))]
def UI:List dP:=[.one (.sl iD mP false)]
def akA:bn Nu→Prop×bG UI:=fun (l,())=>(l.length≤1000,l,())
def rP:fB:=dm Nu UI akA
def P5:List dw:=[.v (.one (.sl aQ cZ false)), .v (.one (.str))]
def X3:List dP:=[.one (.sl iD mP false)]
def aqI:bn P5→Prop×bG X3:=fun (r,name,())=>(Sp.aZ r,Sp.gW r name,())
def nT:fB:=dm P5 X3 aqI
def P6:List dw:=[.v (.one (.sl aQ cZ false)), .v (.one (.str))]
def X4:List dP:=[.one (.sl iD mP true)]
def aqJ:bn P6→Prop×bG X4:=fun (r,name,())=>(Sp.aZ r,Sp.gW r name,())
def nU:fB:=dm P6 X4 aqJ
def Zv:List dw:=[.v (.one (.sl bM eP false)), .v (.one (.int .i64)), .v (.agg [.int .i64, .int .i64, .bool, .int .i64, .sl bD eu false]), .v (.one (.sl aQ cZ false))]
def X5:List dP:=[.one (.bool)]
def aqK:bn Zv→Prop×bG X5:=fun (q,at',(i,o,s,l,a,()),r,())=>(Sp.dn q=true∧0≤at'∧at'<q.length∧Sp.aZ r,Sp.val q (i,o,s,l,a,()) (Sp.bK r) at'.toNat,())
def Oo:fB:=dm Zv X5 aqK
def QL:List dw:=[.v (.one (.sl bM eP false)), .v (.one (.int .i64)), .v (.agg [.int .i64, .int .i64, .bool, .int .i64, .sl bD eu false]), .v (.one (.sl aQ cZ false))]
def Pq:List dP:=[.one (.bool)]
def Tv [Af]:bn QL→Prop×bG Pq:=fun (q,at',(i,o,s,l,a,()),r,())=>((Sp.dn q=true∧0≤at'∧at'<q.length∧Sp.aZ r)∧at'.toNat<zA,Sp.val q (i,o,s,l,a,()) (Sp.bK r) at'.toNat,())
def Gl [Af]:fB:=dm QL Pq Tv
def Gm:List dw:=[.v (.one (.sl bM eP false)), .v (.one (.int .i64)), .v (.agg [.int .i64, .int .i64, .bool, .int .i64, .sl bD eu false]), .v (.one (.sl aQ cZ false))]
def Oq:List dP:=[.one (.bool)]
def QM [Af]:bn Gm→Prop×bG Oq:=fun (q,at',(i,o,s,l,a,()),r,())=>((Sp.dn q=true∧0≤at'∧at'<q.length∧Sp.aZ r)∧at'.toNat<zA+1,Sp.val q (i,o,s,l,a,()) (Sp.bK r) at'.toNat,())
def Ot [Af]:fB:=dm Gm Oq QM
def ac0:List dw:=[.v (.one (.sl bM eP false)), .v (.one (.int .i64)), .v (.agg [.int .i64, .int .i64, .bool, .int .i64, .sl bD eu false]), .v (.one (.sl aQ cZ false))]
def abb:List dP:=[.one (.bool)]
def aw5:bn ac0→Prop×bG abb:=fun (q,at',(i,o,s,l,a,()),r,())=>(Sp.dn q=true∧0≤at'∧at'<q.length∧Sp.aZ r,Sp.val q (i,o,s,l,a,()) (Sp.bK r) at'.toNat,())
def RN:fB:=dm ac0 abb aw5
def UJ:List dw:=[.v (.one (.sl bM eP false)), .v (.one (.int .i64)), .v (.agg [.int .i64, .int .i64, .bool, .int .i64, .sl bD eu false]), .v (.one (.sl aQ cZ false))]
def Tz:List dP:=[.one (.bool)]
def V7 [Af]:bn UJ→Prop×bG Tz:=fun (q,at',(i,o,s,l,a,()),r,())=>((Sp.dn q=true∧0≤at'∧at'<q.length∧Sp.aZ r)∧at'.toNat<zA,Sp.val q (i,o,s,l,a,()) (Sp.bK r) at'.toNat,())
def Jk [Af]:fB:=dm UJ Tz V7
def Jl:List dw:=[.v (.one (.sl bM eP false)), .v (.one (.int .i64)), .v (.agg [.int .i64, .int .i64, .bool, .int .i64, .sl bD eu false]), .v (.one (.sl aQ cZ false))]
def QN:List dP:=[.one (.bool)]
def UK [Af]:bn Jl→Prop×bG QN:=fun (q,at',(i,o,s,l,a,()),r,())=>((Sp.dn q=true∧0≤at'∧at'<q.length∧Sp.aZ r)∧at'.toNat<zA+1,Sp.val q (i,o,s,l,a,()) (Sp.bK r) at'.toNat,())
def QO [Af]:fB:=dm Jl QN UK
def UL:List dw:=[.v (.one (.sl bM eP false)), .v (.agg [.int .i64, .int .i64, .bool, .int .i64, .sl bD eu false]), .v (.one (.sl aQ cZ false))]
def abd:List dP:=[.one (.bool)]
def aw6:bn UL→Prop×bG abd:=fun (q,f,r,())=>(q.length≤1000∧Sp.aZ r,Sp.jC q f (Sp.bK r),())
def KY:fB:=dm UL abd aw6
def UM:List dw:=[.v (.one (.sl bM eP false)), .v (.agg [.int .i64, .int .i64, .bool, .int .i64, .sl bD eu false]), .v (.one (.sl aQ cZ false))]
def abe:List dP:=[.one (.bool)]
def aw7:bn UM→Prop×bG abe:=fun (q,f,r,())=>(q.length≤1000∧Sp.aZ r,Sp.jC q f (Sp.bK r),())
def KZ:fB:=dm UM abe aw7
def Nv:List dw:=[.v (.agg [.sl aN bU false, .sl aV dR false, .int .i64]), .v (.one (.sl bM eP false)), .v (.one (.sl aQ cZ false))]
def UN:List dP:=[.one (.sl iD mP true)]
def akB:bn Nv→Prop×bG UN:=fun (s,q,r,())=>(Sp.bC s∧q.length≤1000∧Sp.aZ r,Sp.sel s.2.1 q (Sp.bK r),())
def Eh:fB:=dm Nv UN akB
def Nw:List dw:=[.v (.agg [.sl aN bU false, .sl aV dR false, .int .i64]), .v (.one (.sl bM eP false)), .v (.one (.sl aQ cZ false))]
def UO:List dP:=[.one (.sl iD mP true)]
def akC:bn Nw→Prop×bG UO:=fun (s,q,r,())=>(Sp.bC s∧q.length≤1000∧Sp.aZ r,Sp.sel s.2.1 q (Sp.bK r),())
def rQ:fB:=dm Nw UO akC
def Ny:List dw:=[.v (.one (.sl iD mP false)), .v (.one (.sl iD mP false))]
def UQ:List dP:=[.one (.bool)]
def akD:bn Ny→Prop×bG UQ:=fun (a,b,())=>(True,decide (a=b),())
def rU:fB:=dm Ny UQ akD
def Iq:List dw:=[.v (.agg [.str, .sl iD mP false]), .v (.agg [.str, .sl iD mP false])]
def Pv:List dP:=[.one (.bool)]
def aeG:bn Iq→Prop×bG Pv:=fun (a,b,())=>(True,decide (a=b),())
def oC:fB:=dm Iq Pv aeG
def iT:List dw:=[.v (.one (.sl aQ cZ false)), .v (.one (.sl aQ cZ false)), .fn 120 []]
def kT:List dP:=[.one (.bool)]
def wu:bn iT→Prop×bG kT:=fun (a,b,_,())=>(True,decide (a=b),())
def fQ:fB:=dm iT kT wu
def La:List dw:=[.v (.one (.sl aQ cZ false)), .v (.one (.sl aQ cZ false))]
def TA:List dP:=[.one (.bool)]
def aiv:bn La→Prop×bG TA:=fun (a,b,())=>(True,decide (a=b),())
def BV:fB:=dm La TA aiv
def Lc:List dw:=[.v (.one (.sl aQ cZ false)), .v (.one (.sl aQ cZ false))]
def TB:List dP:=[.one (.bool)]
def aiw:bn Lc→Prop×bG TB:=fun (a,b,())=>(True,decide (a=b),())
def BZ:fB:=dm Lc TB aiw
def yw:List dO:=[.p (.v (.one (.sl iD mP false)))]
def X6:List fG:=[.one (.c (.int .i64))]
def RP:bV yw→Prop×(cu X6×bZ yw→Prop):=fun (l,())=>(0<l.length,fun ((m,()),())=>(∀ x∈l,x.1≤m)∧(m,())∈l)
def GU:eF:=dM yw X6 RP
def wz:List dO:=[.p (.v (.one (.sl bf bI false)))]
def V8:List fG:=[.one (.c (.int .i64))]
def P7:bV wz→Prop×(cu V8×bZ wz→Prop):=fun (d,())=>(Sp.aO d,fun ((m,()),())=>Sp.abf d m)
def FQ:eF:=dM wz V8 P7
def nV:List dO:=[.p (.v (.one (.sl bf bI false)))]
def V9:List fG:=[.one (.c (.int .i64))]
def P8:bV nV→Prop×(cu V9×bZ nV→Prop):=fun (d,())=>(Sp.aO d,fun ((m,()),())=>Sp.abf d m)
def uz:eF:=dM nV V9 P8
def RQ:List dw:=[.v (.one (.sl bf bI false))]
def Zw:List dP:=[.one (.sl dL gq true)]
def atF:bn RQ→Prop×bG Zw:=fun (d,())=>(d.length≤1000,Sp.jD d,())
def yx:fB:=dm RQ Zw atF
def RS:List dw:=[.v (.one (.sl bf bI false))]
def Zx:List dP:=[.one (.sl dL gq true)]
def atG:bn RS→Prop×bG Zx:=fun (d,())=>(d.length≤1000,Sp.jD d,())
def I5:fB:=dm RS Zx atG
def pR:List dO:=[.p (.v (.agg [.sl aN bU false, .sl aV dR false, .int .i64])), .p (.v (.one (.sl bf bI false))), .p (.v (.one (.sl aQ cZ false))), .p (.v (.one (.sl dL gq false)))]
def X7:List fG:=[.one (.c (.sl aQ cZ false)), .one (.c (.int .i64)), .one (.c .bool)]
def RU:bV pR→Prop×(cu X7×bZ pR→Prop):=fun (s,d,r,names,())=>(Sp.bC s∧Sp.aO d∧Sp.aZ r,fun ((out,_,ok,()),())=>ok=(Sp.aF d&&Sp.aH s)∧(ok=true→Sp.iO s.2.1 d r (Sp.dY names) out))
def wB:eF:=dM pR X7 RU
def zL:List dO:=[.p (.v (.agg [.sl aN bU false, .sl aV dR false, .int .i64])), .p (.v (.one (.sl bf bI false)))]
def Zy:List fG:=[.one (.c (.sl aQ cZ false)), .one (.c .bool)]
def UR:bV zL→Prop×(cu Zy×bZ zL→Prop):=fun (s,d,())=>(Sp.bC s∧Sp.aO d,fun ((out,ok,()),())=>ok=(Sp.aF d&&Sp.aH s)∧(ok=true→Sp.iO s.2.1 d [] (fun _=>true) out))
def I7:eF:=dM zL Zy UR
def wC:List dO:=[.p (.v (.agg [.sl aN bU false, .sl aV dR false, .int .i64])), .p (.v (.one (.sl bf bI false))), .p (.v (.one (.sl aQ cZ false))), .p (.v (.one (.sl dL gq false)))]
def Wh:List fG:=[.one (.c (.sl aQ cZ false)), .one (.c .bool)]
def P9:bV wC→Prop×(cu Wh×bZ wC→Prop):=fun (s,d,r,names,())=>(Sp.bC s∧Sp.aO d∧Sp.aZ r,fun ((out,ok,()),())=>ok=(Sp.aF d&&Sp.aH s)∧(ok=true→Sp.iO s.2.1 d r (Sp.dY names) out))
def FT:eF:=dM wC Wh P9
def EN:List dO:=[.p (.v (.agg [.sl aN bU false, .sl aV dR false, .int .i64])), .p (.v (.one (.sl bf bI false)))]
def ac1:List fG:=[.one (.c (.sl aQ cZ false)), .one (.c (.int .i64)), .one (.c .bool)]
def YN:bV EN→Prop×(cu ac1×bZ EN→Prop):=fun (s,d,())=>(Sp.bC s∧Sp.aO d,fun ((out,_,ok,()),())=>ok=(Sp.aF d&&Sp.aH s)∧(ok=true→Sp.iO s.2.1 d [] (fun _=>true) out))
def NV:eF:=dM EN ac1 YN
def lT:List dO:=[.p (.v (.agg [.sl aN bU false, .sl aV dR false, .int .i64])), .p (.v (.one (.sl bf bI false)))]
def Zz:List fG:=[.one (.c (.sl aQ cZ false)), .one (.c .bool)]
def UU:bV lT→Prop×(cu Zz×bZ lT→Prop):=fun (s,d,())=>(Sp.bC s∧Sp.aO d,fun ((out,ok,()),())=>ok=(Sp.aF d&&Sp.aH s)∧(ok=true→Sp.iO s.2.1 d [] (fun _=>true) out))
def pU:eF:=dM lT Zz UU
def wE:List dO:=[.p (.v (.agg [.sl aN bU false, .sl aV dR false, .int .i64])), .p (.v (.one (.sl bf bI false))), .p (.v (.one (.sl aQ cZ false))), .p (.v (.one (.sl dL gq false)))]
def Wi:List fG:=[.one (.c (.sl aQ cZ false)), .one (.c .bool)]
def Qa:bV wE→Prop×(cu Wi×bZ wE→Prop):=fun (s,d,r,names,())=>(Sp.bC s∧Sp.aO d∧Sp.aZ r,fun ((out,ok,()),())=>ok=(Sp.aF d&&Sp.aH s)∧(ok=true→Sp.iO s.2.1 d r (Sp.dY names) out))
def FU:eF:=dM wE Wi Qa
def wF:List dO:=[.p (.v (.agg [.sl aN bU false, .sl aV dR false, .int .i64])), .p (.v (.one (.sl bf bI false)))]
def Wj:List fG:=[.agg [.c (.sl aN bU false), .c (.sl aV dR false), .c (.int .i64), .c (.sl bf bI false), .c (.sl aQ cZ false)], .one (.c .bool)]
def Qb:bV wF→Prop×(cu Wj×bZ wF→Prop):=fun (s,d,())=>(Sp.bC s∧Sp.aO d,fun (((a,l,nx,e,r,()),ok,()),())=>ok=(Sp.aF d&&Sp.aH s)∧(ok=true→(a,l,nx,())=s∧e=d∧Sp.iO s.2.1 d [] (fun _=>true) r)∧(ok=false→(a,l,nx,e,r,())=([],[],0,[],[],())))
def FV:eF:=dM wF Wj Qb
def Qc:List dw:=[.v (.agg [.sl aN bU false, .sl aV dR false, .int .i64, .sl bf bI false, .sl aQ cZ false])]
def X8:List dP:=[.one (.bool)]
def aqL:bn Qc→Prop×bG X8:=fun (c,())=>(Sp.jH c,Sp.o5 c,())
def wG:fB:=dm Qc X8 aqL
def Qd:List dw:=[.v (.agg [.sl aN bU false, .sl aV dR false, .int .i64, .sl bf bI false, .sl aQ cZ false])]
def X9:List dP:=[.one (.bool)]
def aqM:bn Qd→Prop×bG X9:=fun (c,())=>(Sp.jH c,Sp.o5 c,())
def GV:fB:=dm Qd X9 aqM
def Xd:List dw:=[.v (.agg [.sl aN bU false, .sl aV dR false, .int .i64]), .v (.one (.int .i64))]
def ac2:List dP:=[.one (.int .i64)]
def azE:bn Xd→Prop×bG ac2:=fun ((_,fs,_,()),id,())=>(True,Sp.place fs id,())
def Cb:fB:=dm Xd ac2 azE
def RV:List dw:=[.v (.agg [.int .i64, .int .i64, .bool, .int .i64, .sl bD eu false]), .kp [.int .i64]]
def ZA:List dP:=[.one (.bool)]
def atH:bn RV→Prop×bG ZA:=fun ((i,_,_,_,_,()),id,())=>(True,decide (i=id.1),())
def yA:fB:=dm RV ZA atH
def lU:List dw:=[.v (.one (.sl aV dR false)), .fn 161 [[.int .i64]]]
def tY:List dP:=[.one (.int .i64)]
def IJ:bn lU→Prop×bG tY:=fun (l,((id,()),()),())=>(True,Sp.place l id,())
def jA:fB:=dm lU tY IJ
def RX:List dw:=[.v (.agg [.sl aN bU false, .sl aV dR false, .int .i64]), .v (.one (.int .i64))]
def ZB:List dP:=[.agg [.int .i64, .int .i64, .bool, .int .i64, .sl bD eu false], .one (.bool)]
def atI:bn RX→Prop×bG ZB:=fun (s,id,())=>(Sp.bC s,(Sp.fC s id).1,(Sp.fC s id).2,())
def I8:fB:=dm RX ZB atI
def RY:List dw:=[.v (.agg [.sl aN bU false, .sl aV dR false, .int .i64]), .v (.one (.int .i64))]
def ZC:List dP:=[.agg [.int .i64, .int .i64, .bool, .int .i64, .sl bD eu false], .one (.bool)]
def atJ:bn RY→Prop×bG ZC:=fun (s,id,())=>(Sp.bC s,(Sp.fC s id).1,(Sp.fC s id).2,())
def I9:fB:=dm RY ZC atJ
def uD:List dO:=[.p (.v (.agg [.sl aN bU false, .sl aV dR false, .int .i64])), .p (.v (.agg [.int .i64, .int .i64, .bool, .int .i64, .sl bD eu false]))]
def UW:List fG:=[.agg [.c (.sl aN bU false), .own aV dR false, .c (.int .i64)], .one (.c .bool)]
def Ou:bV uD→Prop×(cu UW×bZ uD→Prop):=fun (s,f,())=>(Sp.bC s∧Sp.bH f,fun (((a,l,nx,()),ok,()),())=>a=(Sp.aW s f).1.1∧l=(Sp.aW s f).1.2.1∧nx=(Sp.aW s f).1.2.2.1∧ok=(Sp.aW s f).2)
def Ei:eF:=dM uD UW Ou
def uF:List dO:=[.p (.v (.agg [.sl aN bU false, .sl aV dR false, .int .i64])), .p (.v (.agg [.int .i64, .int .i64, .bool, .int .i64, .sl bD eu false]))]
def UX:List fG:=[.agg [.own aN bU true, .own aV dR true, .c (.int .i64)], .one (.c .bool)]
def Ov:bV uF→Prop×(cu UX×bZ uF→Prop):=fun (s,f,())=>(Sp.bC s∧Sp.bH f,fun (((a,l,nx,()),ok,()),())=>a=(Sp.aW s f).1.1∧l=(Sp.aW s f).1.2.1∧nx=(Sp.aW s f).1.2.2.1∧ok=(Sp.aW s f).2)
def Ej:eF:=dM uF UX Ov
def Qe:List dw:=[.v (.agg [.int .i64, .int .i64, .bool, .int .i64, .sl bD eu false])]
def Ya:List dP:=[.one (.sl dL gq true)]
def aqN:bn Qe→Prop×bG Ya:=fun ((_,_,_,_,a,()),())=>(a.length≤1000,Sp.gV a,())
def Yb:fB:=dm Qe Ya aqN
def rV:List dO:=[.p (.v (.agg [.int .i64, .int .i64, .bool, .int .i64, .sl bD eu false])), .p (.v (.agg [.int .i64, .int .i64, .bool, .int .i64, .sl bD eu false]))]
def TD:List fG:=[.one (.c (.sl dL gq true))]
def Nz:bV rV→Prop×(cu TD×bZ rV→Prop):=fun (f,g,())=>(Sp.bH f∧Sp.bH g∧f.2.2.2.2.1.length+g.2.2.2.2.1.length≤1000,fun ((r,()),())=>Sp.cO r (Sp.jU f g))
def Cc:eF:=dM rV TD Nz
def rW:List dO:=[.p (.v (.agg [.int .i64, .int .i64, .bool, .int .i64, .sl bD eu false])), .p (.v (.agg [.int .i64, .int .i64, .bool, .int .i64, .sl bD eu false]))]
def TF:List fG:=[.one (.c (.sl dL gq true))]
def NC:bV rW→Prop×(cu TF×bZ rW→Prop):=fun (f,g,())=>(Sp.bH f∧Sp.bH g∧f.2.2.2.2.1.length+g.2.2.2.2.1.length≤1000,fun ((r,()),())=>Sp.cO r (Sp.jU f g))
def Ce:eF:=dM rW TF NC
def wH:List dO:=[.p (.v (.one (.sl bM eP false)))]
def Wl:List fG:=[.one (.c (.sl dL gq true))]
def Qg:bV wH→Prop×(cu Wl×bZ wH→Prop):=fun (q,())=>(q.length≤1000,fun ((r,()),())=>Sp.cO r (Sp.mY q))
def FW:eF:=dM wH Wl Qg
def wI:List dO:=[.p (.v (.one (.sl bM eP false)))]
def Wn:List fG:=[.one (.c (.sl dL gq true))]
def Qh:bV wI→Prop×(cu Wn×bZ wI→Prop):=fun (q,())=>(q.length≤1000,fun ((r,()),())=>Sp.cO r (Sp.mY q))
def FX:eF:=dM wI Wn Qh
def yB:List dO:=[.p (.v (.one (.sl bM eP false)))]
def Yc:List fG:=[.one (.c (.sl dL gq true))]
def RZ:bV yB→Prop×(cu Yc×bZ yB→Prop):=fun (q,())=>(q.length≤1000,fun ((r,()),())=>Sp.cO r (Sp.sQ q))
def GX:eF:=dM yB Yc RZ
def yC:List dO:=[.p (.v (.one (.sl bM eP false)))]
def Yd:List fG:=[.one (.c (.sl dL gq true))]
def Si:bV yC→Prop×(cu Yd×bZ yC→Prop):=fun (q,())=>(q.length≤1000,fun ((r,()),())=>Sp.cO r (Sp.sQ q))
def GY:eF:=dM yC Yd Si
def Xe:List dw:=[.v (.one (.sl dL gq false)), .v (.one (.str))]
def ac3:List dP:=[.one (.bool)]
def azF:bn Xe→Prop×bG ac3:=fun (l,s,())=>(True,Sp.dY l s,())
def tZ:fB:=dm Xe ac3 azF
def wJ:List dO:=[.p (.v (.one (.sl bf bI false))), .p (.v (.one (.str)))]
def Wp:List fG:=[.one (.c (.sl dL gq true))]
def Qi:bV wJ→Prop×(cu Wp×bZ wJ→Prop):=fun (d,name,())=>(Sp.aO d,fun ((r,()),())=>r=Sp.asking d name)
def FY:eF:=dM wJ Wp Qi
def kN:List dO:=[.p (.v (.one (.sl bf bI false))), .p (.v (.one (.sl dL gq false)))]
def IE:List fG:=[.one (.c (.sl dL gq true))]
def Ag:bV kN→Prop×(cu IE×bZ kN→Prop):=fun (d,names,())=>(Sp.aO d∧d.length≤5∧names.length≤900,fun ((r,()),())=>Sp.reached d names r)
def qC:eF:=dM kN IE Ag
def kP:List dO:=[.p (.v (.one (.sl bf bI false))), .p (.v (.one (.sl dL gq false)))]
def IG:List fG:=[.one (.c (.sl dL gq true))]
def Ah:bV kP→Prop×(cu IG×bZ kP→Prop):=fun (d,names,())=>(Sp.aO d∧d.length≤5∧names.length≤900,fun ((r,()),())=>Sp.reached d names r)
def qE:eF:=dM kP IG Ah
def CX:List dw:=[.v (.agg [.int .i64, .int .i64, .int .i64, .str, .int .i64, .int .i64, .str])]
def Kv:List dP:=[.one (.bool)]
def ZR:bn CX→Prop×bG Kv:=fun ((o,_,_,_,_,_,_,()),())=>(True,(o==9),())
def jf:fB:=dm CX Kv ZR
def jK:List dw:=[.v (.one (.sl bM eP false)), .fn 177 []]
def nP:List dP:=[.one (.int .i64)]
def Bl:bn jK→Prop×bG nP:=fun (q,_,())=>(True,Sp.findAt (fun n=>n.1==9) q,())
def iF:fB:=dm jK nP Bl
def jr:List dw:=[.v (.one (.sl bM eP false)), .fn 177 []]
def mD:List dP:=[.one (.bool)]
def zM:bn jr→Prop×bG mD:=fun (q,_,())=>(True,Sp.linked q,())
def gY:fB:=dm jr mD zM
def Qj:List dw:=[.v (.one (.sl bM eP false))]
def Ye:List dP:=[.one (.bool)]
def aqO:bn Qj→Prop×bG Ye:=fun (q,())=>(True,Sp.linked q,())
def GZ:fB:=dm Qj Ye aqO
def mZ:List dO:=[.p (.v (.one (.sl bf bI false))), .p (.v (.agg [.int .i64, .int .i64, .bool, .int .i64, .sl bD eu false])), .p (.v (.agg [.int .i64, .int .i64, .bool, .int .i64, .sl bD eu false]))]
def NW:List fG:=[.one (.c (.sl dL gq true))]
def Gn:bV mZ→Prop×(cu NW×bZ mZ→Prop):=fun (d,f,g,())=>(Sp.aO d∧Sp.bH f∧Sp.bH g∧f.2.2.2.2.1.length+g.2.2.2.2.1.length≤1000,fun ((r,()),())=>Sp.touched d f g r)
def xu:eF:=dM mZ NW Gn
def ng:List dO:=[.p (.v (.one (.sl bf bI false))), .p (.v (.agg [.int .i64, .int .i64, .bool, .int .i64, .sl bD eu false])), .p (.v (.agg [.int .i64, .int .i64, .bool, .int .i64, .sl bD eu false]))]
def NY:List fG:=[.one (.c (.sl dL gq true))]
def Gp:bV ng→Prop×(cu NY×bZ ng→Prop):=fun (d,f,g,())=>(Sp.aO d∧Sp.bH f∧Sp.bH g∧f.2.2.2.2.1.length+g.2.2.2.2.1.length≤1000,fun ((r,()),())=>Sp.touched d f g r)
def xw:eF:=dM ng NY Gp
def CY:List dw:=[.v (.one (.str)), .kp [.sl dL gq false]]
def Kw:List dP:=[.one (.bool)]
def ZT:bn CY→Prop×bG Kw:=fun (nm,attrs,())=>(True,Sp.dY attrs.1 nm,())
def jg:fB:=dm CY Kw ZT
def jY:List dw:=[.v (.one (.sl dL gq false)), .fn 175 [[.sl dL gq false]]]
def oQ:List dP:=[.one (.int .i64)]
def Em:bn jY→Prop×bG oQ:=fun (l,((attrs,()),()),())=>(True,Sp.findAt (fun x=>Sp.dY attrs x.1) l,())
def iP:fB:=dm jY oQ Em
def jL:List dw:=[.v (.one (.sl dL gq false)), .fn 175 [[.sl dL gq false]]]
def nR:List dP:=[.one (.bool)]
def Bo:bn jL→Prop×bG nR:=fun (l,((attrs,()),()),())=>(True,l.any fun x=>Sp.dY attrs x.1,())
def iG:fB:=dm jL nR Bo
def lq:List dO:=[.p (.v (.one (.sl dL gq false)))]
def Jm:List fG:=[.one (.own dL gq false)]
def CZ:bV lq→Prop×(cu Jm×bZ lq→Prop):=fun (l,())=>(l.length≤1000,fun ((r,()),())=>r=l)
def rX:eF:=dM lq Jm CZ
def ni:List dO:=[.p (.v (.one (.sl iD mP false)))]
def NZ:List fG:=[.one (.own iD mP false)]
def Gq:bV ni→Prop×(cu NZ×bZ ni→Prop):=fun (l,())=>(l.length≤1000,fun ((r,()),())=>r=l)
def xA:eF:=dM ni NZ Gq
def Qk:List dw:=[.v (.one (.int .i64)), .kp [.sl iD mP false]]
def Yf:List dP:=[.one (.bool)]
def aqP:bn Qk→Prop×bG Yf:=fun (x,b,())=>(True,Sp.gu b.1 x,())
def nX:fB:=dm Qk Yf aqP
def oU:List dw:=[.v (.one (.sl iD mP false)), .fn 239 [[.sl iD mP false]]]
def xK:List dP:=[.one (.int .i64)]
def ND:bn oU→Prop×bG xK:=fun (l,((b,()),()),())=>(True,Sp.findAt (fun x=>Sp.gu b x.1) l,())
def kC:fB:=dm oU xK ND
def iE:List dO:=[.own iD mP, .p (.fn 239 [[.sl iD mP false]])]
def xE:List fG:=[.one (.own iD mP false)]
def oV:bV iE→Prop×(cu xE×bZ iE→Prop):=fun (s,((b,()),()),())=>(s.length≤1000,fun ((r,()),())=>r=s.filter fun x=>!Sp.gu b x.1)
def jX:eF:=dM iE xE oV
def Ci:List dO:=[.p (.v (.one (.sl iD mP false))), .p (.v (.one (.sl iD mP false)))]
def abg:List fG:=[.one (.own iD mP false)]
def Xf:bV Ci→Prop×(cu abg×bZ Ci→Prop):=fun (a,b,())=>(a.length≤1000,fun ((r,()),())=>r=Sp.without a b)
def Ld:eF:=dM Ci abg Xf
def Cj:List dO:=[.p (.v (.one (.sl iD mP false))), .p (.v (.one (.sl iD mP false)))]
def abh:List fG:=[.one (.c (.sl iD mP false)), .one (.c (.sl iD mP false))]
def Xg:bV Cj→Prop×(cu abh×bZ Cj→Prop):=fun (a,b,())=>(a.length≤1000∧b.length≤1000,fun ((x,y,()),())=>x=Sp.without b a∧y=Sp.without a b)
def Le:eF:=dM Cj abh Xg
def Cm:List dO:=[.p (.v (.one (.sl iD mP false))), .p (.v (.one (.sl iD mP false)))]
def abj:List fG:=[.one (.c (.sl iD mP false)), .one (.c (.sl iD mP false))]
def Xh:bV Cm→Prop×(cu abj×bZ Cm→Prop):=fun (a,b,())=>(a.length≤1000∧b.length≤1000,fun ((x,y,()),())=>x=Sp.without b a∧y=Sp.without a b)
def Lh:eF:=dM Cm abj Xh
def uG:List dO:=[.p (.v (.one (.sl aQ cZ false))), .p (.v (.one (.sl aQ cZ false)))]
def UY:List fG:=[.one (.c (.sl EJ Rk false))]
def Ox:bV uG→Prop×(cu UY×bZ uG→Prop):=fun (a,b,())=>(Sp.aZ a∧Sp.aZ b,fun ((r,()),())=>r=Sp.O5 a b)
def En:eF:=dM uG UY Ox
def uH:List dO:=[.p (.v (.one (.sl aQ cZ false))), .p (.v (.one (.sl aQ cZ false)))]
def UZ:List fG:=[.one (.c (.sl EJ Rk false))]
def Oy:bV uH→Prop×(cu UZ×bZ uH→Prop):=fun (a,b,())=>(Sp.aZ a∧Sp.aZ b,fun ((r,()),())=>r=Sp.O5 a b)
def Eo:eF:=dM uH UZ Oy
def uI:List dO:=[.p (.v (.one (.sl aQ cZ false)))]
def U0:List fG:=[.one (.c (.sl aQ cZ false))]
def Oz:bV uI→Prop×(cu U0×bZ uI→Prop):=fun (r,())=>(Sp.aZ r,fun ((q,()),())=>q=r)
def Ep:eF:=dM uI U0 Oz
def mM:List dO:=[.p (.v (.agg [.sl aN bU false, .sl aV dR false, .int .i64, .sl bf bI false, .sl aQ cZ false]))]
def U1:List fG:=[.agg [.c (.sl aN bU false), .c (.sl aV dR false), .c (.int .i64), .c (.sl bf bI false), .c (.sl aQ cZ false)]]
def OA:bV mM→Prop×(cu U1×bZ mM→Prop):=fun (c,())=>(Sp.jH c,fun (((a,l,nx,d,r,()),()),())=>(a,l,nx,d,r,())=c)
def rY:eF:=dM mM U1 OA
def wK:List dO:=[.p (.v (.one (.sl aQ cZ false)))]
def Wq:List fG:=[.one (.c (.sl aQ cZ false))]
def Ql:bV wK→Prop×(cu Wq×bZ wK→Prop):=fun (r,())=>(Sp.aZ r,fun ((q,()),())=>q=r)
def FZ:eF:=dM wK Wq Ql
def CB:List dO:=[.p (.v (.agg [.sl aN bU false, .sl aV dR false, .int .i64, .sl bf bI false, .sl aQ cZ false]))]
def abk:List fG:=[.agg [.c (.sl aN bU false), .c (.sl aV dR false), .c (.int .i64), .c (.sl bf bI false), .c (.sl aQ cZ false)]]
def Xi:bV CB→Prop×(cu abk×bZ CB→Prop):=fun (c,())=>(Sp.jH c,fun (((a,l,nx,d,r,()),()),())=>(a,l,nx,d,r,())=c)
def Lj:eF:=dM CB abk Xi
def rZ:List dO:=[.p (.v (.one (.sl bf bI false))), .p (.v (.agg [.int .i64, .int .i64, .bool, .int .i64, .sl bD eu false])), .p (.v (.agg [.int .i64, .int .i64, .bool, .int .i64, .sl bD eu false]))]
def TG:List fG:=[.one (.c (.sl dL gq true))]
def NG:bV rZ→Prop×(cu TG×bZ rZ→Prop):=fun (d,f,g,())=>(Sp.aO d∧d.length≤5∧Sp.bH f∧Sp.bH g∧f.2.2.2.2.1.length+g.2.2.2.2.1.length≤1000,fun ((r,()),())=>Sp.isSet r (Sp.Aff d f g))
def CG:eF:=dM rZ TG NG
def su:List dO:=[.p (.v (.one (.sl bf bI false))), .p (.v (.agg [.int .i64, .int .i64, .bool, .int .i64, .sl bD eu false])), .p (.v (.agg [.int .i64, .int .i64, .bool, .int .i64, .sl bD eu false]))]
def TJ:List fG:=[.one (.c (.sl dL gq true))]
def NH:bV su→Prop×(cu TJ×bZ su→Prop):=fun (d,f,g,())=>(Sp.aO d∧d.length≤5∧Sp.bH f∧Sp.bH g∧f.2.2.2.2.1.length+g.2.2.2.2.1.length≤1000,fun ((r,()),())=>Sp.isSet r (Sp.Aff d f g))
def CJ:eF:=dM su TJ NH
def yD:List dO:=[.p (.v (.agg [.sl aN bU false, .sl aV dR false, .int .i64, .sl bf bI false, .sl aQ cZ false])), .p (.v (.agg [.sl aN bU false, .sl aV dR false, .int .i64])), .p (.v (.one (.sl bf bI false))), .p (.v (.one (.sl dL gq false)))]
def Yg:List fG:=[.agg [.c (.sl aN bU false), .c (.sl aV dR false), .c (.int .i64), .c (.sl bf bI false), .c (.sl aQ cZ false)], .one (.c (.sl EJ Rk false)), .one (.c .bool)]
def Sj:bV yD→Prop×(cu Yg×bZ yD→Prop):=fun (c,s,d,names,())=>(Sp.jH c∧Sp.bC s∧Sp.aO d,fun (((a,l,nx,e,r,()),df,ok,()),())=>Sp.turned c s d (Sp.dY names) (a,l,nx,e,r,()) df ok)
def G5:eF:=dM yD Yg Sj
def CO:List dO:=[.p (.v (.agg [.sl aN bU false, .sl aV dR false, .int .i64, .sl bf bI false, .sl aQ cZ false])), .p (.v (.agg [.sl aN bU false, .sl aV dR false, .int .i64])), .p (.v (.one (.sl bf bI false))), .p (.v (.one (.sl dL gq false)))]
def abl:List fG:=[.agg [.c (.sl aN bU false), .c (.sl aV dR false), .c (.int .i64), .c (.sl bf bI false), .c (.sl aQ cZ false)], .one (.c (.sl EJ Rk false))]
def Xj:bV CO→Prop×(cu abl×bZ CO→Prop):=fun (c,s,d,names,())=>(Sp.jH c∧Sp.bC s∧Sp.aO d∧(Sp.aF d&&Sp.aH s)=true,fun (((a,l,nx,e,r,()),df,()),())=>Sp.turned c s d (Sp.dY names) (a,l,nx,e,r,()) df true)
def Ll:eF:=dM CO abl Xj
def wL:List dO:=[.p (.v (.agg [.sl aN bU false, .sl aV dR false, .int .i64, .sl bf bI false, .sl aQ cZ false])), .p (.v (.agg [.int .i64, .int .i64, .bool, .int .i64, .sl bD eu false]))]
def Ws:List fG:=[.agg [.c (.sl aN bU false), .c (.sl aV dR false), .c (.int .i64), .c (.sl bf bI false), .c (.sl aQ cZ false)], .one (.c (.sl EJ Rk false)), .one (.c .bool)]
def Qm:bV wL→Prop×(cu Ws×bZ wL→Prop):=fun (c,f,())=>(Sp.jH c∧Sp.bH f∧Sp.XF c∧Sp.Rl f,fun (((a,l,nx,e,r,()),df,ok,()),())=>Sp.updated c f (a,l,nx,e,r,()) df ok)
def F5:eF:=dM wL Ws Qm
def wM:List dO:=[.p (.v (.agg [.sl aN bU false, .sl aV dR false, .int .i64, .sl bf bI false, .sl aQ cZ false])), .p (.v (.agg [.int .i64, .int .i64, .bool, .int .i64, .sl bD eu false]))]
def Wu:List fG:=[.agg [.c (.sl aN bU false), .c (.sl aV dR false), .c (.int .i64), .c (.sl bf bI false), .c (.sl aQ cZ false)], .one (.c (.sl EJ Rk false)), .one (.c .bool)]
def Qn:bV wM→Prop×(cu Wu×bZ wM→Prop):=fun (c,f,())=>(Sp.jH c∧Sp.bH f∧Sp.XF c∧Sp.Rl f,fun (((a,l,nx,e,r,()),df,ok,()),())=>Sp.updated c f (a,l,nx,e,r,()) df ok)
def F6:eF:=dM wM Wu Qn
def Sl:List dw:=[.v (.one (.sl iD mP false)), .v (.one (.sl iD mP false))]
def ZE:List dP:=[.one (.bool)]
def atK:bn Sl→Prop×bG ZE:=fun (a,b,())=>(True,decide (a=b),())
def Ja:fB:=dm Sl ZE atK
def OB:List dw:=[.v (.agg [.str, .sl iD mP false]), .v (.agg [.str, .sl iD mP false])]
def Wv:List dP:=[.one (.bool)]
def aoa:bn OB→Prop×bG Wv:=fun (a,b,())=>(True,decide (a=b),())
def F7:fB:=dm OB Wv aoa
def NI:List dw:=[.v (.one (.sl aQ cZ false)), .v (.one (.sl aQ cZ false))]
def U2:List dP:=[.one (.bool)]
def akE:bn NI→Prop×bG U2:=fun (a,b,())=>(True,decide (a=b),())
def sD:fB:=dm NI U2 akE
def NJ:List dw:=[.v (.agg [.sl aN bU false, .sl aV dR false, .int .i64, .sl bf bI false, .sl aQ cZ false]), .v (.agg [.sl aN bU false, .sl aV dR false, .int .i64, .sl bf bI false, .sl aQ cZ false])]
def U3:List dP:=[.one (.bool)]
def akF:bn NJ→Prop×bG U3:=fun (a,b,())=>(True,decide (a=b),())
def Es:fB:=dm NJ U3 akF
def CP:List dO:=[.ptr [.sl jP xC false, .int .i64, .int .i64]]
def abm:List fG:=[.agg [.c (.sl aN bU false), .c (.sl aV dR false), .c (.int .i64), .c (.sl bf bI false), .c (.sl aQ cZ false)]]
def Xk:bV CP→Prop×(cu abm×bZ CP→Prop):=fun ((_,i,_,()),())=>(0≤i,fun (((a,l,nx,d,r,()),()),((_,i',_,()),()))=>0≤i'∧Sp.ZU (a,l,nx,d,r,()))
def Lm:eF:=dM CP abm Xk
def uJ:List dO:=[.p (.v (.one (.sl jP xC false)))]
def U4:List fG:=[.agg [.c (.sl aN bU false), .c (.sl aV dR false), .c (.int .i64), .c (.sl bf bI false), .c (.sl aQ cZ false)]]
def OC:bV uJ→Prop×(cu U4×bZ uJ→Prop):=fun (code,())=>(code.length≤1048576,fun (((a,l,nx,d,r,()),()),())=>Sp.ZU (a,l,nx,d,r,()))
def Et:eF:=dM uJ U4 OC
def wO:List dO:=[.p (.v (.one (.sl jP xC false)))]
def Wx:List fG:=[.one (.c (.sl iD mP true))]
def Qo:bV wO→Prop×(cu Wx×bZ wO→Prop):=fun (code,())=>(code.length≤1048576,fun ((p,()),())=>p.length=12∧∀ x∈p,0≤x.1∧x.1<10000)
def F8:eF:=dM wO Wx Qo
def Eu:List dw:=[.v (.one (.sl jP xC false))]
def L9:List dP:=[.one (.bool)]
def abn:bn Eu→Prop×bG L9:=fun (_,())=>(True,true,())
def Mc:fB:=dm Eu L9 abn
def o8:List dO:=[.p (.v (.agg [.int .i64, .int .i64, .bool, .int .i64, .sl bD eu false]))]
def Px:List fG:=[.one (.own dL gq true)]
def Jo:bV o8→Prop×(cu Px×bZ o8→Prop):=fun ((_,_,_,_,a,()),())=>(a.length≤1000,fun ((r,()),())=>r=Sp.gV a)
def yO:eF:=dM o8 Px Jo
def o9:List dO:=[.p (.v (.agg [.int .i64, .int .i64, .bool, .int .i64, .sl bD eu false]))]
def Py:List fG:=[.one (.own dL gq true)]
def Jp:bV o9→Prop×(cu Py×bZ o9→Prop):=fun ((_,_,_,_,a,()),())=>(a.length≤1000,fun ((r,()),())=>r=Sp.gV a)
def yP:eF:=dM o9 Py Jp
def pq:List dO:=[.p (.v (.agg [.int .i64, .int .i64, .bool, .int .i64, .sl bD eu false])), .p (.v (.one (.str))), .p (.v (.agg [.int .i64, .int .i64, .str]))]
def Pz:List fG:=[.agg [.c (.int .i64), .c (.int .i64), .c .bool, .c (.int .i64), .c (.sl bD eu true)]]
def Jq:bV pq→Prop×(cu Pz×bZ pq→Prop):=fun ((i,o,s,l,a,()),name,(k,n,w,()),())=>(a.length≤1000,fun (((i',o',s',l',a',()),()),())=>i'=i∧o'=o∧s'=s∧l'=l∧a'=Sp.jQ a name k n w)
def yQ:eF:=dM pq Pz Jq
def azG:aK:=aJ []
def aw8:aK:=aJ []
def atL:aK:=aJ [(Jr, .eff (ax BD) KC)]
def aw9:aK:=aJ [(dU, .eff (ax dI) dK)]
def axa:aK:=aJ [(dU, .eff (ax dI) dK)]
def aob:aK:=aJ [(dU, .eff (ax dI) dK)]
def atM:aK:=aJ []
def atN:aK:=aJ []
def akG:aK:=aJ []
def aAr:aK:=aJ []
def azH:aK:=aJ []
def axb:aK:=aJ [(iq, .pure fU)]
def af8:aK:=aJ [(zN, .pure zD)]
def af9:aK:=aJ [(jm, .pure iV)]
def aix:aK:=aJ [(kD, .pure kG),(iq, .pure fU)]
def aiy:aK:=aJ [(kE, .pure kH),(jm, .pure iV)]
def adK:aK:=aJ [(zN, .pure zD)]
def adL:aK:=aJ []
def aqQ:aK:=aJ []
def aqR:aK:=aJ []
def aga:aK:=aJ [(iq, .pure fU),(lV, .pure mQ)]
def agb:aK:=aJ [(lW, .pure mV)]
def agc:aK:=aJ [(EU, .pure Gx),(pY, .pure qy)]
def agd:aK:=aJ [(EW, .pure Gy),(qc, .pure qA)]
def akH:aK:=aJ [(iq, .pure fU),(oJ, .pure o6),(xM, .pure zX)]
def akI:aK:=aJ [(oK, .pure o7),(Md, .pure NU),(jm, .pure iV),(xO, .pure zY)]
def aiz:aK:=aJ [(iq, .pure fU),(oJ, .pure o6),(lK, .pure lJ)]
def aiA:aK:=aJ [(jm, .pure iV),(oK, .pure o7),(qJ, .pure rG)]
def aoc:aK:=aJ []
def aqS:aK:=aJ []
def atO:aK:=aJ [(EX, .pure Gz)]
def aqT:aK:=aJ [(G6, .pure IV)]
def aqU:aK:=aJ [(EY, .pure GH),(Dt, .pure FI)]
def axc:aK:=aJ []
def atP:aK:=aJ [(qK, .pure uT)]
def azI:aK:=aJ [(jm, .pure iV)]
def atQ:aK:=aJ []
def ZV:aK:=aJ []
def abo:aK:=aJ []
def axd:aK:=aJ []
def axe:aK:=aJ [(qL, .pure rF),(sF, .eff (ax nN) qG),(Js, .eff (ax BF) KH),(qj, .pure pG),(sG, .eff (ax nM) qF),(dU, .eff (ax dI) dK)]
def atS:aK:=aJ []
def axf:aK:=aJ [(ny, .pure lQ)]
def aod:aK:=aJ [(lK, .pure lJ),(iM, .pure iH),(ny, .pure lQ),(kQ, .eff (ax jy) jT)]
def aoe:aK:=aJ [(iM, .pure iH),(ql, .pure pJ),(kQ, .eff (ax jy) jT)]
def atT:aK:=aJ [(Du, .eff (ax vW) FM),(sG, .eff (ax nM) qF),(Dv, .eff (ax vV) FK),(Jt, .eff (ax BG) KI),(dU, .eff (ax dI) dK),(G7, .eff (ax zF) IW),(G8, .eff (ax zC) IU)]
def aC2:aK:=aJ []
def aqV:aK:=aJ [(qm, .pure pI)]
def aqW:aK:=aJ [(EZ, .eff (ax yh) GK),(qo, .pure tV)]
def aof:aK:=aJ [(sF, .eff (ax nN) qG)]
def axg:aK:=aJ [(Dw, .eff (ax vX) FN),(qL, .pure rF),(qj, .pure pG),(sF, .eff (ax nN) qG),(dU, .eff (ax dI) dK)]
def agf [Af]:aK:=aJ [(F9, .eff (ax xH) Jj),(dU, .eff (ax dI) dK),(Ju, .eff (ax BH) KJ),(sG, .eff (ax nM) qF)]
def akJ:aK:=aJ [(uK, .eff (ax oI) vY),(dU, .eff (ax dI) dK)]
def ZW:aK:=aJ [(uK, .eff (ax oI) vY),(dU, .eff (ax dI) dK)]
def axh:aK:=aJ [(qp, .eff (ax lG) tX),(dU, .eff (ax dI) dK)]
def axi:aK:=aJ [(yR, .pure BU),(Jv, .eff (ax BJ) KL)]
def aog:aK:=aJ [(Dx, .eff (ax vU) FH)]
def akK:aK:=aJ [(kD, .pure kG),(pY, .pure qy),(lV, .pure mQ),(iq, .pure fU)]
def akL:aK:=aJ [(kE, .pure kH),(jm, .pure iV),(qc, .pure qA),(lW, .pure mV)]
def adM:aK:=aJ []
def adN:aK:=aJ []
def aiB:aK:=aJ [(iq, .pure fU),(uN, .pure xI),(Ai, .pure D9)]
def aiC:aK:=aJ [(jm, .pure iV),(uO, .pure xJ),(Aj, .pure Ea)]
def akM:aK:=aJ [(kW, .pure kZ),(kD, .pure kG)]
def akN:aK:=aJ [(kX, .pure lg),(kE, .pure kH)]
def atU:aK:=aJ []
def aiD:aK:=aJ [(kW, .pure kZ)]
def aiE:aK:=aJ [(kX, .pure lg)]
def aqX:aK:=aJ [(jJ, .eff (ax iK) jc),(xP, .pure yj),(yS, .pure BM)]
def aiF:aK:=aJ [(vH, .eff (ax pO) vZ)]
def aiG:aK:=aJ [(vH, .eff (ax pO) vZ)]
def azJ:aK:=aJ []
def atV:aK:=aJ [(lI, .pure kS),(iq, .pure fU),(yT, .pure BL)]
def aiH:aK:=aJ [(xQ, .eff (ax qH) yt)]
def aiI:aK:=aJ [(xQ, .eff (ax qH) yt)]
def axj:aK:=aJ []
def Ko:aK:=aJ [(zO, .pure zH)]
def aAs:aK:=aJ [(jd, .pure jO),(zO, .pure zH)]
def atW:aK:=aJ []
def akO:aK:=aJ [(OD, .pure O4)]
def azK:aK:=aJ [(yU, .eff (ax rJ) BO),(Ak, .pure Ed),(yV, .eff (ax rH) BN),(Am, .pure Ec)]
def atX:aK:=aJ [(yX, .eff (ax rO) BQ),(G9, .pure IY),(yY, .eff (ax rM) BP)]
def axk:aK:=aJ []
def azL:aK:=aJ [(nC, .pure lS),(He, .eff (ax zI) IZ),(Ap, .pure Eb)]
def aiJ:aK:=aJ [(oW, .eff (ax lH) nO)]
def abp:aK:=aJ []
def axl:aK:=aJ [(qM, .pure uU)]
def atY:aK:=aJ [(Jw, .pure KU)]
def axm:aK:=aJ []
def aqY:aK:=aJ []
def axn:aK:=aJ [(E5, .pure GR)]
def atZ:aK:=aJ [(Jy, .pure KW)]
def axo:aK:=aJ []
def axp:aK:=aJ []
def axq:aK:=aJ [(sH, .pure qI)]
def akP:aK:=aJ []
def aeH:aK:=aJ [(Aq, .pure Ef)]
def aeI:aK:=aJ []
def abq:aK:=aJ [(wP, .pure yN)]
def aoh:aK:=aJ [(nD, .pure oz)]
def aoi:aK:=aJ []
def akQ:aK:=aJ []
def aqZ:aK:=aJ [(qN, .pure rP)]
def aq0:aK:=aJ []
def adO [Af]:aK:=aJ [(Dy, .pure FP),(oL, .pure nT),(CQ, .pure Gl),(Jz, .pure KX),(sH, .pure qI)]
def agh [Af]:aK:=aJ [(tu, .pure uy),(oM, .pure nU),(Gf, .pure Jk),(zQ, .pure zK)]
def axr:aK:=aJ [(Lp, .pure Oo),(kX, .pure lg)]
def axs:aK:=aJ [(O6, .pure RN),(kW, .pure kZ)]
def akR:aK:=aJ [(JA, .pure KY)]
def akS:aK:=aJ [(JB, .pure KZ)]
def akT:aK:=aJ []
def aeJ:aK:=aJ [(qO, .pure rU)]
def wQ:aK:=aJ [(nG, .pure oC)]
def aiK:aK:=aJ [(nG, .pure oC),(dZ, .pure fQ)]
def aiL:aK:=aJ [(nC, .pure lS)]
def aq1:aK:=aJ []
def aoj:aK:=aJ [(E8, .eff (ax yw) GU),(C9, .eff (ax wo) BR)]
def aok:aK:=aJ [(oW, .eff (ax lH) nO)]
def at1:aK:=aJ []
def at6:aK:=aJ []
def aq2:aK:=aJ [(qO, .pure rU),(Ar, .pure Eh),(Dz, .eff (ax wz) FQ),(oL, .pure nT),(iw, .pure iy),(qf, .pure qB),(C9, .eff (ax wo) BR)]
def at7:aK:=aJ [(vI, .eff (ax pR) wB),(xR, .pure yx)]
def aol:aK:=aJ [(vI, .eff (ax pR) wB)]
def azM:aK:=aJ [(nC, .pure lS),(qP, .pure rQ),(tC, .eff (ax nV) uz),(iM, .pure iH),(oW, .eff (ax lH) nO)]
def aua:aK:=aJ [(Me, .eff (ax EN) NV)]
def aom:aK:=aJ [(nC, .pure lS),(qP, .pure rQ),(tC, .eff (ax nV) uz),(uV, .pure tZ),(oM, .pure nU),(iM, .pure iH),(oW, .eff (ax lH) nO)]
def aon:aK:=aJ [(zS, .pure zJ),(kQ, .eff (ax jy) jT),(qw, .eff (ax lT) pU)]
def aq3:aK:=aJ [(yZ, .pure BV),(Hf, .eff (ax zL) I7)]
def aq4:aK:=aJ [(zf, .pure BZ),(qw, .eff (ax lT) pU)]
def azN:aK:=aJ [(iR, .pure jA),(xU, .pure yA)]
def aub:aK:=aJ []
def IK:aK:=aJ [(xU, .pure yA)]
def auc:aK:=aJ [(qm, .pure pI),(Dc, .pure Cb)]
def aud:aK:=aJ [(ny, .pure lQ),(ql, .pure pJ)]
def akU:aK:=aJ [(qm, .pure pI),(qJ, .pure rG),(qf, .pure qB),(Dc, .pure Cb),(oN, .eff (ax lC) nS)]
def akV:aK:=aJ [(ny, .pure lQ),(lK, .pure lJ),(iM, .pure iH),(ql, .pure pJ),(kQ, .eff (ax jy) jT)]
def aq5:aK:=aJ []
def aiM:aK:=aJ [(jJ, .eff (ax iK) jc),(sH, .pure qI),(wR, .eff (ax o8) yO)]
def aiN:aK:=aJ [(lI, .pure kS),(zQ, .pure zK),(wS, .eff (ax o9) yP)]
def aoo:aK:=aJ [(jJ, .eff (ax iK) jc)]
def aop:aK:=aJ [(lI, .pure kS),(iq, .pure fU)]
def aq6:aK:=aJ [(jJ, .eff (ax iK) jc),(xP, .pure yj)]
def aq7:aK:=aJ [(lI, .pure kS),(iq, .pure fU)]
def azO:aK:=aJ []
def aoq:aK:=aJ [(iw, .pure iy),(Fa, .eff (ax yB) GX)]
def Yh:aK:=aJ [(jJ, .eff (ax iK) jc),(iw, .pure iy),(DC, .eff (ax wJ) FY),(oZ, .eff (ax lq) rX)]
def Yi:aK:=aJ [(uV, .pure tZ),(Fb, .eff (ax yC) GY),(lI, .pure kS)]
def ZX:aK:=aJ []
def Bq:aK:=aJ [(ja, .pure jf)]
def zT:aK:=aJ [(fV, .pure iF),(ja, .pure jf)]
def aq8:aK:=aJ []
def acv:aK:=aJ [(ja, .pure jf),(fH, .pure gY),(fZ, .pure iG),(jb, .pure jg),(DF, .eff (ax wH) FW),(zh, .eff (ax rV) Cc),(xR, .pure yx)]
def acw:aK:=aJ [(uV, .pure tZ),(DI, .eff (ax wI) FX),(Fe, .pure GZ),(zi, .eff (ax rW) Ce),(Hg, .pure I5)]
def ZY:aK:=aJ [(iw, .pure iy)]
def Ew:aK:=aJ [(jb, .pure jg)]
def Bv:aK:=aJ [(gU, .pure iP),(jb, .pure jg)]
def YO:aK:=aJ []
def acy:aK:=aJ []
def aq9:aK:=aJ [(nD, .pure oz)]
def NK:aK:=aJ [(oO, .pure nX)]
def MB:aK:=aJ [(jv, .pure kC),(oO, .pure nX)]
def axt:aK:=aJ [(jo, .eff (ax iE) jX),(oO, .pure nX),(sS, .eff (ax ni) xA)]
def axu:aK:=aJ [(JC, .eff (ax Ci) Ld)]
def axv:aK:=aJ [(tu, .pure uy)]
def akW:aK:=aJ [(JD, .eff (ax Cj) Le),(oL, .pure nT)]
def akX:aK:=aJ [(JE, .eff (ax Cm) Lh),(oM, .pure nU)]
def akY:aK:=aJ [(qN, .pure rP)]
def akZ:aK:=aJ [(Au, .eff (ax uI) Ep),(xW, .pure yu),(oN, .eff (ax lC) nS)]
def aor:aK:=aJ []
def axw:aK:=aJ [(DJ, .eff (ax wK) FZ),(zS, .pure zJ),(kQ, .eff (ax jy) jT)]
def aiO:aK:=aJ [(nY, .eff (ax kN) qC),(sU, .eff (ax mZ) xu)]
def aiP:aK:=aJ [(nZ, .eff (ax kP) qE),(sV, .eff (ax ng) xw)]
def ara:aK:=aJ [(Aw, .eff (ax uG) En),(xW, .pure yu),(oN, .eff (ax lC) nS),(qQ, .eff (ax mM) rY),(DK, .eff (ax wC) FT)]
def axx:aK:=aJ [(Az, .eff (ax uH) Eo),(DL, .eff (ax wE) FU)]
def aos:aK:=aJ [(Fg, .eff (ax yD) G5),(zk, .eff (ax rZ) CG),(Hl, .pure I8),(qQ, .eff (ax mM) rY),(vJ, .pure wG),(AA, .eff (ax uD) Ei)]
def aot:aK:=aJ [(JF, .eff (ax CO) Ll),(zl, .eff (ax su) CJ),(Fh, .pure GV),(AB, .eff (ax uF) Ej),(Ho, .pure I9),(JG, .eff (ax CB) Lj)]
def aue:aK:=aJ []
def aou:aK:=aJ [(Hq, .pure Ja)]
def ak0:aK:=aJ [(DN, .pure F7)]
def ak1:aK:=aJ [(qR, .pure sD),(Hr, .pure I4),(Fj, .pure GI)]
def axy:aK:=aJ [(DR, .eff (ax wF) FV),(JH, .eff (ax BK) KN),(Ht, .eff (ax zG) IX)]
def ak2:aK:=aJ [(JI, .eff (ax CP) Lm),(Df, .eff (ax zB) BB)]
def aov:aK:=aJ [(dU, .eff (ax dI) dK),(Df, .eff (ax zB) BB)]
def abr:aK:=aJ [(qR, .pure sD),(qw, .eff (ax lT) pU),(AL, .pure Es),(DT, .eff (ax wM) F6),(DU, .eff (ax wL) F5),(wU, .eff (ax pq) yQ),(qj, .pure pG),(vJ, .pure wG),(DV, .eff (ax wO) F8),(AO, .eff (ax uJ) Et),(U5, .pure Um)]
def aeK:aK:=aJ []
def aeL:aK:=aJ []
def aeM:aK:=aJ []
end
end Go.Proofs.Tryz
