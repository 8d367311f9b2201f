import Derived.Test.YtgbobfdlafkijaaGreatN
import Derived.Test.YtgbobfdlafkijaaGreatSp
namespace Go.Proofs.Tryz
open Go Go.Fw
class YD where
 n:Nat
abbrev aaY [YD]:Nat:=YD.n
noncomputable section
def lg:List cZ:=[.p (.v (.one (.sl eu qM false)))]
def XQ:List jA:=[.sl eu qM false, .int .i64, .int .i64]
def RU:bK lg→Prop×(uS XQ→Prop):=fun (code,())=>(code.length≤1048576,fun (_,i,_,())=>i=0)
def lM:dZ:=avy lg XQ RU
def zx:List cZ:=[.ptr [.sl eu qM false, .int .i64, .int .i64]]
def Vf:List fA:=[.one (.c (.int .i64))]
def Qj:bK zx→Prop×(bQ Vf×bP zx→Prop):=fun ((_,i,_,()),())=>(0≤i,fun ((x,()),((_,i',_,()),()))=>0≤i'∧0≤x∧x≤255)
def Gx:dZ:=dn zx Vf Qj
def aQ:List cZ:=[.ptr [.sl eu qM false, .int .i64, .int .i64], .p (.v (.one (.int .i64)))]
def Tz:List fA:=[.one (.c (.int .i64))]
def N7:bK aQ→Prop×(bQ Tz×bP aQ→Prop):=fun ((_,i,_,()),n,())=>(0≤i,fun ((x,()),((_,i',_,()),()))=>0≤i'∧0≤x∧(0<n→x<n)∧(n≤0→x=0))
def aP:dZ:=dn aQ Tz N7
def iP:List cZ:=[.ptr [.sl eu qM false, .int .i64, .int .i64], .p (.v (.one (.int .i64)))]
def Vg:List fA:=[.one (.c .bool)]
def Qk:bK iP→Prop×(bQ Vg×bP iP→Prop):=fun ((_,i,_,()),_,())=>(0≤i,fun ((_,()),((_,i',_,()),()))=>0≤i')
def jw:dZ:=dn iP Vg Qk
def dG:List cZ:=[.ptr [.sl eu qM false, .int .i64, .int .i64], .p (.v (.one (.sl qB QW false)))]
def Vh:List fA:=[.one (.c .str)]
def Ql:bK dG→Prop×(bQ Vh×bP dG→Prop):=fun ((_,i,_,()),list,())=>(0≤i∧list≠[],fun ((x,()),((_,i',_,()),()))=>0≤i'∧(x,())∈list)
def dN:dZ:=dn dG Vh Ql
def dI:List cZ:=[.ptr [.sl eu qM false, .int .i64, .int .i64], .p (.v (.one (.sl EO TA false)))]
def PI:List fA:=[.one (.c (.int .i64))]
def KC:bK dI→Prop×(bQ PI×bP dI→Prop):=fun ((_,i,_,()),list,())=>(0≤i∧list≠[],fun ((x,()),((_,i',_,()),()))=>0≤i'∧(x,())∈list)
def dX:dZ:=dn dI PI KC
def oM:List cZ:=[]
def TB:List fA:=[.one (.own aJ dH true)]
def N8:bK oM→Prop×(bQ TB×bP oM→Prop):=fun (())=>(True,fun ((s,()),())=>s=Sp.usual)
def vV:dZ:=dn oM TB N8
def qN:List cZ:=[.ptr [.sl eu qM false, .int .i64, .int .i64]]
def Vj:List fA:=[.one (.c .str)]
def Qm:bK qN→Prop×(bQ Vj×bP qN→Prop):=fun ((_,i,_,()),())=>(0≤i,fun ((x,()),((_,i',_,()),()))=>0≤i'∧x.length≤1)
def xB:dZ:=dn qN Vj Qm
def BJ:List cZ:=[.ptr [.sl eu qM false, .int .i64, .int .i64]]
def XR:List fA:=[.one (.c (.sl aJ dH true))]
def RV:bK BJ→Prop×(bQ XR×bP BJ→Prop):=fun ((_,i,_,()),())=>(0≤i,fun ((s,()),((_,i',_,()),()))=>0≤i'∧s.length≤6)
def Je:dZ:=dn BJ XR RV
def xC:List cZ:=[.ptr [.sl eu qM false, .int .i64, .int .i64]]
def TD:List fA:=[.agg [.c (.int .i64), .c (.int .i64), .c .str]]
def N9:bK xC→Prop×(bQ TD×bP xC→Prop):=fun ((_,i,_,()),())=>(0≤i,fun (((_,_,s,()),()),((_,i',_,()),()))=>0≤i'∧s.length≤10)
def EP:dZ:=dn xC TD N9
def tZ:List cZ:=[.ptr [.sl eu qM false, .int .i64, .int .i64]]
def XT:List fA:=[.agg [.c (.int .i64), .c (.int .i64), .c .str]]
def RX:bK tZ→Prop×(bQ XT×bP tZ→Prop):=fun ((_,i,_,()),())=>(0≤i,fun (((_,_,s,()),()),((_,i',_,()),()))=>0≤i'∧s.length≤10)
def zy:dZ:=dn tZ XT RX
def LX:List bV:=[.v (.one (.int .i64))]
def TF:List dM:=[.agg [.int .i64, .int .i64, .str]]
def ak4:bn LX→Prop×bF TF:=fun (n,())=>(True,(1,n,[],()),())
def mZ:fP:=dm LX TF ak4
def IG:List bV:=[.v (.one (.str))]
def Oa:List dM:=[.agg [.int .i64, .int .i64, .str]]
def ae6:bn IG→Prop×bF Oa:=fun (w,())=>(True,(2,0,w,()),())
def iZ:fP:=dm IG Oa ae6
def RY:List bV:=[.v (.one (.int .i64)), .v (.one (.int .i64)), .v (.one (.int .i64))]
def Zy:List dM:=[.one (.bool)]
def aq9:bn RY→Prop×bF Zy:=fun (x,a,b,())=>(True,(decide (a≤x)&&decide (x≤b)),())
def fD:fP:=dm RY Zy aq9
def Qn:List bV:=[.v (.one (.int .i64)), .v (.one (.int .i64)), .v (.one (.int .i64))]
def XU:List dM:=[.one (.bool)]
def ap9:bn Qn→Prop×bF XU:=fun (x,a,b,())=>(True,(decide (a≤x)&&decide (x≤b)),())
def eF:fP:=dm Qn XU ap9
def Ob:List bV:=[.v (.one (.str)), .v (.one (.int .i64))]
def Vk:List dM:=[.one (.bool)]
def anE:bn Ob→Prop×bF Vk:=fun (s,m,())=>(True,(Sp.lower s&&decide (1≤(s.length:Int))&&decide ((s.length:Int)≤m)),())
def xE:fP:=dm Ob Vk anE
def Fe:List bV:=[.v (.one (.str))]
def KY:List dM:=[.one (.bool)]
def aaZ:bn Fe→Prop×bF KY:=fun (s,())=>(True,Sp.iR s,())
def jM:fP:=dm Fe KY aaZ
def Fg:List bV:=[.v (.one (.str))]
def KZ:List dM:=[.one (.bool)]
def aa0:bn Fg→Prop×bF KZ:=fun (s,())=>(True,Sp.iR s,())
def jO:fP:=dm Fg KZ aa0
def Gy:List bV:=[.v (.agg [.int .i64, .int .i64, .str])]
def MO:List dM:=[.one (.bool)]
def adr:bn Gy→Prop×bF MO:=fun ((k,n,s,()),())=>(True,Sp.kK k n s,())
def oz:fP:=dm Gy MO adr
def Gz:List bV:=[.v (.agg [.int .i64, .int .i64, .str])]
def MP:List dM:=[.one (.bool)]
def ads:bn Gz→Prop×bF MP:=fun ((k,n,s,()),())=>(True,Sp.kK k n s,())
def oC:fP:=dm Gz MP ads
def Dv:List bV:=[.v (.one (.str))]
def Ju:List dM:=[.one (.bool)]
def YE:bn Dv→Prop×bF Ju:=fun (s,())=>(True,Sp.kH s,())
def lq:fP:=dm Dv Ju YE
def Dw:List bV:=[.v (.one (.str))]
def Jv:List dM:=[.one (.bool)]
def YF:bn Dw→Prop×bF Jv:=fun (s,())=>(True,Sp.kH s,())
def lC:fP:=dm Dw Jv YF
def KD:List bV:=[.v (.one (.sl aJ dH false)), .v (.one (.str))]
def QX:List dM:=[.one (.int .i64)]
def aji:bn KD→Prop×bF QX:=fun (fs,s,())=>(True,Sp.kindOf fs s,())
def DN:fP:=dm KD QX aji
def KE:List bV:=[.v (.one (.sl aJ dH false)), .v (.one (.str))]
def QY:List dM:=[.one (.int .i64)]
def ajj:bn KE→Prop×bF QY:=fun (fs,s,())=>(True,Sp.kindOf fs s,())
def DR:fP:=dm KE QY ajj
def Fh:List bV:=[.v (.one (.sl aJ dH false))]
def La:List dM:=[.one (.bool)]
def aa1:bn Fh→Prop×bF La:=fun (fs,())=>(True,Sp.gQ fs,())
def mP:fP:=dm Fh La aa1
def Fj:List bV:=[.v (.one (.sl aJ dH false))]
def Lc:List dM:=[.one (.bool)]
def aa2:bn Fj→Prop×bF Lc:=fun (fs,())=>(True,Sp.gQ fs,())
def mQ:fP:=dm Fj Lc aa2
def Fp:List bV:=[.v (.one (.sl aJ dH false)), .v (.one (.str)), .v (.agg [.int .i64, .int .i64, .str])]
def Ld:List dM:=[.one (.bool)]
def aa3:bn Fp→Prop×bF Ld:=fun (fs,s,(k,n,w,()),())=>(True,Sp.kN fs s k n w,())
def yC:fP:=dm Fp Ld aa3
def Fq:List bV:=[.v (.one (.sl aJ dH false)), .v (.one (.str)), .v (.agg [.int .i64, .int .i64, .str])]
def Le:List dM:=[.one (.bool)]
def aa4:bn Fq→Prop×bF Le:=fun (fs,s,(k,n,w,()),())=>(True,Sp.kN fs s k n w,())
def yD:fP:=dm Fq Le aa4
def II:List bV:=[.v (.one (.sl aJ dH false)), .v (.agg [.int .i64, .int .i64, .bool, .int .i64, .sl fM zX false])]
def Oc:List dM:=[.one (.bool)]
def ae7:bn II→Prop×bF Oc:=fun (fs,f,())=>(True,Sp.eU fs f,())
def pV:fP:=dm II Oc ae7
def IJ:List bV:=[.v (.one (.sl aJ dH false)), .v (.agg [.int .i64, .int .i64, .bool, .int .i64, .sl fM zX false])]
def Oe:List dM:=[.one (.bool)]
def ae8:bn IJ→Prop×bF Oe:=fun (fs,f,())=>(True,Sp.eU fs f,())
def Aw:fP:=dm IJ Oe ae8
def GH:List bV:=[.v (.agg [.sl aJ dH false, .sl aW iJ false, .int .i64])]
def MQ:List dM:=[.one (.bool)]
def adt:bn GH→Prop×bF MQ:=fun (s,())=>(True,Sp.dF s,())
def ku:fP:=dm GH MQ adt
def GI:List bV:=[.v (.agg [.sl aJ dH false, .sl aW iJ false, .int .i64])]
def MR:List dM:=[.one (.bool)]
def adu:bn GI→Prop×bF MR:=fun (s,())=>(True,Sp.dF s,())
def zA:fP:=dm GI MR adu
def Jw:List bV:=[.v (.one (.sl aJ dH false)), .v (.one (.sl aJ dH false))]
def PK:List dM:=[.one (.bool)]
def ahD:bn Jw→Prop×bF PK:=fun (a,b,())=>(True,decide (a=b),())
def Dj:fP:=dm Jw PK ahD
def KF:List bV:=[.v (.one (.sl fM zX false)), .v (.one (.sl fM zX false))]
def QZ:List dM:=[.one (.bool)]
def ajk:bn KF→Prop×bF QZ:=fun (a,b,())=>(True,decide (a=b),())
def DT:fP:=dm KF QZ ajk
def LY:List bV:=[.v (.agg [.int .i64, .int .i64, .bool, .int .i64, .sl fM zX false]), .v (.agg [.int .i64, .int .i64, .bool, .int .i64, .sl fM zX false])]
def TG:List dM:=[.one (.bool)]
def ak5:bn LY→Prop×bF TG:=fun (a,b,())=>(True,decide (a=b),())
def ER:fP:=dm LY TG ak5
def KG:List bV:=[.v (.one (.sl aW iJ false)), .v (.one (.sl aW iJ false))]
def Q5:List dM:=[.one (.bool)]
def ajl:bn KG→Prop×bF Q5:=fun (a,b,())=>(True,decide (a=b),())
def DU:fP:=dm KG Q5 ajl
def KH:List bV:=[.v (.agg [.sl aJ dH false, .sl aW iJ false, .int .i64]), .v (.agg [.sl aJ dH false, .sl aW iJ false, .int .i64])]
def Q7:List dM:=[.one (.bool)]
def ajm:bn KH→Prop×bF Q7:=fun (a,b,())=>(True,decide (a=b),())
def DV:fP:=dm KH Q7 ajm
def Og:List bV:=[.v (.agg [.int .i64, .int .i64, .bool, .int .i64, .sl fM zX false])]
def Vl:List dM:=[.agg [.int .i64, .int .i64, .bool, .int .i64, .sl fM zX true]]
def anF:bn Og→Prop×bF Vl:=fun (f,())=>(Sp.lT f,f,())
def xG:fP:=dm Og Vl anF
def LZ:List bV:=[.v (.agg [.int .i64, .int .i64, .bool, .int .i64, .sl fM zX false])]
def TJ:List dM:=[.agg [.int .i64, .int .i64, .bool, .int .i64, .sl fM zX false]]
def ak6:bn LZ→Prop×bF TJ:=fun (f,())=>(Sp.lT f,f,())
def ES:fP:=dm LZ TJ ak6
def Qo:List bV:=[.v (.one (.int .i64))]
def XV:List dM:=[.one (.bool)]
def aqa:bn Qo→Prop×bF XV:=fun (u,())=>(True,(decide (0≤u)&&decide (u≤2)),())
def Jf:fP:=dm Qo XV aqa
def L6:List bV:=[.v (.agg [.sl aJ dH false, .sl aW iJ false, .int .i64]), .v (.one (.int .i64))]
def TL:List dM:=[.one (.int .i64)]
def ak7:bn L6→Prop×bF TL:=fun ((_,fs,_,()),id,())=>(True,Sp.place fs id,())
def ET:fP:=dm L6 TL ak7
def zY:List bV:=[.v (.one (.sl aJ dH false))]
def Gq:List dM:=[.one (.sl aJ dH false)]
def Ul:bn zY→Prop×bF Gq:=fun (l,())=>(l.length≤1000,l,())
def qO:fP:=dm zY Gq Ul
def Az:List bV:=[.v (.one (.sl fM zX false))]
def Hz:List dM:=[.one (.sl fM zX false)]
def Vm:bn Az→Prop×bF Hz:=fun (l,())=>(l.length≤1000,l,())
def sJ:fP:=dm Az Hz Vm
def qP:List cZ:=[.p (.v (.agg [.int .i64, .int .i64, .bool, .int .i64, .sl fM zX false])), .p (.v (.one (.str))), .p (.v (.agg [.int .i64, .int .i64, .str]))]
def Vo:List fA:=[.agg [.c (.int .i64), .c (.int .i64), .c .bool, .c (.int .i64), .own fM zX true]]
def Qp:bK qP→Prop×(bQ Vo×bP qP→Prop):=fun ((i,o,s,l,a,()),name,(k,n,w,()),())=>(a.length≤1000,fun (((i',o',s',l',a',()),()),())=>i'=i∧o'=o∧s'=s∧l'=l∧a'=Sp.mV a name k n w)
def xH:dZ:=dn qP Vo Qp
def lN:List cZ:=[.ptr [.sl eu qM false, .int .i64, .int .i64], .p (.v (.one (.int .i64)))]
def Vp:List fA:=[.agg [.c (.int .i64), .c (.int .i64), .c .bool, .c (.int .i64), .own fM zX true]]
def Qq:bK lN→Prop×(bQ Vp×bP lN→Prop):=fun ((_,i,_,()),id,())=>(0≤i,fun (((d,o,_,l,a,()),()),((_,i',_,()),()))=>0≤i'∧d=id∧0≤o∧o≤2∧0≤l∧l≤6∧Sp.uf Sp.usual a=true∧a.length≤4)
def oN:dZ:=dn lN Vp Qq
def BK:List cZ:=[.ptr [.sl eu qM false, .int .i64, .int .i64]]
def XW:List fA:=[.agg [.c (.int .i64), .c (.int .i64), .c .bool, .c (.int .i64), .c (.sl fM zX true)]]
def RZ:bK BK→Prop×(bQ XW×bP BK→Prop):=fun ((_,i,_,()),())=>(0≤i,fun (((_,_,_,_,a,()),()),((_,i',_,()),()))=>0≤i'∧a.length≤10)
def Jg:dZ:=dn BK XW RZ
def xI:List cZ:=[.p (.v (.one (.sl aJ dH false)))]
def TM:List fA:=[.agg [.own aJ dH true, .own aW iJ true, .c (.int .i64)]]
def Oh:bK xI→Prop×(bQ TM×bP xI→Prop):=fun (s,())=>(s.length≤1000,fun (((a,l,nx,()),()),())=>a=s∧l=[]∧nx=1)
def EU:dZ:=dn xI TM Oh
def lQ:List cZ:=[.p (.v (.agg [.sl aJ dH false, .sl aW iJ false, .int .i64]))]
def Vq:List fA:=[.agg [.own aJ dH true, .own aW iJ true, .c (.int .i64)]]
def Qr:bK lQ→Prop×(bQ Vq×bP lQ→Prop):=fun (s,())=>(Sp.jC s,fun (((a,l,nx,()),()),())=>(a,l,nx,())=s)
def oO:dZ:=dn lQ Vq Qr
def lU:List cZ:=[.p (.v (.agg [.sl aJ dH false, .sl aW iJ false, .int .i64])), .p (.v (.agg [.int .i64, .int .i64, .bool, .int .i64, .sl fM zX false]))]
def PL:List fA:=[.agg [.own aJ dH true, .own aW iJ true, .c (.int .i64)], .one (.c (.int .i64)), .one (.c .bool)]
def KI:bK lU→Prop×(bQ PL×bP lU→Prop):=fun (s,f,())=>(Sp.jC s∧Sp.lT f,fun (((a,l,nx,()),id,ok,()),())=>a=(Sp.bU s f).1.1∧l=(Sp.bU s f).1.2.1∧nx=(Sp.bU s f).1.2.2.1∧id=(Sp.bU s f).2.1∧ok=(Sp.bU s f).2.2)
def rF:dZ:=dn lU PL KI
def ug:List cZ:=[.p (.v (.agg [.sl aJ dH false, .sl aW iJ false, .int .i64])), .p (.v (.one (.int .i64)))]
def PN:List fA:=[.agg [.own aJ dH true, .own aW iJ true, .c (.int .i64)], .one (.c .bool)]
def KJ:bK ug→Prop×(bQ PN×bP ug→Prop):=fun (s,id,())=>(Sp.jC s,fun (((a,l,nx,()),ok,()),())=>a=(Sp.fB s id).1.1∧l=(Sp.fB s id).1.2.1∧nx=(Sp.fB s id).1.2.2.1∧ok=(Sp.fB s id).2)
def Dk:dZ:=dn ug PN KJ
def oP:List cZ:=[.ptr [.sl eu qM false, .int .i64, .int .i64]]
def TN:List fA:=[.agg [.own aJ dH true, .own aW iJ true, .c (.int .i64)]]
def Oi:bK oP→Prop×(bQ TN×bP oP→Prop):=fun ((_,i,_,()),())=>(0≤i,fun (((a,l,nx,()),()),((_,i',_,()),()))=>0≤i'∧a=Sp.usual∧Sp.dF (a,l,nx,())=true∧nx≤l.length+2∧Sp.jC (a,l,nx,()))
def vW:dZ:=dn oP TN Oi
def BL:List cZ:=[.ptr [.sl eu qM false, .int .i64, .int .i64]]
def XY:List fA:=[.agg [.c (.sl aJ dH true), .c (.sl aW iJ true), .c (.int .i64)]]
def Si:bK BL→Prop×(bQ XY×bP BL→Prop):=fun ((_,i,_,()),())=>(0≤i,fun (((a,l,nx,()),()),((_,i',_,()),()))=>0≤i'∧Sp.jC (a,l,nx,()))
def Jh:dZ:=dn BL XY Si
def YG:List bV:=[.v (.one (.sl eu qM false))]
def ae9:List dM:=[.one (.bool)]
def atE:bn YG→Prop×bF ae9:=fun (code,())=>(True,decide (1048576<(code.length:Int)),())
def Oj:fP:=dm YG ae9 atE
def vX:List cZ:=[.p (.v (.one (.sl aW iJ false)))]
def Q8:List fA:=[.one (.own aW iJ false)]
def L8:bK vX→Prop×(bQ Q8×bP vX→Prop):=fun (l,())=>(l.length≤1000∧∀ f∈l,Sp.lT f,fun ((r,()),())=>r=l)
def DW:dZ:=dn vX Q8 L8
def vY:List cZ:=[.p (.v (.agg [.sl aJ dH false, .sl aW iJ false, .int .i64]))]
def Q9:List fA:=[.agg [.c (.sl aJ dH false), .own aW iJ false, .c (.int .i64)]]
def L9:bK vY→Prop×(bQ Q9×bP vY→Prop):=fun (s,())=>(Sp.jC s,fun (((a,l,nx,()),()),())=>(a,l,nx,())=s)
def DX:dZ:=dn vY Q9 L9
def uh:List cZ:=[.ptr [.sl eu qM false, .int .i64, .int .i64]]
def PO:List fA:=[.one (.c .str)]
def KL:bK uh→Prop×(bQ PO×bP uh→Prop):=fun ((_,i,_,()),())=>(0≤i,fun ((x,()),((_,i',_,()),()))=>0≤i'∧x.length≤10)
def Dl:dZ:=dn uh PO KL
def qQ:List cZ:=[.ptr [.sl eu qM false, .int .i64, .int .i64]]
def Vr:List fA:=[.agg [.c (.int .i64), .c (.int .i64), .c (.int .i64), .c .str, .c (.int .i64), .c (.int .i64), .c .str]]
def Qs:bK qQ→Prop×(bQ Vr×bP qQ→Prop):=fun ((_,i,_,()),())=>(0≤i,fun (((_,_,_,_,_,_,_,()),()),((_,i',_,()),()))=>0≤i'∧True)
def xJ:dZ:=dn qQ Vr Qs
def Ol:List cZ:=[.ptr [.sl eu qM false, .int .i64, .int .i64], .own bJ jo, .p (.v (.one (.int .i64))), .p (.v (.one (.bool)))]
def Vs:List fA:=[.one (.own bJ jo false)]
def Zz:bK Ol→Prop×(bQ Vs×bP Ol→Prop):=fun ((_,i,_,()),q,deep,_,())=>(0≤i∧0≤deep∧deep≤4∧q.length+2*deep.toNat≤900,fun ((r,()),((_,i',_,()),()))=>0≤i'∧q.length<r.length∧r.length≤q.length+2*deep.toNat+1)
def ajn:dZ:=dn Ol Vs Zz
def uX:List cZ:=[.ptr [.sl eu qM false, .int .i64, .int .i64], .own bJ jo, .p (.v (.one (.int .i64))), .p (.v (.one (.bool)))]
def MS:List fA:=[.one (.own bJ jo false)]
def PS [YD]:bK uX→Prop×(bQ MS×bP uX→Prop):=fun ((_,i,_,()),q,deep,_,())=>((0≤i∧0≤deep∧deep≤4∧q.length+2*deep.toNat≤900)∧deep.toNat<aaY,fun ((r,()),((_,i',_,()),()))=>0≤i'∧q.length<r.length∧r.length≤q.length+2*deep.toNat+1)
def Fv [YD]:dZ:=dn uX MS PS
def zB:List cZ:=[.ptr [.sl eu qM false, .int .i64, .int .i64], .own bJ jo, .p (.v (.one (.int .i64))), .p (.v (.one (.bool)))]
def Lh:List fA:=[.one (.own bJ jo false)]
def AA [YD]:bK zB→Prop×(bQ Lh×bP zB→Prop):=fun ((_,i,_,()),q,deep,_,())=>((0≤i∧0≤deep∧deep≤4∧q.length+2*deep.toNat≤900)∧deep.toNat<aaY+1,fun ((r,()),((_,i',_,()),()))=>0≤i'∧q.length<r.length∧r.length≤q.length+2*deep.toNat+1)
def Lj [YD]:dZ:=dn zB Lh AA
def l9:List cZ:=[.ptr [.sl eu qM false, .int .i64, .int .i64], .p (.v (.one .nil)), .p (.v (.one (.int .i64))), .p (.v (.one (.bool)))]
def MV:List fA:=[.one (.own bJ jo false)]
def PU:bK l9→Prop×(bQ MV×bP l9→Prop):=fun ((_,i,_,()),(),deep,_,())=>(0≤i∧0≤deep∧deep≤4,fun ((r,()),((_,i',_,()),()))=>0≤i'∧0<r.length∧r.length≤0+2*deep.toNat+1)
def uj:dZ:=dn l9 MV PU
def rG:List cZ:=[.ptr [.sl eu qM false, .int .i64, .int .i64]]
def Om:List fA:=[.one (.own bJ jo false)]
def Jy:bK rG→Prop×(bQ Om×bP rG→Prop):=fun ((_,i,_,()),())=>(0≤i,fun ((r,()),((_,i',_,()),()))=>0≤i'∧0<r.length∧r.length≤9)
def AB:dZ:=dn rG Om Jy
def iG:List cZ:=[.ptr [.sl eu qM false, .int .i64, .int .i64]]
def Gs:List fA:=[.one (.c (.sl bJ jo false))]
def AL:bK iG→Prop×(bQ Gs×bP iG→Prop):=fun ((_,i,_,()),())=>(0≤i,fun ((r,()),((_,i',_,()),()))=>0≤i'∧0<r.length∧r.length≤9)
def kz:dZ:=dn iG Gs AL
def BM:List cZ:=[.ptr [.sl eu qM false, .int .i64, .int .i64]]
def XZ:List fA:=[.one (.c (.sl bJ jo false))]
def Sj:bK BM→Prop×(bQ XZ×bP BM→Prop):=fun ((_,i,_,()),())=>(0≤i,fun ((r,()),((_,i',_,()),()))=>0≤i'∧r.length≤10)
def Ji:dZ:=dn BM XZ Sj
def qR:List cZ:=[.ptr [.sl eu qM false, .int .i64, .int .i64]]
def Vt:List fA:=[.one (.own bf gm false)]
def Qu:bK qR→Prop×(bQ Vt×bP qR→Prop):=fun ((_,i,_,()),())=>(0≤i,fun ((d,()),((_,i',_,()),()))=>0≤i'∧0<d.length∧d.length≤4∧Sp.bY d)
def xK:dZ:=dn qR Vt Qu
def BN:List cZ:=[.ptr [.sl eu qM false, .int .i64, .int .i64]]
def X0:List fA:=[.one (.c (.sl bf gm false))]
def Sl:bK BN→Prop×(bQ X0×bP BN→Prop):=fun ((_,i,_,()),())=>(0≤i,fun ((d,()),((_,i',_,()),()))=>0≤i'∧d.length≤10∧Sp.bY d)
def Jj:dZ:=dn BN X0 Sl
def zC:List cZ:=[.ptr [.sl eu qM false, .int .i64, .int .i64]]
def Vu:List fA:=[.one (.c (.sl bf gm false))]
def Qv:bK zC→Prop×(bQ Vu×bP zC→Prop):=fun ((_,i,_,()),())=>(0≤i,fun ((d,()),((_,i',_,()),()))=>0≤i'∧d.length≤10∧Sp.bY d)
def GK:dZ:=dn zC Vu Qv
def oQ:List cZ:=[.ptr [.sl eu qM false, .int .i64, .int .i64]]
def TP:List fA:=[.agg [.c (.sl aJ dH false), .c (.sl aW iJ false), .c (.int .i64), .c (.sl bf gm false)]]
def Oo:bK oQ→Prop×(bQ TP×bP oQ→Prop):=fun ((_,i,_,()),())=>(0≤i,fun (((a,l,nx,d,()),()),((_,i',_,()),()))=>0≤i'∧Sp.fV (a,l,nx,d,()))
def vZ:dZ:=dn oQ TP Oo
def um:List cZ:=[.ptr [.sl eu qM false, .int .i64, .int .i64]]
def X3:List fA:=[.agg [.c (.sl aJ dH false), .c (.sl aW iJ false), .c (.int .i64), .c (.sl bf gm false)]]
def Sm:bK um→Prop×(bQ X3×bP um→Prop):=fun ((_,i,_,()),())=>(0≤i,fun (((a,l,nx,d,()),()),((_,i',_,()),()))=>0≤i'∧Sp.fV (a,l,nx,d,()))
def zD:dZ:=dn um X3 Sm
def zF:List cZ:=[.ptr [.sl eu qM false, .int .i64, .int .i64]]
def Vw:List fA:=[.one (.own aS jG false)]
def Qw:bK zF→Prop×(bQ Vw×bP zF→Prop):=fun ((_,i,_,()),())=>(0≤i,fun ((v,()),((_,i',_,()),()))=>0≤i'∧v.length≤10∧Sp.aH v)
def GL:dZ:=dn zF Vw Qw
def kL:List cZ:=[.ptr [.sl eu qM false, .int .i64, .int .i64]]
def X4:List fA:=[.one (.c (.sl aS jG false))]
def Sr:bK kL→Prop×(bQ X4×bP kL→Prop):=fun ((_,i,_,()),())=>(0≤i,fun ((v,()),((_,i',_,()),()))=>0≤i'∧v.length≤10∧Sp.aH v)
def lS:dZ:=dn kL X4 Sr
def uo:List cZ:=[.ptr [.sl eu qM false, .int .i64, .int .i64]]
def PV:List fA:=[.one (.c (.int .i64))]
def KN:bK uo→Prop×(bQ PV×bP uo→Prop):=fun ((_,i,_,()),())=>(0≤i,fun ((_,()),((_,i',_,()),()))=>0≤i'∧True)
def Dn:dZ:=dn uo PV KN
def kU:List cZ:=[.p (.v (.one (.sl eu qM false)))]
def HY:List fA:=[.one (.c (.sl aS jG false)), .one (.c (.int .i64)), .agg [.c (.sl aJ dH false), .c (.sl aW iJ false), .c (.int .i64), .c (.sl bf gm false)]]
def Cb:bK kU→Prop×(bQ HY×bP kU→Prop):=fun (code,())=>(code.length≤1048576,fun ((v,_,(a,l,nx,d,()),()),())=>v.length≤10∧Sp.aH v∧Sp.fV (a,l,nx,d,()))
def sK:dZ:=dn kU HY Cb
def jB:List cZ:=[.p (.v (.one (.sl eu qM false)))]
def Jz:List fA:=[.one (.c (.sl aS jG false)), .one (.c (.int .i64))]
def EC:bK jB→Prop×(bQ Jz×bP jB→Prop):=fun (code,())=>(code.length≤1048576,fun ((v,_,()),())=>v.length≤10∧Sp.aH v)
def lD:dZ:=dn jB Jz EC
def IK:List bV:=[.v (.agg [.int .i64, .int .i64, .int .i64, .str, .int .i64, .int .i64, .str]), .v (.one (.int .i64))]
def Oq:List dM:=[.one (.bool)]
def afa:bn IK→Prop×bF Oq:=fun ((o,l,r,nm,vk,vi,vs,()),at',())=>(True,Sp.rQ (o,l,r,nm,vk,vi,vs,()) at',())
def AO:fP:=dm IK Oq afa
def IL:List bV:=[.v (.agg [.int .i64, .int .i64, .int .i64, .str, .int .i64, .int .i64, .str]), .v (.one (.int .i64))]
def Ot:List dM:=[.one (.bool)]
def afb:bn IL→Prop×bF Ot:=fun ((o,l,r,nm,vk,vi,vs,()),at',())=>(True,Sp.rQ (o,l,r,nm,vk,vi,vs,()) at',())
def AP:fP:=dm IL Ot afb
def Dx:List bV:=[.v (.one (.sl bJ jo false)), .v (.one (.int .i64))]
def JA:List dM:=[.one (.int .i64)]
def YH:bn Dx→Prop×bF JA:=fun (q,at',())=>(q.length≤1000000,(Sp.oU q at':Int),())
def uY:fP:=dm Dx JA YH
def Dy:List bV:=[.v (.one (.sl bJ jo false)), .v (.one (.int .i64))]
def JB:List dM:=[.one (.int .i64)]
def YI:bn Dy→Prop×bF JB:=fun (q,at',())=>(q.length≤1000000,(Sp.oU q at':Int),())
def uZ:fP:=dm Dy JB YI
def GN:List bV:=[.v (.one (.sl bJ jo false))]
def MW:List dM:=[.one (.bool)]
def adv:bn GN→Prop×bF MW:=fun (q,())=>(q.length≤1000000,Sp.jF q,())
def oD:fP:=dm GN MW adv
def GR:List bV:=[.v (.one (.sl bJ jo false))]
def MX:List dM:=[.one (.bool)]
def adw:bn GR→Prop×bF MX:=fun (q,())=>(q.length≤1000000,Sp.jF q,())
def oG:fP:=dm GR MX adw
def IQ:List bV:=[.v (.one (.sl bf gm false))]
def Ou:List dM:=[.one (.bool)]
def afc:bn IQ→Prop×bF Ou:=fun (d,())=>(Sp.bY d,Sp.wK d,())
def AQ:fP:=dm IQ Ou afc
def IU:List bV:=[.v (.one (.sl bf gm false))]
def Ov:List dM:=[.one (.bool)]
def afd:bn IU→Prop×bF Ov:=fun (d,())=>(Sp.bY d,Sp.wK d,())
def AU:fP:=dm IU Ov afd
def Mc:List bV:=[.v (.agg [.int .i64, .int .i64, .int .i64, .str, .int .i64, .int .i64, .str])]
def TQ:List dM:=[.one (.bool)]
def ak8:bn Mc→Prop×bF TQ:=fun ((o,_,_,_,_,_,_,()),())=>(True,(o==8||o==9),())
def EW:fP:=dm Mc TQ ak8
def GU:List bV:=[.v (.one (.sl bJ jo false))]
def MZ:List dM:=[.one (.sl ak9 R_4 true)]
def adx:bn GU→Prop×bF MZ:=fun (q,())=>(q.length≤1000,Sp.negated q,())
def zG:fP:=dm GU MZ adx
def GV:List bV:=[.v (.one (.sl bJ jo false))]
def Na:List dM:=[.one (.sl ak9 R_4 true)]
def ady:bn GV→Prop×bF Na:=fun (q,())=>(q.length≤1000,Sp.negated q,())
def zH:fP:=dm GV Na ady
def uq:List cZ:=[.p (.v (.one (.sl qB QW false)))]
def IV:List fA:=[.one (.c (.sl qB QW true))]
def TR:bK uq→Prop×(bQ IV×bP uq→Prop):=fun (l,())=>(l.length≤1000,fun ((r,()),())=>r.length≤l.length∧∀ s,s∈r↔s∈l)
def Dp:dZ:=dn uq IV TR
def ng:List cZ:=[.p (.v (.one (.sl bJ jo false))), .p (.v (.one (.bool)))]
def Rf:List fA:=[.one (.c (.sl qB QW true))]
def Md:bK ng→Prop×(bQ Rf×bP ng→Prop):=fun (q,neg,())=>(q.length≤1000,fun ((r,()),())=>Sp.iC r (Sp.gV q neg))
def uw:dZ:=dn ng Rf Md
def pW:List cZ:=[.p (.v (.one (.sl bJ jo false)))]
def Nb:List fA:=[.one (.c (.sl qB QW true))]
def IW:bK pW→Prop×(bQ Nb×bP pW→Prop):=fun (q,())=>(q.length≤1000,fun ((r,()),())=>Sp.iC r (Sp.gV q false))
def zI:dZ:=dn pW Nb IW
def pX:List cZ:=[.p (.v (.one (.sl bJ jo false)))]
def Nc:List fA:=[.one (.c (.sl qB QW true))]
def IX:bK pX→Prop×(bQ Nc×bP pX→Prop):=fun (q,())=>(q.length≤1000,fun ((r,()),())=>Sp.iC r (Sp.gV q true))
def zJ:dZ:=dn pX Nc IX
def Qx:List bV:=[.v (.one (.sl qB QW false)), .v (.one (.str))]
def X5:List dM:=[.one (.sl qB QW false)]
def aqb:bn Qx→Prop×bF X5:=fun (l,s,())=>(l.length≤1000,Sp.Vx l s,())
def Jk:fP:=dm Qx X5 aqb
def oV:List cZ:=[.p (.v (.one (.sl bJ jo false))), .p (.v (.one (.bool)))]
def TS:List fA:=[.one (.c (.sl qB QW true))]
def Ox:bK oV→Prop×(bQ TS×bP oV→Prop):=fun (q,neg,())=>(q.length≤1000,fun ((r,()),())=>Sp.iC r (Sp.gV q neg))
def wo:dZ:=dn oV TS Ox
def pY:List cZ:=[.p (.v (.one (.sl bJ jo false)))]
def Nh:List fA:=[.one (.c (.sl qB QW true))]
def IY:bK pY→Prop×(bQ Nh×bP pY→Prop):=fun (q,())=>(q.length≤1000,fun ((r,()),())=>Sp.iC r (Sp.gV q false))
def zK:dZ:=dn pY Nh IY
def qc:List cZ:=[.p (.v (.one (.sl bJ jo false)))]
def Nj:List fA:=[.one (.c (.sl qB QW true))]
def IZ:bK qc→Prop×(bQ Nj×bP qc→Prop):=fun (q,())=>(q.length≤1000,fun ((r,()),())=>Sp.iC r (Sp.gV q true))
def zL:dZ:=dn qc Nj IZ
def Oy:List bV:=[.v (.agg [.str, .sl bJ jo false]), .kp [.str]]
def Vy:List dM:=[.one (.bool)]
def anG:bn Oy→Prop×bF Vy:=fun ((nm,_,()),name,())=>(True,(nm==name.1),())
def xM:fP:=dm Oy Vy anG
def lF:List bV:=[.v (.one (.sl bf gm false)), .fn 251 [[.str]]]
def tu:List dM:=[.one (.int .i64)]
def Gm:bn lF→Prop×bF tu:=fun (d,((name,()),()),())=>(True,Sp.aT d name,())
def jl:fP:=dm lF tu Gm
def Sv:List bV:=[.v (.one (.sl bf gm false)), .v (.one (.str))]
def ZA:List dM:=[.one (.int .i64)]
def ara:bn Sv→Prop×bF ZA:=fun (d,name,())=>(True,Sp.aT d name,())
def J6:fP:=dm Sv ZA ara
def Me:List bV:=[.v (.one (.sl bf gm false)), .v (.one (.str))]
def TT:List dM:=[.one (.int .i64)]
def ala:bn Me→Prop×bF TT:=fun (d,name,())=>(True,Sp.aT d name,())
def EX:fP:=dm Me TT ala
def I4:List bV:=[.v (.one (.sl bf gm false)), .v (.one (.sl EO TA false)), .v (.one (.sl qB QW false)), .v (.one (.int .i64))]
def Oz:List dM:=[.one (.int .i64)]
def afe:bn I4→Prop×bF Oz:=fun (d,bC,names,more,())=>(d.length≤bC.length∧names.length≤1000∧0≤more∧more≤1∧∀ x∈bC,0≤x.1∧x.1≤1000000,Sp.Cc d bC more names,())
def AX:fP:=dm I4 Oz afe
def BO:List cZ:=[.p (.v (.one (.sl bf gm false)))]
def X6:List fA:=[.one (.c (.sl EO TA true)), .one (.c .bool)]
def Sz:bK BO→Prop×(bQ X6×bP BO→Prop):=fun (d,())=>(Sp.bY d,fun ((_,ok,()),())=>ok=Sp.ja d)
def Jl:dZ:=dn BO X6 Sz
def GX:List bV:=[.v (.one (.sl bf gm false))]
def Nk:List dM:=[.one (.bool)]
def adz:bn GX→Prop×bF Nk:=fun (d,())=>(Sp.bY d,Sp.ja d,())
def zM:fP:=dm GX Nk adz
def xO:List cZ:=[.p (.v (.one (.sl bf gm false))), .p (.v (.one (.sl EO TA false)))]
def TU:List fA:=[.one (.own EO TA true)]
def DY:bK xO→Prop×(bQ TU×bP xO→Prop):=fun (d,bC,())=>(Sp.bY d∧d.length≤5∧bC.length=d.length∧∀ x∈bC,0≤x.1∧x.1≤1000000,fun ((r,()),())=>Sp.raised d bC r)
def EY:dZ:=dn xO TU DY
def OA:List bV:=[.v (.one (.sl EO TA false)), .v (.one (.sl EO TA false))]
def Vz:List dM:=[.one (.bool)]
def anH:bn OA→Prop×bF Vz:=fun (a,b,())=>(True,decide (a=b),())
def GY:fP:=dm OA Vz anH
def BP:List cZ:=[.p (.v (.one (.sl bf gm false)))]
def X7:List fA:=[.one (.c (.sl EO TA true)), .one (.c .bool)]
def SA:bK BP→Prop×(bQ X7×bP BP→Prop):=fun (d,())=>(Sp.bY d,fun ((_,ok,()),())=>ok=Sp.ja d)
def Jm:dZ:=dn BP X7 SA
def GZ:List bV:=[.v (.one (.sl bf gm false))]
def Nl:List dM:=[.one (.bool)]
def adA:bn GZ→Prop×bF Nl:=fun (d,())=>(Sp.bY d,Sp.ja d,())
def oH:fP:=dm GZ Nl adA
def AY:List bV:=[.v (.one (.sl bJ jo false))]
def H6:List dM:=[.one (.sl bJ jo false)]
def VA:bn AY→Prop×bF H6:=fun (l,())=>(l.length≤1000,l,())
def sN:fP:=dm AY H6 VA
def OB:List bV:=[.v (.agg [.str, .sl bJ jo false])]
def VB:List dM:=[.agg [.str, .sl bJ jo false]]
def anI:bn OB→Prop×bF VB:=fun ((n,q,()),())=>(q.length≤1000,(n,q,()),())
def G5:fP:=dm OB VB anI
def MB:List bV:=[.v (.one (.sl bf gm false))]
def TV:List dM:=[.one (.sl bf gm false)]
def alb:bn MB→Prop×bF TV:=fun (d,())=>(Sp.bY d,d,())
def EZ:fP:=dm MB TV alb
def OC:List bV:=[.v (.one (.sl bf gm false))]
def VD:List dM:=[.one (.sl bf gm true)]
def anJ:bn OC→Prop×bF VD:=fun (d,())=>(Sp.bY d,d,())
def G6:fP:=dm OC VD anJ
def jb:List cZ:=[.p (.v (.agg [.sl aJ dH false, .sl aW iJ false, .int .i64, .sl bf gm false]))]
def Np:List fA:=[.agg [.c (.sl aJ dH false), .c (.sl aW iJ false), .c (.int .i64), .c (.sl bf gm false)]]
def I5:bK jb→Prop×(bQ Np×bP jb→Prop):=fun (x,())=>(Sp.fV x,fun (((a,l,nx,d,()),()),())=>(a,l,nx,d,())=x)
def kC:dZ:=dn jb Np I5
def kP:List cZ:=[.p (.v (.agg [.sl aJ dH false, .sl aW iJ false, .int .i64, .sl bf gm false]))]
def TW:List fA:=[.agg [.c (.sl aJ dH true), .c (.sl aW iJ true), .c (.int .i64), .c (.sl bf gm true)]]
def OD:bK kP→Prop×(bQ TW×bP kP→Prop):=fun (x,())=>(Sp.fV x,fun (((a,l,nx,d,()),()),())=>(a,l,nx,d,())=x)
def ni:dZ:=dn kP TW OD
def jc:List cZ:=[.p (.v (.one (.sl aS jG false)))]
def Nq:List fA:=[.one (.own aS jG false)]
def I7:bK jc→Prop×(bQ Nq×bP jc→Prop):=fun (v,())=>(Sp.aH v,fun ((r,()),())=>r=v)
def kD:dZ:=dn jc Nq I7
def iQ:List cZ:=[.p (.v (.one (.sl aS jG false)))]
def VE:List fA:=[.one (.own aS jG true)]
def Qy:bK iQ→Prop×(bQ VE×bP iQ→Prop):=fun (v,())=>(Sp.aH v,fun ((r,()),())=>r=v)
def jy:dZ:=dn iQ VE Qy
def Dz:List bV:=[.v (.agg [.sl aJ dH false, .sl aW iJ false, .int .i64, .sl bf gm false])]
def JC:List dM:=[.one (.bool)]
def YJ:bn Dz→Prop×bF JC:=fun (x,())=>(Sp.fV x,Sp.Ai x,())
def ve:fP:=dm Dz JC YJ
def DC:List bV:=[.v (.agg [.sl aJ dH false, .sl aW iJ false, .int .i64, .sl bf gm false])]
def JD:List dM:=[.one (.bool)]
def YK:bn DC→Prop×bF JD:=fun (x,())=>(Sp.fV x,Sp.Ai x,())
def vg:fP:=dm DC JD YK
def Ce:List bV:=[.v (.one (.sl aS jG false))]
def Jo:List dM:=[.one (.bool)]
def Xd:bn Ce→Prop×bF Jo:=fun (v,())=>(Sp.aH v,Sp.fZ v,())
def gG:fP:=dm Ce Jo Xd
def Ci:List bV:=[.v (.one (.sl aS jG false))]
def Jp:List dM:=[.one (.bool)]
def Xe:bn Ci→Prop×bF Jp:=fun (v,())=>(Sp.aH v,Sp.fZ v,())
def dV:fP:=dm Ci Jp Xe
def I8:List bV:=[.v (.agg [.int .i64, .sl aJ dH false, .sl aW iJ false, .int .i64, .sl bf gm false, .int .i64]), .kp [.int .i64]]
def OE:List dM:=[.one (.bool)]
def aff:bn I8→Prop×bF OE:=fun ((n,_,_,_,_,_,()),number,())=>(True,(n==number.1),())
def qf:fP:=dm I8 OE aff
def jH:List bV:=[.v (.one (.sl aS jG false)), .fn 92 [[.int .i64]]]
def ny:List dM:=[.one (.int .i64)]
def BQ:bn jH→Prop×bF ny:=fun (v,((n,()),()),())=>(True,Sp.aB v n,())
def ig:fP:=dm jH ny BQ
def KO:List bV:=[.v (.one (.sl aS jG false)), .v (.one (.int .i64))]
def Rh:List dM:=[.one (.int .i64)]
def ajo:bn KO→Prop×bF Rh:=fun (v,n,())=>(True,Sp.aB v n,())
def uy:fP:=dm KO Rh ajo
def MC:List bV:=[.v (.one (.sl aS jG false)), .v (.one (.int .i64))]
def TY:List dM:=[.one (.int .i64)]
def alc:bn MC→Prop×bF TY:=fun (v,n,())=>(True,Sp.aB v n,())
def nC:fP:=dm MC TY alc
def oI:List cZ:=[.p (.v (.one (.sl aS jG false))), .p (.v (.one (.int .i64))), .p (.v (.agg [.sl aJ dH false, .sl aW iJ false, .int .i64, .sl bf gm false]))]
def Ll:List fA:=[.one (.c (.sl aS jG false)), .one (.c .bool)]
def G7:bK oI→Prop×(bQ Ll×bP oI→Prop):=fun (v,n,x,())=>(Sp.aH v∧v.length≤100∧Sp.fV x,fun ((r,ok,()),())=>r=(Sp.iD v n x).1∧ok=(Sp.iD v n x).2)
def yE:dZ:=dn oI Ll G7
def kE:List cZ:=[.p (.v (.one (.sl aS jG false))), .p (.v (.one (.int .i64))), .p (.v (.agg [.sl aJ dH false, .sl aW iJ false, .int .i64, .sl bf gm false]))]
def Lm:List fA:=[.one (.own aS jG true), .one (.c .bool)]
def G8:bK kE→Prop×(bQ Lm×bP kE→Prop):=fun (v,n,x,())=>(Sp.aH v∧v.length≤100∧Sp.fV x,fun ((r,ok,()),())=>r=(Sp.iD v n x).1∧ok=(Sp.iD v n x).2)
def mW:dZ:=dn kE Lm G8
def lV:List cZ:=[.p (.v (.one (.sl aS jG false))), .p (.v (.one (.int .i64)))]
def PW:List fA:=[.one (.own aS jG true), .one (.c .bool)]
def KP:bK lV→Prop×(bQ PW×bP lV→Prop):=fun (v,n,())=>(Sp.aH v∧v.length≤100,fun ((r,ok,()),())=>r=(Sp.dJ v n 1).1∧ok=(Sp.dJ v n 1).2)
def rH:dZ:=dn lV PW KP
def rJ:List cZ:=[.p (.v (.one (.sl aS jG false))), .p (.v (.one (.int .i64)))]
def OG:List fA:=[.agg [.c (.sl aJ dH false), .c (.sl aW iJ false), .c (.int .i64), .c (.sl bf gm false)], .one (.c .bool)]
def JE:bK rJ→Prop×(bQ OG×bP rJ→Prop):=fun (v,n,())=>(Sp.aH v,fun (((a,l,nx,d,()),ok,()),())=>(a,l,nx,d,())=(Sp.jg v n).1∧ok=(Sp.jg v n).2)
def AZ:dZ:=dn rJ OG JE
def rM:List cZ:=[.p (.v (.one (.sl aS jG false))), .p (.v (.one (.int .i64)))]
def OH:List fA:=[.agg [.c (.sl aJ dH true), .c (.sl aW iJ true), .c (.int .i64), .c (.sl bf gm true)], .one (.c .bool)]
def JF:bK rM→Prop×(bQ OH×bP rM→Prop):=fun (v,n,())=>(Sp.aH v,fun (((a,l,nx,d,()),ok,()),())=>(a,l,nx,d,())=(Sp.jg v n).1∧ok=(Sp.jg v n).2)
def A7:dZ:=dn rM OH JF
def KQ:List bV:=[.v (.one (.sl bJ jo false)), .v (.one (.sl bJ jo false))]
def Ri:List dM:=[.one (.bool)]
def ajp:bn KQ→Prop×bF Ri:=fun (a,b,())=>(True,decide (a=b),())
def DZ:fP:=dm KQ Ri ajp
def OI:List bV:=[.v (.agg [.str, .sl bJ jo false]), .v (.agg [.str, .sl bJ jo false])]
def VF:List dM:=[.one (.bool)]
def anK:bn OI→Prop×bF VF:=fun (a,b,())=>(True,decide (a=b),())
def G9:fP:=dm OI VF anK
def MF:List bV:=[.v (.one (.sl bf gm false)), .v (.one (.sl bf gm false))]
def Ua:List dM:=[.one (.bool)]
def ald:bn MF→Prop×bF Ua:=fun (a,b,())=>(True,decide (a=b),())
def E5:fP:=dm MF Ua ald
def He:List bV:=[.v (.agg [.sl aJ dH false, .sl aW iJ false, .int .i64, .sl bf gm false]), .v (.agg [.sl aJ dH false, .sl aW iJ false, .int .i64, .sl bf gm false])]
def Nr:List dM:=[.one (.bool)]
def adB:bn He→Prop×bF Nr:=fun (a,b,())=>(True,decide (a=b),())
def oJ:fP:=dm He Nr adB
def I9:List bV:=[.v (.agg [.int .i64, .sl aJ dH false, .sl aW iJ false, .int .i64, .sl bf gm false, .int .i64]), .v (.agg [.int .i64, .sl aJ dH false, .sl aW iJ false, .int .i64, .sl bf gm false, .int .i64])]
def OJ:List dM:=[.one (.bool)]
def afg:bn I9→Prop×bF OJ:=fun (a,b,())=>(True,decide (a=b),())
def A8:fP:=dm I9 OJ afg
def Hf:List bV:=[.v (.one (.sl aS jG false)), .v (.one (.sl aS jG false))]
def Ns:List dM:=[.one (.bool)]
def adC:bn Hf→Prop×bF Ns:=fun (a,b,())=>(True,decide (a=b),())
def zN:fP:=dm Hf Ns adC
def qg:List cZ:=[.p (.v (.one (.sl aS jG false))), .p (.v (.one (.int .i64)))]
def Nu:List fA:=[.one (.own aS jG true), .one (.c .bool)]
def Ja:bK qg→Prop×(bQ Nu×bP qg→Prop):=fun (v,n,())=>(Sp.aH v∧v.length≤100,fun ((r,ok,()),())=>r=(Sp.dJ v n (-1)).1∧ok=(Sp.dJ v n (-1)).2)
def zO:dZ:=dn qg Nu Ja
def uz:List cZ:=[.p (.v (.one (.sl aS jG false))), .p (.v (.one (.int .i64))), .p (.v (.one (.int .i64)))]
def X8:List fA:=[.one (.c (.sl aS jG false)), .one (.c .bool)]
def SB:bK uz→Prop×(bQ X8×bP uz→Prop):=fun (v,n,more,())=>(Sp.aH v∧v.length≤100∧-1≤more∧more≤1,fun ((r,ok,()),())=>r=(Sp.dJ v n more).1∧ok=(Sp.dJ v n more).2)
def zQ:dZ:=dn uz X8 SB
def uD:List cZ:=[.p (.v (.one (.sl aS jG false))), .p (.v (.one (.int .i64)))]
def PX:List fA:=[.one (.c (.sl aS jG false)), .one (.c .bool)]
def KR:bK uD→Prop×(bQ PX×bP uD→Prop):=fun (v,n,())=>(Sp.aH v∧v.length≤100,fun ((r,ok,()),())=>r=(Sp.dJ v n 1).1∧ok=(Sp.dJ v n 1).2)
def Dq:dZ:=dn uD PX KR
def qh:List cZ:=[.p (.v (.one (.sl aS jG false))), .p (.v (.one (.int .i64)))]
def Nv:List fA:=[.one (.c (.sl aS jG false)), .one (.c .bool)]
def Jb:bK qh→Prop×(bQ Nv×bP qh→Prop):=fun (v,n,())=>(Sp.aH v∧v.length≤100,fun ((r,ok,()),())=>r=(Sp.dJ v n (-1)).1∧ok=(Sp.dJ v n (-1)).2)
def zS:dZ:=dn qh Nv Jb
def Ba:List bV:=[.v (.agg [.int .i64, .sl aJ dH false, .sl aW iJ false, .int .i64, .sl bf gm false, .int .i64])]
def H7:List dM:=[.one (.bool)]
def VG:bn Ba→Prop×bF H7:=fun ((_,_,_,_,_,p,()),())=>(True,(p==0),())
def iH:fP:=dm Ba H7 VG
def iT:List bV:=[.v (.one (.sl aS jG false)), .fn 57 []]
def kY:List dM:=[.one (.int .i64)]
def yF:bn iT→Prop×bF kY:=fun (v,_,())=>(True,Sp.findAt Sp.unpinned v,())
def fQ:fP:=dm iT kY yF
def bZ:List cZ:=[.own aS jG, .p (.fn 57 [])]
def kX:List fA:=[.one (.own aS jG false)]
def iU:bK bZ→Prop×(bQ kX×bP bZ→Prop):=fun (s,_,())=>(s.length≤1000,fun ((r,()),())=>r=s.filter fun x=>!Sp.unpinned x)
def fH:dZ:=dn bZ kX iU
def lZ:List cZ:=[.p (.v (.one (.sl aS jG false)))]
def JG:List fA:=[.one (.c (.sl aS jG false))]
def ED:bK lZ→Prop×(bQ JG×bP lZ→Prop):=fun (v,())=>(Sp.aH v,fun ((r,()),())=>r=Sp.collect v)
def vw:dZ:=dn lZ JG ED
def l7:List cZ:=[.p (.v (.one (.sl aS jG false)))]
def JH:List fA:=[.one (.c (.sl aS jG true))]
def EF:bK l7→Prop×(bQ JH×bP l7→Prop):=fun (v,())=>(Sp.aH v,fun ((r,()),())=>r=Sp.collect v)
def vz:dZ:=dn l7 JH EF
def JI:List bV:=[.v (.agg [.int .i64, .int .i64, .bool, .int .i64, .sl fM zX false]), .v (.agg [.int .i64, .int .i64, .bool, .int .i64, .sl fM zX false])]
def PY:List dM:=[.one (.bool)]
def ahE:bn JI→Prop×bF PY:=fun (a,b,())=>(True,decide (a=b),())
def rO:fP:=dm JI PY ahE
def Bc:List bV:=[.v (.one (.sl fM zX false)), .v (.one (.sl fM zX false))]
def H8:List dM:=[.one (.bool)]
def VH:bn Bc→Prop×bF H8:=fun (a,b,())=>(True,decide (a=b),())
def sO:fP:=dm Bc H8 VH
def zZ:List bV:=[.v (.one (.sl aJ dH false)), .v (.one (.sl aJ dH false))]
def Gt:List dM:=[.one (.bool)]
def Um:bn zZ→Prop×bF Gt:=fun (a,b,())=>(True,decide (a=b),())
def qU:fP:=dm zZ Gt Um
def iV:List bV:=[.v (.one (.sl aW iJ false)), .v (.one (.sl aW iJ false)), .fn 152 []]
def kZ:List dM:=[.one (.bool)]
def yG:bn iV→Prop×bF kZ:=fun (a,b,_,())=>(True,decide (a=b),())
def fU:fP:=dm iV kZ yG
def Jc:List bV:=[.v (.agg [.sl aJ dH false, .sl aW iJ false, .int .i64]), .v (.agg [.sl aJ dH false, .sl aW iJ false, .int .i64])]
def OL:List dM:=[.one (.bool)]
def afh:bn Jc→Prop×bF OL:=fun (a,b,())=>(True,decide (a=b),())
def Bd:fP:=dm Jc OL afh
def Bf:List bV:=[.v (.one (.sl bJ jo false)), .v (.one (.sl bJ jo false))]
def H9:List dM:=[.one (.bool)]
def VI:bn Bf→Prop×bF H9:=fun (a,b,())=>(True,decide (a=b),())
def sQ:fP:=dm Bf H9 VI
def Hg:List bV:=[.v (.one (.sl bJ jo false)), .v (.one (.sl bJ jo false))]
def Nw:List dM:=[.one (.bool)]
def adD:bn Hg→Prop×bF Nw:=fun (a,b,())=>(True,decide (a=b),())
def zT:fP:=dm Hg Nw adD
def Jd:List bV:=[.v (.agg [.str, .sl bJ jo false]), .v (.agg [.str, .sl bJ jo false])]
def OM:List dM:=[.one (.bool)]
def afi:bn Jd→Prop×bF OM:=fun (a,b,())=>(True,decide (a=b),())
def qi:fP:=dm Jd OM afi
def jd:List bV:=[.v (.one (.sl bf gm false)), .v (.one (.sl bf gm false)), .fn 154 []]
def lG:List dM:=[.one (.bool)]
def yR:bn jd→Prop×bF lG:=fun (a,b,_,())=>(True,decide (a=b),())
def gq:fP:=dm jd lG yR
def KT:List bV:=[.v (.one (.sl bf gm false)), .v (.one (.sl bf gm false))]
def Rj:List dM:=[.one (.bool)]
def ajq:bn KT→Prop×bF Rj:=fun (a,b,())=>(True,decide (a=b),())
def D5:fP:=dm KT Rj ajq
def EG:List bV:=[.v (.agg [.sl aJ dH false, .sl aW iJ false, .int .i64, .sl bf gm false]), .v (.agg [.sl aJ dH false, .sl aW iJ false, .int .i64, .sl bf gm false])]
def Ku:List dM:=[.one (.bool)]
def ZB:bn EG→Prop×bF Ku:=fun (a,b,())=>(True,decide (a=b),())
def wI:fP:=dm EG Ku ZB
def DF:List bV:=[.v (.agg [.int .i64, .sl aJ dH false, .sl aW iJ false, .int .i64, .sl bf gm false, .int .i64]), .v (.agg [.int .i64, .sl aJ dH false, .sl aW iJ false, .int .i64, .sl bf gm false, .int .i64])]
def JJ:List dM:=[.one (.bool)]
def YL:bn DF→Prop×bF JJ:=fun (a,b,())=>(True,decide (a=b),())
def lH:fP:=dm DF JJ YL
def gJ:List bV:=[.v (.one (.sl aS jG false)), .v (.one (.sl aS jG false)), .fn 61 []]
def jD:List dM:=[.one (.bool)]
def rU:bn gJ→Prop×bF jD:=fun (a,b,_,())=>(True,decide (a=b),())
def dK:fP:=dm gJ jD rU
def Fz:List bV:=[.v (.one (.sl aS jG false)), .v (.one (.sl aS jG false))]
def Lp:List dM:=[.one (.bool)]
def aa5:bn Fz→Prop×bF Lp:=fun (a,b,())=>(True,decide (a=b),())
def yH:fP:=dm Fz Lp aa5
def kF:List cZ:=[.p (.v (.one (.sl eu qM false)))]
def FB:List fA:=[.one (.c (.sl aS jG false))]
def Aa:bK kF→Prop×(bQ FB×bP kF→Prop):=fun (code,())=>(code.length≤1048576,fun ((v,()),())=>v.length≤10∧Sp.aH v)
def qj:dZ:=dn kF FB Aa
def mX:List cZ:=[.p (.v (.one (.sl eu qM false)))]
def Kv:List fA:=[.one (.c (.sl aS jG false)), .one (.c (.int .i64))]
def FC:bK mX→Prop×(bQ Kv×bP mX→Prop):=fun (code,())=>(code.length≤1048576,fun ((v,_,()),())=>v.length≤10∧Sp.aH v)
def wJ:dZ:=dn mX Kv FC
def lI:List cZ:=[.p (.v (.one (.sl eu qM false)))]
def Jq:List fA:=[.one (.c (.sl aS jG false)), .one (.c (.int .i64))]
def DI:bK lI→Prop×(bQ Jq×bP lI→Prop):=fun (code,())=>(code.length≤1048576,fun ((v,_,()),())=>v.length≤10∧Sp.aH v)
def uT:dZ:=dn lI Jq DI
def kV:List cZ:=[.p (.v (.one (.sl eu qM false)))]
def Ia:List fA:=[.one (.c (.sl aS jG false)), .one (.c (.sl aS jG false))]
def Cj:bK kV→Prop×(bQ Ia×bP kV→Prop):=fun (code,())=>(code.length≤1048576,fun ((v,w,()),())=>v.length≤10∧Sp.aH v∧w.length≤10∧Sp.aH w)
def sS:dZ:=dn kV Ia Cj
def JK:List bV:=[.v (.one (.sl eu qM false))]
def PZ:List dM:=[.one (.bool)]
def ahF:bn JK→Prop×bF PZ:=fun (_,())=>(True,true,())
def P5:fP:=dm JK PZ ahF
def aqc:aK:=aN []
def anL:aK:=aN []
def ale:aK:=aN [(FD, .eff (ai zx) Gx)]
def anM:aK:=aN [(aU, .eff (ai aQ) aP)]
def anN:aK:=aN [(aU, .eff (ai aQ) aP)]
def ahG:aK:=aN [(aU, .eff (ai aQ) aP)]
def alf:aK:=aN []
def anO:aK:=aN [(eP, .eff (ai dG) dN)]
def aqd:aK:=aN [(eP, .eff (ai dG) dN),(xP, .eff (ai qN) xB),(aU, .eff (ai aQ) aP),(vC, .eff (ai oM) vV)]
def alg:aK:=aN [(jh, .pure iZ),(eP, .eff (ai dG) dN),(nS, .pure mZ),(aU, .eff (ai aQ) aP)]
def aqe:aK:=aN [(eP, .eff (ai dG) dN),(eX, .eff (ai dI) dX),(aU, .eff (ai aQ) aP),(D6, .eff (ai xC) EP)]
def alh:aK:=aN []
def afj:aK:=aN []
def arb:aK:=aN []
def aqf:aK:=aN []
def anP:aK:=aN [(gU, .pure fD)]
def aa6:aK:=aN [(xQ, .pure xE)]
def aa7:aK:=aN [(fO, .pure eF)]
def adE:aK:=aN [(jI, .pure jM),(gU, .pure fD)]
def adF:aK:=aN [(jJ, .pure jO),(fO, .pure eF)]
def YM:aK:=aN [(xQ, .pure xE)]
def YN:aK:=aN []
def ajr:aK:=aN []
def ajs:aK:=aN []
def aa8:aK:=aN [(gU, .pure fD),(kQ, .pure lq)]
def aa9:aK:=aN [(kR, .pure lC)]
def abb:aK:=aN [(Cm, .pure DN),(nG, .pure oz)]
def abd:aK:=aN [(CB, .pure DR),(nH, .pure oC)]
def afk:aK:=aN [(gU, .pure fD),(mg, .pure mP),(vF, .pure yC)]
def afl:aK:=aN [(mr, .pure mQ),(Ib, .pure Jf),(fO, .pure eF),(vG, .pure yD)]
def adG:aK:=aN [(gU, .pure fD),(mg, .pure mP),(oW, .pure pV)]
def adH:aK:=aN [(fO, .pure eF),(mr, .pure mQ),(yS, .pure Aw)]
def ahH:aK:=aN []
def ajt:aK:=aN []
def ali:aK:=aN [(CG, .pure DT)]
def aju:aK:=aN [(D7, .pure ER)]
def ajv:aK:=aN [(CJ, .pure DU),(Aj, .pure Dj)]
def anQ:aK:=aN []
def alj:aK:=aN [(oZ, .pure sJ)]
def aqg:aK:=aN [(fO, .pure eF)]
def alk:aK:=aN []
def Un:aK:=aN []
def VJ:aK:=aN []
def anR:aK:=aN []
def anS:aK:=aN [(jh, .pure iZ),(eP, .eff (ai dG) dN),(xR, .eff (ai qP) xH),(nS, .pure mZ),(jU, .eff (ai iP) jw),(aU, .eff (ai aQ) aP)]
def aqh:aK:=aN [(xR, .eff (ai qP) xH),(jh, .pure iZ),(Ac, .eff (ai tZ) zy),(xP, .eff (ai qN) xB),(eX, .eff (ai dI) dX),(ql, .eff (ai lN) oN),(aU, .eff (ai aQ) aP)]
def alm:aK:=aN []
def anT:aK:=aN [(xU, .pure xG)]
def ahI:aK:=aN [(oW, .pure pV),(jX, .pure ku),(xU, .pure xG),(qm, .eff (ai lQ) oO)]
def ahJ:aK:=aN [(jX, .pure ku),(D8, .pure ET),(qm, .eff (ai lQ) oO)]
def aln:aK:=aN [(Ak, .eff (ai ug) Dk),(jU, .eff (ai iP) jw),(qC, .eff (ai lU) rF),(ql, .eff (ai lN) oN),(aU, .eff (ai aQ) aP),(D9, .eff (ai xI) EU),(vC, .eff (ai oM) vV)]
def aqi:aK:=aN [(qC, .eff (ai lU) rF),(ql, .eff (ai lN) oN),(Ic, .eff (ai BJ) Je),(Ie, .eff (ai BK) Jg),(eX, .eff (ai dI) dX),(aU, .eff (ai aQ) aP),(vH, .eff (ai oP) vW)]
def atF:aK:=aN []
def ajw:aK:=aN [(Ea, .pure ES)]
def ajx:aK:=aN [(CO, .eff (ai vX) DW),(nT, .pure qO)]
def ahK:aK:=aN [(eP, .eff (ai dG) dN)]
def anU:aK:=aN [(Am, .eff (ai uh) Dl),(jh, .pure iZ),(nS, .pure mZ),(eP, .eff (ai dG) dN),(aU, .eff (ai aQ) aP)]
def abe [YD]:aK:=aN [(Dt, .eff (ai uX) Fv),(aU, .eff (ai aQ) aP),(xW, .eff (ai qQ) xJ),(jU, .eff (ai iP) jw)]
def afm:aK:=aN [(rP, .eff (ai l9) uj),(aU, .eff (ai aQ) aP)]
def Uo:aK:=aN [(rP, .eff (ai l9) uj),(aU, .eff (ai aQ) aP)]
def aqj:aK:=aN [(Ac, .eff (ai tZ) zy),(xW, .eff (ai qQ) xJ),(eP, .eff (ai dG) dN),(eX, .eff (ai dI) dX),(aU, .eff (ai aQ) aP),(yT, .eff (ai rG) AB)]
def anV:aK:=aN [(jK, .eff (ai iG) kz),(aU, .eff (ai aQ) aP)]
def aqk:aK:=aN [(jK, .eff (ai iG) kz),(Ig, .eff (ai BM) Ji),(eP, .eff (ai dG) dN),(aU, .eff (ai aQ) aP),(xX, .eff (ai qR) xK)]
def anW:aK:=aN [(nI, .pure oH),(xX, .eff (ai qR) xK)]
def alo:aK:=aN [(FH, .eff (ai zC) GK),(vH, .eff (ai oP) vW)]
def aql:aK:=aN [(Ih, .eff (ai BN) Jj),(Ii, .eff (ai BL) Jh),(aU, .eff (ai aQ) aP),(vI, .eff (ai oQ) vZ)]
def anX:aK:=aN [(qE, .eff (ai lV) rH),(jU, .eff (ai iP) jw),(mD, .eff (ai kE) mW),(vI, .eff (ai oQ) vZ),(aU, .eff (ai aQ) aP)]
def aqm:aK:=aN [(Ad, .eff (ai um) zD),(eX, .eff (ai dI) dX),(aU, .eff (ai aQ) aP),(FI, .eff (ai zF) GL)]
def ahL:aK:=aN [(eX, .eff (ai dI) dX)]
def VK:aK:=aN [(Ad, .eff (ai um) zD),(eX, .eff (ai dI) dX),(mG, .eff (ai kL) lS),(mJ, .eff (ai lg) lM)]
def YO:aK:=aN [(Ap, .eff (ai uo) Dn),(mG, .eff (ai kL) lS),(mJ, .eff (ai lg) lM)]
def afn:aK:=aN [(jI, .pure jM),(nG, .pure oz),(kQ, .pure lq),(gU, .pure fD)]
def afo:aK:=aN [(jJ, .pure jO),(fO, .pure eF),(nH, .pure oC),(kR, .pure lC)]
def YP:aK:=aN []
def YQ:aK:=aN []
def adI:aK:=aN [(gU, .pure fD),(rV, .pure uY),(yU, .pure AO)]
def adJ:aK:=aN [(fO, .pure eF),(rW, .pure uZ),(yV, .pure AP)]
def afp:aK:=aN [(nJ, .pure oD),(jI, .pure jM)]
def afq:aK:=aN [(nK, .pure oG),(jJ, .pure jO)]
def alp:aK:=aN []
def adK:aK:=aN [(nJ, .pure oD)]
def adL:aK:=aN [(nK, .pure oG)]
def ajy:aK:=aN [(E8, .eff (ai uq) Dp),(Eb, .pure EW),(wL, .pure zH)]
def adM:aK:=aN [(tH, .eff (ai ng) uw)]
def adN:aK:=aN [(tH, .eff (ai ng) uw)]
def aqn:aK:=aN []
def alq:aK:=aN [(Ij, .pure Jk),(gU, .pure fD),(wM, .pure zG)]
def adO:aK:=aN [(vJ, .eff (ai oV) wo)]
def adP:aK:=aN [(vJ, .eff (ai oV) wo)]
def anY:aK:=aN []
def Gn:aK:=aN [(xY, .pure xM)]
def ard:aK:=aN [(iq, .pure jl),(xY, .pure xM)]
def alr:aK:=aN []
def afr:aK:=aN [(JL, .pure J6)]
def aqo:aK:=aN [(wO, .eff (ai pX) zJ),(yX, .pure AX),(wP, .eff (ai pW) zI),(yY, .pure AU)]
def adQ:aK:=aN [(Ik, .eff (ai BO) Jl)]
def als:aK:=aN [(wQ, .eff (ai qc) zL),(Ec, .pure EX),(wR, .eff (ai pY) zK)]
def anZ:aK:=aN []
def aqp:aK:=aN [(FK, .pure GY),(Ed, .eff (ai xO) EY),(yZ, .pure AQ)]
def adR:aK:=aN [(Il, .eff (ai BP) Jm)]
def VL:aK:=aN []
def an0:aK:=aN [(o5, .pure sN)]
def alu:aK:=aN [(FM, .pure G5)]
def an1:aK:=aN []
def adS:aK:=aN [(Ee, .pure EZ),(CP, .eff (ai vY) DX)]
def alv:aK:=aN [(FN, .pure G6),(qm, .eff (ai lQ) oO)]
def adT:aK:=aN [(jY, .eff (ai jb) kC)]
def an2:aK:=aN [(nU, .eff (ai kP) ni)]
def YR:aK:=aN [(wS, .pure zM),(wU, .pure zA)]
def YS:aK:=aN [(nI, .pure oH),(jX, .pure ku)]
def Xf:aK:=aN [(rX, .pure ve),(fO, .pure eF)]
def Xg:aK:=aN [(rY, .pure vg),(gU, .pure fD)]
def afs:aK:=aN []
def BR:aK:=aN [(o6, .pure qf)]
def ajz:aK:=aN [(fE, .pure ig),(o6, .pure qf)]
def alx:aK:=aN []
def abf:aK:=aN [(gu, .pure gG),(jY, .eff (ai jb) kC),(jZ, .eff (ai jc) kD)]
def abg:aK:=aN [(dY, .pure dV),(nU, .eff (ai kP) ni),(jV, .eff (ai iQ) jy)]
def ahM:aK:=aN [(dY, .pure dV),(nV, .pure nC),(jV, .eff (ai iQ) jy)]
def aft:aK:=aN [(jY, .eff (ai jb) kC),(tJ, .pure uy)]
def afu:aK:=aN [(nU, .eff (ai kP) ni),(nV, .pure nC)]
def ajA:aK:=aN []
def an3:aK:=aN [(CQ, .pure DZ)]
def aly:aK:=aN [(FO, .pure G9)]
def adU:aK:=aN [(Ef, .pure E5),(CS, .pure DV)]
def afv:aK:=aN [(nM, .pure oJ)]
def adV:aK:=aN [(y7, .pure A8)]
def adW:aK:=aN [(dY, .pure dV),(nV, .pure nC),(jV, .eff (ai iQ) jy)]
def aqr:aK:=aN [(fO, .pure eF),(gu, .pure gG),(tJ, .pure uy),(jZ, .eff (ai jc) kD)]
def ahN:aK:=aN [(Ae, .eff (ai uz) zQ)]
def adX:aK:=aN [(Ae, .eff (ai uz) zQ)]
def VN:aK:=aN []
def yI:aK:=aN [(iE, .pure iH)]
def xZ:aK:=aN [(dS, .pure fQ),(iE, .pure iH)]
def YT:aK:=aN [(iE, .pure iH),(dO, .eff (ai bZ) fH),(gu, .pure gG),(jZ, .eff (ai jc) kD)]
def YU:aK:=aN [(jV, .eff (ai iQ) jy),(dY, .pure dV)]
def ahO:aK:=aN [(o7, .pure sO)]
def VO:aK:=aN []
def Ur:aK:=aN []
def yJ:aK:=aN [(qF, .pure rO)]
def afw:aK:=aN [(qF, .pure rO),(dU, .pure fU),(nX, .pure qU)]
def VP:aK:=aN []
def adY:aK:=aN [(o8, .pure sQ)]
def afx:aK:=aN [(wV, .pure zT)]
def y9:aK:=aN [(o9, .pure qi)]
def ajB:aK:=aN [(o9, .pure qi),(dW, .pure gq)]
def ZC:aK:=aN [(CU, .pure D5),(zf, .pure Bd)]
def YV:aK:=aN [(uF, .pure wI)]
def rZ:aK:=aN [(kS, .pure lH)]
def abh:aK:=aN [(kS, .pure lH),(cu, .pure dK)]
def SC:aK:=aN [(mG, .eff (ai kL) lS),(mJ, .eff (ai lg) lM)]
def ZE:aK:=aN [(kT, .eff (ai jB) lD)]
def Xh:aK:=aN [(kT, .eff (ai jB) lD)]
def VQ:aK:=aN [(jU, .eff (ai iP) jw),(jV, .eff (ai iQ) jy),(mG, .eff (ai kL) lS),(mJ, .eff (ai lg) lM)]
def ahP:aK:=aN [(nM, .pure oJ),(zh, .eff (ai rM) A7),(zi, .eff (ai rJ) AZ),(dY, .pure dV),(gu, .pure gG),(vK, .pure yH),(pq, .eff (ai kV) sS),(wW, .pure zN),(su, .eff (ai l7) vz),(wX, .eff (ai qg) zO),(wY, .eff (ai qh) zS),(qy, .eff (ai lI) uT),(qE, .eff (ai lV) rH),(Aq, .eff (ai uD) Dq),(uG, .eff (ai mX) wJ),(mD, .eff (ai kE) mW),(vM, .eff (ai oI) yE),(pz, .eff (ai kU) sK),(sD, .eff (ai lZ) vw),(mM, .eff (ai kF) qj),(OO, .pure Oj)]
end
end Go.Proofs.Tryz
