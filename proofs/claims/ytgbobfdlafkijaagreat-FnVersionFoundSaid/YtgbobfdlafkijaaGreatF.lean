import Derived.Test.YtgbobfdlafkijaaGreatN
import Derived.Test.YtgbobfdlafkijaaGreatSp
namespace Go.Proofs.Tryz
open Go Go.Fw
class TS where
 n:Nat
abbrev Wi [TS]:Nat:=TS.n
noncomputable section
def sO:List dB:=[.p (.v (.one (.sl dZ qB false)))]
def RZ:List iD:=[.sl dZ qB false, .int .i64, .int .i64]
def Nk:bH sO→Prop×(qy RZ→Prop):=fun (code,())=>(code.length≤1048576,fun (_,i,_,())=>i=0)
def uU:eH:=ap4 sO RZ Nk
def uV:List dB:=[.ptr [.sl dZ qB false, .int .i64, .int .i64]]
def Pz:List fA:=[.one (.c (.int .i64))]
def KZ:bH uV→Prop×(bV Pz×bT uV→Prop):=fun ((_,i,_,()),())=>(0≤i,fun ((x,()),((_,i',_,()),()))=>0≤i'∧0≤x∧x≤255)
def Cm:eH:=dJ uV Pz KZ
def aJ:List dB:=[.ptr [.sl dZ qB false, .int .i64, .int .i64], .p (.v (.one (.int .i64)))]
def N7:List fA:=[.one (.c (.int .i64))]
def Je:bH aJ→Prop×(bV N7×bT aJ→Prop):=fun ((_,i,_,()),n,())=>(0≤i,fun ((x,()),((_,i',_,()),()))=>0≤i'∧0≤x∧(0<n→x<n)∧(n≤0→x=0))
def aI:eH:=dJ aJ N7 Je
def iW:List dB:=[.ptr [.sl dZ qB false, .int .i64, .int .i64], .p (.v (.one (.int .i64)))]
def PD:List fA:=[.one (.c .bool)]
def La:bH iW→Prop×(bV PD×bT iW→Prop):=fun ((_,i,_,()),_,())=>(0≤i,fun ((_,()),((_,i',_,()),()))=>0≤i')
def jr:eH:=dJ iW PD La
def dm:List dB:=[.ptr [.sl dZ qB false, .int .i64, .int .i64], .p (.v (.one (.sl nI MC false)))]
def PE:List fA:=[.one (.c .str)]
def Lc:bH dm→Prop×(bV PE×bT dm→Prop):=fun ((_,i,_,()),list,())=>(0≤i∧list≠[],fun ((x,()),((_,i',_,()),()))=>0≤i'∧(x,())∈list)
def dD:eH:=dJ dm PE Lc
def dn:List dB:=[.ptr [.sl dZ qB false, .int .i64, .int .i64], .p (.v (.one (.sl Ar N8 false)))]
def KD:List fA:=[.one (.c (.int .i64))]
def FZ:bH dn→Prop×(bV KD×bT dn→Prop):=fun ((_,i,_,()),list,())=>(0≤i∧list≠[],fun ((x,()),((_,i',_,()),()))=>0≤i'∧(x,())∈list)
def dI:eH:=dJ dn KD FZ
def lQ:List dB:=[]
def N9:List fA:=[.one (.own aK dR true)]
def Jf:bH lQ→Prop×(bV N9×bT lQ→Prop):=fun (())=>(True,fun ((s,()),())=>s=Sp.usual)
def rq:eH:=dJ lQ N9 Jf
def nP:List dB:=[.ptr [.sl dZ qB false, .int .i64, .int .i64]]
def PG:List fA:=[.one (.c .str)]
def Ld:bH nP→Prop×(bV PG×bT nP→Prop):=fun ((_,i,_,()),())=>(0≤i,fun ((x,()),((_,i',_,()),()))=>0≤i'∧x.length≤1)
def sQ:eH:=dJ nP PG Ld
def xI:List dB:=[.ptr [.sl dZ qB false, .int .i64, .int .i64]]
def Si:List fA:=[.one (.c (.sl aK dR true))]
def Nl:bH xI→Prop×(bV Si×bT xI→Prop):=fun ((_,i,_,()),())=>(0≤i,fun ((s,()),((_,i',_,()),()))=>0≤i'∧s.length≤6)
def Ez:eH:=dJ xI Si Nl
def sS:List dB:=[.ptr [.sl dZ qB false, .int .i64, .int .i64]]
def Oa:List fA:=[.agg [.c (.int .i64), .c (.int .i64), .c .str]]
def Jg:bH sS→Prop×(bV Oa×bT sS→Prop):=fun ((_,i,_,()),())=>(0≤i,fun (((_,_,s,()),()),((_,i',_,()),()))=>0≤i'∧s.length≤10)
def Au:eH:=dJ sS Oa Jg
def pK:List dB:=[.ptr [.sl dZ qB false, .int .i64, .int .i64]]
def Sj:List fA:=[.agg [.c (.int .i64), .c (.int .i64), .c .str]]
def Np:bH pK→Prop×(bV Sj×bT pK→Prop):=fun ((_,i,_,()),())=>(0≤i,fun (((_,_,s,()),()),((_,i',_,()),()))=>0≤i'∧s.length≤10)
def uX:eH:=dJ pK Sj Np
def He:List bZ:=[.v (.one (.int .i64))]
def Ob:List dX:=[.agg [.int .i64, .int .i64, .str]]
def afW:bD He→Prop×bI Ob:=fun (n,())=>(True,(1,n,[],()),())
def kK:gq:=dS He Ob afW
def Ec:List bZ:=[.v (.one (.str))]
def Jh:List dX:=[.agg [.int .i64, .int .i64, .str]]
def aai:bD Ec→Prop×bI Jh:=fun (w,())=>(True,(2,0,w,()),())
def gQ:gq:=dS Ec Jh aai
def Nq:List bZ:=[.v (.one (.int .i64)), .v (.one (.int .i64)), .v (.one (.int .i64))]
def UQ:List dX:=[.one (.bool)]
def alX:bD Nq→Prop×bI UQ:=fun (x,a,b,())=>(True,(decide (a≤x)&&decide (x≤b)),())
def dV:gq:=dS Nq UQ alX
def Le:List bZ:=[.v (.one (.int .i64)), .v (.one (.int .i64)), .v (.one (.int .i64))]
def Sl:List dX:=[.one (.bool)]
def akX:bD Le→Prop×bI Sl:=fun (x,a,b,())=>(True,(decide (a≤x)&&decide (x≤b)),())
def eu:gq:=dS Le Sl akX
def Ji:List bZ:=[.v (.one (.str)), .v (.one (.int .i64))]
def PI:List dX:=[.one (.bool)]
def aiw:bD Ji→Prop×bI PI:=fun (s,m,())=>(True,(Sp.lower s&&decide (1≤(s.length:Int))&&decide ((s.length:Int)≤m)),())
def sU:gq:=dS Ji PI aiw
def A7:List bZ:=[.v (.one (.str))]
def Gq:List dX:=[.one (.bool)]
def Wj:bD A7→Prop×bI Gq:=fun (s,())=>(True,Sp.gG s,())
def iM:gq:=dS A7 Gq Wj
def A8:List bZ:=[.v (.one (.str))]
def Gs:List dX:=[.one (.bool)]
def Wl:bD A8→Prop×bI Gs:=fun (s,())=>(True,Sp.gG s,())
def iO:gq:=dS A8 Gs Wl
def CB:List bZ:=[.v (.agg [.int .i64, .int .i64, .str])]
def Ib:List dX:=[.one (.bool)]
def YE:bD CB→Prop×bI Ib:=fun ((k,n,s,()),())=>(True,Sp.jm k n s,())
def lF:gq:=dS CB Ib YE
def CG:List bZ:=[.v (.agg [.int .i64, .int .i64, .str])]
def Ic:List dX:=[.one (.bool)]
def YF:bD CG→Prop×bI Ic:=fun ((k,n,s,()),())=>(True,Sp.jm k n s,())
def lG:gq:=dS CG Ic YF
def yV:List bZ:=[.v (.one (.str))]
def ES:List dX:=[.one (.bool)]
def TT:bD yV→Prop×bI ES:=fun (s,())=>(True,Sp.ji s,())
def jG:gq:=dS yV ES TT
def yX:List bZ:=[.v (.one (.str))]
def ET:List dX:=[.one (.bool)]
def TU:bD yX→Prop×bI ET:=fun (s,())=>(True,Sp.ji s,())
def jH:gq:=dS yX ET TU
def F5:List bZ:=[.v (.one (.sl aK dR false)), .v (.one (.str))]
def MF:List dX:=[.one (.int .i64)]
def aed:bD F5→Prop×bI MF:=fun (fs,s,())=>(True,Sp.kindOf fs s,())
def zl:gq:=dS F5 MF aed
def F6:List bZ:=[.v (.one (.sl aK dR false)), .v (.one (.str))]
def MG:List dX:=[.one (.int .i64)]
def aee:bD F6→Prop×bI MG:=fun (fs,s,())=>(True,Sp.kindOf fs s,())
def zn:gq:=dS F6 MG aee
def Ba:List bZ:=[.v (.one (.sl aK dR false))]
def Gt:List dX:=[.one (.bool)]
def Wn:bD Ba→Prop×bI Gt:=fun (fs,())=>(True,Sp.fB fs,())
def kD:gq:=dS Ba Gt Wn
def Bc:List bZ:=[.v (.one (.sl aK dR false))]
def Gu:List dX:=[.one (.bool)]
def Wp:bD Bc→Prop×bI Gu:=fun (fs,())=>(True,Sp.fB fs,())
def kE:gq:=dS Bc Gu Wp
def Bd:List bZ:=[.v (.one (.sl aK dR false)), .v (.one (.str)), .v (.agg [.int .i64, .int .i64, .str])]
def Gv:List dX:=[.one (.bool)]
def Wq:bD Bd→Prop×bI Gv:=fun (fs,s,(k,n,w,()),())=>(True,Sp.jv fs s k n w,())
def uo:gq:=dS Bd Gv Wq
def Bf:List bZ:=[.v (.one (.sl aK dR false)), .v (.one (.str)), .v (.agg [.int .i64, .int .i64, .str])]
def Gw:List dX:=[.one (.bool)]
def Ws:bD Bf→Prop×bI Gw:=fun (fs,s,(k,n,w,()),())=>(True,Sp.jv fs s k n w,())
def uq:gq:=dS Bf Gw Ws
def Ed:List bZ:=[.v (.one (.sl aK dR false)), .v (.agg [.int .i64, .int .i64, .bool, .int .i64, .sl fZ Af false])]
def Jj:List dX:=[.one (.bool)]
def aaj:bD Ed→Prop×bI Jj:=fun (fs,f,())=>(True,Sp.dO fs f,())
def mQ:gq:=dS Ed Jj aaj
def Ee:List bZ:=[.v (.one (.sl aK dR false)), .v (.agg [.int .i64, .int .i64, .bool, .int .i64, .sl fZ Af false])]
def Jk:List dX:=[.one (.bool)]
def aak:bD Ee→Prop×bI Jk:=fun (fs,f,())=>(True,Sp.dO fs f,())
def wJ:gq:=dS Ee Jk aak
def CJ:List bZ:=[.v (.agg [.sl aK dR false, .sl aW iU false, .int .i64])]
def Ie:List dX:=[.one (.bool)]
def YG:bD CJ→Prop×bI Ie:=fun (s,())=>(True,Sp.dh s,())
def jd:gq:=dS CJ Ie YG
def CO:List bZ:=[.v (.agg [.sl aK dR false, .sl aW iU false, .int .i64])]
def Ig:List dX:=[.one (.bool)]
def YH:bD CO→Prop×bI Ig:=fun (s,())=>(True,Sp.dh s,())
def uY:gq:=dS CO Ig YH
def EU:List bZ:=[.v (.one (.sl aK dR false)), .v (.one (.sl aK dR false))]
def KE:List dX:=[.one (.bool)]
def acJ:bD EU→Prop×bI KE:=fun (a,b,())=>(True,decide (a=b),())
def yN:gq:=dS EU KE acJ
def F7:List bZ:=[.v (.one (.sl fZ Af false)), .v (.one (.sl fZ Af false))]
def MH:List dX:=[.one (.bool)]
def aef:bD F7→Prop×bI MH:=fun (a,b,())=>(True,decide (a=b),())
def zo:gq:=dS F7 MH aef
def Hf:List bZ:=[.v (.agg [.int .i64, .int .i64, .bool, .int .i64, .sl fZ Af false]), .v (.agg [.int .i64, .int .i64, .bool, .int .i64, .sl fZ Af false])]
def Oc:List dX:=[.one (.bool)]
def afX:bD Hf→Prop×bI Oc:=fun (a,b,())=>(True,decide (a=b),())
def Aw:gq:=dS Hf Oc afX
def F8:List bZ:=[.v (.one (.sl aW iU false)), .v (.one (.sl aW iU false))]
def MI:List dX:=[.one (.bool)]
def aeg:bD F8→Prop×bI MI:=fun (a,b,())=>(True,decide (a=b),())
def zq:gq:=dS F8 MI aeg
def F9:List bZ:=[.v (.agg [.sl aK dR false, .sl aW iU false, .int .i64]), .v (.agg [.sl aK dR false, .sl aW iU false, .int .i64])]
def MJ:List dX:=[.one (.bool)]
def aeh:bD F9→Prop×bI MJ:=fun (a,b,())=>(True,decide (a=b),())
def zu:gq:=dS F9 MJ aeh
def Jl:List bZ:=[.v (.agg [.int .i64, .int .i64, .bool, .int .i64, .sl fZ Af false])]
def PK:List dX:=[.agg [.int .i64, .int .i64, .bool, .int .i64, .sl fZ Af true]]
def aix:bD Jl→Prop×bI PK:=fun (f,())=>(Sp.jR f,f,())
def sV:gq:=dS Jl PK aix
def Hg:List bZ:=[.v (.agg [.int .i64, .int .i64, .bool, .int .i64, .sl fZ Af false])]
def Oe:List dX:=[.agg [.int .i64, .int .i64, .bool, .int .i64, .sl fZ Af false]]
def afY:bD Hg→Prop×bI Oe:=fun (f,())=>(Sp.jR f,f,())
def Az:gq:=dS Hg Oe afY
def Lh:List bZ:=[.v (.one (.int .i64))]
def Sm:List dX:=[.one (.bool)]
def akY:bD Lh→Prop×bI Sm:=fun (u,())=>(True,(decide (0≤u)&&decide (u≤2)),())
def EC:gq:=dS Lh Sm akY
def Hl:List bZ:=[.v (.agg [.sl aK dR false, .sl aW iU false, .int .i64]), .v (.one (.int .i64))]
def Og:List dX:=[.one (.int .i64)]
def afZ:bD Hl→Prop×bI Og:=fun ((_,fs,_,()),id,())=>(True,Sp.place fs id,())
def AA:gq:=dS Hl Og afZ
def vU:List bZ:=[.v (.one (.sl aK dR false))]
def Cb:List dX:=[.one (.sl aK dR false)]
def OI:bD vU→Prop×bI Cb:=fun (l,())=>(l.length≤1000,l,())
def nR:gq:=dS vU Cb OI
def wK:List bZ:=[.v (.one (.sl fZ Af false))]
def Dy:List dX:=[.one (.sl fZ Af false)]
def PL:bD wK→Prop×bI Dy:=fun (l,())=>(l.length≤1000,l,())
def oV:gq:=dS wK Dy PL
def nS:List dB:=[.p (.v (.agg [.int .i64, .int .i64, .bool, .int .i64, .sl fZ Af false])), .p (.v (.one (.str))), .p (.v (.agg [.int .i64, .int .i64, .str]))]
def PN:List fA:=[.agg [.c (.int .i64), .c (.int .i64), .c .bool, .c (.int .i64), .own fZ Af true]]
def Lj:bH nS→Prop×(bV PN×bT nS→Prop):=fun ((i,o,s,l,a,()),name,(k,n,w,()),())=>(a.length≤1000,fun (((i',o',s',l',a',()),()),())=>i'=i∧o'=o∧s'=s∧l'=l∧a'=Sp.kF a name k n w)
def sW:eH:=dJ nS PN Lj
def jO:List dB:=[.ptr [.sl dZ qB false, .int .i64, .int .i64], .p (.v (.one (.int .i64)))]
def PO:List fA:=[.agg [.c (.int .i64), .c (.int .i64), .c .bool, .c (.int .i64), .own fZ Af true]]
def Ll:bH jO→Prop×(bV PO×bT jO→Prop):=fun ((_,i,_,()),id,())=>(0≤i,fun (((d,o,_,l,a,()),()),((_,i',_,()),()))=>0≤i'∧d=id∧0≤o∧o≤2∧0≤l∧l≤6∧Sp.pO Sp.usual a=true∧a.length≤4)
def lS:eH:=dJ jO PO Ll
def xJ:List dB:=[.ptr [.sl dZ qB false, .int .i64, .int .i64]]
def Sr:List fA:=[.agg [.c (.int .i64), .c (.int .i64), .c .bool, .c (.int .i64), .c (.sl fZ Af true)]]
def Nr:bH xJ→Prop×(bV Sr×bT xJ→Prop):=fun ((_,i,_,()),())=>(0≤i,fun (((_,_,_,_,a,()),()),((_,i',_,()),()))=>0≤i'∧a.length≤10)
def ED:eH:=dJ xJ Sr Nr
def sZ:List dB:=[.p (.v (.one (.sl aK dR false)))]
def Oh:List fA:=[.agg [.own aK dR true, .own aW iU true, .c (.int .i64)]]
def Jm:bH sZ→Prop×(bV Oh×bT sZ→Prop):=fun (s,())=>(s.length≤1000,fun (((a,l,nx,()),()),())=>a=s∧l=[]∧nx=1)
def AB:eH:=dJ sZ Oh Jm
def jP:List dB:=[.p (.v (.agg [.sl aK dR false, .sl aW iU false, .int .i64]))]
def PS:List fA:=[.agg [.own aK dR true, .own aW iU true, .c (.int .i64)]]
def Lm:bH jP→Prop×(bV PS×bT jP→Prop):=fun (s,())=>(Sp.iE s,fun (((a,l,nx,()),()),())=>(a,l,nx,())=s)
def lT:eH:=dJ jP PS Lm
def jS:List dB:=[.p (.v (.agg [.sl aK dR false, .sl aW iU false, .int .i64])), .p (.v (.agg [.int .i64, .int .i64, .bool, .int .i64, .sl fZ Af false]))]
def KF:List fA:=[.agg [.own aK dR true, .own aW iU true, .c (.int .i64)], .one (.c (.int .i64)), .one (.c .bool)]
def Gf:bH jS→Prop×(bV KF×bT jS→Prop):=fun (s,f,())=>(Sp.iE s∧Sp.jR f,fun (((a,l,nx,()),id,ok,()),())=>a=(Sp.bF s f).1.1∧l=(Sp.bF s f).1.2.1∧nx=(Sp.bF s f).1.2.2.1∧id=(Sp.bF s f).2.1∧ok=(Sp.bF s f).2.2)
def oD:eH:=dJ jS KF Gf
def pR:List dB:=[.p (.v (.agg [.sl aK dR false, .sl aW iU false, .int .i64])), .p (.v (.one (.int .i64)))]
def KG:List fA:=[.agg [.own aK dR true, .own aW iU true, .c (.int .i64)], .one (.c .bool)]
def Gg:bH pR→Prop×(bV KG×bT pR→Prop):=fun (s,id,())=>(Sp.iE s,fun (((a,l,nx,()),ok,()),())=>a=(Sp.dU s id).1.1∧l=(Sp.dU s id).1.2.1∧nx=(Sp.dU s id).1.2.2.1∧ok=(Sp.dU s id).2)
def yO:eH:=dJ pR KG Gg
def lU:List dB:=[.ptr [.sl dZ qB false, .int .i64, .int .i64]]
def Oi:List fA:=[.agg [.own aK dR true, .own aW iU true, .c (.int .i64)]]
def Jo:bH lU→Prop×(bV Oi×bT lU→Prop):=fun ((_,i,_,()),())=>(0≤i,fun (((a,l,nx,()),()),((_,i',_,()),()))=>0≤i'∧a=Sp.usual∧Sp.dh (a,l,nx,())=true∧nx≤l.length+2∧Sp.iE (a,l,nx,()))
def ru:eH:=dJ lU Oi Jo
def xK:List dB:=[.ptr [.sl dZ qB false, .int .i64, .int .i64]]
def Sv:List fA:=[.agg [.c (.sl aK dR true), .c (.sl aW iU true), .c (.int .i64)]]
def Ns:bH xK→Prop×(bV Sv×bT xK→Prop):=fun ((_,i,_,()),())=>(0≤i,fun (((a,l,nx,()),()),((_,i',_,()),()))=>0≤i'∧Sp.iE (a,l,nx,()))
def EF:eH:=dJ xK Sv Ns
def TV:List bZ:=[.v (.one (.sl dZ qB false))]
def aal:List dX:=[.one (.bool)]
def aoh:bD TV→Prop×bI aal:=fun (code,())=>(True,decide (1048576<(code.length:Int)),())
def Jp:gq:=dS TV aal aoh
def rC:List dB:=[.p (.v (.one (.sl aW iU false)))]
def MK:List fA:=[.one (.own aW iU false)]
def Ho:bH rC→Prop×(bV MK×bT rC→Prop):=fun (l,())=>(l.length≤1000∧∀ f∈l,Sp.jR f,fun ((r,()),())=>r=l)
def zx:eH:=dJ rC MK Ho
def rD:List dB:=[.p (.v (.agg [.sl aK dR false, .sl aW iU false, .int .i64]))]
def ML:List fA:=[.agg [.c (.sl aK dR false), .own aW iU false, .c (.int .i64)]]
def Hq:bH rD→Prop×(bV ML×bT rD→Prop):=fun (s,())=>(Sp.iE s,fun (((a,l,nx,()),()),())=>(a,l,nx,())=s)
def zy:eH:=dJ rD ML Hq
def pU:List dB:=[.ptr [.sl dZ qB false, .int .i64, .int .i64]]
def KH:List fA:=[.one (.c .str)]
def Gh:bH pU→Prop×(bV KH×bT pU→Prop):=fun ((_,i,_,()),())=>(0≤i,fun ((x,()),((_,i',_,()),()))=>0≤i'∧x.length≤10)
def yP:eH:=dJ pU KH Gh
def nT:List dB:=[.ptr [.sl dZ qB false, .int .i64, .int .i64]]
def PU:List fA:=[.agg [.c (.int .i64), .c (.int .i64), .c (.int .i64), .c .str, .c (.int .i64), .c (.int .i64), .c .str]]
def Lp:bH nT→Prop×(bV PU×bT nT→Prop):=fun ((_,i,_,()),())=>(0≤i,fun (((_,_,_,_,_,_,_,()),()),((_,i',_,()),()))=>0≤i'∧True)
def tq:eH:=dJ nT PU Lp
def Jq:List dB:=[.ptr [.sl dZ qB false, .int .i64, .int .i64], .own bK jo, .p (.v (.one (.int .i64))), .p (.v (.one (.bool)))]
def PV:List fA:=[.one (.own bK jo false)]
def UR:bH Jq→Prop×(bV PV×bT Jq→Prop):=fun ((_,i,_,()),q,deep,_,())=>(0≤i∧0≤deep∧deep≤4∧q.length+2*deep.toNat≤900,fun ((r,()),((_,i',_,()),()))=>0≤i'∧q.length<r.length∧r.length≤q.length+2*deep.toNat+1)
def aei:eH:=dJ Jq PV UR
def qE:List dB:=[.ptr [.sl dZ qB false, .int .i64, .int .i64], .own bK jo, .p (.v (.one (.int .i64))), .p (.v (.one (.bool)))]
def Ih:List fA:=[.one (.own bK jo false)]
def KI [TS]:bH qE→Prop×(bV Ih×bT qE→Prop):=fun ((_,i,_,()),q,deep,_,())=>((0≤i∧0≤deep∧deep≤4∧q.length+2*deep.toNat≤900)∧deep.toNat<Wi,fun ((r,()),((_,i',_,()),()))=>0≤i'∧q.length<r.length∧r.length≤q.length+2*deep.toNat+1)
def Bg [TS]:eH:=dJ qE Ih KI
def uZ:List dB:=[.ptr [.sl dZ qB false, .int .i64, .int .i64], .own bK jo, .p (.v (.one (.int .i64))), .p (.v (.one (.bool)))]
def Gx:List fA:=[.one (.own bK jo false)]
def wL [TS]:bH uZ→Prop×(bV Gx×bT uZ→Prop):=fun ((_,i,_,()),q,deep,_,())=>((0≤i∧0≤deep∧deep≤4∧q.length+2*deep.toNat≤900)∧deep.toNat<Wi+1,fun ((r,()),((_,i',_,()),()))=>0≤i'∧q.length<r.length∧r.length≤q.length+2*deep.toNat+1)
def Gy [TS]:eH:=dJ uZ Gx wL
def jX:List dB:=[.ptr [.sl dZ qB false, .int .i64, .int .i64], .p (.v (.one .nil)), .p (.v (.one (.int .i64))), .p (.v (.one (.bool)))]
def Ii:List fA:=[.one (.own bK jo false)]
def KJ:bH jX→Prop×(bV Ii×bT jX→Prop):=fun ((_,i,_,()),(),deep,_,())=>(0≤i∧0≤deep∧deep≤4,fun ((r,()),((_,i',_,()),()))=>0≤i'∧0<r.length∧r.length≤0+2*deep.toNat+1)
def pV:eH:=dJ jX Ii KJ
def oG:List dB:=[.ptr [.sl dZ qB false, .int .i64, .int .i64]]
def Jr:List fA:=[.one (.own bK jo false)]
def EW:bH oG→Prop×(bV Jr×bT oG→Prop):=fun ((_,i,_,()),())=>(0≤i,fun ((r,()),((_,i',_,()),()))=>0≤i'∧0<r.length∧r.length≤9)
def wM:eH:=dJ oG Jr EW
def gy:List dB:=[.ptr [.sl dZ qB false, .int .i64, .int .i64]]
def Cc:List fA:=[.one (.c (.sl bK jo false))]
def wO:bH gy→Prop×(bV Cc×bT gy→Prop):=fun ((_,i,_,()),())=>(0≤i,fun ((r,()),((_,i',_,()),()))=>0≤i'∧0<r.length∧r.length≤9)
def je:eH:=dJ gy Cc wO
def xM:List dB:=[.ptr [.sl dZ qB false, .int .i64, .int .i64]]
def Sz:List fA:=[.one (.c (.sl bK jo false))]
def Nu:bH xM→Prop×(bV Sz×bT xM→Prop):=fun ((_,i,_,()),())=>(0≤i,fun ((r,()),((_,i',_,()),()))=>0≤i'∧r.length≤10)
def EG:eH:=dJ xM Sz Nu
def nU:List dB:=[.ptr [.sl dZ qB false, .int .i64, .int .i64]]
def PW:List fA:=[.one (.own bg gu false)]
def Lr:bH nU→Prop×(bV PW×bT nU→Prop):=fun ((_,i,_,()),())=>(0≤i,fun ((d,()),((_,i',_,()),()))=>0≤i'∧0<d.length∧d.length≤4∧Sp.bJ d)
def tu:eH:=dJ nU PW Lr
def xO:List dB:=[.ptr [.sl dZ qB false, .int .i64, .int .i64]]
def SA:List fA:=[.one (.c (.sl bg gu false))]
def Nv:bH xO→Prop×(bV SA×bT xO→Prop):=fun ((_,i,_,()),())=>(0≤i,fun ((d,()),((_,i',_,()),()))=>0≤i'∧d.length≤10∧Sp.bJ d)
def EH:eH:=dJ xO SA Nv
def ve:List dB:=[.ptr [.sl dZ qB false, .int .i64, .int .i64]]
def PX:List fA:=[.one (.c (.sl bg gu false))]
def Ls:bH ve→Prop×(bV PX×bT ve→Prop):=fun ((_,i,_,()),())=>(0≤i,fun ((d,()),((_,i',_,()),()))=>0≤i'∧d.length≤10∧Sp.bJ d)
def CP:eH:=dJ ve PX Ls
def lV:List dB:=[.ptr [.sl dZ qB false, .int .i64, .int .i64]]
def Oj:List fA:=[.agg [.c (.sl aK dR false), .c (.sl aW iU false), .c (.int .i64), .c (.sl bg gu false)]]
def Js:bH lV→Prop×(bV Oj×bT lV→Prop):=fun ((_,i,_,()),())=>(0≤i,fun (((a,l,nx,d,()),()),((_,i',_,()),()))=>0≤i'∧Sp.eF (a,l,nx,d,()))
def rE:eH:=dJ lV Oj Js
def pW:List dB:=[.ptr [.sl dZ qB false, .int .i64, .int .i64]]
def SB:List fA:=[.agg [.c (.sl aK dR false), .c (.sl aW iU false), .c (.int .i64), .c (.sl bg gu false)]]
def Nw:bH pW→Prop×(bV SB×bT pW→Prop):=fun ((_,i,_,()),())=>(0≤i,fun (((a,l,nx,d,()),()),((_,i',_,()),()))=>0≤i'∧Sp.eF (a,l,nx,d,()))
def vg:eH:=dJ pW SB Nw
def vw:List dB:=[.ptr [.sl dZ qB false, .int .i64, .int .i64]]
def PY:List fA:=[.one (.own bY vV false)]
def Lu:bH vw→Prop×(bV PY×bT vw→Prop):=fun ((_,i,_,()),())=>(0≤i,fun ((v,()),((_,i',_,()),()))=>0≤i'∧v.length≤10∧Sp.bn v)
def CQ:eH:=dJ vw PY Lu
def pX:List dB:=[.ptr [.sl dZ qB false, .int .i64, .int .i64]]
def SC:List fA:=[.one (.c (.sl bY vV false))]
def Ny:bH pX→Prop×(bV SC×bT pX→Prop):=fun ((_,i,_,()),())=>(0≤i,fun ((v,()),((_,i',_,()),()))=>0≤i'∧v.length≤10∧Sp.bn v)
def vz:eH:=dJ pX SC Ny
def pY:List dB:=[.ptr [.sl dZ qB false, .int .i64, .int .i64]]
def KL:List fA:=[.one (.c (.int .i64))]
def Gi:bH pY→Prop×(bV KL×bT pY→Prop):=fun ((_,i,_,()),())=>(0≤i,fun ((_,()),((_,i',_,()),()))=>0≤i'∧True)
def yQ:eH:=dJ pY KL Gi
def jC:List dB:=[.p (.v (.one (.sl dZ qB false)))]
def Dz:List fA:=[.one (.c (.sl bY vV false)), .one (.c (.int .i64)), .agg [.c (.sl aK dR false), .c (.sl aW iU false), .c (.int .i64), .c (.sl bg gu false)]]
def x9:bH jC→Prop×(bV Dz×bT jC→Prop):=fun (code,())=>(code.length≤1048576,fun ((v,_,(a,l,nx,d,()),()),())=>v.length≤10∧Sp.bn v∧Sp.eF (a,l,nx,d,()))
def oW:eH:=dJ jC Dz x9
def jW:List dB:=[.p (.v (.one (.sl dZ qB false)))]
def EX:List fA:=[.one (.c (.sl bY vV false)), .one (.c (.int .i64))]
def Ag:bH jW→Prop×(bV EX×bT jW→Prop):=fun (code,())=>(code.length≤1048576,fun ((v,_,()),())=>v.length≤10∧Sp.bn v)
def qF:eH:=dJ jW EX Ag
def Ef:List bZ:=[.v (.agg [.int .i64, .int .i64, .int .i64, .str, .int .i64, .int .i64, .str]), .v (.one (.int .i64))]
def Jt:List dX:=[.one (.bool)]
def aam:bD Ef→Prop×bI Jt:=fun ((o,l,r,nm,vk,vi,vs,()),at',())=>(True,Sp.oK (o,l,r,nm,vk,vi,vs,()) at',())
def wP:gq:=dS Ef Jt aam
def Eg:List bZ:=[.v (.agg [.int .i64, .int .i64, .int .i64, .str, .int .i64, .int .i64, .str]), .v (.one (.int .i64))]
def Ju:List dX:=[.one (.bool)]
def aan:bD Eg→Prop×bI Ju:=fun ((o,l,r,nm,vk,vi,vs,()),at',())=>(True,Sp.oK (o,l,r,nm,vk,vi,vs,()) at',())
def wQ:gq:=dS Eg Ju aan
def yY:List bZ:=[.v (.one (.sl bK jo false)), .v (.one (.int .i64))]
def EY:List dX:=[.one (.int .i64)]
def TW:bD yY→Prop×bI EY:=fun (q,at',())=>(q.length≤1000000,(Sp.lW q at':Int),())
def qG:gq:=dS yY EY TW
def yZ:List bZ:=[.v (.one (.sl bK jo false)), .v (.one (.int .i64))]
def EZ:List dX:=[.one (.int .i64)]
def TY:bD yZ→Prop×bI EZ:=fun (q,at',())=>(q.length≤1000000,(Sp.lW q at':Int),())
def qH:gq:=dS yZ EZ TY
def CS:List bZ:=[.v (.one (.sl bK jo false))]
def Ij:List dX:=[.one (.bool)]
def YI:bD CS→Prop×bI Ij:=fun (q,())=>(q.length≤1000000,Sp.iG q,())
def lH:gq:=dS CS Ij YI
def CU:List bZ:=[.v (.one (.sl bK jo false))]
def Ik:List dX:=[.one (.bool)]
def YJ:bD CU→Prop×bI Ik:=fun (q,())=>(q.length≤1000000,Sp.iG q,())
def lI:gq:=dS CU Ik YJ
def Eh:List bZ:=[.v (.one (.sl bg gu false))]
def Jv:List dX:=[.one (.bool)]
def aao:bD Eh→Prop×bI Jv:=fun (d,())=>(Sp.bJ d,Sp.rV d,())
def wR:gq:=dS Eh Jv aao
def Ei:List bZ:=[.v (.one (.sl bg gu false))]
def Jw:List dX:=[.one (.bool)]
def aap:bD Ei→Prop×bI Jw:=fun (d,())=>(Sp.bJ d,Sp.rV d,())
def wS:gq:=dS Ei Jw aap
def Hr:List bZ:=[.v (.agg [.int .i64, .int .i64, .int .i64, .str, .int .i64, .int .i64, .str])]
def Ol:List dX:=[.one (.bool)]
def af0:bD Hr→Prop×bI Ol:=fun ((o,_,_,_,_,_,_,()),())=>(True,(o==8||o==9),())
def AL:gq:=dS Hr Ol af0
def CV:List bZ:=[.v (.one (.sl bK jo false))]
def Il:List dX:=[.one (.sl af2 R_4 true)]
def YK:bD CV→Prop×bI Il:=fun (q,())=>(q.length≤1000,Sp.negated q,())
def vC:gq:=dS CV Il YK
def CW:List bZ:=[.v (.one (.sl bK jo false))]
def Io:List dX:=[.one (.sl af2 R_4 true)]
def YL:bD CW→Prop×bI Io:=fun (q,())=>(q.length≤1000,Sp.negated q,())
def vF:gq:=dS CW Io YL
def qc:List dB:=[.p (.v (.one (.sl nI MC false)))]
def Ej:List fA:=[.one (.c (.sl nI MC true))]
def Om:bH qc→Prop×(bV Ej×bT qc→Prop):=fun (l,())=>(l.length≤1000,fun ((r,()),())=>r.length≤l.length∧∀ s,s∈r↔s∈l)
def yR:eH:=dJ qc Ej Om
def kL:List dB:=[.p (.v (.one (.sl bK jo false))), .p (.v (.one (.bool)))]
def MN:List fA:=[.one (.c (.sl nI MC true))]
def Ht:bH kL→Prop×(bV MN×bT kL→Prop):=fun (q,neg,())=>(q.length≤1000,fun ((r,()),())=>Sp.fV r (Sp.fE q neg))
def qf:eH:=dJ kL MN Ht
def mV:List dB:=[.p (.v (.one (.sl bK jo false)))]
def Ip:List fA:=[.one (.c (.sl nI MC true))]
def Em:bH mV→Prop×(bV Ip×bT mV→Prop):=fun (q,())=>(q.length≤1000,fun ((r,()),())=>Sp.fV r (Sp.fE q false))
def vG:eH:=dJ mV Ip Em
def mW:List dB:=[.p (.v (.one (.sl bK jo false)))]
def Iq:List fA:=[.one (.c (.sl nI MC true))]
def En:bH mW→Prop×(bV Iq×bT mW→Prop):=fun (q,())=>(q.length≤1000,fun ((r,()),())=>Sp.fV r (Sp.fE q true))
def vH:eH:=dJ mW Iq En
def LC:List bZ:=[.v (.one (.sl nI MC false)), .v (.one (.str))]
def SE:List dX:=[.one (.sl nI MC false)]
def akZ:bD LC→Prop×bI SE:=fun (l,s,())=>(l.length≤1000,Sp.PZ l s,())
def EI:gq:=dS LC SE akZ
def lX:List dB:=[.p (.v (.one (.sl bK jo false))), .p (.v (.one (.bool)))]
def Oo:List fA:=[.one (.c (.sl nI MC true))]
def Jy:bH lX→Prop×(bV Oo×bT lX→Prop):=fun (q,neg,())=>(q.length≤1000,fun ((r,()),())=>Sp.fV r (Sp.fE q neg))
def rF:eH:=dJ lX Oo Jy
def mX:List dB:=[.p (.v (.one (.sl bK jo false)))]
def Ir:List fA:=[.one (.c (.sl nI MC true))]
def Eo:bH mX→Prop×(bV Ir×bT mX→Prop):=fun (q,())=>(q.length≤1000,fun ((r,()),())=>Sp.fV r (Sp.fE q false))
def vI:eH:=dJ mX Ir Eo
def mY:List dB:=[.p (.v (.one (.sl bK jo false)))]
def Iu:List fA:=[.one (.c (.sl nI MC true))]
def Ep:bH mY→Prop×(bV Iu×bT mY→Prop):=fun (q,())=>(q.length≤1000,fun ((r,()),())=>Sp.fV r (Sp.fE q true))
def vJ:eH:=dJ mY Iu Ep
def Jz:List bZ:=[.v (.agg [.str, .sl bK jo false]), .kp [.str]]
def P5:List dX:=[.one (.bool)]
def aiy:bD Jz→Prop×bI P5:=fun ((nm,_,()),name,())=>(True,(nm==name.1),())
def tC:gq:=dS Jz P5 aiy
def jI:List bZ:=[.v (.one (.sl bg gu false)), .fn 251 [[.str]]]
def pq:List dX:=[.one (.int .i64)]
def BV:bD jI→Prop×bI pq:=fun (d,((name,()),()),())=>(True,Sp.aO d name,())
def ig:gq:=dS jI pq BV
def Nz:List bZ:=[.v (.one (.sl bg gu false)), .v (.one (.str))]
def UU:List dX:=[.one (.int .i64)]
def alY:bD Nz→Prop×bI UU:=fun (d,name,())=>(True,Sp.aO d name,())
def FN:gq:=dS Nz UU alY
def Hu:List bZ:=[.v (.one (.sl bg gu false)), .v (.one (.str))]
def Oq:List dX:=[.one (.int .i64)]
def af4:bD Hu→Prop×bI Oq:=fun (d,name,())=>(True,Sp.aO d name,())
def AO:gq:=dS Hu Oq af4
def Es:List bZ:=[.v (.one (.sl bg gu false)), .v (.one (.sl Ar N8 false)), .v (.one (.sl nI MC false)), .v (.one (.int .i64))]
def JA:List dX:=[.one (.int .i64)]
def aaq:bD Es→Prop×bI JA:=fun (d,aY,names,more,())=>(d.length≤aY.length∧names.length≤1000∧0≤more∧more≤1∧∀ x∈aY,0≤x.1∧x.1≤1000000,Sp.yc d aY more names,())
def wU:gq:=dS Es JA aaq
def xP:List dB:=[.p (.v (.one (.sl bg gu false)))]
def SG:List fA:=[.one (.c (.sl Ar N8 true)), .one (.c .bool)]
def NC:bH xP→Prop×(bV SG×bT xP→Prop):=fun (d,())=>(Sp.bJ d,fun ((_,ok,()),())=>ok=Sp.gU d)
def EJ:eH:=dJ xP SG NC
def CX:List bZ:=[.v (.one (.sl bg gu false))]
def Iw:List dX:=[.one (.bool)]
def YM:bD CX→Prop×bI Iw:=fun (d,())=>(Sp.bJ d,Sp.gU d,())
def vK:gq:=dS CX Iw YM
def tH:List dB:=[.p (.v (.one (.sl bg gu false))), .p (.v (.one (.sl Ar N8 false)))]
def Ot:List fA:=[.one (.own Ar N8 true)]
def zA:bH tH→Prop×(bV Ot×bT tH→Prop):=fun (d,aY,())=>(Sp.bJ d∧d.length≤5∧aY.length=d.length∧∀ x∈aY,0≤x.1∧x.1≤1000000,fun ((r,()),())=>Sp.raised d aY r)
def AP:eH:=dJ tH Ot zA
def JB:List bZ:=[.v (.one (.sl Ar N8 false)), .v (.one (.sl Ar N8 false))]
def P6:List dX:=[.one (.bool)]
def aiz:bD JB→Prop×bI P6:=fun (a,b,())=>(True,decide (a=b),())
def CY:gq:=dS JB P6 aiz
def xQ:List dB:=[.p (.v (.one (.sl bg gu false)))]
def SH:List fA:=[.one (.c (.sl Ar N8 true)), .one (.c .bool)]
def ND:bH xQ→Prop×(bV SH×bT xQ→Prop):=fun (d,())=>(Sp.bJ d,fun ((_,ok,()),())=>ok=Sp.gU d)
def EK:eH:=dJ xQ SH ND
def CZ:List bZ:=[.v (.one (.sl bg gu false))]
def Iy:List dX:=[.one (.bool)]
def YN:bD CZ→Prop×bI Iy:=fun (d,())=>(Sp.bJ d,Sp.gU d,())
def lJ:gq:=dS CZ Iy YN
def wV:List bZ:=[.v (.one (.sl bK jo false))]
def DC:List dX:=[.one (.sl bK jo false)]
def P7:bD wV→Prop×bI DC:=fun (l,())=>(l.length≤1000,l,())
def oZ:gq:=dS wV DC P7
def JC:List bZ:=[.v (.agg [.str, .sl bK jo false])]
def P8:List dX:=[.agg [.str, .sl bK jo false]]
def aiA:bD JC→Prop×bI P8:=fun ((n,q,()),())=>(q.length≤1000,(n,q,()),())
def C9:gq:=dS JC P8 aiA
def Hw:List bZ:=[.v (.one (.sl bg gu false))]
def Ou:List dX:=[.one (.sl bg gu false)]
def af5:bD Hw→Prop×bI Ou:=fun (d,())=>(Sp.bJ d,d,())
def AQ:gq:=dS Hw Ou af5
def JD:List bZ:=[.v (.one (.sl bg gu false))]
def P9:List dX:=[.one (.sl bg gu true)]
def aiB:bD JD→Prop×bI P9:=fun (d,())=>(Sp.bJ d,d,())
def Dc:gq:=dS JD P9 aiB
def gV:List dB:=[.p (.v (.agg [.sl aK dR false, .sl aW iU false, .int .i64, .sl bg gu false]))]
def Iz:List fA:=[.agg [.c (.sl aK dR false), .c (.sl aW iU false), .c (.int .i64), .c (.sl bg gu false)]]
def Et:bH gV→Prop×(bV Iz×bT gV→Prop):=fun (x,())=>(Sp.eF x,fun (((a,l,nx,d,()),()),())=>(a,l,nx,d,())=x)
def jf:eH:=dJ gV Iz Et
def jw:List dB:=[.p (.v (.agg [.sl aK dR false, .sl aW iU false, .int .i64, .sl bg gu false]))]
def Ov:List fA:=[.agg [.c (.sl aK dR true), .c (.sl aW iU true), .c (.int .i64), .c (.sl bg gu true)]]
def JE:bH jw→Prop×(bV Ov×bT jw→Prop):=fun (x,())=>(Sp.eF x,fun (((a,l,nx,d,()),()),())=>(a,l,nx,d,())=x)
def kM:eH:=dJ jw Ov JE
def mZ:List dB:=[.p (.v (.one (.sl bY vV false)))]
def IA:List fA:=[.one (.own bY vV false)]
def Eu:bH mZ→Prop×(bV IA×bT mZ→Prop):=fun (v,())=>(Sp.bn v,fun ((r,()),())=>r=v)
def vM:eH:=dJ mZ IA Eu
def nV:List dB:=[.p (.v (.one (.sl bY vV false)))]
def Qa:List fA:=[.one (.own bY vV true)]
def LD:bH nV→Prop×(bV Qa×bT nV→Prop):=fun (v,())=>(Sp.bn v,fun ((r,()),())=>r=v)
def tJ:eH:=dJ nV Qa LD
def y7:List bZ:=[.v (.agg [.sl aK dR false, .sl aW iU false, .int .i64, .sl bg gu false])]
def E5:List dX:=[.one (.bool)]
def Ua:bD y7→Prop×bI E5:=fun (x,())=>(Sp.eF x,Sp.wz x,())
def qI:gq:=dS y7 E5 Ua
def y9:List bZ:=[.v (.agg [.sl aK dR false, .sl aW iU false, .int .i64, .sl bg gu false])]
def E8:List dX:=[.one (.bool)]
def Ub:bD y9→Prop×bI E8:=fun (x,())=>(Sp.eF x,Sp.wz x,())
def qJ:gq:=dS y9 E8 Ub
def yg:List bZ:=[.v (.one (.sl bY vV false))]
def EL:List dX:=[.one (.bool)]
def Rj:bD yg→Prop×bI EL:=fun (v,())=>(Sp.bn v,Sp.fO v,())
def jD:gq:=dS yg EL Rj
def yh:List bZ:=[.v (.one (.sl bY vV false))]
def EM:List dX:=[.one (.bool)]
def Rk:bD yh→Prop×bI EM:=fun (v,())=>(Sp.bn v,Sp.fO v,())
def jE:gq:=dS yh EM Rk
def Ew:List bZ:=[.v (.agg [.int .i64, .sl aK dR false, .sl aW iU false, .int .i64, .sl bg gu false, .int .i64]), .kp [.int .i64]]
def JF:List dX:=[.one (.bool)]
def aar:bD Ew→Prop×bI JF:=fun ((n,_,_,_,_,_,()),number,())=>(True,(n==number.1),())
def ng:gq:=dS Ew JF aar
def iH:List bZ:=[.v (.one (.sl bY vV false)), .fn 92 [[.int .i64]]]
def kN:List dX:=[.one (.int .i64)]
def xR:bD iH→Prop×bI kN:=fun (v,((n,()),()),())=>(True,Sp.aP v n,())
def fK:gq:=dS iH kN xR
def Gj:List bZ:=[.v (.one (.sl bY vV false)), .v (.one (.int .i64))]
def MO:List dX:=[.one (.int .i64)]
def aej:bD Gj→Prop×bI MO:=fun (v,n,())=>(True,Sp.aP v n,())
def zB:gq:=dS Gj MO aej
def Hy:List bZ:=[.v (.one (.sl bY vV false)), .v (.one (.int .i64))]
def Ox:List dX:=[.one (.int .i64)]
def af6:bD Hy→Prop×bI Ox:=fun (v,n,())=>(True,Sp.aP v n,())
def rG:gq:=dS Hy Ox af6
def lK:List dB:=[.p (.v (.one (.sl bY vV false))), .p (.v (.one (.int .i64))), .p (.v (.agg [.sl aK dR false, .sl aW iU false, .int .i64, .sl bg gu false]))]
def Gz:List fA:=[.one (.c (.sl bY vV false)), .one (.c .bool)]
def Df:bH lK→Prop×(bV Gz×bT lK→Prop):=fun (v,n,x,())=>(Sp.bn v∧v.length≤100∧Sp.eF x,fun ((r,ok,()),())=>r=(Sp.fM v n x).1∧ok=(Sp.fM v n x).2)
def uw:eH:=dJ lK Gz Df
def jg:List dB:=[.p (.v (.one (.sl bY vV false))), .p (.v (.one (.int .i64))), .p (.v (.agg [.sl aK dR false, .sl aW iU false, .int .i64, .sl bg gu false]))]
def GH:List fA:=[.one (.own bY vV true), .one (.c .bool)]
def Dh:bH jg→Prop×(bV GH×bT jg→Prop):=fun (v,n,x,())=>(Sp.bn v∧v.length≤100∧Sp.eF x,fun ((r,ok,()),())=>r=(Sp.fM v n x).1∧ok=(Sp.fM v n x).2)
def kG:eH:=dJ jg GH Dh
def qg:List dB:=[.p (.v (.one (.sl bY vV false))), .p (.v (.one (.int .i64)))]
def KN:List fA:=[.one (.own bY vV true), .one (.c .bool)]
def Gl:bH qg→Prop×(bV KN×bT qg→Prop):=fun (v,n,())=>(Sp.bn v∧v.length≤100,fun ((r,ok,()),())=>r=(Sp.yj v n 1).1∧ok=(Sp.yj v n 1).2)
def yS:eH:=dJ qg KN Gl
def oH:List dB:=[.p (.v (.one (.sl bY vV false))), .p (.v (.one (.int .i64)))]
def JG:List fA:=[.agg [.c (.sl aK dR false), .c (.sl aW iU false), .c (.int .i64), .c (.sl bg gu false)], .one (.c .bool)]
def Fa:bH oH→Prop×(bV JG×bT oH→Prop):=fun (v,n,())=>(Sp.bn v,fun (((a,l,nx,d,()),ok,()),())=>(a,l,nx,d,())=(Sp.iq v n).1∧ok=(Sp.iq v n).2)
def wW:eH:=dJ oH JG Fa
def oI:List dB:=[.p (.v (.one (.sl bY vV false))), .p (.v (.one (.int .i64)))]
def JH:List fA:=[.agg [.c (.sl aK dR true), .c (.sl aW iU true), .c (.int .i64), .c (.sl bg gu true)], .one (.c .bool)]
def Fb:bH oI→Prop×(bV JH×bT oI→Prop):=fun (v,n,())=>(Sp.bn v,fun (((a,l,nx,d,()),ok,()),())=>(a,l,nx,d,())=(Sp.iq v n).1∧ok=(Sp.iq v n).2)
def wX:eH:=dJ oI JH Fb
def Gm:List bZ:=[.v (.one (.sl bK jo false)), .v (.one (.sl bK jo false))]
def MP:List dX:=[.one (.bool)]
def aek:bD Gm→Prop×bI MP:=fun (a,b,())=>(True,decide (a=b),())
def zC:gq:=dS Gm MP aek
def JI:List bZ:=[.v (.agg [.str, .sl bK jo false]), .v (.agg [.str, .sl bK jo false])]
def Qb:List dX:=[.one (.bool)]
def aiC:bD JI→Prop×bI Qb:=fun (a,b,())=>(True,decide (a=b),())
def Di:gq:=dS JI Qb aiC
def Hz:List bZ:=[.v (.one (.sl bg gu false)), .v (.one (.sl bg gu false))]
def Oy:List dX:=[.one (.bool)]
def af7:bD Hz→Prop×bI Oy:=fun (a,b,())=>(True,decide (a=b),())
def AU:gq:=dS Hz Oy af7
def Dj:List bZ:=[.v (.agg [.sl aK dR false, .sl aW iU false, .int .i64, .sl bg gu false]), .v (.agg [.sl aK dR false, .sl aW iU false, .int .i64, .sl bg gu false])]
def IB:List dX:=[.one (.bool)]
def YO:bD Dj→Prop×bI IB:=fun (a,b,())=>(True,decide (a=b),())
def lM:gq:=dS Dj IB YO
def Ey:List bZ:=[.v (.agg [.int .i64, .sl aK dR false, .sl aW iU false, .int .i64, .sl bg gu false, .int .i64]), .v (.agg [.int .i64, .sl aK dR false, .sl aW iU false, .int .i64, .sl bg gu false, .int .i64])]
def JJ:List dX:=[.one (.bool)]
def aas:bD Ey→Prop×bI JJ:=fun (a,b,())=>(True,decide (a=b),())
def wY:gq:=dS Ey JJ aas
def Dk:List bZ:=[.v (.one (.sl bY vV false)), .v (.one (.sl bY vV false))]
def IC:List dX:=[.one (.bool)]
def YP:bD Dk→Prop×bI IC:=fun (a,b,())=>(True,decide (a=b),())
def vN:gq:=dS Dk IC YP
def Ah:List bZ:=[.v (.one (.sl dZ qB false))]
def FV:List dX:=[.one (.bool)]
def UW:bD Ah→Prop×bI FV:=fun (_,())=>(True,true,())
def FW:gq:=dS Ah FV UW
def ak0:aN:=aQ []
def aiD:aN:=aQ []
def af8:aN:=aQ [(Bh, .eff (aj uV) Cm)]
def aiE:aN:=aQ [(aS, .eff (aj aJ) aI)]
def aiF:aN:=aQ [(aS, .eff (aj aJ) aI)]
def acK:aN:=aQ [(aS, .eff (aj aJ) aI)]
def af9:aN:=aQ []
def aiG:aN:=aQ [(dN, .eff (aj dm) dD)]
def ak1:aN:=aQ [(dN, .eff (aj dm) dD),(tK, .eff (aj nP) sQ),(aS, .eff (aj aJ) aI),(qK, .eff (aj lQ) rq)]
def aga:aN:=aQ [(gZ, .pure gQ),(dN, .eff (aj dm) dD),(lg, .pure kK),(aS, .eff (aj aJ) aI)]
def ak2:aN:=aQ [(dN, .eff (aj dm) dD),(dP, .eff (aj dn) dI),(aS, .eff (aj aJ) aI),(zD, .eff (aj sS) Au)]
def agb:aN:=aQ []
def aat:aN:=aQ []
def alZ:aN:=aQ []
def ak3:aN:=aQ []
def aiH:aN:=aQ [(fC, .pure dV)]
def Wu:aN:=aQ [(tN, .pure sU)]
def Wv:aN:=aQ [(fF, .pure eu)]
def YQ:aN:=aQ [(iI, .pure iM),(fC, .pure dV)]
def YR:aN:=aQ [(iJ, .pure iO),(fF, .pure eu)]
def Uc:aN:=aQ [(tN, .pure sU)]
def Ud:aN:=aQ []
def ael:aN:=aQ []
def aem:aN:=aQ []
def Wx:aN:=aQ [(fC, .pure dV),(jy, .pure jG)]
def Wy:aN:=aQ [(jA, .pure jH)]
def WA:aN:=aQ [(yt, .pure zl),(kR, .pure lF)]
def WB:aN:=aQ [(yu, .pure zn),(kS, .pure lG)]
def aau:aN:=aQ [(fC, .pure dV),(jY, .pure kD),(qL, .pure uo)]
def aav:aN:=aQ [(jZ, .pure kE),(DF, .pure EC),(fF, .pure eu),(qM, .pure uq)]
def YS:aN:=aQ [(fC, .pure dV),(jY, .pure kD),(lY, .pure mQ)]
def YT:aN:=aQ [(fF, .pure eu),(jZ, .pure kE),(uz, .pure wJ)]
def acL:aN:=aQ []
def aen:aN:=aQ []
def agc:aN:=aQ [(yw, .pure zo)]
def aeo:aN:=aQ [(zF, .pure Aw)]
def aep:aN:=aQ [(yx, .pure zq),(wB, .pure yN)]
def aiI:aN:=aQ []
def agd:aN:=aQ [(lZ, .pure oV)]
def ak4:aN:=aQ [(fF, .pure eu)]
def agf:aN:=aQ []
def OJ:aN:=aQ []
def Qc:aN:=aQ []
def aiJ:aN:=aQ []
def aiK:aN:=aQ [(gZ, .pure gQ),(dN, .eff (aj dm) dD),(tV, .eff (aj nS) sW),(lg, .pure kK),(jJ, .eff (aj iW) jr),(aS, .eff (aj aJ) aI)]
def ak5:aN:=aQ [(tV, .eff (aj nS) sW),(gZ, .pure gQ),(vW, .eff (aj pK) uX),(tK, .eff (aj nP) sQ),(dP, .eff (aj dn) dI),(ni, .eff (aj jO) lS),(aS, .eff (aj aJ) aI)]
def agh:aN:=aQ []
def aiL:aN:=aQ [(tX, .pure sV)]
def acM:aN:=aQ [(lY, .pure mQ),(jb, .pure jd),(tX, .pure sV),(ny, .eff (aj jP) lT)]
def acN:aN:=aQ [(jb, .pure jd),(zG, .pure AA),(ny, .eff (aj jP) lT)]
def agi:aN:=aQ [(wC, .eff (aj pR) yO),(jJ, .eff (aj iW) jr),(nJ, .eff (aj jS) oD),(ni, .eff (aj jO) lS),(aS, .eff (aj aJ) aI),(zH, .eff (aj sZ) AB),(qK, .eff (aj lQ) rq)]
def ak6:aN:=aQ [(nJ, .eff (aj jS) oD),(ni, .eff (aj jO) lS),(DI, .eff (aj xI) Ez),(DJ, .eff (aj xJ) ED),(dP, .eff (aj dn) dI),(aS, .eff (aj aJ) aI),(qN, .eff (aj lU) ru)]
def aoi:aN:=aQ []
def aer:aN:=aQ [(zI, .pure Az)]
def aes:aN:=aQ [(yA, .eff (aj rC) zx),(lq, .pure nR)]
def acO:aN:=aQ [(dN, .eff (aj dm) dD)]
def aiM:aN:=aQ [(wE, .eff (aj pU) yP),(gZ, .pure gQ),(lg, .pure kK),(dN, .eff (aj dm) dD),(aS, .eff (aj aJ) aI)]
def WC [TS]:aN:=aQ [(yT, .eff (aj qE) Bg),(aS, .eff (aj aJ) aI),(tY, .eff (aj nT) tq),(jJ, .eff (aj iW) jr)]
def aaw:aN:=aQ [(oJ, .eff (aj jX) pV),(aS, .eff (aj aJ) aI)]
def OL:aN:=aQ [(oJ, .eff (aj jX) pV),(aS, .eff (aj aJ) aI)]
def ak7:aN:=aQ [(vW, .eff (aj pK) uX),(tY, .eff (aj nT) tq),(dN, .eff (aj dm) dD),(dP, .eff (aj dn) dI),(aS, .eff (aj aJ) aI),(uD, .eff (aj oG) wM)]
def aiN:aN:=aQ [(iK, .eff (aj gy) je),(aS, .eff (aj aJ) aI)]
def ak8:aN:=aQ [(iK, .eff (aj gy) je),(DK, .eff (aj xM) EG),(dN, .eff (aj dm) dD),(aS, .eff (aj aJ) aI),(tZ, .eff (aj nU) tu)]
def aiO:aN:=aQ [(kT, .pure lJ),(tZ, .eff (aj nU) tu)]
def agj:aN:=aQ [(Bj, .eff (aj ve) CP),(qN, .eff (aj lU) ru)]
def ak9:aN:=aQ [(DL, .eff (aj xO) EH),(DN, .eff (aj xK) EF),(aS, .eff (aj aJ) aI),(qO, .eff (aj lV) rE)]
def aiP:aN:=aQ [(wF, .eff (aj qg) yS),(jJ, .eff (aj iW) jr),(ku, .eff (aj jg) kG),(qO, .eff (aj lV) rE),(aS, .eff (aj aJ) aI)]
def ala:aN:=aQ [(vX, .eff (aj pW) vg),(dP, .eff (aj dn) dI),(aS, .eff (aj aJ) aI),(Bl, .eff (aj vw) CQ)]
def acP:aN:=aQ [(dP, .eff (aj dn) dI)]
def Qd:aN:=aQ [(vX, .eff (aj pW) vg),(dP, .eff (aj dn) dI),(vY, .eff (aj pX) vz),(vZ, .eff (aj sO) uU)]
def Ue:aN:=aQ [(wG, .eff (aj pY) yQ),(vY, .eff (aj pX) vz),(vZ, .eff (aj sO) uU)]
def aax:aN:=aQ [(iI, .pure iM),(kR, .pure lF),(jy, .pure jG),(fC, .pure dV)]
def aay:aN:=aQ [(iJ, .pure iO),(fF, .pure eu),(kS, .pure lG),(jA, .pure jH)]
def Uf:aN:=aQ []
def Ug:aN:=aQ []
def YU:aN:=aQ [(fC, .pure dV),(oL, .pure qG),(uF, .pure wP)]
def YV:aN:=aQ [(fF, .pure eu),(oM, .pure qH),(uG, .pure wQ)]
def aaz:aN:=aQ [(kU, .pure lH),(iI, .pure iM)]
def aaA:aN:=aQ [(kV, .pure lI),(iJ, .pure iO)]
def agk:aN:=aQ []
def YW:aN:=aQ [(kU, .pure lH)]
def YX:aN:=aQ [(kV, .pure lI)]
def aeu:aN:=aQ [(AX, .eff (aj qc) yR),(zJ, .pure AL),(rW, .pure vF)]
def YZ:aN:=aQ [(pF, .eff (aj kL) qf)]
def Y0:aN:=aQ [(pF, .eff (aj kL) qf)]
def alb:aN:=aQ []
def agl:aN:=aQ [(DR, .pure EI),(fC, .pure dV),(rX, .pure vC)]
def Y3:aN:=aQ [(qP, .eff (aj lX) rF)]
def Y4:aN:=aQ [(qP, .eff (aj lX) rF)]
def aiQ:aN:=aQ []
def BX:aN:=aQ [(uf, .pure tC)]
def al0:aN:=aQ [(fP, .pure ig),(uf, .pure tC)]
def agm:aN:=aQ []
def aaB:aN:=aQ [(Fe, .pure FN)]
def alc:aN:=aQ [(rY, .eff (aj mW) vH),(uH, .pure wU),(rZ, .eff (aj mV) vG),(uI, .pure wS)]
def Y5:aN:=aQ [(DT, .eff (aj xP) EJ)]
def agn:aN:=aQ [(su, .eff (aj mY) vJ),(zK, .pure AO),(sD, .eff (aj mX) vI)]
def aiR:aN:=aQ []
def ald:aN:=aQ [(Bo, .pure CY),(zL, .eff (aj tH) AP),(uJ, .pure wR)]
def Y6:aN:=aQ [(DU, .eff (aj xQ) EK)]
def Qe:aN:=aQ []
def aiS:aN:=aQ [(l9, .pure oZ)]
def agp:aN:=aQ [(Bq, .pure C9)]
def aiT:aN:=aQ []
def Y7:aN:=aQ [(zM, .pure AQ),(yB, .eff (aj rD) zy)]
def agq:aN:=aQ [(Bv, .pure Dc),(ny, .eff (aj jP) lT)]
def Y8:aN:=aQ [(jc, .eff (aj gV) jf)]
def aiU:aN:=aQ [(lC, .eff (aj jw) kM)]
def Uh:aN:=aQ [(sF, .pure vK),(sG, .pure uY)]
def Ui:aN:=aQ [(kT, .pure lJ),(jb, .pure jd)]
def Rl:aN:=aQ [(oN, .pure qI),(fF, .pure eu)]
def Rn:aN:=aQ [(oO, .pure qJ),(fC, .pure dV)]
def aaC:aN:=aQ []
def xU:aN:=aQ [(mg, .pure ng)]
def aev:aN:=aQ [(dW, .pure fK),(mg, .pure ng)]
def agr:aN:=aQ []
def WE:aN:=aQ [(jk, .pure jD),(jc, .eff (aj gV) jf),(sH, .eff (aj mZ) vM)]
def WG:aN:=aQ [(jl, .pure jE),(lC, .eff (aj jw) kM),(ug, .eff (aj nV) tJ)]
def acQ:aN:=aQ [(jl, .pure jE),(qQ, .pure rG),(ug, .eff (aj nV) tJ)]
def aaD:aN:=aQ [(jc, .eff (aj gV) jf),(yC, .pure zB)]
def aaE:aN:=aQ [(lC, .eff (aj jw) kM),(qQ, .pure rG)]
def aew:aN:=aQ []
def aiV:aN:=aQ [(yD, .pure zC)]
def ags:aN:=aQ [(Bz, .pure Di)]
def Y9:aN:=aQ [(zN, .pure AU),(yE, .pure zu)]
def aaF:aN:=aQ [(kW, .pure lM)]
def Za:aN:=aQ [(uK, .pure wY)]
def UX:aN:=aQ [(jk, .pure jD),(kW, .pure lM),(sJ, .pure vN),(uM, .eff (aj oI) wX),(uN, .eff (aj oH) wW),(oP, .eff (aj jW) qF),(ku, .eff (aj jg) kG),(qR, .eff (aj lK) uw),(mr, .eff (aj jC) oW),(JK, .pure Jp)]
end
end Go.Proofs.Tryz
