import Derived.Test.YtflpicdbkomglaaGreatDoorN
import Derived.Test.YtflpicdbkomglaaGreatDoorSp
namespace Go.Proofs.Tryz
open Go Go.Fw Sp
abbrev dK:=List UInt8
abbrev dA:=dK×Unit
abbrev Ty0:=dK×Int×Int×dA
abbrev iG:=Int×Unit
abbrev jl:=List iG
abbrev wo:=jl×Int×iG
abbrev gW:=wo×Unit
abbrev kS:=List Ty0
abbrev Vh:=Int×Int×Int×Ty0
abbrev kF:=List Vh
abbrev Au:=kF×Unit
abbrev Cj:=Int×Int×Int×Bool×Int×kS×Int×dK×Au
abbrev Yy:=Int×Int×Bool×Int×kS×Unit
abbrev zl:=Yy×Unit
abbrev fG:=Bool×Unit
abbrev aew:=Int×Int×List Cj×dK×iG
abbrev Dj:=aew×Unit
abbrev kH:=Unit×Unit
abbrev Nz:=Int×Int×Bool×Int×kH
abbrev Qs:=Unit×wo×Nz×kS×Unit
abbrev Vj:=Int×Int×Unit×dK×iG
abbrev dN:=iG×gW
abbrev fB:=fG×Unit
abbrev Aw:=(Int×Int×dA)×Unit
abbrev Az:=Au×gW
abbrev jF:=dA×gW
abbrev aex:=(Int×Int×Int×Bool×Int×Unit×Int×dK×kH)×Unit
abbrev lN:=List dA
abbrev Gn:=Cj×Unit
abbrev Gp:=Gn×gW
abbrev qH:=iG×Unit
abbrev Dk:=lN×Unit
abbrev Vk:=(kF×iG)×Unit
abbrev Gq:=Vj×Unit
abbrev KC:=jl×Unit
abbrev KD:=Vh×Unit
class kJ where n:Nat
abbrev gQ[kJ]:Nat:=kJ.n
noncomputable section
def qI:QA:=⟨76,[.p (.v (.one (.sl dH jR false)))],[.sl dH jR false,.int .i64,.int .i64],λ((code,()):KC)=>(code.length<=1048576,λ(z:wo)=>z.2.1=0)⟩
def zO:XA:=⟨140,[.ptr [.sl dH jR false,.int .i64,.int .i64]],[.one (.c (.int .i64))],λ(((_,i,_,()),()):gW)=>(0<=i,λ(z:dN)=>0<=z.2.1.2.1/\0<=z.1.1/\z.1.1<=255)⟩
def bT:XA:=⟨78,[.ptr [.sl dH jR false,.int .i64,.int .i64],.p (.v (.one (.int .i64)))],[.one (.c (.int .i64))],λ(((_,i,_,()),n,()):wo×iG)=>(0<=i,λ(z:dN)=>0<=z.2.1.2.1/\0<=z.1.1/\(0<n->z.1.1<n)/\(n<=0->z.1.1=0))⟩
def kK:XA:=⟨84,[.ptr [.sl dH jR false,.int .i64,.int .i64],.p (.v (.one (.int .i64)))],[.one (.c .bool)],λ(((_,i,_,()),_,()):wo×iG)=>(0<=i,λ(z:fG×gW)=>0<=z.2.1.2.1)⟩
def dY:XA:=⟨83,[.ptr [.sl dH jR false,.int .i64,.int .i64],.p (.v (.one (.sl eu iw false)))],[.one (.c .str)],λ(((_,i,_,()),list,()):wo×Dk)=>(0<=i/\list≠[],λ(z:jF)=>0<=z.2.1.2.1/\(z.1.1,())∈list)⟩
def gm:XA:=⟨79,[.ptr [.sl dH jR false,.int .i64,.int .i64],.p (.v (.one (.sl Tf R_3 false)))],[.one (.c (.int .i64))],λ(((_,i,_,()),list,()):wo×KC)=>(0<=i/\list≠[],λ(z:dN)=>0<=z.2.1.2.1/\(z.1.1,())∈list)⟩
def zQ:XA:=⟨142,[.ptr [.sl dH jR false,.int .i64,.int .i64]],[.one (.c .str)],λ(((_,i,_,()),()):gW)=>(0<=i,λ(z:jF)=>0<=z.2.1.2.1/\z.1.1.length<=1)⟩
def yY:XA:=⟨176,[.ptr [.sl dH jR false,.int .i64,.int .i64]],[.agg [.c (.int .i64),.c (.int .i64),.c .str]],λ(((_,i,_,()),()):gW)=>(0<=i,λ(z:Aw×gW)=>0<=z.2.1.2.1/\z.1.1.2.2.1.length<=10)⟩
def yg:XA:=⟨143,[.ptr [.sl dH jR false,.int .i64,.int .i64]],[.agg [.c (.int .i64),.c (.int .i64),.c .str]],λ(((_,i,_,()),()):gW)=>(0<=i,λ(z:Aw×gW)=>0<=z.2.1.2.1/\z.1.1.2.2.1.length<=10)⟩
def nK:PA:=⟨169,[.v (.one (.int .i64))],[.agg [.int .i64,.int .i64,.str]],λ((n,()):iG)=>(True,(1,n,[],()),())⟩
def jc:PA:=⟨145,[.v (.one (.str))],[.agg [.int .i64,.int .i64,.str]],λ((w,()):dA)=>(True,(2,0,w,()),())⟩
def iF:PA:=⟨38,[.v (.one (.int .i64)),.v (.one (.int .i64)),.v (.one (.int .i64))],[.one (.bool)],λ((x,a,b,()):Int×Int×iG)=>(True,(decide (a<=x)&&decide (x<=b)),())⟩
def jw:PA:=⟨115,[.v (.one (.int .i64)),.v (.one (.int .i64)),.v (.one (.int .i64))],[.one (.bool)],λ((x,a,b,()):Int×Int×iG)=>(True,(decide (a<=x)&&decide (x<=b)),())⟩
def wu:PA:=⟨105,[.v (.one (.str)),.v (.one (.int .i64))],[.one (.bool)],λ((s,m,()):dK×iG)=>(True,(Sp.lower s&&decide (1<=(s.length:Int))&&decide ((s.length:Int)<=m)),())⟩
def jm:PA:=⟨39,[.v (.one (.str))],[.one (.bool)],λ((s,()):dA)=>(True,au s,())⟩
def jo:PA:=⟨50,[.v (.one (.str))],[.one (.bool)],λ((s,()):dA)=>(True,au s,())⟩
def jG:PA:=⟨102,[.v (.agg [.int .i64,.int .i64,.str])],[.one (.bool)],λ(((k,n,s,()),()):Aw)=>(True,aZ k n s,())⟩
def jH:PA:=⟨57,[.v (.agg [.int .i64,.int .i64,.str])],[.one (.bool)],λ(((k,n,s,()),()):Aw)=>(True,aZ k n s,())⟩
def lQ:PA:=⟨101,[.v (.one (.str))],[.one (.bool)],λ((s,()):dA)=>(True,eF s,())⟩
def lS:PA:=⟨56,[.v (.one (.str))],[.one (.bool)],λ((s,()):dA)=>(True,eF s,())⟩
def xq:PA:=⟨151,[.v (.one (.sl bC jy false)),.v (.one (.sl bC jy false))],[.one (.bool)],λ((a,b,()):kS×kS×Unit)=>(True,decide (a=b),())⟩
def yZ:PA:=⟨89,[.v (.agg [.int .i64,.int .i64,.bool,.int .i64,.sl bC jy false]),.v (.agg [.int .i64,.int .i64,.bool,.int .i64,.sl bC jy false])],[.one (.bool)],λ((a,b,()):Yy×zl)=>(True,decide (a=b),())⟩
def wz:XA:=⟨144,[.p (.v (.agg [.int .i64,.int .i64,.bool,.int .i64,.sl bC jy false])),.p (.v (.one (.str))),.p (.v (.agg [.int .i64,.int .i64,.str]))],[.agg [.c (.int .i64),.c (.int .i64),.c .bool,.c (.int .i64),.own bC jy true]],λ(((i,o,s,l,a,()),name,(k,n,w,()),()):Yy×dK×Aw)=>(a.length<=1000,λ(z:zl×Unit)=>z.1.1.1=i/\z.1.1.2.1=o/\z.1.1.2.2.1=s/\z.1.1.2.2.2.1=l/\z.1.1.2.2.2.2.1=iT a name k n w)⟩
def rV:XA:=⟨141,[.ptr [.sl dH jR false,.int .i64,.int .i64],.p (.v (.one (.int .i64)))],[.agg [.c (.int .i64),.c (.int .i64),.c .bool,.c (.int .i64),.own bC jy true]],λ(((_,i,_,()),id,()):wo×iG)=>(0<=i,λ(z:zl×gW)=>0<=z.2.1.2.1/\z.1.1.1=id/\0<=z.1.1.2.1/\z.1.1.2.1<=2/\0<=z.1.1.2.2.2.1/\z.1.1.2.2.2.1<=6/\oW Sp.usual z.1.1.2.2.2.2.1=true/\z.1.1.2.2.2.2.1.length<=4)⟩
def GY:PA:=⟨16,[.v (.one (.sl dH jR false))],[.one (.bool)],λ((code,()):KC)=>(True,decide (1048576<(code.length:Int)),())⟩
def vK:XA:=⟨178,[.ptr [.sl dH jR false,.int .i64,.int .i64]],[.one (.c .str)],λ(((_,i,_,()),()):gW)=>(0<=i,λ(z:jF)=>0<=z.2.1.2.1/\z.1.1.length<=10)⟩
def rW:XA:=⟨147,[.ptr [.sl dH jR false,.int .i64,.int .i64]],[.agg [.c (.int .i64),.c (.int .i64),.c (.int .i64),.c .str,.c (.int .i64),.c (.int .i64),.c .str]],λ(((_,i,_,()),()):gW)=>(0<=i,λ(z:KD×gW)=>0<=z.2.1.2.1/\True)⟩
def Dl:List iy:=[.ptr [.sl dH jR false,.int .i64,.int .i64],.own aF bM,.p (.v (.one (.int .i64))),.p (.v (.one (.bool)))]
def Ij:List oM:=[.one (.own aF bM false)]
def Lm:jq Dl->Prop×(kY Ij×kL Dl->Prop):=λ((_,i,_,()),q,deep,_,())=>(0<=i/\0<=deep/\deep<=4/\q.length+2*deep.toNat<=900,λ((r,()),((_,i',_,()),()))=>0<=i'/\q.length<r.length/\r.length<=q.length+2*deep.toNat+1)
def Vl:Dn:=pU Dl Ij Lm
def nM:List iy:=[.ptr [.sl dH jR false,.int .i64,.int .i64],.own aF bM,.p (.v (.one (.int .i64))),.p (.v (.one (.bool)))]
def Cm:List oM:=[.one (.own aF bM false)]
def Eh[kJ]:jq nM->Prop×(kY Cm×kL nM->Prop):=λ((_,i,_,()),q,deep,_,())=>((0<=i/\0<=deep/\deep<=4/\q.length+2*deep.toNat<=900)/\deep.toNat<gQ,λ((r,()),((_,i',_,()),()))=>0<=i'/\q.length<r.length/\r.length<=q.length+2*deep.toNat+1)
def wB[kJ]:Dn:=pU nM Cm Eh
def ql:List iy:=[.ptr [.sl dH jR false,.int .i64,.int .i64],.own aF bM,.p (.v (.one (.int .i64))),.p (.v (.one (.bool)))]
def AQ:List oM:=[.one (.own aF bM false)]
def qX[kJ]:jq ql->Prop×(kY AQ×kL ql->Prop):=λ((_,i,_,()),q,deep,_,())=>((0<=i/\0<=deep/\deep<=4/\q.length+2*deep.toNat<=900)/\deep.toNat<gQ+1,λ((r,()),((_,i',_,()),()))=>0<=i'/\q.length<r.length/\r.length<=q.length+2*deep.toNat+1)
def AU[kJ]:Dn:=pU ql AQ qX
def qY:List iy:=[.ptr [.sl dH jR false,.int .i64,.int .i64],.p (.v (.one .nil)),.p (.v (.one (.int .i64))),.p (.v (.one (.bool)))]
def CB:List oM:=[.one (.own aF bM false)]
def Ei:jq qY->Prop×(kY CB×kL qY->Prop):=λ((_,i,_,()),(),deep,_,())=>(0<=i/\0<=deep/\deep<=4,λ((r,()),((_,i',_,()),()))=>0<=i'/\0<r.length/\r.length<=0+2*deep.toNat+1)
def CG:Dn:=pU qY CB Ei
def pV:XA:=⟨146,[.ptr [.sl dH jR false,.int .i64,.int .i64]],[.one (.own aF bM false)],λ(((_,i,_,()),()):gW)=>(0<=i,λ(z:Az)=>0<=z.2.1.2.1/\0<z.1.1.length/\z.1.1.length<=9)⟩
def BD:XA:=⟨82,[.ptr [.sl dH jR false,.int .i64,.int .i64]],[.one (.c (.sl aF bM false))],λ(((_,i,_,()),()):gW)=>(0<=i,λ(z:Az)=>0<=z.2.1.2.1/\z.1.1.length<=10)⟩
def uy:PA:=⟨106,[.v (.agg [.int .i64,.int .i64,.int .i64,.str,.int .i64,.int .i64,.str]),.v (.one (.int .i64))],[.one (.bool)],λ(((o,l,r,nm,vk,vi,vs,()),at',()):Vh×iG)=>(True,dZ (o,l,r,nm,vk,vi,vs,()) at',())⟩
def uz:PA:=⟨116,[.v (.agg [.int .i64,.int .i64,.int .i64,.str,.int .i64,.int .i64,.str]),.v (.one (.int .i64))],[.one (.bool)],λ(((o,l,r,nm,vk,vi,vs,()),at',()):Vh×iG)=>(True,dZ (o,l,r,nm,vk,vi,vs,()) at',())⟩
def pF:PA:=⟨107,[.v (.one (.sl aF bM false)),.v (.one (.int .i64))],[.one (.int .i64)],λ((q,at',()):kF×iG)=>(q.length<=2000000,(kZ q at':Int),())⟩
def pG:PA:=⟨117,[.v (.one (.sl aF bM false)),.v (.one (.int .i64))],[.one (.int .i64)],λ((q,at',()):kF×iG)=>(q.length<=2000000,(kZ q at':Int),())⟩
def oN:PA:=⟨40,[.v (.one (.sl aF bM false))],[.one (.bool)],λ((q,()):Au)=>(q.length<=2000000,aH q,())⟩
def iO:PA:=⟨51,[.v (.one (.sl aF bM false))],[.one (.bool)],λ((q,()):Au)=>(q.length<=2000000,aH q,())⟩
def xu:PA:=⟨152,[.v (.one (.sl aF bM false)),.v (.one (.sl aF bM false))],[.one (.bool)],λ((a,b,()):kF×Au)=>(True,decide (a=b),())⟩
def zS:PA:=⟨90,[.v (.agg [.str,.sl aF bM false]),.v (.agg [.str,.sl aF bM false])],[.one (.bool)],λ((a,b,()):(dK×Au)×(dK×Au)×Unit)=>(True,decide (a=b),())⟩
def vM:PA:=⟨54,[.v (.agg [.int .i64,.int .i64,.bool,.int .i64,.sl bC jy false]),.v (.agg [.int .i64,.int .i64,.bool,.int .i64,.sl bC jy false])],[.one (.bool)],λ((a,b,()):Yy×zl)=>(True,decide (a=b),())⟩
def nN:PA:=⟨119,[.v (.one (.sl bC jy false)),.v (.one (.sl bC jy false))],[.one (.bool)],λ((a,b,()):kS×kS×Unit)=>(True,decide (a=b),())⟩
def nO:PA:=⟨118,[.v (.one (.sl aF bM false)),.v (.one (.sl aF bM false))],[.one (.bool)],λ((a,b,()):kF×Au)=>(True,decide (a=b),())⟩
def tu:PA:=⟨52,[.v (.one (.sl aF bM false)),.v (.one (.sl aF bM false))],[.one (.bool)],λ((a,b,()):kF×Au)=>(True,decide (a=b),())⟩
def zT:XA:=⟨81,[.ptr [.sl dH jR false,.int .i64,.int .i64]],[.one (.c .str)],λ(((_,i,_,()),()):gW)=>(0<=i,λ(z:jF)=>0<=z.2.1.2.1/\z.1.1.length<=10)⟩
def uD:PA:=⟨174,[.v (.one (.str))],[.agg [.int .i64,.int .i64,.str]],λ((w,()):dA)=>(True,(2,0,w,()),())⟩
def zU:XA:=⟨149,[.ptr [.sl dH jR false,.int .i64,.int .i64]],[.one (.c (.int .i64))],λ(((_,i,_,()),()):gW)=>(0<=i,λ(z:dN)=>0<=z.2.1.2.1)⟩
def Dp:List iq:=[.v (.one (.int .i64))]
def Ik:List oq:=[.one (.str)]
def Yz:ja Dp->Prop×nG Ik:=λ(n,())=>(-9223372036854775808<=n/\n<=9223372036854775807,Lib.itoa n,())
def BR:Fp:=lT Dp Ik Yz
def Dq:List iq:=[.v (.one (.sl eu iw false)),.v (.one (.str))]
def Il:List oq:=[.one (.str)]
def YA:ja Dq->Prop×nG Il:=λ(l,sep,())=>(l.length<=140737488355328/\(Lib.join (l.map (·.1)) sep).length<=140737488355328,Lib.join (l.map (·.1)) sep,())
def jT:Fp:=lT Dq Il YA
def BU:List iq:=[.v (.one (.str)),.v (.one (.str))]
def GI:List oq:=[.one (.sl eu iw true)]
def Wp:ja BU->Prop×nG GI:=λ(s,sep,())=>(s.length<=4294960000/\(sep=[32]\/sep=[10]),Sp.pieces (sep.getD 0 0) s,())
def AA:Fp:=lT BU GI Wp
def AB:List iq:=[.v (.one (.str))]
def Fq:List oq:=[.one (.sl eu iw true)]
def Vm:ja AB->Prop×nG Fq:=λ(s,())=>(s.length<=1048576/\jU s=true,Sp.wordsOf s,())
def uF:Fp:=lT AB Fq Vm
def AL:List iq:=[.v (.one (.str))]
def Fv:List oq:=[.one (.int .i64),.one (.bool)]
def Vo:ja AL->Prop×nG Fv:=λ(s,())=>(True,Sp.parseNum s,aN s,())
def pW:Fp:=lT AL Fv Vo
def sF:PA:=⟨128,[.v (.one (.str))],[.one (.int .i64),.one (.bool)],λ((s,()):dA)=>(True,Sp.parseNum s,aN s,())⟩
def mD:PA:=⟨48,[.v (.one (.int .i64))],[.one (.str)],λ((n,()):iG)=>(True,Lib.itoa n,())⟩
def xw:PA:=⟨104,[.v (.one (.int .i64))],[.one (.int .u8)],λ((x,()):iG)=>(0<=x/\x<10,48+x,())⟩
def jV:PA:=⟨37,[.v (.one (.int .i64))],[.one (.str)],λ((n,()):iG)=>(True,Lib.itoa n,())⟩
def mP:PA:=⟨61,[.v (.one (.str))],[.one (.sl eu iw true),.one (.bool)],λ((s,()):dA)=>(s.length<=1048576,ai s,bW s,())⟩
def jd:PA:=⟨66,[.v (.one (.str))],[.one (.sl eu iw true),.one (.bool)],λ((s,()):dA)=>(s.length<=1048576,ai s,bW s,())⟩
def mQ:PA:=⟨88,[.v (.one (.sl eu iw false)),.v (.one (.int .i64))],[.one (.str)],λ((w,i,()):lN×iG)=>(0<=i,Sp.wordAt w i,())⟩
def tZ:PA:=⟨69,[.v (.one (.sl eu iw false)),.v (.one (.int .i64))],[.one (.str)],λ((w,i,()):lN×iG)=>(0<=i,Sp.wordAt w i,())⟩
def uf:PA:=⟨63,[.v (.one (.sl eu iw false)),.v (.one (.int .i64))],[.one (.int .i64)],λ((w,i,()):lN×iG)=>(0<=i,Sp.numAt w i,())⟩
def uG:PA:=⟨68,[.v (.one (.sl eu iw false)),.v (.one (.int .i64))],[.one (.int .i64),.one (.bool)],λ((w,i,()):lN×iG)=>(0<=i,Sp.numAt w i,aN (Sp.wordAt w i),())⟩
def rX:PA:=⟨65,[.v (.one (.sl eu iw false))],[.one (.str)],λ((w,()):Dk)=>(w.length<=1000/\(dL w).length<=2097152,dL w,())⟩
def qm:PA:=⟨134,[.v (.one (.sl eu iw false)),.v (.one (.sl eu iw false))],[.one (.bool)],λ((a,b,()):lN×Dk)=>(True,decide (a=b),())⟩
def qO:PA:=⟨71,[.v (.one (.str)),.v (.one (.sl eu iw false))],[.one (.bool)],λ((s,w,()):dK×Dk)=>(s.length<=1048576/\jU s=true,(!(s==[])&&decide (Sp.wordsOf s=w)),())⟩
def vN:PA:=⟨100,[.v (.agg [.int .i64,.int .i64,.bool,.int .i64,.sl bC jy false]),.v (.agg [.int .i64,.int .i64,.bool,.int .i64,.sl bC jy false])],[.one (.bool)],λ((a,b,()):Yy×zl)=>(True,decide (a=b),())⟩
def tC:PA:=⟨41,[.v (.one (.sl aF bM false)),.v (.one (.sl aF bM false))],[.one (.bool)],λ((a,b,()):kF×Au)=>(True,decide (a=b),())⟩
def mV:PA:=⟨112,[.v (.agg [.int .i64,.int .i64,.str])],[.one (.str)],λ(((k,n,s,()),()):Aw)=>(True,bn (k,n,s,()),())⟩
def jW:PA:=⟨103,[.v (.agg [.int .i64,.int .i64,.str])],[.one (.str)],λ(((k,n,s,()),()):Aw)=>(True,bn (k,n,s,()),())⟩
def kT:PA:=⟨132,[.v (.one (.str))],[.agg [.int .i64,.int .i64,.str],.one (.bool)],λ((s,()):dA)=>(s.length<=1048576,(aY s).1,(aY s).2,())⟩
def nZ:PA:=⟨127,[.v (.one (.str))],[.agg [.int .i64,.int .i64,.str],.one (.bool)],λ((s,()):dA)=>(s.length<=1048576,(aY s).1,(aY s).2,())⟩
def jX:PA:=⟨163,[.v (.one (.int .i64))],[.one (.str)],λ((op,()):iG)=>(True,dW op,())⟩
def mF:PA:=⟨156,[.v (.one (.int .i64))],[.one (.str)],λ((op,()):iG)=>(True,dW op,())⟩
def GK:List iq:=[.v (.one (.sl aF bM false)),.v (.one (.int .i64))]
def Fz:List oq:=[.one (.str)]
def Vp:ja GK->Prop×nG Fz:=λ(q,at',())=>(aH q=true/\0<=at'/\at'<q.length,Lib.join (bf (at'.toNat+1) q at') [32],())
def FB:Fp:=lT GK Fz Vp
def AX:List iq:=[.v (.one (.sl aF bM false)),.v (.one (.int .i64))]
def Ap:List oq:=[.one (.str)]
def CJ[kJ]:ja AX->Prop×nG Ap:=λ(q,at',())=>((aH q=true/\0<=at'/\at'<q.length)/\at'.toNat<gQ,Lib.join (bf (at'.toNat+1) q at') [32],())
def tX[kJ]:Fp:=lT AX Ap CJ
def tY:List iq:=[.v (.one (.sl aF bM false)),.v (.one (.int .i64))]
def zn:List oq:=[.one (.str)]
def AY[kJ]:ja tY->Prop×nG zn:=λ(q,at',())=>((aH q=true/\0<=at'/\at'<q.length)/\at'.toNat<gQ+1,Lib.join (bf (at'.toNat+1) q at') [32],())
def zo[kJ]:Fp:=lT tY zn AY
def JM:List iq:=[.v (.one (.sl aF bM false)),.v (.one (.int .i64))]
def Io:List oq:=[.one (.str)]
def YB:ja JM->Prop×nG Io:=λ(q,at',())=>(aH q=true/\0<=at'/\at'<q.length,Lib.join (bf (at'.toNat+1) q at') [32],())
def Ip:Fp:=lT JM Io YB
def Dt:List iq:=[.v (.one (.sl aF bM false)),.v (.one (.int .i64))]
def CO:List oq:=[.one (.str)]
def Ej[kJ]:ja Dt->Prop×nG CO:=λ(q,at',())=>((aH q=true/\0<=at'/\at'<q.length)/\at'.toNat<gQ,Lib.join (bf (at'.toNat+1) q at') [32],())
def wC[kJ]:Fp:=lT Dt CO Ej
def wE:List iq:=[.v (.one (.sl aF bM false)),.v (.one (.int .i64))]
def AZ:List oq:=[.one (.str)]
def Du[kJ]:ja wE->Prop×nG AZ:=λ(q,at',())=>((aH q=true/\0<=at'/\at'<q.length)/\at'.toNat<gQ+1,Lib.join (bf (at'.toNat+1) q at') [32],())
def A7[kJ]:Fp:=lT wE AZ Du
def pX:PA:=⟨49,[.v (.one (.sl aF bM false))],[.one (.str)],λ((q,()):Au)=>(q.length<=2000000,Sp.textOf q,())⟩
def mW:PA:=⟨43,[.v (.one (.sl aF bM false))],[.one (.str)],λ((q,()):Au)=>(q.length<=2000000,Sp.textOf q,())⟩
def y7:List iy:=[.p (.v (.one (.sl eu iw false))),.p (.v (.one (.int .i64))),.own aF bM,.p (.v (.one (.int .i64)))]
def Iq:List oM:=[.one (.own aF bM false),.one (.c (.int .i64))]
def YC:jq y7->Prop×(kY Iq×kL y7->Prop):=λ(p,at',q,deep,())=>(p.length<=1000/\0<=at'/\at'.toNat+3*2 ^ (10-deep).toNat<=1000000/\0<=deep/\deep<=10/\(∀x∈p,x.1.length<=1000)/\q.length<=100,λ((r,k,()),())=>r=(Sp.rs (10-deep).toNat (p.drop at'.toNat) q).1/\k=(Sp.rs (10-deep).toNat (p.drop at'.toNat) q).2)
def Ir:Dn:=pU y7 Iq YC
def nP:List iy:=[.p (.v (.one (.sl eu iw false))),.p (.v (.one (.int .i64))),.own aF bM,.p (.v (.one (.int .i64)))]
def CP:List oM:=[.one (.own aF bM false),.one (.c (.int .i64))]
def Em[kJ]:jq nP->Prop×(kY CP×kL nP->Prop):=λ(p,at',q,deep,())=>((p.length<=1000/\0<=at'/\at'.toNat+3*2 ^ (10-deep).toNat<=1000000/\0<=deep/\deep<=10/\(∀x∈p,x.1.length<=1000)/\q.length<=100)/\(10-deep).toNat<gQ,λ((r,k,()),())=>r=(Sp.rs (10-deep).toNat (p.drop at'.toNat) q).1/\k=(Sp.rs (10-deep).toNat (p.drop at'.toNat) q).2)
def wF[kJ]:Dn:=pU nP CP Em
def qo:List iy:=[.p (.v (.one (.sl eu iw false))),.p (.v (.one (.int .i64))),.own aF bM,.p (.v (.one (.int .i64)))]
def A8:List oM:=[.one (.own aF bM false),.one (.c (.int .i64))]
def qZ[kJ]:jq qo->Prop×(kY A8×kL qo->Prop):=λ(p,at',q,deep,())=>((p.length<=1000/\0<=at'/\at'.toNat+3*2 ^ (10-deep).toNat<=1000000/\0<=deep/\deep<=10/\(∀x∈p,x.1.length<=1000)/\q.length<=100)/\(10-deep).toNat<gQ+1,λ((r,k,()),())=>r=(Sp.rs (10-deep).toNat (p.drop at'.toNat) q).1/\k=(Sp.rs (10-deep).toNat (p.drop at'.toNat) q).2)
def Ba[kJ]:Dn:=pU qo A8 qZ
def zq:List iq:=[.v (.one (.str))]
def En:List oq:=[.one (.sl aF bM true),.one (.bool)]
def Ub:ja zq->Prop×nG En:=λ(s,())=>(s.length<=1048576,fA s,gU s,())
def tH:Fp:=lT zq En Ub
def qP:PA:=⟨64,[.v (.one (.str))],[.one (.sl aF bM false),.one (.bool)],λ((s,()):dA)=>(s.length<=1048576,fA s,gU s,())⟩
def qp:PA:=⟨53,[.v (.one (.sl aF bM false))],[.one (.sl aF bM true)],λ((q,()):Au)=>(q.length<=2000000,fA (Sp.textOf q),())⟩
def qw:PA:=⟨42,[.v (.one (.sl aF bM false))],[.one (.sl aF bM false)],λ((q,()):Au)=>(q.length<=2000000,fA (Sp.textOf q),())⟩
def vO:PA:=⟨47,[.v (.agg [.int .i64,.int .i64,.bool,.int .i64,.sl bC jy false])],[.one (.str)],λ((f,()):zl)=>(f.2.2.2.2.1.length<=1048576/\(cZ f.2.2.2.2.1).length<=1073741824,fH f,())⟩
def zV:PA:=⟨36,[.v (.agg [.int .i64,.int .i64,.bool,.int .i64,.sl bC jy false])],[.one (.str)],λ((f,()):zl)=>(f.2.2.2.2.1.length<=1048576/\(cZ f.2.2.2.2.1).length<=1073741824,Lib.join (bI f) [32],())⟩
def xA:PA:=⟨35,[.v (.agg [.int .i64,.int .i64,.bool,.int .i64,.sl bC jy false])],[.one (.bool)],λ((f,()):zl)=>(f.2.2.2.2.1.length<=1048576,dU f,())⟩
def zW:PA:=⟨34,[.v (.agg [.int .i64,.int .i64,.bool,.int .i64,.sl bC jy false])],[.one (.bool)],λ((f,()):zl)=>(True,decide (f=fO),())⟩
def oO:PA:=⟨10,[.v (.agg [.int .i64,.int .i64,.int .i64,.bool,.int .i64,.sl bC jy false,.int .i64,.str,.sl aF bM false])],[.one (.str)],λ((x,()):Gn)=>(ug x,aI x,())⟩
def lI:PA:=⟨8,[.v (.agg [.int .i64,.int .i64,.int .i64,.bool,.int .i64,.sl bC jy false,.int .i64,.str,.sl aF bM false])],[.one (.str)],λ((x,()):Gn)=>(ug x,aI x,())⟩
def ahu:PA:=⟨11,[.v (.agg [.int .i64,.int .i64,.int .i64,.bool,.int .i64,.sl bC jy false,.int .i64,.str,.sl aF bM false]),.v (.agg [.int .i64,.int .i64,.int .i64,.bool,.int .i64,.sl bC jy false,.int .i64,.str,.sl aF bM false])],[.one (.bool)],λ((a,b,()):Cj×Gn)=>(True,agN a b,())⟩
def lJ:PA:=⟨121,[.v (.one (.int .i64))],[.one (.bool)],λ((n,()):iG)=>(True,!aB n,())⟩
def fZ:PA:=⟨164,[.v (.one (.sl Tf R_3 false)),.fn 121 []],[.one (.int .i64)],λ((l,_,()):jl×kH)=>(True,Sp.idxOf l,())⟩
def fC:PA:=⟨120,[.v (.one (.sl Tf R_3 false)),.fn 121 []],[.one (.bool)],λ((l,_,()):jl×kH)=>(True,!iU l,())⟩
def qQ:PA:=⟨55,[.v (.one (.sl Tf R_3 false))],[.one (.bool)],λ((l,()):KC)=>(True,iU l,())⟩
def zf:PA:=⟨173,[.v (.one (.int .i64))],[.agg [.int .i64,.int .i64,.str]],λ((n,()):iG)=>(True,(1,n,[],()),())⟩
def rq:PA:=⟨91,[.v (.agg [.int .i64,.int .i64,.sl dS yP false,.str,.int .i64])],[.one (.bool)],λ(((k,_,c,_,_,()),()):Dj)=>(True,iC k c.length,())⟩
def ru:PA:=⟨87,[.v (.agg [.int .i64,.int .i64,.sl dS yP false,.str,.int .i64])],[.one (.bool)],λ(((k,_,c,_,_,()),()):Dj)=>(True,iC k c.length,())⟩
def lK:PA:=⟨25,[.v (.agg [.int .i64,.int .i64,.sl dS yP false,.str,.int .i64])],[.one (.str)],λ(((k,u,c,n,a,()),()):Dj)=>(n.length<=1048576,aS k u c.length n a,())⟩
def oP:PA:=⟨20,[.v (.agg [.int .i64,.int .i64,.sl dS yP false,.str,.int .i64])],[.one (.str)],λ(((k,u,c,n,a,()),()):Dj)=>(n.length<=1048576,aS k u c.length n a,())⟩
def uH:PA:=⟨23,[.v (.one (.str))],[.agg [.int .i64,.int .i64,.sl dS yP true,.str,.int .i64],.one (.bool)],λ((s,()):dA)=>(s.length<=1048576,gu s,dR s,())⟩
def uI:PA:=⟨21,[.v (.one (.str))],[.agg [.int .i64,.int .i64,.sl dS yP true,.str,.int .i64],.one (.bool)],λ((s,()):dA)=>(s.length<=1048576,gu s,dR s,())⟩
def BF:PA:=⟨67,[.v (.one (.sl eu iw false))],[.agg [.int .i64,.int .i64,.bool,.int .i64,.sl bC jy true],.one (.bool)],λ((w,()):Dk)=>(w.length<=1000/\(∀x∈w,x.1.length<=1048576),(iP w).1,(iP w).2,())⟩
def zX:PA:=⟨62,[.v (.one (.sl eu iw false)),.v (.one (.int .i64))],[.agg [.int .i64,.int .i64,.bool,.int .i64,.sl bC jy true]],λ((p,id,()):lN×iG)=>(p.length<=1000/\(∀x∈p,x.1.length<=1048576),jr id p,())⟩
def uJ:PA:=⟨13,[.v (.one (.str))],[.agg [.int .i64,.int .i64,.int .i64,.bool,.int .i64,.sl bC jy true,.int .i64,.str,.sl aF bM true],.one (.bool)],λ((s,()):dA)=>(s.length<=1048576,dO s,fP s,())⟩
def uK:PA:=⟨12,[.v (.one (.str))],[.agg [.int .i64,.int .i64,.int .i64,.bool,.int .i64,.sl bC jy false,.int .i64,.str,.sl aF bM false],.one (.bool)],λ((s,()):dA)=>(s.length<=1048576,dO s,fP s,())⟩
def qR:PA:=⟨24,[.v (.agg [.int .i64,.int .i64,.int .i64,.bool,.int .i64,.sl bC jy false,.int .i64,.str,.sl aF bM false]),.v (.agg [.int .i64,.int .i64,.int .i64,.bool,.int .i64,.sl bC jy false,.int .i64,.str,.sl aF bM false])],[.one (.bool)],λ((a,b,()):Cj×Gn)=>(True,decide (a=b),())⟩
def uM:PA:=⟨92,[.v (.one (.sl dS yP false)),.v (.one (.sl dS yP false))],[.one (.bool)],λ((a,b,()):List Cj×List Cj×Unit)=>(True,decide (a=b),())⟩
def vP:PA:=⟨26,[.v (.agg [.int .i64,.int .i64,.sl dS yP false,.str,.int .i64]),.v (.agg [.int .i64,.int .i64,.sl dS yP false,.str,.int .i64])],[.one (.bool)],λ((a,b,()):aew×Dj)=>(True,decide (a=b),())⟩
def uN:XA:=⟨80,[.ptr [.sl dH jR false,.int .i64,.int .i64]],[.agg [.c (.int .i64),.c (.int .i64),.c .bool,.c (.int .i64),.c (.sl bC jy true)]],λ(((_,i,_,()),()):gW)=>(0<=i,λ(z:zl×gW)=>0<=z.2.1.2.1/\zY z.1.1.2.2.2.2.1=true)⟩
def wG:XA:=⟨150,[.ptr [.sl dH jR false,.int .i64,.int .i64],.p (.v (.one (.int .i64)))],[.agg [.c (.int .i64),.c (.int .i64),.c (.int .i64),.c .bool,.c (.int .i64),.c (.sl bC jy false),.c (.int .i64),.c .str,.c (.sl aF bM false)]],λ(((_,i,_,()),_,()):wo×iG)=>(0<=i,λ(z:Gp)=>0<=z.2.1.2.1/\oZ (z.1.1.1,z.1.1.2.1,z.1.1.2.2.1,z.1.1.2.2.2.1,z.1.1.2.2.2.2.1,z.1.1.2.2.2.2.2.1,z.1.1.2.2.2.2.2.2.1,z.1.1.2.2.2.2.2.2.2.1,z.1.1.2.2.2.2.2.2.2.2.1,()))⟩
def zu:XA:=⟨139,[.ptr [.sl dH jR false,.int .i64,.int .i64],.p (.v (.one (.int .i64)))],[.agg [.c (.int .i64),.c (.int .i64),.c (.int .i64),.c .bool,.c (.int .i64),.c (.sl bC jy false),.c (.int .i64),.c .str,.c (.sl aF bM false)]],λ(((_,i,_,()),_,()):wo×iG)=>(0<=i,λ(z:Gp)=>0<=z.2.1.2.1/\oZ (z.1.1.1,z.1.1.2.1,z.1.1.2.2.1,z.1.1.2.2.2.1,z.1.1.2.2.2.2.1,z.1.1.2.2.2.2.2.1,z.1.1.2.2.2.2.2.2.1,z.1.1.2.2.2.2.2.2.2.1,z.1.1.2.2.2.2.2.2.2.2.1,()))⟩
def zx:XA:=⟨77,[.ptr [.sl dH jR false,.int .i64,.int .i64]],[.agg [.c (.int .i64),.c (.int .i64),.c (.int .i64),.c .bool,.c (.int .i64),.c (.sl bC jy false),.c (.int .i64),.c .str,.c (.sl aF bM false)]],λ(((_,i,_,()),()):gW)=>(0<=i,λ(z:Gp)=>0<=z.2.1.2.1/\oZ (z.1.1.1,z.1.1.2.1,z.1.1.2.2.1,z.1.1.2.2.2.1,z.1.1.2.2.2.2.1,z.1.1.2.2.2.2.2.1,z.1.1.2.2.2.2.2.2.1,z.1.1.2.2.2.2.2.2.2.1,z.1.1.2.2.2.2.2.2.2.2.1,()))⟩
def yh:XA:=⟨148,[.ptr [.sl dH jR false,.int .i64,.int .i64]],[.agg [.c (.int .i64),.c (.int .i64),.own dS yP false,.c .str,.c (.int .i64)]],λ(((_,i,_,()),()):gW)=>(0<=i,λ(z:Dj×gW)=>0<=z.2.1.2.1/\z.1.1.2.2.1.length<=2/\z.1.1.2.2.2.1.length<=10)⟩
def BG:XA:=⟨85,[.ptr [.sl dH jR false,.int .i64,.int .i64]],[.agg [.c (.int .i64),.c (.int .i64),.c (.sl dS yP false),.c .str,.c (.int .i64)]],λ(((_,i,_,()),()):gW)=>(0<=i,λ(z:Dj×gW)=>0<=z.2.1.2.1/\z.1.1.2.2.1.length<=7/\z.1.1.2.2.2.1.length<=10)⟩
def yj:XA:=⟨86,[.ptr [.sl dH jR false,.int .i64,.int .i64]],[.agg [.c (.int .i64),.c (.int .i64),.c (.sl dS yP false),.c .str,.c (.int .i64)]],λ(((_,i,_,()),()):gW)=>(0<=i,λ(z:Dj×gW)=>0<=z.2.1.2.1/\z.1.1.2.2.1.length<=2/\z.1.1.2.2.2.1.length<=10)⟩
def oK:XA:=⟨17,[.p (.v (.one (.sl dH jR false)))],[.agg [.c (.int .i64),.c (.int .i64),.c (.int .i64),.c .bool,.c (.int .i64),.c (.sl bC jy false),.c (.int .i64),.c .str,.c (.sl aF bM false)]],λ((code,()):KC)=>(code.length<=1048576,λ(z:Gn×Unit)=>oZ (z.1.1.1,z.1.1.2.1,z.1.1.2.2.1,z.1.1.2.2.2.1,z.1.1.2.2.2.2.1,z.1.1.2.2.2.2.2.1,z.1.1.2.2.2.2.2.2.1,z.1.1.2.2.2.2.2.2.2.1,z.1.1.2.2.2.2.2.2.2.2.1,()))⟩
def pI:XA:=⟨18,[.p (.v (.one (.sl dH jR false)))],[.one (.c .str)],λ((code,()):KC)=>(code.length<=1048576,λ(z:dA×Unit)=>z.1.1.length<=1000000)⟩
def oL:XA:=⟨19,[.p (.v (.one (.sl dH jR false)))],[.agg [.c (.int .i64),.c (.int .i64),.c (.sl dS yP false),.c .str,.c (.int .i64)]],λ((code,()):KC)=>(code.length<=1048576,λ(z:Dj×Unit)=>z.1.1.2.2.2.1.length<=10)⟩
def pJ:XA:=⟨22,[.p (.v (.one (.sl dH jR false)))],[.one (.c .str)],λ((code,()):KC)=>(code.length<=1048576,λ(z:dA×Unit)=>z.1.1.length<=1000000)⟩
def yQ:PA:=⟨5,[.v (.one (.sl dH jR false))],[.one (.bool)],λ(_,())=>(True,true,())⟩
def NC[kJ]:jI:=EY [(tJ,.eff (FC nM) wB),bT.e,rW.e,kK.e]
def KE[kJ]:jI:=EY [(mX,.pure jT),(qx,.pure tX),mV.e,jX.e]
def ND[kJ]:jI:=EY [(tK,.pure wC),jW.e,mF.e]
def NG[kJ]:jI:=EY [(tN,.eff (FC nP) wF),iF.e,nZ.e,mF.e,mQ.e]
end
end Go.Proofs.Tryz
