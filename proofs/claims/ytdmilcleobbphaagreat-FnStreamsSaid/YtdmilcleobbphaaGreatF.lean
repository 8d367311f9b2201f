import Derived.Test.YtdmilcleobbphaaGreatN
import Derived.Test.YtdmilcleobbphaaGreatSp
namespace Go.Proofs.Tryz
open Go Go.Fw Sp
abbrev bC:=List UInt8
abbrev jC:=bC×Unit
abbrev ahO:=Int×Int×jC
abbrev Ty0:=bC×ahO
abbrev bZ:=Int×Unit
abbrev WS:=bC×bZ
abbrev gG:=List WS
abbrev jT:=List Ty0
abbrev Cm:=jT×Unit
abbrev Ar:=Int×Int×Bool×Int×Cm
abbrev iC:=List Ar
abbrev atT:=Int×Int×Int×Ty0
abbrev iR:=List atT
abbrev CB:=iR×Unit
abbrev gB:=List (bC×CB)
abbrev dR:=List bZ
abbrev iT:=dR×Unit
abbrev kK:=List (bC×iT)
abbrev mr:=List (Int×gG×iC×Int×gB×bZ)
abbrev J3:=dR×iT
abbrev Gh:=List (Int×J3)
abbrev WT:=Gh×Unit
abbrev H8:=Int×bC×dR×WT
abbrev yt:=List H8
abbrev CG:=gG×iC×Int×gB×kK×bC×bC×Int×mr×yt×iT
abbrev PX:=Int×bZ
abbrev qC:=dR×PX
abbrev iD:=qC×Unit
abbrev Ua:=Int×Int×Int×Bool×Int×jT×Int×bC×CB
abbrev xB:=kK×Unit
abbrev xC:=gG×iC×Int×gB×xB
abbrev dZ:=Bool×Unit
abbrev xE:=List jC
abbrev J4:=xE×Unit
abbrev kX:=J4×Unit
abbrev uo:=gB×Unit
abbrev abn:=gG×iC×Int×uo
abbrev uq:=gG×iC×bZ
abbrev atU:=List (bC×J3)×dZ
abbrev Gi:=(xC×atU)×Unit
abbrev jD:=Unit×Unit
abbrev oU:=bZ×iD
abbrev abo:=(Bool×Cm)×Unit
abbrev Uz:=Int×Int×List Ua×WS
abbrev ayW:=Int×Int×Bool×Int×jD
abbrev ahP:=Unit×qC×ayW×Cm
abbrev iq:=bZ×Unit
abbrev Rh:=Unit×jD
abbrev ahQ:=Unit×Unit×Int×Unit×Unit×bC×bC×Int×Unit×Rh
abbrev Gj:=ahO×Unit
abbrev yX:=(H8×Unit)×Unit
abbrev Au:=(CG×dZ)×Unit
abbrev WU:=atT×Unit
abbrev lJ:=Unit×bZ
abbrev Fh:=CB×iD
abbrev vP:=Ar×Unit
abbrev anV:=List (bC×J3)×Unit
abbrev Ri:=uq×Unit
abbrev Lr:=Ri×Unit
abbrev J5:=(kK×dZ)×Unit
abbrev Ls:=(dR×dZ)×Unit
abbrev UA:=abn×Unit
abbrev PY:=UA×Unit
abbrev sS:=dZ×Unit
abbrev pU:=jC×iD
abbrev N9:=(CG×Unit)×Unit
abbrev PZ:=mr×Unit
abbrev Oa:=PZ×Unit
abbrev abp:=(xC×jT×dZ)×Unit
abbrev Rj:=xC×Unit
abbrev aHq:=(Int×xC×Ua×Unit×Unit×Unit×anV)×(Unit×Unit×Int×Rh)×xC×Rj
abbrev UB:=(mr×dZ)×Unit
abbrev UC:=Rj×Unit
abbrev aDn:=gG×iC×Int×gB×kK×bC×bC×Int×mr×Unit×iT
abbrev WV:=Ri×iD
abbrev Rk:=PX×Unit
abbrev Yv:=WT×Unit
abbrev aK4:=((Bool×Cm)×Unit×Unit×Unit×Int×jD)×(Bool×jD)×ayW×jT×Ty0×Cm
abbrev ad5:=(uq×dZ)×Unit
abbrev aHr:=gG×iC×Int×gB×kK×bC×bC×Int×Unit×Unit×iT
abbrev ad6:=(gG×Unit)×Unit
abbrev aHs:=(iR×kK×Bool×Ar×Rh)×(Bool×jD)×WU
abbrev ad7:=(CG×Unit)×iD
abbrev ad8:=(xE×bZ)×Unit
abbrev atV:=(uq×Int×dZ)×Unit
abbrev atW:=(kK×Int×dZ)×Unit
abbrev ahR:=(Int×J3)×Unit
abbrev P5:=iT×Unit
abbrev ahS:=(Ua×Unit)×iD
abbrev anW:=(xC×anV)×Unit
abbrev anX:=(bC×jC)×Unit
abbrev anY:=(iR×bZ)×Unit
abbrev Rl:=vP×Unit
abbrev Ob:=dZ×iD
abbrev atX:=(abn×dZ)×Unit
abbrev WW:=abo×Unit
abbrev WX:=lJ×J4
abbrev atY:=(gB×dZ)×Unit
abbrev atZ:=(H8×dZ)×Unit
abbrev at1:=(CG×bZ)×Unit
abbrev at6:=(H8×bZ)×Unit
abbrev ad9:=(dR×bZ)×Unit
abbrev aea:=List Uz×Unit
abbrev KE:=List dZ×Unit
abbrev Pn:=uo×iD
abbrev aqa:=(xC×dZ)×Unit
abbrev mX(l:List (Int×Unit))(i:Int):=l.getD i.toNat (0,())
abbrev Aw{a:Type}(l:List (List a×Unit))(i:Int):=l.getD i.toNat ([],())
abbrev J6{a:Type}(l:List (List a×Int×Unit))(i:Int):=l.getD i.toNat ([],0,())
abbrev abq(l:List (UInt8))(i:Int):=l.getD i.toNat (0:UInt8)
abbrev lK{a:Type}(s:a)(I:(Int×Unit)×Unit->Prop)(P:(Int×Unit)×Unit->Nat)(y:(Int×Unit)×Unit):Prop:=NX s I P ((IntKind.i64.wrap (y.1.1+1),()),()) y
abbrev jb{a b:Type}(l:List (List a×Int×Int×List b×Unit))(i:Int):=l.getD i.toNat ([],0,0,[],())
abbrev ji{a:Type}(l:List (Int×Int×Bool×Int×List a×Unit))(i:Int):=l.getD i.toNat (0,0,false,0,[],())
abbrev fV{a b:Type}(l:List (List a×List b×Unit))(i:Int):=l.getD i.toNat ([],[],())
abbrev aY{a b:Type}(l:List (Int×Int×Int×List a×Int×Int×List b×Unit))(i:Int):=l.getD i.toNat (0,0,0,[],0,0,[],())
abbrev XB(l:List (Bool×Unit))(i:Int):=l.getD i.toNat (false,())
abbrev iK{a b d:Type}(l:List (Int×List a×List b×Int×List d×Int×Unit))(i:Int):=l.getD i.toNat (0,[],[],0,[],0,())
abbrev lU{a b:Type}(l:List (Int×List a×List b×Unit))(i:Int):=l.getD i.toNat (0,[],[],())
abbrev qc{a b d:Type}(l:List (Int×List a×List b×List d×Unit))(i:Int):=l.getD i.toNat (0,[],[],[],())
abbrev aj{α:Type}(i:Int)(l:List α):Prop:=0<=i/\i<(↑l.length:Int)
abbrev bJ{α:Type}(i:Int)(l:List α):Bool:=decide (i<(↑l.length:Int))
abbrev lF{α:Type}(i:Int)(l:List α):Prop:=0<=i/\i<=(↑l.length:Int)
abbrev aI6:List (List UInt8×Unit):=[([],()),([(97:UInt8),108,108],()),([(104:UInt8),97,115],()),([(101:UInt8),113],()),([(108:UInt8),116],()),([(110:UInt8),111,116],()),([(97:UInt8),110,100],()),([(111:UInt8),114],()),([(105:UInt8),110],()),([(108:UInt8),105,110,107,101,100],())]
abbrev aI7:List (List UInt8×Unit):=[([(97:UInt8)],()),([(98:UInt8)],()),([(110:UInt8)],()),([(116:UInt8)],()),([(97:UInt8)],()),([(98:UInt8)],()),([(116:UInt8)],()),([(122:UInt8)],()),([(65:UInt8)],()),([],())]
abbrev aI8:List (List UInt8×Unit):=[([(100:UInt8),97],()),([(100:UInt8),98],()),([(100:UInt8),99],()),([(100:UInt8),100],()),([(100:UInt8),97],()),([(100:UInt8),98],()),([(100:UInt8),99],())]
abbrev aI9:List (List UInt8×Unit):=[([(100:UInt8),97],()),([(100:UInt8),98],()),([(100:UInt8),99],()),([(100:UInt8),100],()),([(100:UInt8),101],()),([(122:UInt8),122],()),([],())]
abbrev aJa:List (List UInt8×Unit):=[([(100:UInt8),97],()),([(100:UInt8),98],()),([(100:UInt8),99],()),([(100:UInt8),100],()),([(100:UInt8),101],()),([(100:UInt8),102],())]
abbrev aJb:List (List UInt8×Unit):=[([],()),([(65:UInt8)],()),([(97:UInt8),98,99,100,101,102,103],()),([(97:UInt8),98,99,100,101,102],()),([(97:UInt8),32,98],())]
abbrev aJc:List (List UInt8×Unit):=[([],()),([(97:UInt8)],()),([(100:UInt8),97],()),([(97:UInt8),98,99,100,101,102,103],()),([(65:UInt8)],())]
abbrev aJd:List (List UInt8×Unit):=[([],()),([(49:UInt8)],()),([(120:UInt8),10],()),([(49:UInt8),10,110,101,120,116,32,49,10,53,46],())]
abbrev aPp:List (List UInt8×Unit):=[([(100:UInt8),97],()),([(100:UInt8),98],()),([(100:UInt8),99],()),([(100:UInt8),100],())]
abbrev aJe:List (List UInt8×Unit):=[([],()),([(65:UInt8)],()),([(122:UInt8),122],()),([(97:UInt8),98,99,100,101,102,103],())]
abbrev ayA:List (List UInt8×Unit):=[([(114:UInt8),101,100],()),([(98:UInt8),108,117,101],()),([(105:UInt8),110,107],())]
abbrev aJf:List (List UInt8×Unit):=[([(97:UInt8)],()),([(98:UInt8)],()),([(110:UInt8)],()),([(116:UInt8)],())]
abbrev KF:List (List UInt8×Unit):=[([(100:UInt8),97],()),([(100:UInt8),98],()),([(100:UInt8),99],())]
abbrev ayB:List (List UInt8×Unit):=[([(114:UInt8),101,100],()),([(98:UInt8),108,117,101],())]
abbrev aJg:List (List UInt8×Unit):=[([(117:UInt8)],()),([(122:UInt8)],()),([(97:UInt8)],())]
abbrev aJh:List (List UInt8×Unit):=[([(105:UInt8),110,107],()),([(115:UInt8),101,97],())]
abbrev jJ(r:oU)(n:Int):Prop:=0<=r.2.1.2.1/\0<=r.1.1/\(0<n->r.1.1<n)/\(n<=0->r.1.1=0)
class kU where n:Nat
abbrev je[kU]:Nat:=kU.n
noncomputable section
def wZ:QA:=⟨24,[.l eX jw],[.l eX jw,.i,.i],λ((a,()):iT)=>(a.length<=1048576,λ(z:qC)=>z.2.1=0)⟩
def MV:XA:=⟨78,[.ptr [.l eX jw,.i,.i]],[.i],λ(((_,i,_,()),()):iD)=>(0<=i,λ(z:oU)=>0<=z.2.1.2.1/\0<=z.1.1/\z.1.1<=255)⟩
def dO:XA:=⟨47,[.ptr [.l eX jw,.i,.i],.i],[.i],λ(((_,i,_,()),n,()):qC×bZ)=>(0<=i,λ(z:oU)=>0<=z.2.1.2.1/\0<=z.1.1/\(0<n->z.1.1<n)/\(n<=0->z.1.1=0))⟩
def lC:XA:=⟨80,[.ptr [.l eX jw,.i,.i],.i],[.b],λ(((_,i,_,()),_,()):qC×bZ)=>(0<=i,λ(z:Ob)=>0<=z.2.1.2.1)⟩
def jo:XA:=⟨52,[.ptr [.l eX jw,.i,.i],.l dS gu],[.s],λ(((_,i,_,()),a,()):qC×J4)=>(0<=i/\a≠[],λ(z:pU)=>0<=z.2.1.2.1/\z.1∈a)⟩
def jl:XA:=⟨26,[.ptr [.l eX jw,.i,.i],.l aX dL],[.i],λ(((_,i,_,()),a,()):qC×iT)=>(0<=i/\a≠[],λ(z:oU)=>0<=z.2.1.2.1/\z.1∈a)⟩
def zF:XA:=⟨112,[],[.o ah aB],λ(())=>(True,λ(z:ad6)=>z.1.1=Sp.usual)⟩
def MW:XA:=⟨164,[.ptr [.l eX jw,.i,.i]],[.s],λ(((_,i,_,()),()):iD)=>(0<=i,λ(z:pU)=>0<=z.2.1.2.1/\z.1.1.length<=1)⟩
def Po:XA:=⟨128,[.ptr [.l eX jw,.i,.i]],[.f ah aB],λ(((_,i,_,()),()):iD)=>(0<=i,λ(z:(gG×Unit)×iD)=>0<=z.2.1.2.1/\z.1.1.length<=6)⟩
def KG:XA:=⟨213,[.ptr [.l eX jw,.i,.i]],[.agg [.i,.i,.s]],λ(((_,i,_,()),()):iD)=>(0<=i,λ(z:Gj×iD)=>0<=z.2.1.2.1/\z.1.1.2.2.1.length<=10)⟩
def Jl:XA:=⟨162,[.ptr [.l eX jw,.i,.i]],[.agg [.i,.i,.s]],λ(((_,i,_,()),()):iD)=>(0<=i,λ(z:Gj×iD)=>0<=z.2.1.2.1/\z.1.1.2.2.1.length<=10)⟩
def zG:PA:=⟨154,[.i],[.agg [.i,.i,.s]],λ((n,()):bZ)=>(True,(1,n,[],()),())⟩
def qE:PA:=⟨155,[.s],[.agg [.i,.i,.s]],λ((w,()):jC)=>(True,(2,0,w,()),())⟩
def gI:PA:=⟨61,[.i,.i,.i],[.b],λ((x,a,b,()):Int×PX)=>(True,(decide (a<=x)&&decide (x<=b)),())⟩
def oV:PA:=⟨59,[.i,.i,.i],[.b],λ((x,a,b,()):Int×PX)=>(True,(decide (a<=x)&&decide (x<=b)),())⟩
def Gl:PA:=⟨201,[.s,.i],[.b],λ((s,m,()):WS)=>(True,(Sp.lower s&&decide (1<=(s.length:Int))&&decide ((s.length:Int)<=m)),())⟩
def vU:PA:=⟨240,[.s],[.b],λ((s,()):jC)=>(True,dU s,())⟩
def qU:PA:=⟨250,[.s],[.b],λ((s,()):jC)=>(True,dU s,())⟩
def pV:PA:=⟨199,[.v (.agg [.i,.i,.s])],[.b],λ(((k,n,s,()),()):Gj)=>(True,gy k n s,())⟩
def xM:PA:=⟨214,[.v (.agg [.i,.i,.s])],[.b],λ(((k,n,s,()),()):Gj)=>(True,gy k n s,())⟩
def sU:PA:=⟨149,[.s],[.b],λ((s,()):jC)=>(True,iw s,())⟩
def sV:PA:=⟨167,[.s],[.b],λ((s,()):jC)=>(True,iw s,())⟩
def Ic:PA:=⟨200,[.l ah aB,.s],[.i],λ((a,s,()):gG×jC)=>(True,Sp.kindOf a s,())⟩
def Ie:PA:=⟨215,[.l ah aB,.s],[.i],λ((a,s,()):gG×jC)=>(True,Sp.kindOf a s,())⟩
def vV:PA:=⟨106,[.l ah aB],[.b],λ((a,()):gG×Unit)=>(True,fJ a,())⟩
def vW:PA:=⟨133,[.l ah aB],[.b],λ((a,()):gG×Unit)=>(True,fJ a,())⟩
def Bc:PA:=⟨148,[.l ah aB,.s,.v (.agg [.i,.i,.s])],[.b],λ((a,s,(k,n,w,()),()):gG×bC×Gj)=>(True,mO a s k n w,())⟩
def Bd:PA:=⟨166,[.l ah aB,.s,.v (.agg [.i,.i,.s])],[.b],λ((a,s,(k,n,w,()),()):gG×bC×Gj)=>(True,mO a s k n w,())⟩
def uM:PA:=⟨105,[.l ah aB,.v (.agg [.i,.i,.b,.i,.l aU bG])],[.b],λ((a,f,()):gG×vP)=>(True,fD a f,())⟩
def Ed:PA:=⟨132,[.l ah aB,.v (.agg [.i,.i,.b,.i,.l aU bG])],[.b],λ((a,f,()):gG×vP)=>(True,fD a f,())⟩
def kQ:PA:=⟨70,[.v (.agg [.l ah aB,.l ai aF,.i])],[.b],λ((s,()):Ri)=>(True,aJ s,())⟩
def xO:PA:=⟨91,[.v (.agg [.l ah aB,.l ai aF,.i])],[.b],λ((s,()):Ri)=>(True,aJ s,())⟩
def uN:PA:=⟨109,[.v (.agg [.i,.i,.b,.i,.l aU bG])],[.agg [.i,.i,.b,.i,.f aU bG]],λ((f,()):vP)=>(fZ f,f,())⟩
def KH:PA:=⟨137,[.v (.agg [.i,.i,.b,.i,.l aU bG])],[.agg [.i,.i,.b,.i,.l aU bG]],λ((f,()):vP)=>(fZ f,f,())⟩
def Jm:PA:=⟨92,[.i],[.b],λ((u,()):bZ)=>(True,(decide (0<=u)&&decide (u<=2)),())⟩
def vX:PA:=⟨110,[.v (.agg [.l ah aB,.l ai aF,.i]),.i],[.i],λ(((_,a,_,()),id,()):uq×bZ)=>(True,Sp.place a id,())⟩
def qf:PA:=⟨129,[.l ah aB],[.l ah aB],λ((l,()):gG×Unit)=>(l.length<=1000,l,())⟩
def vY:PA:=⟨172,[.l aU bG],[.l aU bG],λ((l,()):Cm)=>(l.length<=1000,l,())⟩
def Gm:XA:=⟨153,[.p (.v (.agg [.i,.i,.b,.i,.l aU bG])),.s,.p (.v (.agg [.i,.i,.s]))],[.agg [.i,.i,.b,.i,.own aU bG true]],λ(((i,o,s,l,a,()),t,(k,n,w,()),()):Ar×bC×Gj)=>(a.length<=1000,λ(z:Rl)=>z.1.1.1=i/\z.1.1.2.1=o/\z.1.1.2.2.1=s/\z.1.1.2.2.2.1=l/\z.1.1.2.2.2.2.1=ku a t k n w)⟩
def qV:XA:=⟨114,[.ptr [.l eX jw,.i,.i],.i],[.agg [.i,.i,.b,.i,.own aU bG true]],λ(((_,i,_,()),id,()):qC×bZ)=>(0<=i,λ(z:vP×iD)=>0<=z.2.1.2.1/\z.1.1.1=id/\0<=z.1.1.2.1/\z.1.1.2.1<=2/\0<=z.1.1.2.2.2.1/\z.1.1.2.2.2.1<=6/\jh Sp.usual z.1.1.2.2.2.2.1=true/\z.1.1.2.2.2.2.1.length<=4)⟩
def Pq:XA:=⟨127,[.ptr [.l eX jw,.i,.i]],[.agg [.i,.i,.b,.i,.f aU bG]],λ(((_,i,_,()),()):iD)=>(0<=i,λ(z:vP×iD)=>0<=z.2.1.2.1/\z.1.1.2.2.2.2.1.length<=10)⟩
def zH:XA:=⟨111,[.l ah aB],[.agg [.own ah aB true,.own ai aF true,.i]],λ((s,()):gG×Unit)=>(s.length<=1000,λ(z:Lr)=>z.1.1.1=s/\z.1.1.2.1=[]/\z.1.1.2.2.1=1)⟩
def qW:XA:=⟨95,[.p (.v (.agg [.l ah aB,.l ai aF,.i]))],[.agg [.own ah aB true,.own ai aF true,.i]],λ((s,()):Ri)=>(aV s,λ(z:Lr)=>z.1.1=s)⟩
def rO:XA:=⟨113,[.p (.v (.agg [.l ah aB,.l ai aF,.i])),.p (.v (.agg [.i,.i,.b,.i,.l aU bG]))],[.agg [.own ah aB true,.own ai aF true,.i],.i,.b],λ((s,f,()):uq×vP)=>(aV s/\fZ f,λ(z:atV)=>z.1.1.1=(bH s f).1.1/\z.1.1.2.1=(bH s f).1.2.1/\z.1.1.2.2.1=(bH s f).1.2.2.1/\z.1.2.1=(bH s f).2.1/\z.1.2.2.1=(bH s f).2.2)⟩
def wS:XA:=⟨115,[.p (.v (.agg [.l ah aB,.l ai aF,.i])),.i],[.agg [.own ah aB true,.own ai aF true,.i],.b],λ((s,id,()):uq×bZ)=>(aV s,λ(z:ad5)=>z.1.1.1=(dM s id).1.1/\z.1.1.2.1=(dM s id).1.2.1/\z.1.1.2.2.1=(dM s id).1.2.2.1/\z.1.2.1=(dM s id).2)⟩
def zI:XA:=⟨73,[.ptr [.l eX jw,.i,.i]],[.agg [.own ah aB true,.own ai aF true,.i]],λ(((_,i,_,()),()):iD)=>(0<=i,λ(z:WV)=>0<=z.2.1.2.1/\z.1.1.1=Sp.usual/\aJ z.1.1=true/\z.1.1.2.2.1<=z.1.1.2.1.length+2/\aV z.1.1/\0<z.1.1.2.1.length)⟩
def Pv:XA:=⟨86,[.ptr [.l eX jw,.i,.i]],[.agg [.l ah aB,.l ai aF,.i]],λ(((_,i,_,()),()):iD)=>(0<=i,λ(z:WV)=>0<=z.2.1.2.1/\aV z.1.1/\∀f∈z.1.1.2.1,f.2.2.2.2.1.length<=400)⟩
def aeb:PA:=⟨4,[.l eX jw],[.b],λ((a,()):iT)=>(True,decide (1048576<(a.length:Int)),())⟩
def Ig:XA:=⟨130,[.l ai aF],[.one (.own ai aF false)],λ((l,()):iC×Unit)=>(l.length<=1000/\∀f∈l,fZ f,λ(z:(iC×Unit)×Unit)=>z.1.1=l)⟩
def Ih:XA:=⟨89,[.p (.v (.agg [.l ah aB,.l ai aF,.i]))],[.agg [.l ah aB,.own ai aF false,.i]],λ((s,()):Ri)=>(aV s,λ(z:Lr)=>z.1.1=s)⟩
def FP:XA:=⟨212,[.ptr [.l eX jw,.i,.i]],[.s],λ(((_,i,_,()),()):iD)=>(0<=i,λ(z:pU)=>0<=z.2.1.2.1/\z.1.1.length<=10)⟩
def BR:XA:=⟨161,[.ptr [.l eX jw,.i,.i]],[.agg [.i,.i,.i,.s,.i,.i,.s]],λ(((_,i,_,()),()):iD)=>(0<=i,λ(z:WU×iD)=>0<=z.2.1.2.1/\True)⟩
def Rn:List jL:=[.ptr [.sl eX jw false,.int .i64,.int .i64],.own bg dG,.p (.v (.one (.int .i64))),.p (.v (.one (.bool)))]
def Yw:List nY:=[.one (.own bg dG false)]
def ach:lV Rn->Prop×(qg Yw×o9 Rn->Prop):=λ((_,i,_,()),q,f,_,())=>(0<=i/\0<=f/\f<=4/\q.length+2*f.toNat<=900,λ((r,()),((_,a,_,()),()))=>0<=a/\q.length<r.length/\r.length<=q.length+2*f.toNat+1)
def anZ:Ii:=sW Rn Yw ach
def vZ:List jL:=[.ptr [.sl eX jw false,.int .i64,.int .i64],.own bg dG,.p (.v (.one (.int .i64))),.p (.v (.one (.bool)))]
def QE:List nY:=[.one (.own bg dG false)]
def Ub[kU]:lV vZ->Prop×(qg QE×o9 vZ->Prop):=λ((_,i,_,()),q,f,_,())=>((0<=i/\0<=f/\f<=4/\q.length+2*f.toNat<=900)/\f.toNat<je,λ((r,()),((_,a,_,()),()))=>0<=a/\q.length<r.length/\r.length<=q.length+2*f.toNat+1)
def Gn[kU]:Ii:=sW vZ QE Ub
def zJ:List jL:=[.ptr [.sl eX jw false,.int .i64,.int .i64],.own bg dG,.p (.v (.one (.int .i64))),.p (.v (.one (.bool)))]
def Oy:List nY:=[.one (.own bg dG false)]
def Bf[kU]:lV zJ->Prop×(qg Oy×o9 zJ->Prop):=λ((_,i,_,()),q,f,_,())=>((0<=i/\0<=f/\f<=4/\q.length+2*f.toNat<=900)/\f.toNat<je+1,λ((r,()),((_,a,_,()),()))=>0<=a/\q.length<r.length/\r.length<=q.length+2*f.toNat+1)
def Oz[kU]:Ii:=sW zJ Oy Bf
def wo:List jL:=[.ptr [.sl eX jw false,.int .i64,.int .i64],.p (.v (.one .nil)),.p (.v (.one (.int .i64))),.p (.v (.one (.bool)))]
def QF:List nY:=[.one (.own bg dG false)]
def Uc:lV wo->Prop×(qg QF×o9 wo->Prop):=λ((_,i,_,()),(),f,_,())=>(0<=i/\0<=f/\f<=4,λ((r,()),((_,a,_,()),()))=>0<=a/\0<r.length/\r.length<=0+2*f.toNat+1)
def Gp:Ii:=sW wo QF Uc
def yY:XA:=⟨126,[.ptr [.l eX jw,.i,.i]],[.one (.own bg dG false)],λ(((_,i,_,()),()):iD)=>(0<=i,λ(z:Fh)=>0<=z.2.1.2.1/\0<z.1.1.length/\z.1.1.length<=9)⟩
def qh:XA:=⟨126,[.ptr [.l eX jw,.i,.i]],[.l bg dG],λ(((_,i,_,()),()):iD)=>(0<=i,λ(z:Fh)=>0<=z.2.1.2.1/\0<z.1.1.length/\z.1.1.length<=9)⟩
def Px:XA:=⟨125,[.ptr [.l eX jw,.i,.i]],[.l bg dG],λ(((_,i,_,()),()):iD)=>(0<=i,λ(z:Fh)=>0<=z.2.1.2.1/\z.1.1.length<=10)⟩
def Gq:XA:=⟨116,[.ptr [.l eX jw,.i,.i]],[.one (.own au ay false)],λ(((_,i,_,()),()):iD)=>(0<=i,λ(z:Pn)=>0<=z.2.1.2.1/\0<z.1.1.length/\z.1.1.length<=4/\aK z.1.1)⟩
def Py:XA:=⟨85,[.ptr [.l eX jw,.i,.i]],[.l au ay],λ(((_,i,_,()),()):iD)=>(0<=i,λ(z:Pn)=>0<=z.2.1.2.1/\z.1.1.length<=10/\aK z.1.1)⟩
def BU:XA:=⟨74,[.ptr [.l eX jw,.i,.i]],[.l au ay],λ(((_,i,_,()),()):iD)=>(0<=i,λ(z:Pn)=>0<=z.2.1.2.1/\z.1.1.length<=10/\aK z.1.1/\aA z.1.1=true/\0<z.1.1.length)⟩
def KI:XA:=⟨79,[.ptr [.l eX jw,.i,.i]],[.agg [.l ah aB,.l ai aF,.i,.l au ay]],λ(((_,i,_,()),()):iD)=>(0<=i,λ(z:UA×iD)=>0<=z.2.1.2.1/\fB z.1.1)⟩
def MX:XA:=⟨50,[.ptr [.l eX jw,.i,.i]],[.one (.own bf gV false)],λ(((_,i,_,()),()):iD)=>(0<=i,λ(z:PZ×iD)=>0<=z.2.1.2.1/\z.1.1.length<=10/\fK z.1.1)⟩
def FQ:XA:=⟨46,[.ptr [.l eX jw,.i,.i]],[.i],λ(((_,i,_,()),()):iD)=>(0<=i,λ(z:oU)=>0<=z.2.1.2.1/\True)⟩
def Ee:PA:=⟨272,[.v (.agg [.i,.i,.i,.s,.i,.i,.s]),.i],[.b],λ(((o,l,r,a,e,d,I,()),b,()):atT×bZ)=>(True,iM (o,l,r,a,e,d,I,()) b,())⟩
def Ef:PA:=⟨283,[.v (.agg [.i,.i,.i,.s,.i,.i,.s]),.i],[.b],λ(((o,l,r,a,e,d,I,()),b,()):atT×bZ)=>(True,iM (o,l,r,a,e,d,I,()) b,())⟩
def yK:PA:=⟨273,[.l bg dG,.i],[.i],λ((q,b,()):iR×bZ)=>(q.length<=2000000,(nJ q b:Int),())⟩
def yL:PA:=⟨284,[.l bg dG,.i],[.i],λ((q,b,()):iR×bZ)=>(q.length<=2000000,(nJ q b:Int),())⟩
def lW:PA:=⟨241,[.l bg dG],[.b],λ((q,()):CB)=>(q.length<=2000000,aN q,())⟩
def sF:PA:=⟨251,[.l bg dG],[.b],λ((q,()):CB)=>(q.length<=2000000,aN q,())⟩
def uO:PA:=⟨202,[.l au ay],[.b],λ((d,()):uo)=>(aK d,dK d,())⟩
def Eg:PA:=⟨216,[.l au ay],[.b],λ((d,()):uo)=>(aK d,dK d,())⟩
def KJ:PA:=⟨288,[.v (.agg [.i,.i,.i,.s,.i,.i,.s])],[.b],λ(((o,_,_,_,_,_,_,()),()):WU)=>(True,(o==8||o==9),())⟩
def Dv:PA:=⟨302,[.l bg dG],[.f aci R_4],λ((q,()):CB)=>(q.length<=1000,Sp.negated q,())⟩
def Dw:PA:=⟨287,[.l bg dG],[.f aci R_4],λ((q,()):CB)=>(q.length<=1000,Sp.negated q,())⟩
def yZ:List jL:=[.p (.v (.one (.sl dS gu false)))]
def J7:List nY:=[.one (.c (.sl dS gu true))]
def Xq:lV yZ->Prop×(qg J7×o9 yZ->Prop):=λ(l,())=>(l.length<=1000,λ((r,()),())=>r.length<=l.length/\∀s,s∈r↔s∈l)
def J8:Ii:=sW yZ J7 Xq
def CJ:XA:=⟨253,[.l bg dG,.b],[.f dS gu],λ((q,neg,()):iR×dZ)=>(q.length<=1000,λ(z:kX)=>iE z.1.1 (iZ q neg))⟩
def J9:XA:=⟨218,[.l bg dG],[.f dS gu],λ((q,()):CB)=>(q.length<=1000,λ(z:kX)=>iE z.1.1 (iZ q false))⟩
def Ko:XA:=⟨219,[.l bg dG],[.f dS gu],λ((q,()):CB)=>(q.length<=1000,λ(z:kX)=>iE z.1.1 (iZ q true))⟩
def xg:PA:=⟨303,[.l dS gu,.s],[.l dS gu],λ((l,s,()):xE×jC)=>(l.length<=1000,Gs l s,())⟩
def Eh:XA:=⟨274,[.l bg dG,.b],[.f dS gu],λ((q,neg,()):iR×dZ)=>(q.length<=1000,λ(z:kX)=>iE z.1.1 (iZ q neg))⟩
def Kq:XA:=⟨242,[.l bg dG],[.f dS gu],λ((q,()):CB)=>(q.length<=1000,λ(z:kX)=>iE z.1.1 (iZ q false))⟩
def Kr:XA:=⟨244,[.l bg dG],[.f dS gu],λ((q,()):CB)=>(q.length<=1000,λ(z:kX)=>iE z.1.1 (iZ q true))⟩
def MZ:PA:=⟨286,[.v (.agg [.s,.l bg dG]),.kp [.s]],[.b],λ(((a,_,()),t,()):(bC×CB)×jC×Unit)=>(True,(a==t.1),())⟩
def kT:PA:=⟨285,[.l au ay,.fn 286 [[.s]]],[.i],λ((d,((t,()),()),()):gB×(jC×Unit)×Unit)=>(True,bn d t,())⟩
def Yx:PA:=⟨252,[.l au ay,.s],[.i],λ((d,t,()):gB×jC)=>(True,bn d t,())⟩
def zK:PA:=⟨243,[.l au ay,.s],[.i],λ((d,t,()):gB×jC)=>(True,bn d t,())⟩
def Lu:PA:=⟨217,[.l au ay,.l aX dL,.l dS gu,.i],[.i],λ((d,b,names,a,()):gB×dR×xE×bZ)=>(d.length<=b.length/\names.length<=1000/\0<=a/\a<=1/\∀x∈b,0<=x.1/\x.1<=1000000,Ei d b a names,())⟩
def Jo:XA:=⟨168,[.l au ay],[.f aX dL,.b],λ((d,()):uo)=>(aK d,λ(z:Ls)=>z.1.2.1=aA d/\(z.1.2.1=true->nU d z.1.1))⟩
def zL:XA:=⟨203,[.l au ay,.l aX dL],[.o aX dL],λ((d,a,()):gB×iT)=>(aK d/\d.length<=5/\a.length=d.length/\∀x∈a,0<=x.1/\x.1<=1000000,λ(z:P5)=>Sp.raised d a z.1.1)⟩
def uP:PA:=⟨36,[.l aX dL,.l aX dL],[.b],λ((a,b,()):J3)=>(True,decide (a=b),())⟩
def D8:XA:=⟨150,[.l au ay],[.f aX dL,.b],λ((d,()):uo)=>(aK d,λ(z:Ls)=>z.1.2.1=aA d/\(z.1.2.1=true->nU d z.1.1)/\(z.1.2.1=false->z.1.1=[]))⟩
def sG:PA:=⟨117,[.l au ay],[.b],λ((d,()):uo)=>(aK d,aA d,())⟩
def wu:PA:=⟨165,[.l bg dG],[.l bg dG],λ((l,()):CB)=>(l.length<=1000,l,())⟩
def UD:PA:=⟨131,[.v (.agg [.s,.l bg dG])],[.agg [.s,.l bg dG]],λ(((n,q,()),()):(bC×CB)×Unit)=>(q.length<=1000,(n,q,()),())⟩
def KL:PA:=⟨90,[.l au ay],[.l au ay],λ((d,()):uo)=>(aK d,d,())⟩
def uQ:PA:=⟨96,[.l au ay],[.f au ay],λ((d,()):uo)=>(aK d,d,())⟩
def Kt:XA:=⟨54,[.p (.v (.agg [.l ah aB,.l ai aF,.i,.l au ay]))],[.agg [.l ah aB,.l ai aF,.i,.l au ay]],λ((x,()):UA)=>(fB x,λ(z:PY)=>z.1.1=x)⟩
def zM:XA:=⟨58,[.p (.v (.agg [.l ah aB,.l ai aF,.i,.l au ay]))],[.agg [.f ah aB,.f ai aF,.i,.f au ay]],λ((x,()):UA)=>(fB x,λ(z:PY)=>z.1.1=x)⟩
def uS:XA:=⟨122,[.l bf gV],[.o bf gV],λ((v,()):PZ)=>(fK v,λ(z:Oa)=>z.1.1=v)⟩
def jE:PA:=⟨157,[.v (.agg [.l ah aB,.l ai aF,.i,.l au ay])],[.b],λ((x,()):UA)=>(fB x,eU x,())⟩
def kS:PA:=⟨123,[.l bf gV],[.b],λ((v,()):PZ)=>(fK v,gQ v,())⟩
def Ej:PA:=⟨88,[.v (.agg [.i,.l ah aB,.l ai aF,.i,.l au ay,.i]),.kp [.i]],[.b],λ(((n,_,_,_,_,_,()),a,()):(Int×gG×iC×Int×gB×bZ)×iq)=>(True,(n==a.1),())⟩
def jA:PA:=⟨87,[.l bf gV,.fn 88 [[.i]]],[.i],λ((v,((n,()),()),()):mr×iq×Unit)=>(True,bM v n,())⟩
def P6:PA:=⟨53,[.l bf gV,.i],[.i],λ((v,n,()):mr×bZ)=>(True,bM v n,())⟩
def zN:PA:=⟨57,[.l bf gV,.i],[.i],λ((v,n,()):mr×bZ)=>(True,bM v n,())⟩
def oD:XA:=⟨82,[.l bf gV,.i,.p (.v (.agg [.l ah aB,.l ai aF,.i,.l au ay]))],[.o bf gV,.b],λ((v,n,x,()):mr×Int×UA)=>(fK v/\v.length<=100/\fB x,λ(z:UB)=>z.1.1=(jq v n x).1/\z.1.2.1=(jq v n x).2)⟩
def AU:XA:=⟨83,[.l bf gV,.i],[.o bf gV,.b],λ((v,n,()):mr×bZ)=>(fK v/\v.length<=100,λ(z:UB)=>z.1.1=(kZ v n 1).1/\z.1.2.1=(kZ v n 1).2)⟩
def Em:XA:=⟨29,[.l bf gV,.i],[.agg [.l ah aB,.l ai aF,.i,.l au ay],.b],λ((v,n,()):mr×bZ)=>(fK v,λ(z:atX)=>z.1.1=(jB v n).1/\z.1.2.1=(jB v n).2)⟩
def En:XA:=⟨31,[.l bf gV,.i],[.agg [.f ah aB,.f ai aF,.i,.f au ay],.b],λ((v,n,()):mr×bZ)=>(fK v,λ(z:atX)=>z.1.1=(jB v n).1/\z.1.2.1=(jB v n).2)⟩
def Dx:XA:=⟨194,[.l bf gV,.i],[.o bf gV,.b],λ((v,n,()):mr×bZ)=>(fK v/\v.length<=100,λ(z:UB)=>z.1.1=(kZ v n (-1)).1/\z.1.2.1=(kZ v n (-1)).2)⟩
def sZ:XA:=⟨195,[.l bf gV],[.f bf gV],λ((v,()):PZ)=>(fK v,λ(z:Oa)=>z.1.1=Sp.collect v)⟩
def BV:PA:=⟨290,[.v (.agg [.i,.i,.b,.i,.l aU bG]),.s],[.agg [.i,.i,.s]],λ(((_,_,_,_,a,()),t,()):Ar×jC)=>(True,dA a t,())⟩
def BZ:PA:=⟨275,[.v (.agg [.i,.i,.b,.i,.l aU bG]),.s],[.agg [.i,.i,.s]],λ(((_,_,_,_,a,()),t,()):Ar×jC)=>(True,dA a t,())⟩
def Gt:PA:=⟨291,[.v (.agg [.i,.i,.b,.i,.l aU bG]),.s],[.i,.b],λ(((_,_,_,_,a,()),t,()):Ar×jC)=>(True,(bif (dA a t).1==1 then(dA a t).2.1 else 0),((dA a t).1==1),())⟩
def LC:PA:=⟨176,[.l aX dL,.i],[.i],λ((s,v,()):dR×bZ)=>(True,Sp.findAt (λx=>x.1==v) s,())⟩
def zO:PA:=⟨141,[.l aX dL,.i],[.b],λ((s,v,()):dR×bZ)=>(True,fF s v,())⟩
def Gu:PA:=⟨220,[.l dS gu,.s],[.i],λ((s,v,()):xE×jC)=>(True,Sp.findAt (λx=>x.1==v) s,())⟩
def CO:PA:=⟨169,[.l dS gu,.s],[.b],λ((s,v,()):xE×jC)=>(True,iY s v,())⟩
def FT:PA:=⟨292,[.l aX dL,.i],[.b],λ((s,v,()):dR×bZ)=>(True,fF s v,())⟩
def pK:PA:=⟨100,[.l aX dL,.i],[.b],λ((s,v,()):dR×bZ)=>(True,fF s v,())⟩
def qF:PA:=⟨63,[.l aX dL],[.l aX dL],λ((l,()):iT)=>(l.length<=10000000,l,())⟩
def aCx:PA:=⟨305,[.l dS gu],[.l dS gu],λ((l,()):J4)=>(l.length<=1000,l,())⟩
def uw:PA:=⟨56,[.l ax aT,.s],[.l aX dL],λ((r,t,()):kK×jC)=>(bW r,gY r t,())⟩
def qG:PA:=⟨44,[.l ax aT,.s],[.f aX dL],λ((r,t,()):kK×jC)=>(bW r,gY r t,())⟩
def Xr:List jZ:=[.v (.one (.sl bg dG false)),.v (.one (.int .i64)),.v (.agg [.int .i64,.int .i64,.bool,.int .i64,.sl aU bG false]),.v (.one (.sl ax aT false))]
def VQ:List qH:=[.one (.bool)]
def an0:oG Xr->Prop×wz VQ:=λ(q,b,(i,o,s,l,a,()),r,())=>(aN q=true/\0<=b/\b<q.length/\bW r,Sp.val q (i,o,s,l,a,()) (bK r) b.toNat,())
def VR:VS:=tq Xr VQ an0
def OA:List jZ:=[.v (.one (.sl bg dG false)),.v (.one (.int .i64)),.v (.agg [.int .i64,.int .i64,.bool,.int .i64,.sl aU bG false]),.v (.one (.sl ax aT false))]
def NW:List qH:=[.one (.bool)]
def QG[kU]:oG OA->Prop×wz NW:=λ(q,b,(i,o,s,l,a,()),r,())=>((aN q=true/\0<=b/\b<q.length/\bW r)/\b.toNat<je,Sp.val q (i,o,s,l,a,()) (bK r) b.toNat,())
def DX[kU]:VS:=tq OA NW QG
def DY:List jZ:=[.v (.one (.sl bg dG false)),.v (.one (.int .i64)),.v (.agg [.int .i64,.int .i64,.bool,.int .i64,.sl aU bG false]),.v (.one (.sl ax aT false))]
def LD:List qH:=[.one (.bool)]
def OB[kU]:oG DY->Prop×wz LD:=λ(q,b,(i,o,s,l,a,()),r,())=>((aN q=true/\0<=b/\b<q.length/\bW r)/\b.toNat<je+1,Sp.val q (i,o,s,l,a,()) (bK r) b.toNat,())
def LG[kU]:VS:=tq DY LD OB
def aaq:List jZ:=[.v (.one (.sl bg dG false)),.v (.one (.int .i64)),.v (.agg [.int .i64,.int .i64,.bool,.int .i64,.sl aU bG false]),.v (.one (.sl ax aT false))]
def Yy:List qH:=[.one (.bool)]
def at7:oG aaq->Prop×wz Yy:=λ(q,b,(i,o,s,l,a,()),r,())=>(aN q=true/\0<=b/\b<q.length/\bW r,Sp.val q (i,o,s,l,a,()) (bK r) b.toNat,())
def Ij:VS:=tq aaq Yy at7
def Ro:List jZ:=[.v (.one (.sl bg dG false)),.v (.one (.int .i64)),.v (.agg [.int .i64,.int .i64,.bool,.int .i64,.sl aU bG false]),.v (.one (.sl ax aT false))]
def QI:List qH:=[.one (.bool)]
def Ud[kU]:oG Ro->Prop×wz QI:=λ(q,b,(i,o,s,l,a,()),r,())=>((aN q=true/\0<=b/\b<q.length/\bW r)/\b.toNat<je,Sp.val q (i,o,s,l,a,()) (bK r) b.toNat,())
def Gv[kU]:VS:=tq Ro QI Ud
def Gw:List jZ:=[.v (.one (.sl bg dG false)),.v (.one (.int .i64)),.v (.agg [.int .i64,.int .i64,.bool,.int .i64,.sl aU bG false]),.v (.one (.sl ax aT false))]
def OC:List qH:=[.one (.bool)]
def Rq[kU]:oG Gw->Prop×wz OC:=λ(q,b,(i,o,s,l,a,()),r,())=>((aN q=true/\0<=b/\b<q.length/\bW r)/\b.toNat<je+1,Sp.val q (i,o,s,l,a,()) (bK r) b.toNat,())
def OD[kU]:VS:=tq Gw OC Rq
def Na:PA:=⟨222,[.l bg dG,.v (.agg [.i,.i,.b,.i,.l aU bG]),.l ax aT],[.b],λ((q,f,r,()):iR×Ar×xB)=>(q.length<=1000/\bW r,kz q f (bK r),())⟩
def Nb:PA:=⟨204,[.l bg dG,.v (.agg [.i,.i,.b,.i,.l aU bG]),.l ax aT],[.b],λ((q,f,r,()):iR×Ar×xB)=>(q.length<=1000/\bW r,kz q f (bK r),())⟩
def LH:PA:=⟨171,[.v (.agg [.l ah aB,.l ai aF,.i]),.l bg dG,.l ax aT],[.f aX dL],λ((s,q,r,()):uq×iR×xB)=>(aV s/\q.length<=1000/\bW r,Sp.sel s.2.1 q (bK r),())⟩
def zf:PA:=⟨152,[.v (.agg [.l ah aB,.l ai aF,.i]),.l bg dG,.l ax aT],[.f aX dL],λ((s,q,r,()):uq×iR×xB)=>(aV s/\q.length<=1000/\bW r,Sp.sel s.2.1 q (bK r),())⟩
def Eo:PA:=⟨33,[.l aX dL,.l aX dL],[.b],λ((a,b,()):J3)=>(True,decide (a=b),())⟩
def Dy:PA:=⟨257,[.l ax aT,.l ax aT],[.b],λ((a,b,()):kK×xB)=>(True,decide (a=b),())⟩
def Ik:XA:=⟨221,[.l aX dL],[.i],λ((l,()):iT)=>(0<l.length,λ(z:iq)=>(∀x∈l,x.1<=z.1.1)/\z.1∈l)⟩
def Oc:XA:=⟨170,[.l au ay],[.i],λ((d,()):uo)=>(aK d,λ(z:iq)=>ahU d z.1.1)⟩
def FU:XA:=⟨151,[.l au ay],[.i],λ((d,()):uo)=>(aK d,λ(z:iq)=>ahU d z.1.1)⟩
def KN:PA:=⟨135,[.l au ay],[.f dS gu],λ((d,()):uo)=>(d.length<=1000,jM d,())⟩
def zQ:PA:=⟨308,[.l au ay],[.f dS gu],λ((d,()):uo)=>(d.length<=1000,jM d,())⟩
def Il:XA:=⟨134,[.p (.v (.agg [.l ah aB,.l ai aF,.i])),.l au ay,.l ax aT,.l dS gu],[.l ax aT,.i,.b],λ((s,d,r,names,()):uq×gB×kK×J4)=>(aV s/\aK d/\bW r,λ(z:atW)=>z.1.2.2.1=(aA d&&aJ s)/\((z.1.2.2.1=true->gX s.2.1 d r (iY names) z.1.1)/\(z.1.2.2.1=false->z.1.1=[])))⟩
def Rt:XA:=⟨93,[.p (.v (.agg [.l ah aB,.l ai aF,.i])),.l au ay],[.l ax aT,.b],λ((s,d,()):uq×uo)=>(aV s/\aK d,λ(z:J5)=>z.1.2.1=(aA d&&aJ s)/\((z.1.2.1=true->gX s.2.1 d [] (λ_=>true) z.1.1)/\(z.1.2.1=false->z.1.1=[])))⟩
def Pz:XA:=⟨107,[.p (.v (.agg [.l ah aB,.l ai aF,.i])),.l au ay],[.one (.own ax aT false),.i,.b],λ((s,d,()):uq×uo)=>(aV s/\aK d,λ(z:atW)=>z.1.2.2.1=(aA d&&aJ s)/\((z.1.2.2.1=true->gX s.2.1 d [] (λ_=>true) z.1.1)/\(z.1.2.2.1=false->z.1.1=[])))⟩
def Ep:XA:=⟨71,[.p (.v (.agg [.l ah aB,.l ai aF,.i])),.l au ay],[.one (.own ax aT false),.b],λ((s,d,()):uq×uo)=>(aV s/\aK d,λ(z:J5)=>z.1.2.1=(aA d&&aJ s)/\((z.1.2.1=true->gX s.2.1 d [] (λ_=>true) z.1.1)/\(z.1.2.1=false->z.1.1=[])))⟩
def FV:XA:=⟨314,[.p (.v (.agg [.l ah aB,.l ai aF,.i])),.l au ay,.l ax aT,.l dS gu],[.l ax aT,.b],λ((s,d,r,names,()):uq×gB×kK×J4)=>(aV s/\aK d/\bW r,λ(z:J5)=>z.1.2.1=(aA d&&aJ s)/\(z.1.2.1=true->gX s.2.1 d r (iY names) z.1.1))⟩
def wU:XA:=⟨124,[.p (.v (.agg [.l ah aB,.l ai aF,.i])),.l au ay],[.agg [.l ah aB,.l ai aF,.i,.l au ay,.own ax aT false],.b],λ((s,d,()):uq×uo)=>(aV s/\aK d,λ(z:aqa)=>z.1.2.1=(aA d&&aJ s)/\(z.1.2.1=true->(z.1.1.1,z.1.1.2.1,z.1.1.2.2.1,())=s/\z.1.1.2.2.2.1=d/\gX s.2.1 d [] (λ_=>true) z.1.1.2.2.2.2.1)/\(z.1.2.1=false->z.1.1=([],[],0,[],[],())))⟩
def kR:PA:=⟨231,[.v (.agg [.l ah aB,.l ai aF,.i,.l au ay,.l ax aT])],[.b],λ((c,()):Rj)=>(iU c,dn c,())⟩
def WY:PA:=⟨138,[.v (.agg [.l ah aB,.l ai aF,.i]),.i],[.i],λ(((_,a,_,()),id,()):uq×bZ)=>(True,Sp.place a id,())⟩
def KO:PA:=⟨174,[.v (.agg [.i,.i,.b,.i,.l aU bG]),.kp [.i]],[.b],λ(((i,_,_,_,_,()),id,()):Ar×iq)=>(True,decide (i=id.1),())⟩
def kH:PA:=⟨173,[.l ai aF,.fn 174 [[.i]]],[.i],λ((l,((id,()),()),()):iC×iq×Unit)=>(True,Sp.place l id,())⟩
def wB:PA:=⟨263,[.v (.agg [.l ah aB,.l ai aF,.i]),.i],[.agg [.i,.i,.b,.i,.l aU bG],.b],λ((s,id,()):uq×bZ)=>(aV s,(bI s id).1,(bI s id).2,())⟩
def zh:XA:=⟨269,[.p (.v (.agg [.l ah aB,.l ai aF,.i])),.p (.v (.agg [.i,.i,.b,.i,.l aU bG]))],[.agg [.own ah aB true,.own ai aF true,.i],.b],λ((s,f,()):uq×vP)=>(aV s/\fZ f,λ(z:ad5)=>z.1.1.1=(bU s f).1.1/\z.1.1.2.1=(bU s f).1.2.1/\z.1.1.2.2.1=(bU s f).1.2.2.1/\z.1.2.1=(bU s f).2)⟩
def P7:PA:=⟨331,[.v (.agg [.i,.i,.b,.i,.l aU bG])],[.f dS gu],λ(((_,_,_,_,a,()),()):vP)=>(a.length<=1000,nZ a,())⟩
def Dz:XA:=⟨319,[.p (.v (.agg [.i,.i,.b,.i,.l aU bG])),.p (.v (.agg [.i,.i,.b,.i,.l aU bG]))],[.f dS gu],λ((f,g,()):Ar×vP)=>(fZ f/\fZ g/\f.2.2.2.2.1.length+g.2.2.2.2.1.length<=1000,λ(z:kX)=>iE z.1.1 (uy f g))⟩
def FX:XA:=⟨321,[.l bg dG],[.f dS gu],λ((q,()):CB)=>(q.length<=1000,λ(z:kX)=>iE z.1.1 (yu q))⟩
def Io:XA:=⟨317,[.l bg dG],[.f dS gu],λ((q,()):CB)=>(q.length<=1000,λ(z:kX)=>iE z.1.1 (AX q))⟩
def Jp:PA:=⟨318,[.l dS gu,.s],[.b],λ((l,s,()):xE×jC)=>(True,iY l s,())⟩
def lZ:XA:=⟨310,[.l au ay,.l dS gu],[.f dS gu],λ((d,names,()):gB×J4)=>(aK d/\d.length<=5/\names.length<=900,λ(z:kX)=>Sp.reached d names z.1.1)⟩
def P8:PA:=⟨320,[.l bg dG],[.b],λ((q,()):CB)=>(True,Sp.linked q,())⟩
def xJ:XA:=⟨315,[.l au ay,.p (.v (.agg [.i,.i,.b,.i,.l aU bG])),.p (.v (.agg [.i,.i,.b,.i,.l aU bG]))],[.f dS gu],λ((d,f,g,()):gB×Ar×vP)=>(aK d/\fZ f/\fZ g/\f.2.2.2.2.1.length+g.2.2.2.2.1.length<=1000,λ(z:kX)=>Sp.touched d f g z.1.1)⟩
def xK:XA:=⟨63,[.l aX dL],[.one (.own aX dL false)],λ((l,()):iT)=>(l.length<=10000000,λ(z:P5)=>z.1.1=l)⟩
def CP:PA:=⟨140,[.i,.kp [.l aX dL]],[.b],λ((x,b,()):Int×P5)=>(True,fF b.1 x,())⟩
def pW:PA:=⟨175,[.l aX dL,.fn 140 [[.l aX dL]]],[.i],λ((l,((b,()),()),()):dR×P5×Unit)=>(True,Sp.findAt (λx=>fF b x.1) l,())⟩
def lG:XA:=⟨139,[.own aX dL,.p (.fn 140 [[.l aX dL]])],[.one (.own aX dL false)],λ((s,((b,()),()),()):dR×P5×Unit)=>(s.length<=10000000,λ(z:P5)=>z.1.1=s.filter λx=>!fF b x.1)⟩
def Gx:XA:=⟨97,[.l aX dL,.l aX dL],[.one (.own aX dL false)],λ((a,b,()):J3)=>(a.length<=10000000,λ(z:P5)=>z.1.1=Sp.without a b)⟩
def Cb:XA:=⟨118,[.l aX dL,.l aX dL],[.l aX dL,.l aX dL],λ((a,b,()):J3)=>(a.length<=10000000/\b.length<=10000000,λ(z:J3×Unit)=>z.1.1=Sp.without b a/\z.1.2.1=Sp.without a b)⟩
def Es:XA:=⟨260,[.l ax aT,.l ax aT],[.l tu Yz],λ((a,b,()):kK×xB)=>(bW a/\bW b,λ(z:anV×Unit)=>z.1.1=KP a b)⟩
def FY:XA:=⟨256,[.l ax aT],[.l ax aT],λ((r,()):xB)=>(bW r,λ(z:xB×Unit)=>z.1.1=r)⟩
def mW:XA:=⟨229,[.p (.v (.agg [.l ah aB,.l ai aF,.i,.l au ay,.l ax aT]))],[.agg [.l ah aB,.l ai aF,.i,.l au ay,.l ax aT]],λ((c,()):Rj)=>(iU c,λ(z:UC)=>z.1.1=c)⟩
def Ku:XA:=⟨300,[.l au ay,.p (.v (.agg [.i,.i,.b,.i,.l aU bG])),.p (.v (.agg [.i,.i,.b,.i,.l aU bG]))],[.f dS gu],λ((d,f,g,()):gB×Ar×vP)=>(aK d/\d.length<=5/\fZ f/\fZ g/\f.2.2.2.2.1.length+g.2.2.2.2.1.length<=1000,λ(z:kX)=>Sp.isSet z.1.1 (Aff d f g))⟩
def yw:XA:=⟨299,[.p (.v (.agg [.l ah aB,.l ai aF,.i,.l au ay,.l ax aT])),.p (.v (.agg [.l ah aB,.l ai aF,.i])),.l au ay,.l dS gu],[.agg [.l ah aB,.l ai aF,.i,.l au ay,.l ax aT],.l tu Yz],λ((c,s,d,names,()):xC×uq×gB×J4)=>(iU c/\aV s/\aK d/\(aA d&&aJ s)=true,λ(z:anW)=>Sp.turned c s d (iY names) z.1.1 z.1.2.1 true)⟩
def AY:XA:=⟨266,[.p (.v (.agg [.l ah aB,.l ai aF,.i,.l au ay,.l ax aT])),.p (.v (.agg [.i,.i,.b,.i,.l aU bG]))],[.agg [.l ah aB,.l ai aF,.i,.l au ay,.l ax aT],.l tu Yz,.b],λ((c,f,()):xC×vP)=>(iU c/\fZ f/\akG c/\akH f,λ(z:Gi)=>Sp.updated c f z.1.1 z.1.2.1 z.1.2.2.1)⟩
def Ru:PA:=⟨13,[.l aX dL,.l aX dL],[.b],λ((a,b,()):J3)=>(True,decide (a=b),())⟩
def Nc:XA:=⟨84,[.ptr [.l eX jw,.i,.i]],[.agg [.l ah aB,.l ai aF,.i,.l au ay,.own ax aT false]],λ(((_,i,_,()),()):iD)=>(0<=i,λ(z:Rj×iD)=>0<=z.2.1.2.1/\aqb z.1.1/\0<z.1.1.2.2.2.1.length)⟩
def KQ:PA:=⟨101,[.l aX dL,.i],[.l aX dL],λ((l,n,()):dR×bZ)=>(l.length<=10000000,Oe l n,())⟩
def zS:PA:=⟨65,[.l aX dL,.v (.agg [.s,.l aX dL,.l aX dL])],[.f aX dL],λ((l,(_,x,y,()),()):dR×(bC×J3)×Unit)=>(l.length+x.length<=8000000,uz l x y,())⟩
def zT:XA:=⟨331,[.p (.v (.agg [.i,.i,.b,.i,.l aU bG]))],[.o dS gu],λ(((_,_,_,_,a,()),()):vP)=>(a.length<=1000,λ(z:kX)=>z.1.1=nZ a)⟩
def zU:XA:=⟨153,[.p (.v (.agg [.i,.i,.b,.i,.l aU bG])),.s,.p (.v (.agg [.i,.i,.s]))],[.agg [.i,.i,.b,.i,.f aU bG]],λ(((i,o,s,l,a,()),t,(k,n,w,()),()):Ar×bC×Gj)=>(a.length<=1000,λ(z:Rl)=>z.1.1.1=i/\z.1.1.2.1=o/\z.1.1.2.2.1=s/\z.1.1.2.2.2.1=l/\z.1.1.2.2.2.2.1=ku a t k n w)⟩
def UE:XA:=⟨28,[.ptr [.l eX jw,.i,.i]],[.s],λ(((_,i,_,()),()):iD)=>(0<=i,λ(z:pU)=>0<=z.2.1.2.1/\z.1.1.length<=10)⟩
def Jq:XA:=⟨77,[.ptr [.l eX jw,.i,.i]],[.l aX dL],λ(((_,i,_,()),()):iD)=>(0<=i,λ(z:iT×iD)=>0<=z.2.1.2.1/\z.1.1.length<=7)⟩
def WZ:XA:=⟨51,[.ptr [.l eX jw,.i,.i]],[.agg [.l ah aB,.l ai aF,.i,.l au ay,.l ax aT]],λ(((_,i,_,()),()):iD)=>(0<=i,λ(z:Rj×iD)=>0<=z.2.1.2.1/\kC z.1.1)⟩
def PD:XA:=⟨309,[.l au ay,.p (.v (.agg [.s,.l bg dG]))],[.l au ay,.b],λ((d,x,()):gB×(bC×CB)×Unit)=>(aK d/\d.length<=900/\x.2.1.length<=1000,λ(z:atY)=>z.1.1=(iF d x).1/\z.1.2.1=(iF d x).2)⟩
def Ip:XA:=⟨296,[.p (.v (.agg [.l ah aB,.l ai aF,.i,.l au ay,.l ax aT])),.p (.v (.agg [.s,.l bg dG]))],[.agg [.l ah aB,.l ai aF,.i,.l au ay,.l ax aT],.l tu Yz,.b],λ((c,x,()):xC×(bC×CB)×Unit)=>(kC c/\x.2.1.length<=1000,λ(z:Gi)=>Sp.became c (aQ c) (iF (bF c) x).1 (dn c&&((iF (bF c) x).2&&aA (iF (bF c) x).1)) z.1.1 z.1.2.1 z.1.2.2.1)⟩
def UF:XA:=⟨293,[.p (.v (.agg [.l ah aB,.l ai aF,.i,.l au ay,.l ax aT])),.p (.v (.agg [.i,.i,.b,.i,.l aU bG]))],[.agg [.l ah aB,.l ai aF,.i,.l au ay,.l ax aT],.i,.l tu Yz,.b],λ((c,f,()):xC×vP)=>(kC c/\fZ f,λ(z:(xC×Int×atU)×Unit)=>Sp.became c (bH (aQ c) f).1 (bF c) (dn c&&(bH (aQ c) f).2.2) z.1.1 z.1.2.2.1 z.1.2.2.2.1/\z.1.2.1=(bif z.1.2.2.2.1 then(bH (aQ c) f).2.1 else 0))⟩
def Og:XA:=⟨295,[.p (.v (.agg [.l ah aB,.l ai aF,.i,.l au ay,.l ax aT])),.i],[.agg [.l ah aB,.l ai aF,.i,.l au ay,.l ax aT],.l tu Yz,.b],λ((c,id,()):xC×bZ)=>(kC c,λ(z:Gi)=>Sp.became c (dM (aQ c) id).1 (bF c) (dn c&&(dM (aQ c) id).2) z.1.1 z.1.2.1 z.1.2.2.1)⟩
def UG:PA:=⟨108,[.v (.agg [.i,.i,.b,.i,.l aU bG]),.i],[.b],λ((f,u,()):Ar×bZ)=>(True,uT f u,())⟩
def UH:PA:=⟨136,[.v (.agg [.i,.i,.b,.i,.l aU bG]),.i],[.b],λ((f,u,()):Ar×bZ)=>(True,uT f u,())⟩
def KR:PA:=⟨294,[.v (.agg [.i,.i,.b,.i,.l aU bG]),.i],[.b],λ((f,u,()):Ar×bZ)=>(True,Az f u,())⟩
def Nh:XA:=⟨27,[.ptr [.l eX jw,.i,.i]],[.i],λ(((_,i,_,()),()):iD)=>(0<=i,λ(z:oU)=>0<=z.2.1.2.1)⟩
def UI:PA:=⟨261,[.v (.agg [.l ah aB,.l ai aF,.i,.l au ay,.l ax aT]),.i,.i],[.agg [.i,.i,.b,.i,.l aU bG],.b],λ((c,u,id,()):xC×PX)=>(iU c,(bI (aQ c) id).1,(rP c u id&&dn c),())⟩
def P9:XA:=⟨311,[.l au ay,.s],[.l au ay,.b],λ((d,t,()):gB×jC)=>(aK d,λ(z:atY)=>z.1.1=(Sp.removeDir d t).1/\z.1.2.1=(Sp.removeDir d t).2)⟩
def Iq:XA:=⟨297,[.p (.v (.agg [.l ah aB,.l ai aF,.i,.l au ay,.l ax aT])),.s],[.agg [.l ah aB,.l ai aF,.i,.l au ay,.l ax aT],.l tu Yz,.b],λ((c,t,()):xC×jC)=>(kC c/\dn c=true,λ(z:Gi)=>Sp.became c (aQ c) (Sp.removeDir (bF c) t).1 (Sp.removeDir (bF c) t).2 z.1.1 z.1.2.1 z.1.2.2.1)⟩
def Et:XA:=⟨259,[.p (.v (.agg [.l ah aB,.l ai aF,.i,.l au ay,.l ax aT])),.i,.p (.v (.agg [.i,.i,.i,.b,.i,.l aU bG,.i,.s,.l bg dG]))],[.agg [.l ah aB,.l ai aF,.i,.l au ay,.l ax aT],.l tu Yz,.b],λ((c,u,x,()):xC×Int×Ua×Unit)=>(kC c/\tC x,λ(z:Gi)=>Sp.applied c u x z.1.1 z.1.2.1 z.1.2.2.1)⟩
def Rw:PA:=⟨301,[.v (.agg [.i,.i,.b,.i,.l aU bG])],[.i],λ((f,()):vP)=>(fZ f,Qa f,())⟩
def Ir:PA:=⟨270,[.v (.agg [.l ah aB,.l ai aF,.i]),.i],[.i],λ((s,u,()):uq×bZ)=>(aV s,pO s.2.1 u,())⟩
def Rx:PA:=⟨271,[.l aX dL,.i],[.i],λ((q,u,()):dR×bZ)=>(True,QJ q u,())⟩
def wC:PA:=⟨239,[.v (.agg [.l ah aB,.l ai aF,.i]),.l aX dL],[.b],λ((s,q,()):uq×iT)=>(aV s,wV s.2.1 q,())⟩
def KT:XA:=⟨49,[.ptr [.l eX jw,.i,.i]],[.l aX dL],λ(((_,i,_,()),()):iD)=>(0<=i,λ(z:iT×iD)=>0<=z.2.1.2.1/\z.1.1.length<=3)⟩
def rJ:XA:=⟨235,[.p (.v (.agg [.l ah aB,.l ai aF,.i,.l au ay,.l ax aT])),.i,.l qP Iu,.l aX dL],[.agg [.l ah aB,.l ai aF,.i,.l au ay,.l ax aT],.l tu Yz,.b],λ((c,u,a,q,()):xC×Int×List Ua×iT)=>(kC c/\a.length<=1000/\(∀x∈a,tC x),λ(z:Gi)=>wE c u a q z.1.1 z.1.2.1 z.1.2.2.1)⟩
def xP:PA:=⟨72,[.v (.agg [.l ah aB,.l ai aF,.i]),.i],[.agg [.l ah aB,.l ai aF,.i]],λ((s,u,()):uq×bZ)=>(aV s,Sp.visible s u,())⟩
def DC:PA:=⟨94,[.v (.agg [.l ah aB,.l ai aF,.i]),.i],[.agg [.l ah aB,.l ai aF,.i]],λ((s,u,()):uq×bZ)=>(aV s,Sp.visible s u,())⟩
def Nj:PA:=⟨262,[.l au ay,.s],[.agg [.s,.l bg dG],.b],λ((d,t,()):gB×jC)=>(aK d,(sH d t).1,(sH d t).2,())⟩
def yM:XA:=⟨55,[.p (.v (.agg [.l ah aB,.l ai aF,.i])),.l au ay,.i],[.l ax aT,.b],λ((s,d,u,()):uq×gB×bZ)=>(aV s/\aK d,λ(z:J5)=>z.1.1=(nD s d u).1/\z.1.2.1=(nD s d u).2)⟩
def tH:XA:=⟨43,[.p (.v (.agg [.l ah aB,.l ai aF,.i])),.l au ay,.i],[.l ax aT,.b],λ((s,d,u,()):uq×gB×bZ)=>(aV s/\aK d,λ(z:J5)=>z.1.1=(nD s d u).1/\z.1.2.1=(nD s d u).2)⟩
def Nk:PA:=⟨30,[.v (.agg [.l ah aB,.l ai aF,.i]),.l au ay,.i,.s],[.l aX dL],λ((s,d,u,t,()):uq×gB×Int×jC)=>(aV s/\aK d,dI s d u t,())⟩
def nP:PA:=⟨21,[.v (.agg [.l ah aB,.l ai aF,.i]),.l au ay,.i,.s],[.l aX dL],λ((s,d,u,t,()):uq×gB×Int×jC)=>(aV s/\aK d,dI s d u t,())⟩
def Ry:PA:=⟨268,[.v (.agg [.l ah aB,.l ai aF,.i]),.l au ay,.i,.s,.i],[.b],λ((s,d,u,t,id,()):uq×gB×Int×WS)=>(aV s/\aK d/\Nl s d u,Sp.listed s d u t id,())⟩
def AZ:PA:=⟨312,[.v (.agg [.b,.l aU bG]),.v (.agg [.b,.l aU bG])],[.agg [.b,.f aU bG]],λ((a,b,()):(Bool×Cm)×abo)=>(a.2.1.length+b.2.1.length<=900,CQ a b,())⟩
def Jr:PA:=⟨313,[.v (.agg [.b,.l aU bG]),.v (.agg [.b,.l aU bG])],[.agg [.b,.l aU bG]],λ((a,b,()):(Bool×Cm)×abo)=>(True,Rz a b,())⟩
def Eu:List jL:=[.p (.v (.one (.sl bg dG false))),.p (.v (.one (.int .i64))),.p (.v (.agg [.int .i64,.int .i64,.bool,.int .i64,.sl aU bG false])),.p (.v (.one (.sl ax aT false))),.p (.v (.one (.bool)))]
def YA:List nY:=[.agg [.c .bool,.c (.sl aU bG false)]]
def aua:lV Eu->Prop×(qg YA×o9 Eu->Prop):=λ(q,b,(i,o,s,l,a,()),r,m,())=>(aN q=true/\0<=b/\b<q.length/\bW r,λ(((d,e,()),()),())=>(d,e,())=iO q (i,o,s,l,a,()) (bK r) b.toNat m)
def Qb:Ii:=sW Eu YA aua
def wF:List jL:=[.p (.v (.one (.sl bg dG false))),.p (.v (.one (.int .i64))),.p (.v (.agg [.int .i64,.int .i64,.bool,.int .i64,.sl aU bG false])),.p (.v (.one (.sl ax aT false))),.p (.v (.one (.bool)))]
def QK:List nY:=[.agg [.c .bool,.c (.sl aU bG false)]]
def Ue[kU]:lV wF->Prop×(qg QK×o9 wF->Prop):=λ(q,b,(i,o,s,l,a,()),r,m,())=>((aN q=true/\0<=b/\b<q.length/\bW r)/\b.toNat<je,λ(((d,e,()),()),())=>(d,e,())=iO q (i,o,s,l,a,()) (bK r) b.toNat m)
def Gy[kU]:Ii:=sW wF QK Ue
def zV:List jL:=[.p (.v (.one (.sl bg dG false))),.p (.v (.one (.int .i64))),.p (.v (.agg [.int .i64,.int .i64,.bool,.int .i64,.sl aU bG false])),.p (.v (.one (.sl ax aT false))),.p (.v (.one (.bool)))]
def OE:List nY:=[.agg [.c .bool,.c (.sl aU bG false)]]
def Bg[kU]:lV zV->Prop×(qg OE×o9 zV->Prop):=λ(q,b,(i,o,s,l,a,()),r,m,())=>((aN q=true/\0<=b/\b<q.length/\bW r)/\b.toNat<je+1,λ(((d,e,()),()),())=>(d,e,())=iO q (i,o,s,l,a,()) (bK r) b.toNat m)
def OG[kU]:Ii:=sW zV OE Bg
def Ew:PA:=⟨265,[.l bg dG,.v (.agg [.i,.i,.b,.i,.l aU bG]),.l ax aT],[.agg [.b,.l aU bG]],λ((q,f,r,()):iR×Ar×xB)=>(q.length<=1000/\bW r,KU q f (bK r) true,())⟩
def Bh:PA:=⟨264,[.l bg dG,.v (.agg [.i,.i,.b,.i,.l aU bG]),.l ax aT],[.agg [.b,.l aU bG]],λ((q,f,r,()):iR×Ar×xB)=>(q.length<=1000/\bW r,KU q f (bK r) false,())⟩
def Iw:XA:=⟨267,[.p (.v (.agg [.i,.i,.b,.i,.l aU bG])),.p (.v (.agg [.b,.l aU bG]))],[.agg [.i,.i,.b,.i,.f aU bG]],λ(((i,o,s,l,a,()),e,()):Ar×abo)=>(a.length<=400/\e.2.1.length<=400,λ(z:Rl)=>z.1.1=Sp.edited (i,o,s,l,a,()) e.2.1)⟩
def Ey:XA:=⟨238,[.p (.v (.agg [.l ah aB,.l ai aF,.i,.l au ay,.l ax aT])),.i,.s,.i,.b],[.agg [.l ah aB,.l ai aF,.i,.l au ay,.l ax aT],.l aU bG,.b],λ((c,u,t,id,b,()):xC×Int×bC×Int×dZ)=>(kC c,λ(z:abp)=>Sp.written c u t id b z.1.1 z.1.2.1 z.1.2.2.1)⟩
def RD:XA:=⟨196,[.p (.v (.agg [.l ah aB,.l ai aF,.i,.l au ay,.l ax aT])),.i,.s,.i],[.agg [.l ah aB,.l ai aF,.i,.l au ay,.l ax aT],.l aU bG,.b],λ((c,u,t,id,()):xC×Int×WS)=>(kC c,λ(z:abp)=>Sp.written c u t id true z.1.1 z.1.2.1 z.1.2.2.1)⟩
def Iy:XA:=⟨198,[.p (.v (.agg [.l ah aB,.l ai aF,.i,.l au ay,.l ax aT])),.i,.s,.i],[.agg [.l ah aB,.l ai aF,.i,.l au ay,.l ax aT],.l aU bG,.b],λ((c,u,t,id,()):xC×Int×WS)=>(kC c,λ(z:abp)=>Sp.written c u t id false z.1.1 z.1.2.1 z.1.2.2.1)⟩
def Iz:XA:=⟨145,[],[.o ah aB],λ(())=>(True,λ(z:ad6)=>z.1.1=Sp.usual)⟩
def yx:PA:=⟨206,[.s],[.i,.b],λ((s,()):jC)=>(True,Sp.parseNum s,lD s,())⟩
def IA:PA:=⟨208,[.i],[.one (.int .u8)],λ((x,()):bZ)=>(0<=x/\x<10,48+x,())⟩
def oH:PA:=⟨158,[.i],[.s],λ((n,()):bZ)=>(True,Lib.itoa n,())⟩
def qI:PA:=⟨276,[.s],[.f dS gu,.b],λ((s,()):jC)=>(s.length<=1048576,kD s,sJ s,())⟩
def qX:PA:=⟨277,[.l dS gu,.i],[.s],λ((w,i,()):xE×bZ)=>(0<=i,Sp.wordAt w i,())⟩
def Js:PA:=⟨278,[.l dS gu,.i],[.i],λ((w,i,()):xE×bZ)=>(0<=i,Sp.numAt w i,())⟩
def yA:PA:=⟨281,[.l dS gu],[.s],λ((w,()):J4)=>(w.length<=1000/\(mY w).length<=2097152,mY w,())⟩
def qJ:PA:=⟨248,[.v (.agg [.i,.i,.s])],[.s],λ(((k,n,s,()),()):Gj)=>(True,iI (k,n,s,()),())⟩
def pR:PA:=⟨279,[.s],[.agg [.i,.i,.s],.b],λ((s,()):jC)=>(s.length<=1048576,(gZ s).1,(gZ s).2,())⟩
def uD:PA:=⟨282,[.i],[.s],λ((op,()):bZ)=>(True,lH op,())⟩
def aar:List jZ:=[.v (.one (.sl bg dG false)),.v (.one (.int .i64))]
def YB:List qH:=[.one (.str)]
def aub:oG aar->Prop×wz YB:=λ(q,b,())=>(aN q=true/\0<=b/\b<q.length,Lib.join (jf (b.toNat+1) q b) [32],())
def YC:VS:=tq aar YB aub
def RG:List jZ:=[.v (.one (.sl bg dG false)),.v (.one (.int .i64))]
def QL:List qH:=[.one (.str)]
def Uf[kU]:oG RG->Prop×wz QL:=λ(q,b,())=>((aN q=true/\0<=b/\b<q.length)/\b.toNat<je,Lib.join (jf (b.toNat+1) q b) [32],())
def Gz[kU]:VS:=tq RG QL Uf
def GH:List jZ:=[.v (.one (.sl bg dG false)),.v (.one (.int .i64))]
def OH:List qH:=[.one (.str)]
def RH[kU]:oG GH->Prop×wz OH:=λ(q,b,())=>((aN q=true/\0<=b/\b<q.length)/\b.toNat<je+1,Lib.join (jf (b.toNat+1) q b) [32],())
def OI[kU]:VS:=tq GH OH RH
def uU:PA:=⟨211,[.l bg dG],[.s],λ((q,()):CB)=>(q.length<=2000000,Sp.textOf q,())⟩
def KW:List jL:=[.p (.v (.one (.sl dS gu false))),.p (.v (.one (.int .i64))),.own bg dG,.p (.v (.one (.int .i64)))]
def YD:List nY:=[.one (.own bg dG false),.one (.c (.int .i64))]
def auc:lV KW->Prop×(qg YD×o9 KW->Prop):=λ(p,b,q,f,())=>(p.length<=1000/\0<=b/\b.toNat+3*2 ^ (10-f).toNat<=1000000/\0<=f/\f<=10/\(∀x∈p,x.1.length<=1000)/\q.length<=100,λ((r,k,()),())=>r=(Sp.rs (10-f).toNat (p.drop b.toNat) q).1/\k=(Sp.rs (10-f).toNat (p.drop b.toNat) q).2)
def YE:Ii:=sW KW YD auc
def wG:List jL:=[.p (.v (.one (.sl dS gu false))),.p (.v (.one (.int .i64))),.own bg dG,.p (.v (.one (.int .i64)))]
def QM:List nY:=[.one (.own bg dG false),.one (.c (.int .i64))]
def Ug[kU]:lV wG->Prop×(qg QM×o9 wG->Prop):=λ(p,b,q,f,())=>((p.length<=1000/\0<=b/\b.toNat+3*2 ^ (10-f).toNat<=1000000/\0<=f/\f<=10/\(∀x∈p,x.1.length<=1000)/\q.length<=100)/\(10-f).toNat<je,λ((r,k,()),())=>r=(Sp.rs (10-f).toNat (p.drop b.toNat) q).1/\k=(Sp.rs (10-f).toNat (p.drop b.toNat) q).2)
def GI[kU]:Ii:=sW wG QM Ug
def zW:List jL:=[.p (.v (.one (.sl dS gu false))),.p (.v (.one (.int .i64))),.own bg dG,.p (.v (.one (.int .i64)))]
def OJ:List nY:=[.one (.own bg dG false),.one (.c (.int .i64))]
def Bj[kU]:lV zW->Prop×(qg OJ×o9 zW->Prop):=λ(p,b,q,f,())=>((p.length<=1000/\0<=b/\b.toNat+3*2 ^ (10-f).toNat<=1000000/\0<=f/\f<=10/\(∀x∈p,x.1.length<=1000)/\q.length<=100)/\(10-f).toNat<je+1,λ((r,k,()),())=>r=(Sp.rs (10-f).toNat (p.drop b.toNat) q).1/\k=(Sp.rs (10-f).toNat (p.drop b.toNat) q).2)
def OM[kU]:Ii:=sW zW OJ Bj
def wW:PA:=⟨280,[.s],[.l bg dG,.b],λ((s,()):jC)=>(s.length<=1048576,mZ s,uV s,())⟩
def IB:PA:=⟨190,[.v (.agg [.i,.i,.l qP Iu,.s,.i])],[.b],λ(((k,_,c,_,_,()),()):Uz×Unit)=>(True,YF k c.length,())⟩
def Np:XA:=⟨103,[.ptr [.l eX jw,.i,.i],.i],[.agg [.i,.i,.i,.b,.i,.l aU bG,.i,.s,.l bg dG]],λ(((_,i,_,()),_,()):qC×bZ)=>(0<=i,λ(z:ahS)=>0<=z.2.1.2.1/\JL z.1.1)⟩
def YG:XA:=⟨147,[.ptr [.l eX jw,.i,.i],.i],[.agg [.i,.i,.i,.b,.i,.l aU bG,.i,.s,.l bg dG]],λ(((_,i,_,()),_,()):qC×bZ)=>(0<=i,λ(z:ahS)=>0<=z.2.1.2.1/\JL z.1.1)⟩
def PE:XA:=⟨104,[.ptr [.l eX jw,.i,.i]],[.agg [.i,.i,.own qP Iu false,.s,.i]],λ(((_,i,_,()),()):iD)=>(0<=i,λ(z:(Uz×Unit)×iD)=>0<=z.2.1.2.1/\z.1.1.2.2.1.length<=2/\z.1.1.2.2.2.1.length<=10/\∀c∈z.1.1.2.2.1,tC c)⟩
def A7:PA:=⟨210,[.v (.agg [.i,.i,.b,.i,.l aU bG])],[.s],λ((f,()):vP)=>(f.2.2.2.2.1.length<=1048576/\(lg f.2.2.2.2.1).length<=1073741824,lM f,())⟩
def zi:PA:=⟨209,[.v (.agg [.s,.i])],[.s],λ(((n,k,()),()):WS×Unit)=>(n.length<=1048576,iP (n,k,()),())⟩
def AA:XA:=⟨159,[.p (.v (.agg [.l ah aB,.l ai aF,.i,.l au ay]))],[.o dS gu],λ((x,()):UA)=>(fB x,λ(z:kX)=>z.1.1=Sp.enc x)⟩
def l9:PA:=⟨159,[.v (.agg [.l ah aB,.l ai aF,.i,.l au ay])],[.f dS gu],λ((x,()):UA)=>(fB x,Sp.enc x,())⟩
def Fj:List jZ:=[.v (.one (.sl dS gu false))]
def NY:List qH:=[.agg [.sl ah aB true,.sl ai aF true,.int .i64,.sl au ay true],.one (.bool)]
def acj:oG Fj->Prop×wz NY:=λ(l,())=>(YH l,(Sp.dec l).1,(Sp.dec l).2,())
def DZ:VS:=tq Fj NY acj
def zX:PA:=⟨247,[.l dS gu,.l dS gu],[.b],λ((a,b,()):xE×J4)=>(True,decide (a=b),())⟩
def KX:PA:=⟨160,[.s],[.i],λ((s,()):jC)=>(s.length<=1048576,Sp.sumOf s,())⟩
def A8:PA:=⟨120,[.i,.v (.agg [.l ah aB,.l ai aF,.i,.l au ay])],[.s],λ((n,x,()):Int×UA)=>(fB x,Sp.slot n x,())⟩
def PG:PA:=⟨205,[.s],[.f dS gu],λ((s,()):jC)=>(s.length<=1048576,Qc s,())⟩
def FZ:PA:=⟨156,[.s],[.i,.agg [.f ah aB,.f ai aF,.i,.f au ay],.b],λ((s,()):jC)=>(dJ s,(dV s).1,(dV s).2.1,(dV s).2.2,())⟩
def CS:PA:=⟨119,[.v (.agg [.s,.s])],[.i,.agg [.f ah aB,.f ai aF,.i,.f au ay],.b,.b],λ(((a,b,()),()):anX)=>(dJ a/\dJ b,(Sp.latest a b).1,(Sp.latest a b).2.1,(Sp.latest a b).2.2.1,(Sp.latest a b).2.2.2,())⟩
def zY:PA:=⟨230,[.v (.agg [.s,.s])],[.i,.agg [.f ah aB,.f ai aF,.i,.f au ay],.b],λ(((a,b,()),()):anX)=>(dJ a/\dJ b,(Sp.latest a b).1,(Sp.latest a b).2.1,(Sp.latest a b).2.2.1,())⟩
def RI:PA:=⟨121,[.i,.i,.i],[.i],λ((n,a,D,()):Int×PX)=>(a<=D,max a (min n D),())⟩
def uF:PA:=⟨81,[.v (.agg [.s,.s]),.v (.agg [.l ah aB,.l ai aF,.i,.l au ay]),.i],[.agg [.s,.s],.b],λ(((a,b,()),x,k,()):(bC×jC)×abn×bZ)=>(dJ a/\dJ b/\fB x,(gq a b x k).1,(gq a b x k).2.1,())⟩
def Nq:XA:=⟨48,[.ptr [.l eX jw,.i,.i]],[.agg [.s,.s]],λ(((_,i,_,()),()):iD)=>(0<=i,λ(z:anX×iD)=>0<=z.2.1.2.1/\dJ z.1.1.1/\dJ z.1.1.2.1)⟩
def UJ:PA:=⟨258,[.l aX dL],[.b],λ((a,()):iT)=>(True,Sp.rise a,())⟩
def Qd:List jZ:=[.v (.one (.sl aX dL false)),.v (.one (.sl aX dL false)),.v (.one (.sl aX dL false))]
def Xt:List qH:=[.one (.sl aX dL true)]
def aqc:oG Qd->Prop×wz Xt:=λ(b,added,a,())=>(b.length+added.length<=8000000,uz b added a,())
def Oh:VS:=tq Qd Xt aqc
def xQ:PA:=⟨38,[.l aX dL,.l dY ja],[.l aX dL],λ((a,b,()):dR×WT)=>(RJ a b,Sp.replay a b,())⟩
def sK:PA:=⟨39,[.l aX dL,.l dY ja],[.f aX dL],λ((a,b,()):dR×WT)=>(RJ a b,Sp.replay a b,())⟩
def Kv:PA:=⟨34,[.v (.agg [.i,.s,.l aX dL,.l dY ja])],[.l aX dL],λ((w,()):H8×Unit)=>(jP w,Sp.listing w,())⟩
def sN:PA:=⟨37,[.v (.agg [.i,.s,.l aX dL,.l dY ja])],[.f aX dL],λ((w,()):H8×Unit)=>(jP w,Sp.listing w,())⟩
def IC:XA:=⟨66,[.p (.v (.agg [.i,.l aX dL,.l aX dL]))],[.agg [.i,.l aX dL,.l aX dL]],λ((e,()):ahR)=>(RN e,λ(z:ahR×Unit)=>z.1.1=e)⟩
def IE:XA:=⟨60,[.p (.v (.agg [.i,.s,.l aX dL,.l dY ja]))],[.agg [.i,.s,.l aX dL,.own dY ja false]],λ((w,()):H8×Unit)=>(jP w,λ(z:yX)=>z.1.1=w)⟩
def yB:XA:=⟨67,[.l dY ja],[.o dY ja],λ((a,()):WT)=>(a.length<=4000000/\∀e∈a,RN e,λ(z:Yv)=>z.1.1=a)⟩
def uX:XA:=⟨62,[.p (.v (.agg [.i,.s,.l aX dL,.l dY ja]))],[.agg [.i,.s,.l aX dL,.l dY ja]],λ((w,()):H8×Unit)=>(jP w,λ(z:yX)=>z.1.1=w)⟩
def GK:XA:=⟨62,[.p (.v (.agg [.i,.s,.l aX dL,.l dY ja]))],[.agg [.i,.s,.l aX dL,.own dY ja true]],λ((w,()):H8×Unit)=>(jP w,λ(z:yX)=>z.1.1=w)⟩
def Jt:XA:=⟨76,[.p (.v (.agg [.i,.s,.l aX dL,.l dY ja])),.i,.p (.v (.agg [.l ah aB,.l ai aF,.i])),.l au ay],[.agg [.i,.s,.l aX dL,.l dY ja]],λ((w,n,s,d,()):H8×Int×uq×uo)=>(jP w/\aV s/\aK d,λ(z:yX)=>z.1.1=Sp.told w n (dI s d w.1 w.2.1))⟩
def RP:XA:=⟨75,[.p (.v (.agg [.l ah aB,.l ai aF,.i])),.l au ay,.i,.s],[.agg [.i,.s,.l aX dL,.l dY ja]],λ((s,d,u,t,()):uq×gB×Int×jC)=>(aV s/\aK d,λ(z:yX)=>z.1.1=(u,t,dI s d u t,[],()))⟩
def DF:PA:=⟨234,[.v (.agg [.i,.s,.l aX dL,.l dY ja])],[.b],λ((w,()):H8×Unit)=>(jP w,sO w,())⟩
def xR:PA:=⟨188,[.l aX dL],[.b],λ((q,()):iT)=>(True,pG q,())⟩
def uY:XA:=⟨233,[.p (.v (.agg [.l ah aB,.l ai aF,.i,.l au ay,.l ax aT,.s,.s,.i,.l bf gV,.l dQ jW,.l aX dL]))],[.agg [.f ah aB,.f ai aF,.i,.f au ay]],λ((x,()):CG×Unit)=>(iU (jQ x),λ(z:PY)=>z.1.1=rX x)⟩
def Ez:PA:=⟨232,[.v (.agg [.l ah aB,.l ai aF,.i,.l au ay]),.v (.agg [.l ah aB,.l ai aF,.i,.l au ay])],[.b],λ((a,b,()):abn×UA)=>(fB a/\fB b,kL a b,())⟩
def qY:XA:=⟨189,[.p (.v (.agg [.l ah aB,.l ai aF,.i,.l au ay,.l ax aT,.s,.s,.i,.l bf gV,.l dQ jW,.l aX dL]))],[.agg [.l ah aB,.l ai aF,.i,.l au ay,.l ax aT,.s,.s,.i,.own bf gV true,.own dQ jW false,.l aX dL]],λ((x,()):CG×Unit)=>(Sp.anyS x,λ(z:N9)=>z.1.1=x)⟩
def IG:XA:=⟨32,[.p (.v (.agg [.l ah aB,.l ai aF,.i,.l au ay,.l ax aT,.s,.s,.i,.l bf gV,.l dQ jW,.l aX dL])),.i],[.agg [.i,.s,.l aX dL,.l dY ja],.b],λ((x,i,()):CG×bZ)=>(Sp.anyS x,λ(z:atZ)=>z.1.1=(yN x i).1/\z.1.2.1=(yN x i).2)⟩
def qi:PA:=⟨11,[.v (.agg [.l ah aB,.l ai aF,.i,.l au ay,.l ax aT,.s,.s,.i,.l bf gV,.l dQ jW,.l aX dL]),.i],[.b],λ((x,i,()):CG×bZ)=>(Sp.anyS x,AB x i,())⟩
def rY:PA:=⟨16,[.v (.agg [.l ah aB,.l ai aF,.i,.l au ay,.l ax aT,.s,.s,.i,.l bf gV,.l dQ jW,.l aX dL])],[.b],λ((x,()):CG×Unit)=>(Sp.anyS x,Sp.streams x,())⟩
def qZ:PA:=⟨191,[.v (.agg [.l ah aB,.l ai aF,.i,.l au ay,.l ax aT,.s,.s,.i,.l bf gV,.l dQ jW,.l aX dL])],[.b],λ((x,()):CG×Unit)=>(Sp.anyS x,lX x,())⟩
def Ju:XA:=⟨236,[.p (.v (.agg [.l ah aB,.l ai aF,.i,.l au ay,.l ax aT,.s,.s,.i,.l bf gV,.l dQ jW,.l aX dL])),.p (.v (.agg [.l ah aB,.l ai aF,.i,.l au ay,.l ax aT]))],[.agg [.l ah aB,.l ai aF,.i,.l au ay,.l ax aT,.s,.s,.i,.l bf gV,.own dQ jW false,.l aX dL],.b],λ((x,c,()):CG×Rj)=>(Sp.anyS x/\kC c,λ(z:Au)=>(z.1.1,z.1.2.1)=Sp.commit x c)⟩
def GL:XA:=⟨192,[.p (.v (.agg [.l ah aB,.l ai aF,.i,.l au ay,.l ax aT,.s,.s,.i,.l bf gV,.l dQ jW,.l aX dL])),.i,.l qP Iu],[.agg [.l ah aB,.l ai aF,.i,.l au ay,.l ax aT,.s,.s,.i,.l bf gV,.own dQ jW false,.l aX dL],.b],λ((x,u,a,()):CG×Int×List Ua×Unit)=>(Sp.anyS x/\a.length<=1000/\(∀c∈a,tC c),λ(z:Au)=>akI x u a z.1.1 z.1.2.1)⟩
def Nr:XA:=⟨237,[.p (.v (.agg [.l ah aB,.l ai aF,.i,.l au ay,.l ax aT,.s,.s,.i,.l bf gV,.l dQ jW,.l aX dL]))],[.agg [.l ah aB,.l ai aF,.i,.l au ay,.l ax aT,.s,.s,.i,.l bf gV,.own dQ jW false,.l aX dL],.b],λ((x,()):CG×Unit)=>(Sp.anyS x,λ(z:Au)=>(z.1.1,z.1.2.1)=Sp.recover x)⟩
def wH:XA:=⟨193,[.p (.v (.agg [.l ah aB,.l ai aF,.i,.l au ay,.l ax aT,.s,.s,.i,.l bf gV,.l dQ jW,.l aX dL])),.i,.l qP Iu,.i],[.agg [.l ah aB,.l ai aF,.i,.l au ay,.l ax aT,.s,.s,.i,.l bf gV,.own dQ jW false,.l aX dL],.b],λ((x,u,a,k,()):CG×Int×List Ua×bZ)=>(Sp.anyS x/\a.length<=1000/\(∀c∈a,tC c),λ(z:Au)=>Sp.crashed x u a k z.1.1 z.1.2.1)⟩
def KY:XA:=⟨197,[.p (.v (.agg [.l ah aB,.l ai aF,.i,.l au ay,.l ax aT,.s,.s,.i,.l bf gV,.l dQ jW,.l aX dL])),.p (.v (.agg [.l ah aB,.l ai aF,.i,.l au ay,.l ax aT])),.b],[.agg [.l ah aB,.l ai aF,.i,.l au ay,.l ax aT,.s,.s,.i,.l bf gV,.own dQ jW false,.l aX dL],.b],λ((x,c,a,()):CG×xC×dZ)=>(Sp.anyS x/\kC c,λ(z:Au)=>(z.1.1,z.1.2.1)=bif a&&wV c.2.1 (zk x)then Sp.commit x c else(x,false))⟩
def II:XA:=⟨146,[.p (.v (.agg [.l ah aB,.l ai aF,.i,.l au ay,.l ax aT,.s,.s,.i,.l bf gV,.l dQ jW,.l aX dL])),.p (.v (.agg [.i,.i,.l qP Iu,.s,.i]))],[.agg [.l ah aB,.l ai aF,.i,.l au ay,.l ax aT,.s,.s,.i,.l bf gV,.own dQ jW false,.l aX dL],.b],λ((x,a,()):CG×Uz×Unit)=>(Sp.anyS x/\zZ a,λ(z:Au)=>IJ x a z.1.1 z.1.2.1)⟩
def IK:XA:=⟨35,[.p (.v (.agg [.l ah aB,.l ai aF,.i,.l au ay,.l ax aT,.s,.s,.i,.l bf gV,.l dQ jW,.l aX dL])),.i],[.agg [.i,.s,.l aX dL,.l dY ja],.b],λ((x,i,()):CG×bZ)=>(Sp.anyS x,λ(z:atZ)=>z.1.1=(yN x i).1/\z.1.2.1=(yN x i).2)⟩
def qj:PA:=⟨12,[.v (.agg [.l ah aB,.l ai aF,.i,.l au ay,.l ax aT,.s,.s,.i,.l bf gV,.l dQ jW,.l aX dL]),.i],[.b],λ((x,i,()):CG×bZ)=>(Sp.anyS x,AB x i,())⟩
def rZ:PA:=⟨17,[.v (.agg [.l ah aB,.l ai aF,.i,.l au ay,.l ax aT,.s,.s,.i,.l bf gV,.l dQ jW,.l aX dL])],[.b],λ((x,()):CG×Unit)=>(Sp.anyS x,Sp.streams x,())⟩
def LJ:XA:=⟨40,[.p (.v (.agg [.i,.s,.l aX dL,.l dY ja])),.i],[.l dY ja],λ((w,n,()):H8×bZ)=>(jP w,λ(z:Yv)=>z.1.1=Sp.since w n)⟩
def LK:XA:=⟨41,[.p (.v (.agg [.i,.s,.l aX dL,.l dY ja])),.i],[.l dY ja],λ((w,n,()):H8×bZ)=>(jP w,λ(z:Yv)=>z.1.1=Sp.since w n)⟩
def EC:PA:=⟨18,[.v (.agg [.i,.s,.l aX dL,.l dY ja]),.i],[.i],λ((w,n,()):H8×bZ)=>(jP w,Sp.missed w n,())⟩
def ED:PA:=⟨19,[.v (.agg [.i,.s,.l aX dL,.l dY ja]),.i],[.i],λ((w,n,()):H8×bZ)=>(jP w,Sp.missed w n,())⟩
def LM:PA:=⟨14,[.v (.agg [.i,.s,.l aX dL,.l dY ja]),.i],[.l aX dL],λ((w,n,()):H8×bZ)=>(jP w,aDo w n,())⟩
def LQ:PA:=⟨15,[.v (.agg [.i,.s,.l aX dL,.l dY ja]),.i],[.f aX dL],λ((w,n,()):H8×bZ)=>(jP w,aDo w n,())⟩
def D5:XA:=⟨8,[.p (.v (.agg [.l ah aB,.l ai aF,.i,.l au ay,.l ax aT,.s,.s,.i,.l bf gV,.l dQ jW,.l aX dL])),.i,.i,.s],[.l aX dL,.b],λ((x,n,u,a,()):CG×ahO)=>(Sp.anyS x,λ(z:Ls)=>(z.1.1,z.1.2.1)=pX x n u a)⟩
def D6:XA:=⟨9,[.p (.v (.agg [.l ah aB,.l ai aF,.i,.l au ay,.l ax aT,.s,.s,.i,.l bf gV,.l dQ jW,.l aX dL])),.i,.i,.s],[.l aX dL,.b],λ((x,n,u,a,()):CG×ahO)=>(Sp.anyS x,λ(z:Ls)=>(z.1.1,z.1.2.1)=pX x n u a)⟩
def IL:XA:=⟨144,[.l ah aB,.l aX dL],[.agg [.l ah aB,.l ai aF,.i,.l au ay,.l ax aT,.s,.s,.i,.l bf gV,.own dQ jW false,.l aX dL],.b],λ((s,q,()):gG×iT)=>(s.length<=1000/\q.length<=1000,λ(z:Au)=>(z.1.1,z.1.2.1)=xU s q)⟩
def PI:XA:=⟨102,[.l aX dL,.l Jv XC],[.agg [.l ah aB,.l ai aF,.i,.l au ay,.l ax aT,.s,.s,.i,.l bf gV,.own dQ jW false,.l aX dL],.o aci R_4,.o aX dL],λ((q,b,()):dR×aea)=>(q.length<=1000/\(∀a∈b,zZ a),λ(z:(CG×List dZ×iT)×Unit)=>Sp.ran q b z.1.1 z.1.2.1 z.1.2.2.1)⟩
def F5:XA:=⟨68,[.l aX dL,.l Jv XC],[.agg [.l ah aB,.l ai aF,.i,.l au ay,.l ax aT,.s,.s,.i,.l bf gV,.own dQ jW false,.l aX dL],.o aci R_4],λ((q,b,()):dR×aea)=>(q.length<=1000/\(∀a∈b,zZ a),λ(z:(CG×KE)×Unit)=>∃d,Sp.ran q b z.1.1 z.1.2.1 d)⟩
def Ns:XA:=⟨69,[.ptr [.l eX jw,.i,.i],.i],[.l Jv XC],λ(((_,i,_,()),m,()):qC×bZ)=>(0<=i/\0<=m/\m<=100,λ(z:aea×iD)=>0<=z.2.1.2.1/\z.1.1.length<=103/\∀a∈z.1.1,zZ a)⟩
def Jw:XA:=⟨42,[.ptr [.l eX jw,.i,.i]],[.agg [.l ah aB,.l ai aF,.i,.l au ay,.l ax aT,.s,.s,.i,.l bf gV,.own dQ jW false,.l aX dL]],λ(((_,i,_,()),()):iD)=>(0<=i,λ(z:ad7)=>0<=z.2.1.2.1/\Vp z.1.1)⟩
def yO:XA:=⟨73,[.ptr [.l eX jw,.i,.i]],[.agg [.l ah aB,.l ai aF,.i]],λ(((_,i,_,()),()):iD)=>(0<=i,λ(z:WV)=>0<=z.2.1.2.1/\z.1.1.1=Sp.usual/\aJ z.1.1=true/\z.1.1.2.2.1<=z.1.1.2.1.length+2/\aV z.1.1/\0<z.1.1.2.1.length)⟩
def IQ:XA:=⟨75,[.p (.v (.agg [.l ah aB,.l ai aF,.i])),.l au ay,.i,.s],[.agg [.i,.s,.l aX dL,.own dY ja true]],λ((s,d,u,t,()):uq×gB×Int×jC)=>(aV s/\aK d,λ(z:yX)=>z.1.1=(u,t,dI s d u t,[],()))⟩
def EF:XA:=⟨76,[.p (.v (.agg [.i,.s,.l aX dL,.l dY ja])),.i,.p (.v (.agg [.l ah aB,.l ai aF,.i])),.l au ay],[.agg [.i,.s,.l aX dL,.own dY ja false]],λ((w,n,s,d,()):H8×Int×uq×uo)=>(jP w/\aV s/\aK d,λ(z:yX)=>z.1.1=Sp.told w n (dI s d w.1 w.2.1))⟩
def EG:XA:=⟨45,[.ptr [.l eX jw,.i,.i]],[.agg [.i,.s,.l aX dL,.l dY ja]],λ(((_,i,_,()),()):iD)=>(0<=i,λ(z:(H8×Unit)×iD)=>0<=z.2.1.2.1/\GN z.1.1)⟩
def D9:XA:=⟨25,[.ptr [.l eX jw,.i,.i]],[.agg [.l ah aB,.l ai aF,.i,.l au ay,.l ax aT,.s,.s,.i,.l bf gV,.l dQ jW,.l aX dL]],λ(((_,i,_,()),()):iD)=>(0<=i,λ(z:ad7)=>0<=z.2.1.2.1/\Sp.anyS z.1.1)⟩
def vS:XA:=⟨10,[.l eX jw],[.agg [.l ah aB,.l ai aF,.i,.l au ay,.l ax aT,.s,.s,.i,.l bf gV,.l dQ jW,.l aX dL]],λ((a,()):iT)=>(a.length<=1048576,λ(z:N9)=>Sp.anyS z.1.1)⟩
def IU:XA:=⟨22,[.l eX jw],[.agg [.l ah aB,.l ai aF,.i,.l au ay,.l ax aT,.s,.s,.i,.l bf gV,.l dQ jW,.l aX dL],.i],λ((a,()):iT)=>(a.length<=1048576,λ(z:at1)=>Sp.anyS z.1.1)⟩
def xG:XA:=⟨5,[.l eX jw],[.agg [.l ah aB,.l ai aF,.i,.l au ay,.l ax aT,.s,.s,.i,.l bf gV,.l dQ jW,.l aX dL],.i],λ((a,()):iT)=>(a.length<=1048576,λ(z:at1)=>Sp.anyS z.1.1)⟩
def Fp:XA:=⟨23,[.l eX jw],[.agg [.i,.s,.l aX dL,.l dY ja],.i],λ((a,()):iT)=>(a.length<=1048576,λ(z:at6)=>GN z.1.1)⟩
def Fq:XA:=⟨6,[.l eX jw],[.agg [.i,.s,.l aX dL,.l dY ja],.i],λ((a,()):iT)=>(a.length<=1048576,λ(z:at6)=>GN z.1.1)⟩
def zl:XA:=⟨7,[.l eX jw],[.agg [.l ah aB,.l ai aF,.i,.l au ay,.l ax aT,.s,.s,.i,.l bf gV,.l dQ jW,.l aX dL],.i,.i,.s],λ((a,()):iT)=>(a.length<=1048576,λ(z:(CG×ahO)×Unit)=>Sp.anyS z.1.1)⟩
def Oi:XA:=⟨20,[.l eX jw],[.agg [.l ah aB,.l ai aF,.i,.l au ay,.l ax aT,.s,.s,.i,.l bf gV,.l dQ jW,.l aX dL]],λ((a,()):iT)=>(a.length<=1048576,λ(z:N9)=>Vp z.1.1)⟩
def Qe:PA:=⟨3,[.l eX jw],[.b],λ(_,())=>(True,true,())⟩
def aec[kU]:nI:=IV [(DI,.eff (EH vZ) Gn),dO.e,BR.e,lC.e]
def abr[kU]:nI:=IV [FT.e,uw.e,(Aa,.pure DX),Gt.e,BV.e]
def aed[kU]:nI:=IV [pK.e,qG.e,(DJ,.pure Gv),BZ.e]
def aee[kU]:nI:=IV [Jr.e,AZ.e,(DK,.eff (EH wF) Gy),(GR,.pure Ij)]
def aef[kU]:nI:=IV [(DL,.pure Gz),qJ.e,uD.e]
def aeg[kU]:nI:=IV [(DN,.eff (EH wG) GI),gI.e,pR.e,uD.e,qX.e]
end
end Go.Proofs.Tryz
