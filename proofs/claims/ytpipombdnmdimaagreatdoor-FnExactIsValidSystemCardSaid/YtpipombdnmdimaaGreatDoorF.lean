import Derived.Test.YtpipombdnmdimaaGreatDoorN
import Derived.Test.YtpipombdnmdimaaGreatDoorSp
namespace Go.Proofs.Tryz
open Go Go.Fw Sp
abbrev aU:=List UInt8
abbrev dh:=aU×Unit
abbrev Ty0:=aU×Int×Int×dh
abbrev Hu:=Int×Int×Int×Ty0
abbrev kF:=List Hu
abbrev vO:=kF×Unit
abbrev ig:=List (aU×vO)
abbrev lW:=List Ty0
abbrev LM:=Int×Int×Bool×Int×lW×Unit
abbrev iT:=List LM
abbrev bJ:=Int×Unit
abbrev fD:=List bJ
abbrev fQ:=List (aU×bJ)
abbrev jD:=fD×Unit
abbrev Tq:=Int×fD×jD
abbrev tN:=List Tq
abbrev Ty6:=Int×aU×fD×tN×Unit
abbrev lI:=List (aU×jD)
abbrev anH:=Int×fQ×iT×Int×ig×bJ
abbrev sQ:=List anH
abbrev bG:=Bool×Unit
abbrev wF:=List Ty6
abbrev O7:=fQ×iT×Int×ig×lI×aU×aU×Int×sQ×wF×jD
abbrev xP:=ig×Unit
abbrev Tt:=fQ×iT×Int×xP
abbrev qU:=List dh
abbrev wG:=qU×Unit
abbrev fB:=bJ×Unit
abbrev Hw:=(Int×Int×dh)×Unit
abbrev Hy:=fQ×iT×bJ
abbrev nC:=Unit×Unit
abbrev Gf:=(Int×bJ)×Unit
abbrev Nb:=(lI×bG)×Unit
abbrev Ed:=lI×Unit
abbrev ah8:=fQ×iT×Int×ig×Ed
abbrev O8:=Tt×Unit
abbrev Tv:=O8×Unit
abbrev Bh:=wG×Unit
abbrev WY:=(fD×bG)×Unit
abbrev CW:=bG×Unit
abbrev xQ:=Unit×bJ
abbrev Ee:=jD×Unit
abbrev Zq:=(aU×bJ)×Unit
abbrev anI:=(lI×Int×bG)×Unit
abbrev arR:=Int×Int×Bool×Int×nC
abbrev LQ:=Hy×Unit
abbrev ah9:=(aU×dh)×Unit
abbrev aia:=(kF×bJ)×Unit
abbrev Nc:=iT×Unit
abbrev O9:=Ty6×Unit
abbrev Tz:=LM×Unit
abbrev anJ:=(fD×bJ)×Unit
abbrev azj:=(Ty6×fD×Int×nC)×Tq×Unit
class kQ where n:Nat
abbrev iP[kQ]:Nat:=kQ.n
noncomputable section
def Gq:PA:=⟨285,[.i],[.agg [.i,.i,.s]],λ((n,()):bJ)=>(True,(1,n,[],()),())⟩
def zQ:PA:=⟨284,[.s],[.agg [.i,.i,.s]],λ((w,()):dh)=>(True,(2,0,w,()),())⟩
def gX:PA:=⟨55,[.i,.i,.i],[.b],λ((x,a,b,()):Int×Int×bJ)=>(True,(decide (a<=x)&&decide (x<=b)),())⟩
def jc:PA:=⟨70,[.i,.i,.i],[.b],λ((x,a,b,()):Int×Int×bJ)=>(True,(decide (a<=x)&&decide (x<=b)),())⟩
def CX:PA:=⟨203,[.s,.i],[.b],λ((s,m,()):aU×bJ)=>(True,(Sp.lower s&&decide (1<=(s.length:Int))&&decide ((s.length:Int)<=m)),())⟩
def nZ:PA:=⟨246,[.s],[.b],λ((s,()):dh)=>(True,bK s,())⟩
def oh:PA:=⟨261,[.s],[.b],λ((s,()):dh)=>(True,bK s,())⟩
def mG:PA:=⟨204,[.v (.agg [.i,.i,.s])],[.b],λ(((k,n,s,()),()):Hw)=>(True,dB k n s,())⟩
def mJ:PA:=⟨224,[.v (.agg [.i,.i,.s])],[.b],λ(((k,n,s,()),()):Hw)=>(True,dB k n s,())⟩
def l7:PA:=⟨153,[.s],[.b],λ((s,()):dh)=>(True,dP s,())⟩
def l9:PA:=⟨179,[.s],[.b],λ((s,()):dh)=>(True,dP s,())⟩
def Ef:PA:=⟨251,[.l aj bC,.s],[.i],λ((a,s,()):fQ×dh)=>(True,Sp.kindOf a s,())⟩
def Eg:PA:=⟨265,[.l aj bC,.s],[.i],λ((a,s,()):fQ×dh)=>(True,Sp.kindOf a s,())⟩
def qV:PA:=⟨160,[.l aj bC],[.b],λ((a,()):fQ×Unit)=>(True,dN a,())⟩
def qW:PA:=⟨178,[.l aj bC],[.b],λ((a,()):fQ×Unit)=>(True,dN a,())⟩
def wH:PA:=⟨208,[.l aj bC,.s,.v (.agg [.i,.i,.s])],[.b],λ((a,s,(k,n,w,()),()):fQ×aU×Hw)=>(True,jI a s k n w,())⟩
def wI:PA:=⟨222,[.l aj bC,.s,.v (.agg [.i,.i,.s])],[.b],λ((a,s,(k,n,w,()),()):fQ×aU×Hw)=>(True,jI a s k n w,())⟩
def zS:PA:=⟨159,[.l aj bC,.v (.agg [.i,.i,.b,.i,.l cZ jk])],[.b],λ((a,f,()):fQ×Tz)=>(True,gq a f,())⟩
def zT:PA:=⟨177,[.l aj bC,.v (.agg [.i,.i,.b,.i,.l cZ jk])],[.b],λ((a,f,()):fQ×Tz)=>(True,gq a f,())⟩
def o8:PA:=⟨102,[.v (.agg [.l aj bC,.l ay aJ,.i])],[.b],λ((s,()):LQ)=>(True,bg s,())⟩
def o9:PA:=⟨118,[.v (.agg [.l aj bC,.l ay aJ,.i])],[.b],λ((s,()):LQ)=>(True,bg s,())⟩
def CY:PA:=⟨158,[.v (.agg [.i,.i,.b,.i,.l cZ jk])],[.agg [.i,.i,.b,.i,.f cZ jk]],λ((f,()):Tz)=>(Pe f,f,())⟩
def zU:PA:=⟨185,[.v (.agg [.i,.i,.b,.i,.l cZ jk])],[.agg [.i,.i,.b,.i,.l cZ jk]],λ((f,()):Tz)=>(Pe f,f,())⟩
def vP:PA:=⟨78,[.i],[.b],λ((u,()):bJ)=>(True,(decide (0<=u)&&decide (u<=2)),())⟩
def Gs:PA:=⟨163,[.v (.agg [.l aj bC,.l ay aJ,.i]),.i],[.i],λ(((_,a,_,()),id,()):Hy×bJ)=>(True,Sp.place a id,())⟩
def mV:PA:=⟨125,[.l aj bC],[.l aj bC],λ((l,()):fQ×Unit)=>(l.length<=10000000,l,())⟩
def qX:PA:=⟨231,[.l cZ jk],[.l cZ jk],λ((l,()):lW×Unit)=>(l.length<=10000000,l,())⟩
def IK:XA:=⟨100,[.p (.v (.agg [.l aj bC,.l ay aJ,.i]))],[.agg [.own aj bC true,.own ay aJ true,.i]],λ((s,()):LQ)=>(Sp.bigS s,λ(z:LQ×Unit)=>z.1.1=s)⟩
def Eh:XA:=⟨126,[.l ay aJ],[.one (.own ay aJ false)],λ((l,()):Nc)=>(l.length<=2000000/\∀f∈l,Pe f,λ(z:Nc×Unit)=>z.1.1=l)⟩
def Ei:XA:=⟨76,[.p (.v (.agg [.l aj bC,.l ay aJ,.i]))],[.agg [.l aj bC,.own ay aJ false,.i]],λ((s,()):LQ)=>(Sp.bigS s,λ(z:LQ×Unit)=>z.1.1=s)⟩
def zV:PA:=⟨205,[.v (.agg [.i,.i,.i,.s,.i,.i,.s]),.i],[.b],λ(((o,l,r,a,e,d,I,()),b,()):Hu×bJ)=>(True,fH (o,l,r,a,e,d,I,()) b,())⟩
def zW:PA:=⟨228,[.v (.agg [.i,.i,.i,.s,.i,.i,.s]),.i],[.b],λ(((o,l,r,a,e,d,I,()),b,()):Hu×bJ)=>(True,fH (o,l,r,a,e,d,I,()) b,())⟩
def uz:PA:=⟨206,[.l aS dR,.i],[.i],λ((q,b,()):kF×bJ)=>(q.length<=2000000,(iY q b:Int),())⟩
def uD:PA:=⟨229,[.l aS dR,.i],[.i],λ((q,b,()):kF×bJ)=>(q.length<=2000000,(iY q b:Int),())⟩
def mM:PA:=⟨156,[.l aS dR],[.b],λ((q,()):vO)=>(q.length<=2000000,ax q,())⟩
def jr:PA:=⟨183,[.l aS dR],[.b],λ((q,()):vO)=>(q.length<=2000000,ax q,())⟩
def zX:PA:=⟨200,[.l aC aK],[.b],λ((d,()):xP)=>(gK d,gG d,())⟩
def zY:PA:=⟨215,[.l aC aK],[.b],λ((d,()):xP)=>(gK d,gG d,())⟩
def Gt:PA:=⟨304,[.v (.agg [.i,.i,.i,.s,.i,.i,.s])],[.b],λ(((o,_,_,_,_,_,_,()),()):Hu×Unit)=>(True,(o==8||o==9),())⟩
def yE:PA:=⟨323,[.l aS dR],[.f akl R_4],λ((q,()):vO)=>(q.length<=1000,Sp.negated q,())⟩
def yF:PA:=⟨303,[.l aS dR],[.f akl R_4],λ((q,()):vO)=>(q.length<=1000,Sp.negated q,())⟩
def uQ:List jB:=[.p (.v (.one (.sl bF dZ false)))]
def Gg:List oK:=[.one (.c (.sl bF dZ true))]
def Rt:nI uQ->Prop×(wJ Gg×vg uQ->Prop):=λ(l,())=>(l.length<=1000,λ((r,()),())=>r.length<=l.length/\∀s,s∈r↔s∈l)
def Gh:TA:=JQ uQ Gg Rt
def xR:XA:=⟨263,[.l aS dR,.b],[.f bF dZ],λ((q,neg,()):kF×bG)=>(q.length<=1000,λ(z:Bh)=>jS z.1.1 (fA q neg))⟩
def yG:XA:=⟨217,[.l aS dR],[.f bF dZ],λ((q,()):vO)=>(q.length<=1000,λ(z:Bh)=>jS z.1.1 (fA q false))⟩
def yH:XA:=⟨218,[.l aS dR],[.f bF dZ],λ((q,()):vO)=>(q.length<=1000,λ(z:Bh)=>jS z.1.1 (fA q true))⟩
def KX:PA:=⟨324,[.l bF dZ,.s],[.l bF dZ],λ((l,s,()):qU×dh)=>(l.length<=1000,LU l s,())⟩
def zZ:XA:=⟨287,[.l aS dR,.b],[.f bF dZ],λ((q,neg,()):kF×bG)=>(q.length<=1000,λ(z:Bh)=>jS z.1.1 (fA q neg))⟩
def yI:XA:=⟨247,[.l aS dR],[.f bF dZ],λ((q,()):vO)=>(q.length<=1000,λ(z:Bh)=>jS z.1.1 (fA q false))⟩
def yJ:XA:=⟨249,[.l aS dR],[.f bF dZ],λ((q,()):vO)=>(q.length<=1000,λ(z:Bh)=>jS z.1.1 (fA q true))⟩
def CZ:PA:=⟨302,[.v (.agg [.s,.l aS dR]),.kp [.s]],[.b],λ(((b,_,()),a,()):(aU×vO)×dh×Unit)=>(True,(b==a.1),())⟩
def jw:PA:=⟨301,[.l aC aK,.fn 302 [[.s]]],[.i],λ((d,((a,()),()),()):ig×(dh×Unit)×Unit)=>(True,aP d a,())⟩
def Nh:PA:=⟨262,[.l aC aK,.s],[.i],λ((d,a,()):ig×dh)=>(True,aP d a,())⟩
def Gu:PA:=⟨248,[.l aC aK,.s],[.i],λ((d,a,()):ig×dh)=>(True,aP d a,())⟩
def Aa:PA:=⟨216,[.l aC aK,.l aN bZ,.l bF dZ,.i],[.i],λ((d,b,names,a,()):ig×fD×qU×bJ)=>(d.length<=b.length/\names.length<=1000/\0<=a/\a<=1/\∀x∈b,0<=x.1/\x.1<=1000000,Ac d b a names,())⟩
def zI:XA:=⟨172,[.l aC aK],[.f aN bZ,.b],λ((d,()):xP)=>(gK d,λ(z:WY)=>z.1.2.1=aH d/\(z.1.2.1=true->mW d z.1.1))⟩
def yK:PA:=⟨119,[.l aC aK],[.b],λ((d,()):xP)=>(gK d,aH d,())⟩
def vw:XA:=⟨201,[.l aC aK,.l aN bZ],[.o aN bZ],λ((d,a,()):ig×jD)=>(xU d/\d.length<=5/\a.length=d.length/\∀x∈a,0<=x.1/\x.1<=1000000,λ(z:Ee)=>Sp.raised d a z.1.1)⟩
def tV:PA:=⟨21,[.l aN bZ,.l aN bZ],[.b],λ((a,b,()):fD×jD)=>(True,decide (a=b),())⟩
def zJ:XA:=⟨150,[.l aC aK],[.f aN bZ,.b],λ((d,()):xP)=>(gK d,λ(z:WY)=>z.1.2.1=aH d/\(z.1.2.1=true->mW d z.1.1)/\(z.1.2.1=false->z.1.1=[]))⟩
def yL:PA:=⟨103,[.l aC aK],[.b],λ((d,()):xP)=>(gK d,aH d,())⟩
def qY:PA:=⟨186,[.l aS dR],[.l aS dR],λ((l,()):vO)=>(l.length<=10000000,l,())⟩
def IL:PA:=⟨127,[.v (.agg [.s,.l aS dR])],[.agg [.s,.l aS dR]],λ(((n,q,()),()):(aU×vO)×Unit)=>(q.length<=10000000,(n,q,()),())⟩
def Gv:PA:=⟨77,[.l aC aK],[.l aC aK],λ((d,()):xP)=>(gK d,d,())⟩
def IQ:PA:=⟨101,[.l aC aK],[.f aC aK],λ((d,()):xP)=>(gK d,d,())⟩
def Gw:XA:=⟨54,[.p (.v (.agg [.l aj bC,.l ay aJ,.i,.l aC aK]))],[.agg [.f aj bC,.f ay aJ,.i,.f aC aK]],λ((x,()):O8)=>(C9 x,λ(z:Tv)=>z.1.1=x)⟩
def je:PA:=⟨71,[.v (.agg [.l aj bC,.l ay aJ,.i,.l aC aK])],[.b],λ((x,()):O8)=>(C9 x,dS x,())⟩
def jf:PA:=⟨56,[.v (.agg [.l aj bC,.l ay aJ,.i,.l aC aK])],[.b],λ((x,()):O8)=>(C9 x,dS x,())⟩
def sU:PA:=⟨32,[.l fO oO],[.b],λ((v,()):sQ×Unit)=>(Zr v,pF v,())⟩
def sV:PA:=⟨18,[.l fO oO],[.b],λ((v,()):sQ×Unit)=>(Zr v,pF v,())⟩
def xI:PA:=⟨306,[.v (.agg [.i,.i,.b,.i,.l cZ jk]),.s],[.agg [.i,.i,.s]],λ(((_,_,_,_,a,()),b,()):LM×dh)=>(True,iD a b,())⟩
def Dc:PA:=⟨288,[.v (.agg [.i,.i,.b,.i,.l cZ jk]),.s],[.agg [.i,.i,.s]],λ(((_,_,_,_,a,()),b,()):LM×dh)=>(True,iD a b,())⟩
def Df:PA:=⟨307,[.v (.agg [.i,.i,.b,.i,.l cZ jk]),.s],[.i,.b],λ(((_,_,_,_,a,()),b,()):LM×dh)=>(True,(bif (iD a b).1==1 then(iD a b).2.1 else 0),((iD a b).1==1),())⟩
def Ad:PA:=⟨189,[.l aN bZ,.i],[.i],λ((s,v,()):fD×bJ)=>(True,Sp.findAt (λx=>x.1==v) s,())⟩
def qo:PA:=⟨132,[.l aN bZ,.i],[.b],λ((s,v,()):fD×bJ)=>(True,bQ s v,())⟩
def vz:PA:=⟨219,[.l bF dZ,.s],[.i],λ((s,v,()):qU×dh)=>(True,Sp.findAt (λx=>x.1==v) s,())⟩
def qZ:PA:=⟨173,[.l bF dZ,.s],[.b],λ((s,v,()):qU×dh)=>(True,xW s v,())⟩
def vZ:PA:=⟨308,[.l aN bZ,.i],[.b],λ((s,v,()):fD×bJ)=>(True,bQ s v,())⟩
def oP:PA:=⟨58,[.l aN bZ,.i],[.b],λ((s,v,()):fD×bJ)=>(True,bQ s v,())⟩
def nK:PA:=⟨128,[.l aN bZ],[.f aN bZ],λ((l,()):jD)=>(l.length<=10000000,l,())⟩
def au9:PA:=⟨337,[.l bF dZ],[.l bF dZ],λ((l,()):wG)=>(l.length<=1000,l,())⟩
def pX:PA:=⟨174,[.l aQ gW,.s],[.f aN bZ],λ((r,a,()):lI×dh)=>(dQ r,gY r a,())⟩
def tX:PA:=⟨61,[.l aQ gW,.s],[.f aN bZ],λ((r,a,()):lI×dh)=>(dQ r,gY r a,())⟩
def Ru:List iq:=[.v (.one (.sl aS dR false)),.v (.one (.int .i64)),.v (.agg [.int .i64,.int .i64,.bool,.int .i64,.sl cZ jk false]),.v (.one (.sl aQ gW false))]
def Qo:List kM:=[.one (.bool)]
def aib:jo Ru->Prop×kS Qo:=λ(q,b,(i,o,s,l,a,()),r,())=>(ax q=true/\0<=b/\b<q.length/\dQ r,Sp.val q (i,o,s,l,a,()) (bH r) b.toNat,())
def Qp:Dh:=iw Ru Qo aib
def J6:List iq:=[.v (.one (.sl aS dR false)),.v (.one (.int .i64)),.v (.agg [.int .i64,.int .i64,.bool,.int .i64,.sl cZ jk false]),.v (.one (.sl aQ gW false))]
def JK:List kM:=[.one (.bool)]
def MB[kQ]:jo J6->Prop×kS JK:=λ(q,b,(i,o,s,l,a,()),r,())=>((ax q=true/\0<=b/\b<q.length/\dQ r)/\b.toNat<iP,Sp.val q (i,o,s,l,a,()) (bH r) b.toNat,())
def zq[kQ]:Dh:=iw J6 JK MB
def zu:List iq:=[.v (.one (.sl aS dR false)),.v (.one (.int .i64)),.v (.agg [.int .i64,.int .i64,.bool,.int .i64,.sl cZ jk false]),.v (.one (.sl aQ gW false))]
def Hz:List kM:=[.one (.bool)]
def J7[kQ]:jo zu->Prop×kS Hz:=λ(q,b,(i,o,s,l,a,()),r,())=>((ax q=true/\0<=b/\b<q.length/\dQ r)/\b.toNat<iP+1,Sp.val q (i,o,s,l,a,()) (bH r) b.toNat,())
def HY[kQ]:Dh:=iw zu Hz J7
def VF:List iq:=[.v (.one (.sl aS dR false)),.v (.one (.int .i64)),.v (.agg [.int .i64,.int .i64,.bool,.int .i64,.sl cZ jk false]),.v (.one (.sl aQ gW false))]
def TB:List kM:=[.one (.bool)]
def anK:jo VF->Prop×kS TB:=λ(q,b,(i,o,s,l,a,()),r,())=>(ax q=true/\0<=b/\b<q.length/\dQ r,Sp.val q (i,o,s,l,a,()) (bH r) b.toNat,())
def TD:Dh:=iw VF TB anK
def Nj:List iq:=[.v (.one (.sl aS dR false)),.v (.one (.int .i64)),.v (.agg [.int .i64,.int .i64,.bool,.int .i64,.sl cZ jk false]),.v (.one (.sl aQ gW false))]
def MC:List kM:=[.one (.bool)]
def OQ[kQ]:jo Nj->Prop×kS MC:=λ(q,b,(i,o,s,l,a,()),r,())=>((ax q=true/\0<=b/\b<q.length/\dQ r)/\b.toNat<iP,Sp.val q (i,o,s,l,a,()) (bH r) b.toNat,())
def Di[kQ]:Dh:=iw Nj MC OQ
def Dj:List iq:=[.v (.one (.sl aS dR false)),.v (.one (.int .i64)),.v (.agg [.int .i64,.int .i64,.bool,.int .i64,.sl cZ jk false]),.v (.one (.sl aQ gW false))]
def J8:List kM:=[.one (.bool)]
def Nk[kQ]:jo Dj->Prop×kS J8:=λ(q,b,(i,o,s,l,a,()),r,())=>((ax q=true/\0<=b/\b<q.length/\dQ r)/\b.toNat<iP+1,Sp.val q (i,o,s,l,a,()) (bH r) b.toNat,())
def J9[kQ]:Dh:=iw Dj J8 Nk
def IU:PA:=⟨221,[.l aS dR,.v (.agg [.i,.i,.b,.i,.l cZ jk]),.l aQ gW],[.b],λ((q,f,r,()):kF×LM×Ed)=>(q.length<=1000/\dQ r,oQ q f (bH r),())⟩
def IV:PA:=⟨202,[.l aS dR,.v (.agg [.i,.i,.b,.i,.l cZ jk]),.l aQ gW],[.b],λ((q,f,r,()):kF×LM×Ed)=>(q.length<=1000/\dQ r,oQ q f (bH r),())⟩
def Ae:PA:=⟨176,[.v (.agg [.l aj bC,.l ay aJ,.i]),.l aS dR,.l aQ gW],[.f aN bZ],λ((s,q,r,()):Hy×kF×Ed)=>(qp s/\q.length<=1000/\dQ r,Sp.sel s.2.1 q (bH r),())⟩
def Af:PA:=⟨152,[.v (.agg [.l aj bC,.l ay aJ,.i]),.l aS dR,.l aQ gW],[.f aN bZ],λ((s,q,r,()):Hy×kF×Ed)=>(qp s/\q.length<=1000/\dQ r,Sp.sel s.2.1 q (bH r),())⟩
def qw:PA:=⟨117,[.l aN bZ,.l aN bZ],[.b],λ((a,b,()):fD×jD)=>(True,decide (a=b),())⟩
def qx:PA:=⟨116,[.v (.agg [.s,.l aN bZ]),.v (.agg [.s,.l aN bZ])],[.b],λ((a,b,()):(aU×jD)×(aU×jD)×Unit)=>(True,decide (a=b),())⟩
def eH:PA:=⟨115,[.l aQ gW,.l aQ gW,.fn 116 []],[.b],λ((a,b,_,()):lI×lI×nC)=>(True,decide (a=b),())⟩
def yM:PA:=⟨69,[.l aQ gW,.l aQ gW],[.b],λ((a,b,()):lI×Ed)=>(True,decide (a=b),())⟩
def yN:PA:=⟨51,[.l aQ gW,.l aQ gW],[.b],λ((a,b,()):lI×Ed)=>(True,decide (a=b),())⟩
def Ej:XA:=⟨220,[.l aN bZ],[.i],λ((l,()):jD)=>(0<l.length,λ(z:fB)=>(∀x∈l,x.1<=z.1.1)/\z.1∈l)⟩
def BO:XA:=⟨175,[.l aC aK],[.i],λ((d,()):xP)=>(gK d,λ(z:fB)=>akm d z.1.1)⟩
def BP:XA:=⟨151,[.l aC aK],[.i],λ((d,()):xP)=>(gK d,λ(z:fB)=>akm d z.1.1)⟩
def Gx:PA:=⟨114,[.l aC aK],[.f bF dZ],λ((d,()):xP)=>(d.length<=2000000,rq d,())⟩
def Em:XA:=⟨113,[.p (.v (.agg [.l aj bC,.l ay aJ,.i])),.l aC aK,.l aQ gW,.l bF dZ],[.l aQ gW,.i,.b],λ((s,d,r,names,()):Hy×ig×lI×wG)=>(gK d/\dQ r,λ(z:anI)=>z.1.2.2.1=(aH d&&bg s)/\((z.1.2.2.1=true->lF s.2.1 d r (xW names) z.1.1)/\(z.1.2.2.1=false->z.1.1=[])))⟩
def Ag:XA:=⟨68,[.p (.v (.agg [.l aj bC,.l ay aJ,.i])),.l aC aK],[.l aQ gW,.b],λ((s,d,()):Hy×xP)=>(gK d,λ(z:Nb)=>z.1.2.1=(aH d&&bg s)/\((z.1.2.1=true->lF s.2.1 d [] (λ_=>true) z.1.1)/\(z.1.2.1=false->z.1.1=[])))⟩
def KY:XA:=⟨95,[.p (.v (.agg [.l aj bC,.l ay aJ,.i])),.l aC aK],[.one (.own aQ gW false),.i,.b],λ((s,d,()):Hy×xP)=>(gK d,λ(z:anI)=>z.1.2.2.1=(aH d&&bg s)/\((z.1.2.2.1=true->lF s.2.1 d [] (λ_=>true) z.1.1)/\(z.1.2.2.1=false->z.1.1=[])))⟩
def Ah:XA:=⟨50,[.p (.v (.agg [.l aj bC,.l ay aJ,.i])),.l aC aK],[.one (.own aQ gW false),.b],λ((s,d,()):Hy×xP)=>(gK d,λ(z:Nb)=>z.1.2.1=(aH d&&bg s)/\((z.1.2.1=true->lF s.2.1 d [] (λ_=>true) z.1.1)/\(z.1.2.1=false->z.1.1=[])))⟩
def En:PA:=⟨30,[.v (.agg [.l aj bC,.l ay aJ,.i,.l aC aK,.l aQ gW])],[.b],λ((c,()):ah8×Unit)=>(gK (kT c),ru c,())⟩
def Eo:PA:=⟨15,[.v (.agg [.l aj bC,.l ay aJ,.i,.l aC aK,.l aQ gW])],[.b],λ((c,()):ah8×Unit)=>(gK (kT c),ru c,())⟩
def KZ:PA:=⟨281,[.v (.agg [.l aj bC,.l ay aJ,.i]),.i],[.i],λ(((_,a,_,()),id,()):Hy×bJ)=>(True,Sp.place a id,())⟩
def Ai:PA:=⟨322,[.v (.agg [.i,.i,.b,.i,.l cZ jk]),.kp [.i]],[.b],λ(((i,_,_,_,_,()),id,()):LM×fB)=>(True,decide (i=id.1),())⟩
def jl:PA:=⟨321,[.l ay aJ,.fn 322 [[.i]]],[.i],λ((l,((id,()),()),()):iT×fB×Unit)=>(True,Sp.place l id,())⟩
def sW:XA:=⟨128,[.l aN bZ],[.one (.own aN bZ false)],λ((l,()):jD)=>(l.length<=10000000,λ(z:Ee)=>z.1.1=l)⟩
def tY:PA:=⟨131,[.i,.kp [.l aN bZ]],[.b],λ((x,b,()):Int×Ee)=>(True,bQ b.1 x,())⟩
def jP:PA:=⟨120,[.l aN bZ,.fn 131 [[.l aN bZ]]],[.i],λ((l,((b,()),()),()):fD×Ee×Unit)=>(True,Sp.findAt (λx=>bQ b x.1) l,())⟩
def jH:XA:=⟨130,[.own aN bZ,.p (.fn 131 [[.l aN bZ]])],[.one (.own aN bZ false)],λ((s,((b,()),()),()):fD×Ee×Unit)=>(s.length<=10000000,λ(z:Ee)=>z.1.1=s.filter λx=>!bQ b x.1)⟩
def tZ:XA:=⟨81,[.l aN bZ,.l aN bZ],[.one (.own aN bZ false)],λ((a,b,()):fD×jD)=>(a.length<=10000000,λ(z:Ee)=>z.1.1=Sp.without a b)⟩
def Gy:PA:=⟨161,[.l aN bZ,.i],[.l aN bZ],λ((l,n,()):fD×bJ)=>(l.length<=10000000,Gi l n,())⟩
def vC:PA:=⟨104,[.l aN bZ,.v (.agg [.s,.l aN bZ,.l aN bZ])],[.f aN bZ],λ((l,(_,x,y,()),()):fD×(aU×fD×jD)×Unit)=>(l.length+x.length<=8000000,rC l x y,())⟩
def IW:PA:=⟨162,[.v (.agg [.i,.i,.b,.i,.l cZ jk]),.i],[.b],λ((f,u,()):LM×bJ)=>(True,kK f u,())⟩
def IX:PA:=⟨280,[.v (.agg [.i,.i,.b,.i,.l cZ jk]),.i],[.b],λ((f,u,()):LM×bJ)=>(True,kK f u,())⟩
def Aj:PA:=⟨334,[.s],[.agg [.i,.i,.s]],λ((w,()):dh)=>(True,(2,0,w,()),())⟩
def yO:PA:=⟨105,[.v (.agg [.l aj bC,.l ay aJ,.i]),.i],[.agg [.l aj bC,.l ay aJ,.i]],λ((s,u,()):Hy×bJ)=>(qp s,Sp.visible s u,())⟩
def yP:PA:=⟨235,[.v (.agg [.l aj bC,.l ay aJ,.i]),.i],[.agg [.l aj bC,.l ay aJ,.i]],λ((s,u,()):Hy×bJ)=>(qp s,Sp.visible s u,())⟩
def uF:XA:=⟨191,[.p (.v (.agg [.l aj bC,.l ay aJ,.i])),.l aC aK,.i],[.l aQ gW,.b],λ((s,d,u,()):Hy×ig×bJ)=>(gK d,λ(z:Nb)=>z.1.1=(lN s d u).1/\z.1.2.1=(lN s d u).2)⟩
def uG:XA:=⟨60,[.p (.v (.agg [.l aj bC,.l ay aJ,.i])),.l aC aK,.i],[.l aQ gW,.b],λ((s,d,u,()):Hy×ig×bJ)=>(gK d,λ(z:Nb)=>z.1.1=(lN s d u).1/\z.1.2.1=(lN s d u).2)⟩
def IY:PA:=⟨135,[.v (.agg [.l aj bC,.l ay aJ,.i]),.l aC aK,.i,.s],[.f aN bZ],λ((s,d,u,a,()):Hy×ig×Int×dh)=>(gK d,Dk s d u a,())⟩
def IZ:PA:=⟨23,[.v (.agg [.l aj bC,.l ay aJ,.i]),.l aC aK,.i,.s],[.f aN bZ],λ((s,d,u,a,()):Hy×ig×Int×dh)=>(gK d,Dk s d u a,())⟩
def Nl:List iq:=[.v (.one (.int .i64))]
def TF:List kM:=[.one (.str)]
def anL:jo Nl->Prop×kS TF:=λ(n,())=>(-9223372036854775808<=n/\n<=9223372036854775807,Lib.itoa n,())
def LV:Dh:=iw Nl TF anL
def Gz:List iq:=[.v (.one (.sl bF dZ false)),.v (.one (.str))]
def LW:List kM:=[.one (.str)]
def X5:jo Gz->Prop×kS LW:=λ(l,a,())=>(l.length<=140737488355328/\(Lib.join (l.map (·.1)) a).length<=140737488355328,Lib.join (l.map (·.1)) a,())
def xX:Dh:=iw Gz LW X5
def Ep:List iq:=[.v (.one (.str)),.v (.one (.str))]
def JR:List kM:=[.one (.sl bF dZ true)]
def VG:jo Ep->Prop×kS JR:=λ(s,a,())=>(s.length<=4294960000/\(a=[32]\/a=[10]),Sp.pieces (a.getD 0 0) s,())
def JS:Dh:=iw Ep JR VG
def JU:List iq:=[.v (.one (.str))]
def Qq:List kM:=[.one (.sl bF dZ true)]
def aic:jo JU->Prop×kS Qq:=λ(s,())=>(s.length<=1048576/\ac5 s=true,Sp.wordsOf s,())
def H6:Dh:=iw JU Qq aic
def BQ:List iq:=[.v (.one (.str))]
def H7:List kM:=[.one (.int .i64),.one (.bool)]
def TG:jo BQ->Prop×kS H7:=λ(s,())=>(True,Sp.parseNum s,bW s,())
def uS:Dh:=iw BQ H7 TG
def uf:PA:=⟨147,[.s],[.i,.b],λ((s,()):dh)=>(True,Sp.parseNum s,bW s,())⟩
def pY:PA:=⟨122,[.i],[.s],λ((n,()):bJ)=>(True,Lib.itoa n,())⟩
def Es:PA:=⟨154,[.i],[.one (.int .u8)],λ((x,()):bJ)=>(0<=x/\x<10,48+x,())⟩
def nM:PA:=⟨97,[.i],[.s],λ((n,()):bJ)=>(True,Lib.itoa n,())⟩
def nN:PA:=⟨240,[.s],[.f bF dZ,.b],λ((s,()):dh)=>(s.length<=1048576,iI s,lQ s,())⟩
def qy:PA:=⟨299,[.s],[.f bF dZ,.b],λ((s,()):dh)=>(s.length<=1048576,iI s,lQ s,())⟩
def oq:PA:=⟨241,[.l bF dZ,.i],[.s],λ((w,i,()):qU×bJ)=>(0<=i,Sp.wordAt w i,())⟩
def zK:PA:=⟨242,[.l bF dZ,.i],[.i],λ((w,i,()):qU×bJ)=>(0<=i,Sp.numAt w i,())⟩
def ug:PA:=⟨245,[.l bF dZ],[.s],λ((w,()):wG)=>(w.length<=1000/\(gI w).length<=2097152,gI w,())⟩
def kW:PA:=⟨74,[.l bF dZ,.l bF dZ],[.b],λ((a,b,()):qU×wG)=>(True,decide (a=b),())⟩
def qA:PA:=⟨181,[.v (.agg [.i,.i,.s])],[.s],λ(((k,n,s,()),()):Hw)=>(True,dM (k,n,s,()),())⟩
def nO:PA:=⟨155,[.v (.agg [.i,.i,.s])],[.s],λ(((k,n,s,()),()):Hw)=>(True,dM (k,n,s,()),())⟩
def oU:PA:=⟨298,[.s],[.agg [.i,.i,.s],.b],λ((s,()):dh)=>(s.length<=1048576,(bU s).1,(bU s).2,())⟩
def mD:PA:=⟨243,[.s],[.agg [.i,.i,.s],.b],λ((s,()):dh)=>(s.length<=1048576,(bU s).1,(bU s).2,())⟩
def nP:PA:=⟨230,[.i],[.s],λ((op,()):bJ)=>(True,iU op,())⟩
def qc:PA:=⟨207,[.i],[.s],λ((op,()):bJ)=>(True,iU op,())⟩
def Rw:List iq:=[.v (.one (.sl aS dR false)),.v (.one (.int .i64))]
def Qr:List kM:=[.one (.str)]
def aid:jo Rw->Prop×kS Qr:=λ(q,b,())=>(ax q=true/\0<=b/\b<q.length,Lib.join (dW (b.toNat+1) q b) [32],())
def Qs:Dh:=iw Rw Qr aid
def Ko:List iq:=[.v (.one (.sl aS dR false)),.v (.one (.int .i64))]
def JL:List kM:=[.one (.str)]
def MF[kQ]:jo Ko->Prop×kS JL:=λ(q,b,())=>((ax q=true/\0<=b/\b<q.length)/\b.toNat<iP,Lib.join (dW (b.toNat+1) q b) [32],())
def zx[kQ]:Dh:=iw Ko JL MF
def zy:List iq:=[.v (.one (.sl aS dR false)),.v (.one (.int .i64))]
def H8:List kM:=[.one (.str)]
def Kq[kQ]:jo zy->Prop×kS H8:=λ(q,b,())=>((ax q=true/\0<=b/\b<q.length)/\b.toNat<iP+1,Lib.join (dW (b.toNat+1) q b) [32],())
def H9[kQ]:Dh:=iw zy H8 Kq
def VH:List iq:=[.v (.one (.sl aS dR false)),.v (.one (.int .i64))]
def TJ:List kM:=[.one (.str)]
def anM:jo VH->Prop×kS TJ:=λ(q,b,())=>(ax q=true/\0<=b/\b<q.length,Lib.join (dW (b.toNat+1) q b) [32],())
def TL:Dh:=iw VH TJ anM
def Np:List iq:=[.v (.one (.sl aS dR false)),.v (.one (.int .i64))]
def MG:List kM:=[.one (.str)]
def OT[kQ]:jo Np->Prop×kS MG:=λ(q,b,())=>((ax q=true/\0<=b/\b<q.length)/\b.toNat<iP,Lib.join (dW (b.toNat+1) q b) [32],())
def Dl[kQ]:Dh:=iw Np MG OT
def Dn:List iq:=[.v (.one (.sl aS dR false)),.v (.one (.int .i64))]
def Kr:List kM:=[.one (.str)]
def Nq[kQ]:jo Dn->Prop×kS Kr:=λ(q,b,())=>((ax q=true/\0<=b/\b<q.length)/\b.toNat<iP+1,Lib.join (dW (b.toNat+1) q b) [32],())
def Kt[kQ]:Dh:=iw Dn Kr Nq
def Ak:PA:=⟨124,[.l aS dR],[.s],λ((q,()):vO)=>(q.length<=2000000,Sp.textOf q,())⟩
def uT:PA:=⟨99,[.l aS dR],[.s],λ((q,()):vO)=>(q.length<=2000000,Sp.textOf q,())⟩
def GH:List jB:=[.p (.v (.one (.sl bF dZ false))),.p (.v (.one (.int .i64))),.own aS dR,.p (.v (.one (.int .i64)))]
def TM:List oK:=[.one (.own aS dR false),.one (.c (.int .i64))]
def anN:nI GH->Prop×(wJ TM×vg GH->Prop):=λ(p,b,q,a,())=>(p.length<=1000/\0<=b/\b.toNat+3*2 ^ (10-a).toNat<=1000000/\0<=a/\a<=10/\(∀x∈p,x.1.length<=1000)/\q.length<=100,λ((r,k,()),())=>r=(Sp.rs (10-a).toNat (p.drop b.toNat) q).1/\k=(Sp.rs (10-a).toNat (p.drop b.toNat) q).2)
def TN:TA:=JQ GH TM anN
def rD:List jB:=[.p (.v (.one (.sl bF dZ false))),.p (.v (.one (.int .i64))),.own aS dR,.p (.v (.one (.int .i64)))]
def MH:List oK:=[.one (.own aS dR false),.one (.c (.int .i64))]
def OU[kQ]:nI rD->Prop×(wJ MH×vg rD->Prop):=λ(p,b,q,a,())=>((p.length<=1000/\0<=b/\b.toNat+3*2 ^ (10-a).toNat<=1000000/\0<=a/\a<=10/\(∀x∈p,x.1.length<=1000)/\q.length<=100)/\(10-a).toNat<iP,λ((r,k,()),())=>r=(Sp.rs (10-a).toNat (p.drop b.toNat) q).1/\k=(Sp.rs (10-a).toNat (p.drop b.toNat) q).2)
def Dp[kQ]:TA:=JQ rD MH OU
def vF:List jB:=[.p (.v (.one (.sl bF dZ false))),.p (.v (.one (.int .i64))),.own aS dR,.p (.v (.one (.int .i64)))]
def Ku:List oK:=[.one (.own aS dR false),.one (.c (.int .i64))]
def wK[kQ]:nI vF->Prop×(wJ Ku×vg vF->Prop):=λ(p,b,q,a,())=>((p.length<=1000/\0<=b/\b.toNat+3*2 ^ (10-a).toNat<=1000000/\0<=a/\a<=10/\(∀x∈p,x.1.length<=1000)/\q.length<=100)/\(10-a).toNat<iP+1,λ((r,k,()),())=>r=(Sp.rs (10-a).toNat (p.drop b.toNat) q).1/\k=(Sp.rs (10-a).toNat (p.drop b.toNat) q).2)
def Kv[kQ]:TA:=JQ vF Ku wK
def Am:List iq:=[.v (.one (.str))]
def Gj:List kM:=[.one (.sl aS dR true),.one (.bool)]
def Rx:jo Am->Prop×kS Gj:=λ(s,())=>(s.length<=1048576,iJ s,iE s,())
def OV:Dh:=iw Am Gj Rx
def su:PA:=⟨244,[.s],[.l aS dR,.b],λ((s,()):dh)=>(s.length<=1048576,iJ s,iE s,())⟩
def BR:PA:=⟨123,[.v (.agg [.i,.i,.b,.i,.l cZ jk])],[.s],λ((f,()):Tz)=>(f.2.2.2.2.1.length<=1048576/\(iZ f.2.2.2.2.1).length<=1073741824,iK f,())⟩
def GI:PA:=⟨333,[.i],[.agg [.i,.i,.s]],λ((n,()):bJ)=>(True,(1,n,[],()),())⟩
def zL:PA:=⟨259,[.l bF dZ],[.agg [.i,.i,.b,.i,.f cZ jk],.b],λ((w,()):wG)=>(w.length<=1048577/\(∀x∈w,x.1.length<=1048576),(kL w).1,(kL w).2,())⟩
def BU:PA:=⟨98,[.v (.agg [.i,.i,.b,.i,.l cZ jk])],[.s],λ((f,()):Tz)=>(f.2.2.2.2.1.length<=1048576/\(iZ f.2.2.2.2.1).length<=1073741824,iK f,())⟩
def Ap:PA:=⟨96,[.v (.agg [.s,.i])],[.s],λ(((n,k,()),()):Zq)=>(n.length<=1048576,eF (n,k,()),())⟩
def Aq:PA:=⟨121,[.v (.agg [.s,.i])],[.s],λ(((n,k,()),()):Zq)=>(n.length<=1048576,eF (n,k,()),())⟩
def jT:PA:=⟨75,[.v (.agg [.l aj bC,.l ay aJ,.i,.l aC aK])],[.f bF dZ],λ((x,()):O8)=>(fJ x,Sp.enc x,())⟩
def jU:PA:=⟨53,[.v (.agg [.l aj bC,.l ay aJ,.i,.l aC aK])],[.f bF dZ],λ((x,()):O8)=>(fJ x,Sp.enc x,())⟩
def Bj:List iq:=[.v (.one (.sl bF dZ false))]
def JM:List kM:=[.agg [.sl aj bC false,.sl ay aJ false,.int .i64,.sl aC aK false],.one (.bool)]
def X6:jo Bj->Prop×kS JM:=λ(l,())=>(Et l,(Sp.dec l).1,(Sp.dec l).2,())
def zA:Dh:=iw Bj JM X6
def Bl:List iq:=[.v (.one (.sl bF dZ false))]
def JO:List kM:=[.agg [.sl aj bC false,.sl ay aJ false,.int .i64,.sl aC aK false],.one (.bool)]
def X7:jo Bl->Prop×kS JO:=λ(l,())=>(Et l,(Sp.dec l).1,(Sp.dec l).2,())
def zB:Dh:=iw Bl JO X7
def rE:PA:=⟨52,[.l bF dZ,.l bF dZ],[.b],λ((a,b,()):qU×wG)=>(True,decide (a=b),())⟩
def GK:PA:=⟨199,[.s],[.i],λ((s,()):dh)=>(s.length<=1048576,Sp.sumOf s,())⟩
def GL:PA:=⟨214,[.s],[.i],λ((s,()):dh)=>(s.length<=1048576,Sp.sumOf s,())⟩
def BV:PA:=⟨149,[.i,.v (.agg [.l aj bC,.l ay aJ,.i,.l aC aK])],[.s],λ((n,x,()):Int×O8)=>(fJ x,Sp.slot n x,())⟩
def BZ:PA:=⟨171,[.i,.v (.agg [.l aj bC,.l ay aJ,.i,.l aC aK])],[.s],λ((n,x,()):Int×O8)=>(fJ x,Sp.slot n x,())⟩
def La:PA:=⟨146,[.s],[.f bF dZ],λ((s,()):dh)=>(s.length<=1048576,uh s,())⟩
def Cb:PA:=⟨94,[.s],[.i,.agg [.l aj bC,.l ay aJ,.i,.l aC aK],.b],λ((s,()):dh)=>(fV s,(aW s).1,(aW s).2.1,(aW s).2.2,())⟩
def Cc:PA:=⟨112,[.s],[.i,.agg [.l aj bC,.l ay aJ,.i,.l aC aK],.b],λ((s,()):dh)=>(fV s,(aW s).1,(aW s).2.1,(aW s).2.2,())⟩
def Eu:PA:=⟨49,[.v (.agg [.s,.s])],[.i,.agg [.l aj bC,.l ay aJ,.i,.l aC aK],.b,.b],λ(((a,b,()),()):ah9)=>(fV a/\fV b,(Sp.latest a b).1,(Sp.latest a b).2.1,(Sp.latest a b).2.2.1,(Sp.latest a b).2.2.2,())⟩
def Ce:PA:=⟨67,[.v (.agg [.s,.s])],[.i,.agg [.l aj bC,.l ay aJ,.i,.l aC aK],.b,.b],λ(((a,b,()),()):ah9)=>(fV a/\fV b,(Sp.latest a b).1,(Sp.latest a b).2.1,(Sp.latest a b).2.2.1,(Sp.latest a b).2.2.2,())⟩
def vG:PA:=⟨14,[.v (.agg [.s,.s])],[.i,.agg [.l aj bC,.l ay aJ,.i,.l aC aK],.b],λ(((a,b,()),()):ah9)=>(fV a/\fV b,(Sp.latest a b).1,(Sp.latest a b).2.1,(Sp.latest a b).2.2.1,())⟩
def qB:PA:=⟨29,[.v (.agg [.s,.s])],[.i,.agg [.l aj bC,.l ay aJ,.i,.l aC aK],.b],λ(((a,b,()),()):ah9)=>(fV a/\fV b,(Sp.latest a b).1,(Sp.latest a b).2.1,(Sp.latest a b).2.2.1,())⟩
def I4:PA:=⟨57,[.l aN bZ],[.b],λ((a,()):jD)=>(True,Sp.rise a,())⟩
def Ar:PA:=⟨79,[.l aN bZ],[.b],λ((a,()):jD)=>(True,Sp.rise a,())⟩
def Au:PA:=⟨37,[.v (.agg [.i,.s,.l aN bZ,.l gZ Dq])],[.i],λ((w,()):O9)=>(True,qO w,())⟩
def LX:List iq:=[.v (.one (.sl aN bZ false)),.v (.one (.sl aN bZ false)),.v (.one (.sl aN bZ false))]
def Ry:List kM:=[.one (.sl aN bZ true)]
def akn:jo LX->Prop×kS Ry:=λ(b,added,a,())=>(b.length+added.length<=8000000,rC b added a,())
def JV:Dh:=iw LX Ry akn
def tC:PA:=⟨80,[.l aN bZ,.l gZ Dq],[.l aN bZ],λ((a,b,()):fD×tN×Unit)=>(Q8 a b,Sp.replay a b,())⟩
def tH:PA:=⟨59,[.l aN bZ,.l gZ Dq],[.f aN bZ],λ((a,b,()):fD×tN×Unit)=>(Q8 a b,Sp.replay a b,())⟩
def yQ:PA:=⟨134,[.v (.agg [.i,.s,.l aN bZ,.l gZ Dq])],[.l aN bZ],λ((w,()):O9)=>(zC w,Sp.listing w,())⟩
def yR:PA:=⟨22,[.v (.agg [.i,.s,.l aN bZ,.l gZ Dq])],[.f aN bZ],λ((w,()):O9)=>(zC w,Sp.listing w,())⟩
def Ew:XA:=⟨234,[.p (.v (.agg [.i,.l aN bZ,.l aN bZ]))],[.agg [.i,.l aN bZ,.l aN bZ]],λ((e,()):Tq×Unit)=>(azk e,λ(z:(Tq×Unit)×Unit)=>z.1.1=e)⟩
def Ey:XA:=⟨190,[.p (.v (.agg [.i,.s,.l aN bZ,.l gZ Dq]))],[.agg [.i,.s,.l aN bZ,.own gZ Dq false]],λ((w,()):O9)=>(zC w,λ(z:O9×Unit)=>z.1.1=w)⟩
def yS:PA:=⟨36,[.v (.agg [.i,.s,.l aN bZ,.l gZ Dq])],[.b],λ((w,()):O9)=>(zC w,kX w,())⟩
def yT:PA:=⟨20,[.v (.agg [.i,.s,.l aN bZ,.l gZ Dq])],[.b],λ((w,()):O9)=>(zC w,kX w,())⟩
def yU:PA:=⟨19,[.l aN bZ],[.b],λ((q,()):jD)=>(True,uj q,())⟩
def nD:PA:=⟨73,[.i],[.b],λ((n,()):bJ)=>(True,!(decide (0<=n)&&decide (n<=999)),())⟩
def jm:PA:=⟨120,[.l aN bZ,.fn 73 []],[.i],λ((l,_,()):fD×nC)=>(True,Sp.findAt (λx:bJ=>!(decide (0<=x.1)&&decide (x.1<=999))) l,())⟩
def iR:PA:=⟨72,[.l aN bZ,.fn 73 []],[.b],λ((l,_,()):fD×nC)=>(True,l.any λx=>!(decide (0<=x.1)&&decide (x.1<=999)),())⟩
def yV:PA:=⟨33,[.l aN bZ],[.b],λ((q,()):jD)=>(True,uj q,())⟩
def qC:XA:=⟨35,[.p (.v (.agg [.l aj bC,.l ay aJ,.i,.l aC aK,.l aQ gW,.s,.s,.i,.l fO oO,.l iV rF,.l aN bZ]))],[.agg [.l aj bC,.l ay aJ,.i,.l aC aK]],λ((x,()):O7×Unit)=>(fJ (lG x),λ(z:Tv)=>z.1.1=lG x)⟩
def vH:XA:=⟨17,[.p (.v (.agg [.l aj bC,.l ay aJ,.i,.l aC aK,.l aQ gW,.s,.s,.i,.l fO oO,.l iV rF,.l aN bZ]))],[.agg [.f aj bC,.f ay aJ,.i,.f aC aK]],λ((x,()):O7×Unit)=>(fJ (lG x),λ(z:Tv)=>z.1.1=lG x)⟩
def Aw:PA:=⟨34,[.v (.agg [.l aj bC,.l ay aJ,.i,.l aC aK]),.v (.agg [.l aj bC,.l ay aJ,.i,.l aC aK])],[.b],λ((a,b,()):Tt×O8)=>(fJ a/\fJ b,nG a b,())⟩
def GN:PA:=⟨16,[.v (.agg [.l aj bC,.l ay aJ,.i,.l aC aK]),.v (.agg [.l aj bC,.l ay aJ,.i,.l aC aK])],[.b],λ((a,b,()):Tt×O8)=>(fJ a/\fJ b,nG a b,())⟩
def Ez:PA:=⟨31,[.v (.agg [.l aj bC,.l ay aJ,.i,.l aC aK,.l aQ gW,.s,.s,.i,.l fO oO,.l iV rF,.l aN bZ])],[.b],λ((x,()):O7×Unit)=>(fJ (lG x)/\(fV (kz x)/\fV (kC x)),MI x,())⟩
def EC:XA:=⟨133,[.p (.v (.agg [.l aj bC,.l ay aJ,.i,.l aC aK,.l aQ gW,.s,.s,.i,.l fO oO,.l iV rF,.l aN bZ])),.i],[.agg [.i,.s,.l aN bZ,.l gZ Dq],.b],λ((x,i,()):O7×bJ)=>(Sp.hugeS x,λ(z:(Ty6×bG)×Unit)=>z.1.1=(Az x i).1/\z.1.2.1=(Az x i).2)⟩
def qP:PA:=⟨82,[.v (.agg [.l aj bC,.l ay aJ,.i,.l aC aK,.l aQ gW,.s,.s,.i,.l fO oO,.l iV rF,.l aN bZ]),.i],[.b],λ((x,i,()):O7×bJ)=>(Sp.hugeS x,Pg x i,())⟩
def oZ:PA:=⟨38,[.v (.agg [.l aj bC,.l ay aJ,.i,.l aC aK,.l aQ gW,.s,.s,.i,.l fO oO,.l iV rF,.l aN bZ])],[.b],λ((x,()):O7×Unit)=>(Sp.hugeS x,Sp.streams x,())⟩
def wL:PA:=⟨7,[.v (.agg [.l aj bC,.l ay aJ,.i,.l aC aK,.l aQ gW,.s,.s,.i,.l fO oO,.l iV rF,.l aN bZ])],[.b],λ((x,()):O7×Unit)=>(VI x,ED x,())⟩
def wM:PA:=⟨5,[.v (.agg [.l aj bC,.l ay aJ,.i,.l aC aK,.l aQ gW,.s,.s,.i,.l fO oO,.l iV rF,.l aN bZ])],[.b],λ((x,()):O7×Unit)=>(VI x,ED x,())⟩
def Dt:PA:=⟨239,[.v (.agg [.i,.i,.s]),.i],[.i],λ(((_,_,s,()),left,()):(Int×Int×dh)×bJ)=>(0<=left/\left<=1048576,aT s.length left,())⟩
def Lc:PA:=⟨238,[.v (.agg [.s,.i,.i,.s]),.i],[.i],λ((a,left,()):Ty0×bJ)=>(0<=left/\left<=1048576,aT (Zt a) left,())⟩
def Ld:PA:=⟨197,[.v (.agg [.i,.i,.i,.s,.i,.i,.s]),.i],[.i],λ((a,left,()):Hu×bJ)=>(0<=left/\left<=1048576,aT (VJ a) left,())⟩
def I5:PA:=⟨196,[.l xq qQ,.i],[.i],λ((a,left,()):lW×bJ)=>(0<=left/\left<=1048576,aT (Nr a) left,())⟩
def I7:PA:=⟨144,[.l xu lH,.i],[.i],λ((a,left,()):kF×bJ)=>(0<=left/\left<=1048576,aT (Kw a) left,())⟩
def Le:PA:=⟨143,[.v (.agg [.i,.i,.b,.i,.l xq qQ]),.i],[.i],λ((a,left,()):LM×bJ)=>(0<=left/\left<=1048576,aT (P6 a) left,())⟩
def Ns:PA:=⟨90,[.v (.agg [.s,.l xu lH]),.i],[.i],λ((a,left,()):(aU×vO)×bJ)=>(0<=left/\left<=1048576,aT (Nu a) left,())⟩
def I8:PA:=⟨142,[.v (.agg [.s,.i]),.i],[.i],λ((a,left,()):(aU×bJ)×bJ)=>(0<=left/\left<=1048576,aT (TP a) left,())⟩
def GR:PA:=⟨88,[.l eU dG,.i],[.i],λ((a,left,()):fQ×bJ)=>(0<=left/\left<=1048576,aT (FU a) left,())⟩
def I9:PA:=⟨89,[.l fZ ou,.i],[.i],λ((a,left,()):iT×bJ)=>(0<=left/\left<=1048576,aT (TQ a) left,())⟩
def Du:PA:=⟨44,[.v (.agg [.l eU dG,.l fZ ou,.i]),.i],[.i],λ((a,left,()):Hy×bJ)=>(0<=left/\left<=1048576,aT (Dv a) left,())⟩
def Fq:PA:=⟨45,[.l jg rG,.i],[.i],λ((a,left,()):ig×bJ)=>(0<=left/\left<=1048576,aT (wO a) left,())⟩
def GU:PA:=⟨91,[.v (.agg [.s,.l aN bZ]),.i],[.i],λ((a,left,()):(aU×jD)×bJ)=>(0<=left/\left<=1048576,aT (anO a) left,())⟩
def EF:PA:=⟨46,[.l kE jh,.i],[.i],λ((a,left,()):lI×bJ)=>(0<=left/\left<=1048576,aT (P7 a) left,())⟩
def EG:PA:=⟨9,[.v (.agg [.l eU dG,.l fZ ou,.i,.l jg rG,.l kE jh]),.i],[.i],λ((a,left,()):ah8×bJ)=>(0<=left/\left<=1048576,aT (ac6 a) left,())⟩
def Ci:PA:=⟨92,[.v (.agg [.l eU dG,.l fZ ou,.i,.l jg rG]),.i],[.i],λ((a,left,()):Tt×bJ)=>(0<=left/\left<=1048576,aT (VK a) left,())⟩
def EH:PA:=⟨47,[.v (.agg [.i,.l eU dG,.l fZ ou,.i,.l jg rG,.i]),.i],[.i],λ((a,left,()):anH×bJ)=>(0<=left/\left<=1048576,aT (WZ a) left,())⟩
def Cj:PA:=⟨11,[.l oz TR,.i],[.i],λ((a,left,()):sQ×bJ)=>(0<=left/\left<=1048576,aT (AA a) left,())⟩
def Ja:PA:=⟨145,[.v (.agg [.i,.l aN bZ,.l aN bZ]),.i],[.i],λ((a,left,()):Tq×bJ)=>(0<=left/\left<=1048576,aT (wEv a) left,())⟩
def GV:PA:=⟨93,[.l uU o5,.i],[.i],λ((a,left,()):tN×bJ)=>(0<=left/\left<=1048576,aT (Ia a) left,())⟩
def Jb:PA:=⟨48,[.v (.agg [.i,.s,.l aN bZ,.l uU o5]),.i],[.i],λ((a,left,()):Ty6×bJ)=>(0<=left/\left<=1048576,aT (TS a) left,())⟩
def GX:PA:=⟨12,[.l rH Nv,.i],[.i],λ((a,left,()):wF×bJ)=>(0<=left/\left<=1048576,aT (Jc a) left,())⟩
def GY:PA:=⟨4,[.v (.agg [.l eU dG,.l fZ ou,.i,.l jg rG,.l kE jh,.s,.s,.i,.l oz TR,.l rH Nv,.l aN bZ]),.i],[.i],λ((a,left,()):O7×bJ)=>(0<=left/\left<=1048576,aT (W9 a) left,())⟩
def vS:PA:=⟨13,[.l aN bZ,.i],[.i],λ((a,left,()):fD×bJ)=>(0<=left/\left<=1048576,aT a.length left,())⟩
def Lh:PA:=⟨10,[.v (.agg [.s,.s]),.i],[.i],λ(((a,b,()),left,()):(aU×dh)×bJ)=>(0<=left/\left<=1048576,aT (a.length+b.length) left,())⟩
def Dw:PA:=⟨253,[.v (.agg [.i,.i,.s])],[.agg [.i,.i,.s]],λ(((k,i,s,()),()):Hw)=>(True,(k,i,s,()),())⟩
def Lj:PA:=⟨252,[.v (.agg [.s,.i,.i,.s])],[.agg [.s,.i,.i,.s]],λ(((n,k,i,s,()),()):Ty0×Unit)=>(True,(n,k,i,s,()),())⟩
def Ll:PA:=⟨210,[.v (.agg [.i,.i,.i,.s,.i,.i,.s])],[.agg [.i,.i,.i,.s,.i,.i,.s]],λ(((o,l,r,n,k,i,s,()),()):Hu×Unit)=>(True,(o,l,r,n,k,i,s,()),())⟩
def Jd:PA:=⟨209,[.l xq qQ],[.f cZ jk],λ((a,()):lW×Unit)=>(Nr a<=big,a,())⟩
def Je:PA:=⟨166,[.l xu lH],[.f aS dR],λ((a,()):vO)=>(Kw a<=big,a,())⟩
def Lm:PA:=⟨165,[.v (.agg [.i,.i,.b,.i,.l xq qQ])],[.agg [.i,.i,.b,.i,.f cZ jk]],λ(((i,o,s,l,a,()),()):Tz)=>(Nr a<=big,(i,o,s,l,a,()),())⟩
def Nw:PA:=⟨108,[.v (.agg [.s,.l xu lH])],[.agg [.s,.f aS dR]],λ(((n,q,()),()):(aU×vO)×Unit)=>(Kw q<=big,(n,q,()),())⟩
def Jf:PA:=⟨164,[.v (.agg [.s,.i])],[.agg [.s,.i]],λ(((n,k,()),()):Zq)=>(True,(n,k,()),())⟩
def GZ:PA:=⟨106,[.l eU dG],[.f aj bC],λ((a,()):fQ×Unit)=>(FU a<=big,a,())⟩
def Jg:PA:=⟨107,[.l fZ ou],[.f ay aJ],λ((a,()):Nc)=>(TQ a<=big,a,())⟩
def Dx:PA:=⟨62,[.v (.agg [.l eU dG,.l fZ ou,.i])],[.agg [.f aj bC,.f ay aJ,.i]],λ(((a,l,n,()),()):LQ)=>(Dv (a,l,n,())<=big,(a,l,n,()),())⟩
def Fv:PA:=⟨63,[.l jg rG],[.f aC aK],λ((a,()):xP)=>(wO a<=big,a,())⟩
def vT:PA:=⟨28,[.l aN bZ],[.f aN bZ],λ((a,()):jD)=>(a.length<=big,a,())⟩
def G5:PA:=⟨109,[.v (.agg [.s,.l aN bZ])],[.agg [.s,.f aN bZ]],λ(((n,l,()),()):(aU×jD)×Unit)=>(l.length<=big,(n,l,()),())⟩
def EI:PA:=⟨64,[.l kE jh],[.f aQ gW],λ((a,()):Ed)=>(P7 a<=big,a,())⟩
def EJ:PA:=⟨24,[.v (.agg [.l eU dG,.l fZ ou,.i,.l jg rG,.l kE jh])],[.agg [.f aj bC,.f ay aJ,.i,.f aC aK,.f aQ gW]],λ(((a,l,n,d,r,()),()):ah8×Unit)=>(ac6 (a,l,n,d,r,())<=big,(a,l,n,d,r,()),())⟩
def Lp:PA:=⟨25,[.v (.agg [.s,.s])],[.agg [.s,.s]],λ(((a,b,()),()):ah9)=>(True,(a,b,()),())⟩
def Cm:PA:=⟨110,[.v (.agg [.l eU dG,.l fZ ou,.i,.l jg rG])],[.agg [.f aj bC,.f ay aJ,.i,.f aC aK]],λ(((a,l,n,d,()),()):O8)=>(VK (a,l,n,d,())<=big,(a,l,n,d,()),())⟩
def EK:PA:=⟨65,[.v (.agg [.i,.l eU dG,.l fZ ou,.i,.l jg rG,.i])],[.agg [.i,.f aj bC,.f ay aJ,.i,.f aC aK,.i]],λ(((m,a,l,n,d,p,()),()):anH×Unit)=>(VK (a,l,n,d,())<=big,(m,a,l,n,d,p,()),())⟩
def CB:PA:=⟨26,[.l oz TR],[.f fO oO],λ((a,()):sQ×Unit)=>(AA a<=big,a,())⟩
def Jh:PA:=⟨167,[.v (.agg [.i,.l aN bZ,.l aN bZ])],[.agg [.i,.f aN bZ,.f aN bZ]],λ(((n,a,b,()),()):Tq×Unit)=>(a.length+b.length<=big,(n,a,b,()),())⟩
def G6:PA:=⟨111,[.l uU o5],[.f gZ Dq],λ((a,()):tN×Unit)=>(Ia a<=big,a,())⟩
def Ji:PA:=⟨66,[.v (.agg [.i,.s,.l aN bZ,.l uU o5])],[.agg [.i,.s,.f aN bZ,.f gZ Dq]],λ(((u,n,l,e,()),()):O9)=>(l.length+Ia e<=big,(u,n,l,e,()),())⟩
def G7:PA:=⟨27,[.l rH Nv],[.f iV rF],λ((a,()):wF×Unit)=>(Jc a<=big,a,())⟩
def G8:PA:=⟨6,[.v (.agg [.l eU dG,.l fZ ou,.i,.l jg rG,.l kE jh,.s,.s,.i,.l oz TR,.l rH Nv,.l aN bZ])],[.agg [.f aj bC,.f ay aJ,.i,.f aC aK,.f aQ gW,.s,.s,.i,.f fO oO,.f iV rF,.f aN bZ]],λ(((a,l,n,d,r,b,e,m,v,w,q,()),()):O7×Unit)=>(W9 (a,l,n,d,r,b,e,m,v,w,q,())<=big,(a,l,n,d,r,b,e,m,v,w,q,()),())⟩
def Dy:PA:=⟨283,[.v (.agg [.i,.i,.s]),.v (.agg [.i,.i,.s])],[.b],λ((a,b,()):(Int×Int×dh)×Hw)=>(a=b,true,())⟩
def Lr:PA:=⟨282,[.v (.agg [.s,.i,.i,.s]),.v (.agg [.s,.i,.i,.s])],[.b],λ((a,b,()):Ty0×Ty0×Unit)=>(a=b,true,())⟩
def Ls:PA:=⟨237,[.v (.agg [.i,.i,.i,.s,.i,.i,.s]),.v (.agg [.i,.i,.i,.s,.i,.i,.s])],[.b],λ((a,b,()):Hu×Hu×Unit)=>(a=b,true,())⟩
def Jj:PA:=⟨236,[.l cZ jk,.l cZ jk],[.b],λ((a,b,()):lW×lW×Unit)=>(a=b,true,())⟩
def Jk:PA:=⟨194,[.l aS dR,.l aS dR],[.b],λ((a,b,()):kF×vO)=>(a=b,true,())⟩
def Lu:PA:=⟨193,[.v (.agg [.i,.i,.b,.i,.l cZ jk]),.v (.agg [.i,.i,.b,.i,.l cZ jk])],[.b],λ((a,b,()):LM×Tz)=>(a=b,true,())⟩
def Ny:PA:=⟨138,[.v (.agg [.s,.l aS dR]),.v (.agg [.s,.l aS dR])],[.b],λ((a,b,()):(aU×vO)×(aU×vO)×Unit)=>(a=b,true,())⟩
def Jl:PA:=⟨192,[.v (.agg [.s,.i]),.v (.agg [.s,.i])],[.b],λ((a,b,()):(aU×bJ)×Zq)=>(a=b,true,())⟩
def G9:PA:=⟨136,[.l aj bC,.l aj bC],[.b],λ((a,b,()):fQ×fQ×Unit)=>(a=b,true,())⟩
def Jm:PA:=⟨137,[.l ay aJ,.l ay aJ],[.b],λ((a,b,()):iT×Nc)=>(a=b,true,())⟩
def Dz:PA:=⟨83,[.v (.agg [.l aj bC,.l ay aJ,.i]),.v (.agg [.l aj bC,.l ay aJ,.i])],[.b],λ((a,b,()):Hy×LQ)=>(a=b,true,())⟩
def Fz:PA:=⟨84,[.l aC aK,.l aC aK],[.b],λ((a,b,()):ig×xP)=>(a=b,true,())⟩
def vU:PA:=⟨43,[.l aN bZ,.l aN bZ],[.b],λ((a,b,()):fD×jD)=>(a=b,true,())⟩
def He:PA:=⟨139,[.v (.agg [.s,.l aN bZ]),.v (.agg [.s,.l aN bZ])],[.b],λ((a,b,()):(aU×jD)×(aU×jD)×Unit)=>(a=b,true,())⟩
def EL:PA:=⟨85,[.l aQ gW,.l aQ gW],[.b],λ((a,b,()):lI×Ed)=>(a=b,true,())⟩
def EM:PA:=⟨39,[.v (.agg [.l aj bC,.l ay aJ,.i,.l aC aK,.l aQ gW]),.v (.agg [.l aj bC,.l ay aJ,.i,.l aC aK,.l aQ gW])],[.b],λ((a,b,()):ah8×ah8×Unit)=>(a=b,true,())⟩
def LC:PA:=⟨40,[.v (.agg [.s,.s]),.v (.agg [.s,.s])],[.b],λ((a,b,()):(aU×dh)×ah9)=>(a=b,true,())⟩
def CG:PA:=⟨140,[.v (.agg [.l aj bC,.l ay aJ,.i,.l aC aK]),.v (.agg [.l aj bC,.l ay aJ,.i,.l aC aK])],[.b],λ((a,b,()):Tt×O8)=>(a=b,true,())⟩
def EN:PA:=⟨86,[.v (.agg [.i,.l aj bC,.l ay aJ,.i,.l aC aK,.i]),.v (.agg [.i,.l aj bC,.l ay aJ,.i,.l aC aK,.i])],[.b],λ((a,b,()):anH×anH×Unit)=>(a=b,true,())⟩
def CJ:PA:=⟨41,[.l fO oO,.l fO oO],[.b],λ((a,b,()):sQ×sQ×Unit)=>(a=b,true,())⟩
def Jo:PA:=⟨195,[.v (.agg [.i,.l aN bZ,.l aN bZ]),.v (.agg [.i,.l aN bZ,.l aN bZ])],[.b],λ((a,b,()):Tq×Tq×Unit)=>(a=b,true,())⟩
def Hf:PA:=⟨141,[.l gZ Dq,.l gZ Dq],[.b],λ((a,b,()):tN×tN×Unit)=>(a=b,true,())⟩
def Jp:PA:=⟨87,[.v (.agg [.i,.s,.l aN bZ,.l gZ Dq]),.v (.agg [.i,.s,.l aN bZ,.l gZ Dq])],[.b],λ((a,b,()):Ty6×O9)=>(a=b,true,())⟩
def Hg:PA:=⟨42,[.l iV rF,.l iV rF],[.b],λ((a,b,()):wF×wF×Unit)=>(a=b,true,())⟩
def Hl:PA:=⟨8,[.v (.agg [.l aj bC,.l ay aJ,.i,.l aC aK,.l aQ gW,.s,.s,.i,.l fO oO,.l iV rF,.l aN bZ]),.v (.agg [.l aj bC,.l ay aJ,.i,.l aC aK,.l aQ gW,.s,.s,.i,.l fO oO,.l iV rF,.l aN bZ])],[.b],λ((a,b,()):O7×O7×Unit)=>(a=b,true,())⟩
def uV:PA:=⟨3,[.v (.agg [.l eU dG,.l fZ ou,.i,.l jg rG,.l kE jh,.s,.s,.i,.l oz TR,.l rH Nv,.l aN bZ])],[.b],λ(_,())=>(True,true,())⟩
def Xa[kQ]:kY:=Jq [vZ.e,pX.e,(vI,.pure zq),Df.e,xI.e]
def Zu[kQ]:kY:=Jq [oP.e,tX.e,(yX,.pure Di),Dc.e]
def Xb[kQ]:kY:=Jq [(DC,.pure xX),(vJ,.pure zx),qA.e,nP.e]
def Zv[kQ]:kY:=Jq [(yY,.pure Dl),nO.e,qc.e]
def Zw[kQ]:kY:=Jq [(yZ,.eff (X8 rD) Dp),gX.e,mD.e,qc.e,oq.e]
end
end Go.Proofs.Tryz
