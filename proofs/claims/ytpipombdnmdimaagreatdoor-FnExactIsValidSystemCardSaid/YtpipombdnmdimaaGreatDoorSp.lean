import Derived.Test.YtpipombdnmdimaaGreatDoorFwA
import Derived.Lib.ItoaNum
import Derived.Lib.ItoaLen
import Derived.Lib.Join
import Derived.Test.YtpipombdnmdimaaGreatDoorFwC
import Derived.Lib.Fields
import Derived.Lib.Atoi
import Derived.Lib.SplitLaws
namespace Sp
open Go
abbrev Bytes:=List UInt8
abbrev LI:=List (Int×Unit)
abbrev LS:=List (Bytes×Unit)
def aT(n:Nat)(left:Int):Int:=if left-n<0 then -1 else left-n
theorem take_succ'{α:Type}(a:List α)(n:Nat)(d:α)(h:n<a.length):a.take (n+1)=a.take n++[a.getD n d]:=by rw[aIi h,aHI,aHK h];rfl
def ang(l:LI):Prop:=∀x∈l,-9223372036854775808<=x.1/\x.1<=9223372036854775807
theorem ang.take{a:LI}(h:ang a)(n:Nat):ang (a.take n):=λx Z=>h x (aI7 Z)
theorem ang.get{a:LI}(h:ang a){n:Nat}(H:n<a.length)(d:Int×Unit):(Lib.itoa (a.getD n d).1).length<=21:=by
 have:a.getD n d∈a:=by rw[aHI,aHK H,Option.getD_some];exact aJs H
 exact Lib.itoa_length_le _ (h _ this).1 (h _ this).2
theorem apc(c:Nat):Lib.decDigits c=(if c / 10=0 then[]else Lib.decDigits (c / 10))++[UInt8.ofNat (48+c%10)]:=by
 conv=>lhs;rw[Lib.decDigits]
 by_cases h:c<10
 .rw[dif_pos h,if_pos lu,Nat.mod_eq_of_lt h];rfl
 .rw[dif_neg h,if_neg lu]
set_option synthInstance.maxSize 100000
set_option synthInstance.maxHeartbeats 1000000
abbrev Iz:=Int×Int×Bytes×Unit
abbrev dL:=Bytes×Int×Int×Bytes×Unit
abbrev aA:=Int×Int×Int×Bytes×Int×Int×Bytes×Unit
abbrev aF:=Int×Int×Bool×Int×List dL×Unit
abbrev aG:=Bytes×List aA×Unit
abbrev mr:=Int×Int×Int×Bool×Int×List dL×Int×Bytes×List aA×Unit
def Zt:dL->Nat|(n,_,_,s,_)=>n.length+s.length
def VJ:aA->Nat|(_,_,_,n,_,_,s,_)=>n.length+s.length
def jR{α:Type}(f:α->Nat):List α->Nat
 |[]=>0
 |x::r=>1+f x+jR f r
def Nr(a:List dL):Nat:=jR Zt a
def Kw(a:List aA):Nat:=jR VJ a
def P6:aF->Nat|(_,_,_,_,a,_)=>Nr a
def Nu:aG->Nat|(n,q,_)=>n.length+Kw q
instance:DecidableEq Iz:=inferInstance
instance:DecidableEq dL:=inferInstance
instance:DecidableEq aA:=inferInstance
instance:DecidableEq aF:=inferInstance
instance:DecidableEq aG:=inferInstance
instance:DecidableEq (Int×aG):=inferInstance
instance:DecidableEq (List dL×Int×aG):=inferInstance
instance:DecidableEq (Bool×Int×List dL×Int×aG):=inferInstance
instance aF9:DecidableEq mr:=(inferInstance:DecidableEq (Int×Int×Int×Bool×Int×List dL×Int×aG))
instance:DecidableEq (List mr):=inferInstance
instance:DecidableEq (List mr×Bytes×Int×Unit):=inferInstance
def lower(s:Bytes):Bool:=s.all λc=>decide (97<=c.toNat)&&decide (c.toNat<=122)
def bK(s:Bytes):Bool:=lower s&&decide (1<=(s.length:Int))&&decide ((s.length:Int)<=6)
def iC(n:Int):Bool:=decide (0<=n)&&decide (n<=1000000000)
def idxFrom:Int->LI->Int
 |_,[]=>-1
 |k,x::r=>if iC x.1 then idxFrom (k+1) r else k
def idxOf(l:LI):Int:=idxFrom 0 l
def aAa(k:Int)(a:Nat):Bool:=decide (1<=k)&&decide (k<=8)&&decide ((a:Int)<=6)
def anh(k u:Int)(b:Nat)(n:Bytes)(a:Int):Bytes:=
 bif !(aAa k b)then[]else
 bif (decide ((b:Int)>0)&&decide (k>2))then[]else
 bif (k==1&&(iC u&&(a==0&&n==[])))then[99,111,109,109,105,116,32]++Lib.itoa u else
 bif (k==2&&(iC u&&(iC a&&n==[])))then[99,114,97,115,104,32]++Lib.itoa u++[32]++Lib.itoa a else
 bif (k==3&&(iC u&&(bK n&&a==0)))then[119,97,116,99,104,32]++Lib.itoa u++[32]++n else
 bif (k==4&&(u==0&&(iC a&&n==[])))then[112,105,110,32]++Lib.itoa a else
 bif (k==5&&(u==0&&(iC a&&n==[])))then[117,110,112,105,110,32]++Lib.itoa a else
 bif (k==6&&(u==0&&(a==0&&n==[])))then[99,111,108,108,101,99,116]else
 bif (k==7&&(iC u&&(iC a&&bK n)))then[97,100,100,32]++Lib.itoa u++[32]++n++[32]++Lib.itoa a else
 bif (k==8&&(iC u&&(iC a&&bK n)))then[114,101,109,111,118,101,32]++Lib.itoa u++[32]++n++[32]++Lib.itoa a else[]
abbrev bY:=Bytes×Int×Unit
abbrev dV:=List bY×List aF×Int×Unit
instance:DecidableEq bY:=inferInstance
instance:DecidableEq (List bY):=inferInstance
instance:DecidableEq (List aF):=inferInstance
instance:DecidableEq (List aF×Int×Unit):=inferInstance
instance aGD:DecidableEq dV:=(inferInstance:DecidableEq (List bY×List aF×Int×Unit))
def usual:List bY:=[([97],1,()),([98],1,()),([110],2,()),([116],2,())]
def amI(f:aF):Prop:=f.2.2.2.2.1.length<=1000
def qp(s:dV):Prop:=s.1.length<=1000/\s.2.1.length<=1000/\∀f∈s.2.1,amI f
def iF(n:Nat)(f:Nat->Bool):Bool:=(List.range n).all f
def dP(s:Bytes):Bool:=lower s&&decide (1<=(s.length:Int))&&decide ((s.length:Int)<=1)
def dB(k n:Int)(s:Bytes):Bool:=
 bif decide (k=0)then decide (n=0)&&decide (s=[])
 else bif decide (k=1)then decide (0<=n)&&decide (n<=999)&&decide (s=[])
 else bif decide (k=2)then bK s&&decide (n=0)
 else false
def kindOf:List bY->Bytes->Int
 |[],_=>0
 |f::r,s=>bif decide (f.1=s)then f.2.1 else kindOf r s
def fieldAt(fs:List bY)(i:Nat):bY:=fs.getD i ([],0,())
def jW(fs:List bY)(i:Nat):Bool:=
 dP (fieldAt fs i).1&&(decide (1<=(fieldAt fs i).2.1)&&decide ((fieldAt fs i).2.1<=2))&&!(decide (0<i)&&!Op.bytesLess (fieldAt fs (i-1)).1 (fieldAt fs i).1)
def dN(fs:List bY):Bool:=iF fs.length (jW fs)&&decide ((fs.length:Int)<=5)
def jI(fs:List bY)(name:Bytes)(k n:Int)(s:Bytes):Bool:=dB k n s&&!decide (k=0)&&decide (k=kindOf fs name)
def dU(a:List dL)(i:Nat):dL:=a.getD i ([],0,0,[],())
def lg(fs:List bY)(a:List dL)(i:Nat):Bool:=
 jI fs (dU a i).1 (dU a i).2.1 (dU a i).2.2.1 (dU a i).2.2.2.1&&!(decide (0<i)&&!Op.bytesLess (dU a (i-1)).1 (dU a i).1)
def um(fs:List bY)(a:List dL):Bool:=iF a.length (lg fs a)
def gq(fs:List bY)(f:aF):Bool:=
 um fs f.2.2.2.2.1&&dN fs&&(decide (1<=f.1)&&decide (f.1<=60))&&(decide (0<=f.2.1)&&decide (f.2.1<=2))&&(decide (0<=f.2.2.2.1)&&decide (f.2.2.2.1<=60))
def fileAt(fs:List aF)(i:Nat):aF:=fs.getD i (0,0,false,0,[],())
def lV(s:dV)(i:Nat):Bool:=
 gq s.1 (fileAt s.2.1 i)&&decide ((fileAt s.2.1 i).1<s.2.2.1)&&!(decide (0<i)&&!decide ((fileAt s.2.1 (i-1)).1<(fileAt s.2.1 i).1))
def bg(s:dV):Bool:=
 iF s.2.1.length (lV s)&&dN s.1&&decide ((s.2.1.length:Int)<=12)&&(decide (1<=s.2.2.1)&&decide (s.2.2.1<=61))
def sO:Int->List aF->Int->Int
 |_,[],_=>-1
 |k,f::r,id=>bif decide (f.1=id)then k else sO (k+1) r id
def place(fs:List aF)(id:Int):Int:=sO 0 fs id
def kK(f:aF)(u:Int):Bool:=(decide (0<=u)&&decide (u<=2))&&(decide (f.2.1=u)||f.2.2.1)
def aAb(f:aF)(u:Int):Bool:=(decide (0<=u)&&decide (u<=2))&&decide (f.2.1=u)
def unlink(fs:List aF)(f:aF):aF:=(f.1,f.2.1,f.2.2.1,(bif decide (place fs f.2.2.2.1<0)then 0 else f.2.2.2.1),f.2.2.2.2.1,())
def visible(s:dV)(u:Int):dV:=
 let a:=s.2.1.filter (kK · u)
 (s.1,a.map (unlink a),s.2.2.1,())
def aC0:aF:=(0,0,false,0,[],())
def abk(s:dV)(id:Int):aF×Bool:=
 bif decide (place s.2.1 id<0)then(aC0,false)else(fileAt s.2.1 (place s.2.1 id).toNat,true)
def atO(name:Bytes)(b:dL):Bool:=!(b.1==name)
def atP(name:Bytes)(b:dL):Bool:=Op.bytesLess b.1 name||b.1==name
def aBU(b:List dL)(a:dL):List dL:=b.takeWhile (atP a.1)++a::b.dropWhile (atP a.1)
def avU(a:List dL)(name:Bytes)(k n:Int)(s:Bytes):List dL:=
 bif decide (k=0)then a.filter (atO name)else aBU (a.filter (atO name)) (name,k,n,s,())
def EY(s:dV)(f:aF):dV×Int×Bool:=
 let g:aF:=(s.2.2.1,f.2)
 bif bg s&&decide ((s.2.1.length:Int)<12)&&gq s.1 g then((s.1,s.2.1++[g],s.2.2.1+1,()),s.2.2.1,true)else(s,0,false)
def XR(s:dV)(f:aF):dV×Bool:=
 bif bg s&&!decide (place s.2.1 f.1<0)&&gq s.1 f then((s.1,s.2.1.set (place s.2.1 f.1).toNat f,s.2.2.1,()),true)else(s,false)
def ani(s:dV)(id:Int):dV×Bool:=
 bif bg s&&!decide (place s.2.1 id<0)then((s.1,s.2.1.eraseIdx (place s.2.1 id).toNat,s.2.2.1,()),true)else(s,false)
def IE{α:Type}(p:α->Bool):Int->List α->Int
 |_,[]=>-1
 |k,f::r=>bif p f then k else IE p (k+1) r
def findAt{α:Type}(p:α->Bool)(l:List α):Int:=IE p 0 l
def fieldPlace(l:List bY)(name:Bytes):Int:=findAt (λf=>f.1==name) l
def notField(name:Bytes)(f:bY):Bool:=!(f.1==name)
def abl(name:Bytes)(f:bY):Bool:=Op.bytesLess f.1 name
def BL(s:List bY)(f:bY):List bY:=s.takeWhile (abl f.1)++f::s.dropWhile (abl f.1)
def IG(s:List bY)(f:bY):List bY×Bool:=bif dN s&&dN (BL s f)then(BL s f,true)else(s,false)
def ahJ(s:List bY)(name:Bytes):List bY×Bool:=bif dN s&&!decide (kindOf s name=0)then(s.filter (notField name),true)else(s,false)
end Sp
namespace Sp
theorem atQ:∀(n m:Nat)(L:Nat->Nat),(∀k,k<m->∃j,j<n/\L j=k)->m<=n
 |0,m,L,h=>by
  simp_all
 |n+1,m,L,h=>by
  by_cases K:L n<m
  .have:=atQ n (m-1) (λj=>if L n<L j then L j-1 else L j) λk u=>by
    by_cases E:k<L n
    .obtain⟨j,hj,e⟩:=h k lu
     grind
    .obtain⟨j,hj,e⟩:=h (k+1) lu
     grind
   omega
  .have:=atQ n m L λk u=>by
    grind
   omega
abbrev abm:=List (Nat×Nat×Nat)
def jC(E:abm)(L:Nat->Nat):Prop:=∀e∈E,L e.2.1+e.2.2<=L e.1
def apr(E:abm)(n:Nat):Prop:=∀e∈E,e.1<n/\e.2.1<n/\e.2.2<=1
def sumTo(n:Nat)(L:Nat->Nat):Nat:=match n with|0=>0|n+1=>sumTo n L+L n
theorem sumTo_le{L M:Nat->Nat}:∀n,(∀i,i<n->L i<=M i)->sumTo n L<=sumTo n M
 |0,_=>aHv _
 |n+1,h=>Nat.add_le_add (sumTo_le n λi D=>h i lu) (h n lu)
theorem atS{L M:Nat->Nat}:∀n,(∀i,i<n->L i<=M i)->(∃i,i<n/\L i<M i)->sumTo n L<sumTo n M
 |0,_,⟨i,hi,_⟩=>lu
 |n+1,h,⟨i,hi,hl⟩=>by
  have E:=sumTo_le n λj a=>h j (aJj a);show sumTo n L+L n<sumTo n M+M n;by_cases e:i=n
  .subst e;omega
  .have:=atS n (λj a=>h j (aJj a)) ⟨i,lu,hl⟩
   grind
theorem Ze{E:abm}{n:Nat}(l:apr E n):∀(s:Nat)(L:Nat->Nat),sumTo n L<=s->jC E L->∃M,jC E M/\∀i,i<n->M i<n
 |s,L,hs,hL=>by
  by_cases a:∀i,i<n->L i<n
  .exact⟨L,hL,a⟩
  .obtain⟨i,hi⟩:=Classical.not_forall.1 a;have f:i<n/\n<=L i:=by
    by_cases d:i<n
    .exact⟨d,Nat.le_of_not_lt λO=>hi λ_=>O⟩
    .exact(hi λO=>(d O).elim).elim
   have h:∃k,k<n/\∀j,j<n->L j≠k:=by
    refine aIj λb=>?_;have:=atQ n (n+1) (λj=>min (L j) n) λk u=>by
     by_cases d:k<n
     .refine aIj λO=>b ⟨k,d,λj m e=>O ⟨j,m,?_⟩⟩;omega
     .exact⟨i,f.1,lu⟩
    omega
   obtain⟨k,u,b⟩:=h;have o:sumTo n (λj=>if k<L j then L j-1 else L j)<sumTo n L:=by
    refine atS n (λj _=>?_) ⟨i,f.1,?_⟩
    .split
     .exact Nat.sub_le _ _
     .exact aHv _
    .rw[if_pos lu];omega
   match s,hs with
   |0,hs=>omega
   |s+1,hs=>refine Ze l s (λj=>if k<L j then L j-1 else L j) lu λe g=>?_;have d:=hL e g;obtain⟨O,U,q⟩:=l e g;have r:=b e.2.1 U;show(if k<L e.2.1 then L e.2.1-1 else L e.2.1)+e.2.2<=(if k<L e.1 then L e.1-1 else L e.1);split<;>split<;>omega
theorem Oh{E:abm}{n:Nat}(a:apr E n)(h:∃L,jC E L):∃M,jC E M/\∀i,i<n->M i<n:=by obtain⟨L,b⟩:=h;exact Ze a (sumTo n L) L (aHv _) b
structure Raises(E:abm)(n:Nat)(R:(Nat->Nat)->Nat->Nat):Prop where
 up:∀L i,L i<=R L i
 fix:∀L,(∀i,i<n->R L i=L i)->jC E L
 below:∀L M,jC E M->(∀i,i<n->L i<=M i)->∀i,i<n->R L i<=M i
 same:∀L L',(∀i,i<n->L i=L' i)->∀i,i<n->R L i=R L' i
end Sp
namespace Sp
open Go
abbrev bM:=List bY×List aF×Int×List aG×Unit
abbrev nS:=Int×List bY×List aF×Int×List aG×Int×Unit
instance:DecidableEq (List aA):=inferInstance
instance:DecidableEq aG:=inferInstance
instance:DecidableEq (List aG):=inferInstance
instance:DecidableEq (List aG×Unit):=inferInstance
instance:DecidableEq (Int×List aG×Unit):=inferInstance
instance:DecidableEq (List aF×Int×List aG×Unit):=inferInstance
instance aGR:DecidableEq bM:=(inferInstance:DecidableEq (List bY×List aF×Int×List aG×Unit))
instance:DecidableEq (List aG×Int×Unit):=inferInstance
instance:DecidableEq (Int×List aG×Int×Unit):=inferInstance
instance:DecidableEq (List aF×Int×List aG×Int×Unit):=inferInstance
instance:DecidableEq (List bY×List aF×Int×List aG×Int×Unit):=inferInstance
instance aG9:DecidableEq nS:=(inferInstance:DecidableEq (Int×List bY×List aF×Int×List aG×Int×Unit))
instance:DecidableEq (List nS):=inferInstance
def nodeAt(q:List aA)(i:Nat):aA:=q.getD i (0,0,0,[],0,0,[],())
def kU(n:aA):Bool:=n.1==6||n.1==7
def tK(n:aA):Bool:=n.1==8||n.1==9
def fH(n:aA)(a:Int):Bool:=
 let f:=decide (0<=n.2.1)&&decide (n.2.1<=a-1)&&decide (0<a)
 let two:=decide (0<=n.2.2.1)&&decide (n.2.2.1<=a-1)
 let e:=n.2.2.2.1==[]&&(n.2.2.2.2.1==0&&(n.2.2.2.2.2.1==0&&n.2.2.2.2.2.2.1==[]))
 let b:=n.2.1==0&&n.2.2.1==0
 let d:=dB n.2.2.2.2.1 n.2.2.2.2.2.1 n.2.2.2.2.2.2.1
 let g:=n.2.2.2.2.1==0&&(n.2.2.2.2.2.1==0&&n.2.2.2.2.2.2.1==[])
 bif n.1==1 then b&&e else bif n.1==2 then b&&g&&dP n.2.2.2.1 else
 bif n.1==3 then b&&dP n.2.2.2.1&&d&&!(n.2.2.2.2.1==0)else bif n.1==4 then b&&dP n.2.2.2.1&&d&&n.2.2.2.2.1==1 else
 bif n.1==5 then f&&n.2.2.1==0&&e else bif n.1==6||n.1==7 then f&&two&&e else
 bif n.1==8||n.1==9 then b&&g&&bK n.2.2.2.1 else false
def refsOf(a:Int)(n:aA):Nat:=(bif (kU n||n.1==5)&&n.2.1==a then 1 else 0)+(bif kU n&&n.2.2.1==a then 1 else 0)
def iY(q:List aA)(a:Int):Nat:=(q.map (refsOf a)).sum
def mQ(q:List aA)(i:Nat):Bool:=fH (nodeAt q i) i&&!(decide ((i:Int)<(q.length:Int)-1)&&!(iY q i==1))
def ax(q:List aA):Bool:=iF q.length (mQ q)&&(decide (1<=(q.length:Int))&&decide ((q.length:Int)<=9))
def dK(d:List aG)(i:Nat):aG:=d.getD i ([],[],())
def lC(d:List aG)(i:Nat):Bool:=bK (dK d i).1&&ax (dK d i).2.1&&!(decide (0<i)&&!Op.bytesLess (dK d (i-1)).1 (dK d i).1)
def gG(d:List aG):Bool:=iF d.length (lC d)&&decide ((d.length:Int)<=5)
def lS(q:List aA)(i:Nat)(out:List (Bool×Unit)):List (Bool×Unit):=
 let n:=nodeAt q i
 bif n.1==5 then out.set n.2.1.toNat (true,())else bif kU n then(out.set n.2.1.toNat ((out.getD i (false,())).1,())).set n.2.2.1.toNat ((out.getD i (false,())).1,())else out
def jX(q:List aA):Nat->List (Bool×Unit)->List (Bool×Unit)
 |0,out=>out
 |n+1,out=>jX q n (lS q n out)
def negated(q:List aA):List (Bool×Unit):=bif ax q then jX q q.length (List.replicate q.length (false,()))else[]
def fA(q:List aA)(neg:Bool):List Bytes:=(List.range (negated q).length).filterMap λi=>bif tK (nodeAt q i)&&((negated q).getD i (false,())).1==neg then some (nodeAt q i).2.2.2.1 else none
def JH:Int->List aG->Bytes->Int
 |_,[],_=>-1
 |k,x::r,s=>bif x.1==s then k else JH (k+1) r s
def aP(d:List aG)(s:Bytes):Int:=JH 0 d s
def eu(d:List aG):abm:=
 (List.range d.length).flatMap λi=>
   ((fA (dK d i).2.1 false).filterMap λs=>bif decide (0<=aP d s)then some (i,(aP d s).toNat,0)else none)++
   ((fA (dK d i).2.1 true).filterMap λs=>bif decide (0<=aP d s)then some (i,(aP d s).toNat,1)else none)
open Classical in
noncomputable def aH (d:List aG):Bool:=gG d&&decide (∃L,jC (eu d) L)
def Ea(x:bM):dV:=(x.1,x.2.1,x.2.2.1,())
noncomputable def dS (x:bM):Bool:=bg (Ea x)&&aH x.2.2.2.1
def fM(v:List nS)(i:Nat):nS:=v.getD i (0,[],[],0,[],0,())
def uw(x:nS):bM:=(x.2.1,x.2.2.1,x.2.2.2.1,x.2.2.2.2.1,())
noncomputable def oJ (v:List nS) (i:Nat):Bool:=
 (decide (1<=(fM v i).1)&&decide ((fM v i).1<=1000000000))&&(!(decide (0<i)&&decide ((fM v (i-1)).1>=(fM v i).1))&&(dS (uw (fM v i))&&(decide (0<=(fM v i).2.2.2.2.2.1)&&decide ((fM v i).2.2.2.2.2.1<=99))))
noncomputable def pF (v:List nS):Bool:=iF v.length (oJ v)&&decide ((v.length:Int)<=6)
def avV:Int->List nS->Int->Int
 |_,[],_=>-1
 |k,x::r,n=>bif x.1==n then k else avV (k+1) r n
def PY(v:List nS)(n:Int):Int:=avV 0 v n
def jS(r:LS)(l:List Bytes):Prop:=r.length<=1000/\∀s,(s,())∈r↔s∈l
def Ac(d:List aG)(aB:List (Int×Unit))(more:Int):LS->Int
 |[]=>0
 |x::r=>max (bif decide (0<=aP d x.1)then(aB.getD (aP d x.1).toNat (0,())).1+more else 0) (Ac d aB more r)
def LU(l:LS)(s:Bytes):LS:=
 let n:=(l.takeWhile λx=>Op.bytesLess x.1 s).length
 bif decide (n<l.length)&&(l.getD n ([],())).1==s then l else l.take n++[(s,())]++l.drop n
def raised(d:List aG)(aB r:List (Int×Unit)):Prop:=
 r.length=d.length/\(∀i,i<d.length->(aB.getD i (0,())).1<=(r.getD i (0,())).1)/\(∀B:Int,(∀i,i<d.length->(aB.getD i (0,())).1<=B)->∀i,i<d.length->(r.getD i (0,())).1<=B+5000)/\
 ((∀i,i<d.length->(r.getD i (0,())).1=(aB.getD i (0,())).1)->jC (eu d) λi=>(aB.getD i (0,())).1.toNat)/\
 ∀M,jC (eu d) M->(∀i,i<d.length->(aB.getD i (0,())).1<=M i)->∀i,i<d.length->(r.getD i (0,())).1<=M i
def xU(d:List aG):Prop:=d.length<=1000/\∀x∈d,x.2.1.length<=1000
def fJ(x:bM):Prop:=qp (Ea x)/\xU x.2.2.2.1
def anj(x:nS):Int:=x.2.2.2.2.2.1
def aAc(x:nS)(p:Int):nS:=(x.1,x.2.1,x.2.2.1,x.2.2.2.1,x.2.2.2.2.1,p,())
def aC1(v:List nS)(n more:Int):Bool:=
 decide (0<=PY v n)&&(decide (0<=anj (fM v (PY v n).toNat)+more)&&decide (anj (fM v (PY v n).toNat)+more<=99))
noncomputable def ank (v:List nS) (n more:Int):List nS×Bool:=
 bif pF v&&aC1 v n more then(v.set (PY v n).toNat (aAc (fM v (PY v n).toNat) (anj (fM v (PY v n).toNat)+more)),true)else(v,false)
def unpinned(x:nS):Bool:=anj x==0
def aAd(v:List nS)(n:Nat):List nS:=(v.take n).filter (λx=>!unpinned x)
noncomputable def collect (v:List nS):List nS:=bif pF v then aAd v (v.length-1)++v.drop (v.length-1)else v
theorem afb(s:Bytes):∀(d:List aG)(k:Int),(JH k d s=-1/\∀x∈d,x.1≠s)\/∃n,n<d.length/\JH k d s=k+n/\(dK d n).1=s/\∀i,i<n->(dK d i).1≠s
 |[],k=>.inl ⟨rfl,λx Z=>O6⟩
 |x::r,k=>by
  by_cases h:x.1=s
  .right;refine⟨0,vk,?_,h,λi D=>lu⟩;rw[JH,aHE.2 h];simp
  .rcases afb s r (k+1)with⟨h1,h2⟩|⟨n,h1,h2,h3,h4⟩
   .left;refine⟨by rw[JH,aHt.2 h];exact h1,λy B=>?_⟩;rcases aHH.1 B with rfl|B
    .exact h
    .exact h2 y B
   .right;refine⟨n+1,KW,by rw[JH,aHt.2 h];show JH (k+1) r s=_;omega,h3,λi D=>?_⟩;cases i with
    |zero=>exact h
    |succ i=>exact h4 i lu
theorem JE(d:List aG)(s:Bytes):(aP d s=-1/\∀x∈d,x.1≠s)\/∃n,n<d.length/\aP d s=n/\(dK d n).1=s/\∀i,i<n->(dK d i).1≠s:=by
 rcases afb s d 0 with h|⟨n,E,O,U⟩
 .exact .inl h
 .exact .inr ⟨n,E,by show JH 0 d s=_;omega,U⟩
variable {d:List aG}
theorem Qi{s:Bytes}(h:0<=aP d s):aP d s<d.length:=by rcases JE d s with⟨E,_⟩|⟨n,E,O,_⟩<;>omega
variable {i:Nat}
theorem Ir{j m:Nat}:(i,j,m)∈eu d↔i<d.length/\∃s,((m=0/\s∈fA (dK d i).2.1 false)\/(m=1/\s∈fA (dK d i).2.1 true))/\0<=aP d s/\j=(aP d s).toNat:=by
 grind [eu]
theorem mO(d:List aG):apr (eu d) d.length:=by
 rintro⟨i,j,m⟩ he;obtain⟨E,s,O,U,a⟩:=Ir.1 he;have:=Qi U
 grind
def lv(l:List (Int×Unit))(i:Nat):Int:=(l.getD i (0,())).1
variable {l:List (Int×Unit)}
theorem as1(D:i<l.length)(x:Int)(k:Nat):lv (l.set i (x,())) k=if k=i then x else lv l k:=by
 grind [lv]
theorem aeA(D:i<l.length):(lv l i,())∈l:=by
 grind [lv]
theorem asZ{p:Int->Prop}(h:∀i,i<l.length->p (lv l i)):∀x∈l,p x.1:=by
 grind [List.getElem_of_mem,lv]
theorem aye{a b:List (Int×Unit)}(Q:a.length=b.length)(h:∀i,i<a.length->lv a i=lv b i):a=b:=by
 grind [List.ext_getElem,lv]
structure O5(d:List aG)(aB cur:List (Int×Unit))(g:Int)(P:Nat×Nat×Nat->Prop):Prop where
 len:cur.length=d.length
 up:∀i,i<d.length->lv aB i<=lv cur i
 grow:∀B,(∀i,i<d.length->lv aB i<=B)->∀i,i<d.length->lv cur i<=B+g
 fix:(∀i,i<d.length->lv cur i=lv aB i)->∀e,P e->lv aB e.2.1+e.2.2<=lv aB e.1
 below:∀M,jC (eu d) M->(∀i,i<d.length->lv aB i<=M i)->∀i,i<d.length->lv cur i<=M i
variable {aB:List (Int×Unit)}
theorem O5.start(h:aB.length=d.length):O5 d aB aB 0 λ_=>False:=
 ⟨h,λ_ _=>aIe _,λB a i D=>ny,λ_ e g=>g.elim,λ_ _ h=>h⟩
variable {cur:List (Int×Unit)}{g:Int}{P:Nat×Nat×Nat->Prop}
theorem O5.weaken{b:Int}{a:Nat×Nat×Nat->Prop}(h:O5 d aB cur g P)(m:g<=b)(j:∀e,a e->P e):O5 d aB cur b a:=
 ⟨h.len,h.up,λB f i D=>by have:=h.grow B f i D;omega,λZ e k=>h.fix Z e (j e k),h.below⟩
theorem O5.still(h:O5 d aB cur g P){j m:Nat}(a:(i,j,m)∈eu d)(b:lv cur j+m<=lv cur i):O5 d aB cur g λe=>P e\/e=(i,j,m):=by
 obtain⟨E,O,_⟩:=mO d _ a;refine⟨h.len,h.up,h.grow,λZ e C=>?_,h.below⟩;rcases C with C|rfl
 .exact h.fix Z e C
 grind
theorem O5.set(h:O5 d aB cur g P){j m:Nat}(o:(i,j,m)∈eu d)(q:lv cur i<lv cur j+m):O5 d aB (cur.set i (lv cur j+m,())) (g+m) λe=>P e\/e=(i,j,m):=by
 obtain⟨E,O,_⟩:=mO d _ o;have Q:=h.len;have X:=λk=>as1 (l:=cur) (i:=i) lu (lv cur j+m) k;refine⟨KW,λk u=>?_,λB n k u=>?_,λZ e C=>?_,λM f J k u=>?_⟩
 .have a:=h.up k u;grind
 .rw[X];have a:=h.grow B n k u;have b:=h.grow B n j O;split<;>omega
 .have:=Z i E;rw[X,if_pos rfl]at this;have:=h.up i E;omega
 .rw[X];split
  .next e=>
   have a:=h.below M f J j O;have b:=f _ o
   grind
  .exact h.below M f J k u
theorem O5.raised(h:O5 d aB cur g P)(k:g<=5000)(j:∀e∈eu d,P e)(S:∀i,i<d.length->0<=lv aB i):raised d aB cur:=by
 refine⟨h.len,h.up,λB f i D=>by have:=h.grow B f i D;grind [lv],λZ e b=>?_,h.below⟩;have a:=h.fix Z e (j e b);obtain⟨E,O,_⟩:=mO d _ b
 grind [lv]
theorem anl(d:List aG)(aB:List (Int×Unit))(Q:aB.length=d.length):∀(E:abm),(∀e∈E,e∈eu d)->∃cur:List (Int×Unit),cur.length=d.length/\(∀i,i<d.length->lv aB i<=lv cur i/\(lv cur i=lv aB i\/∃e∈E,e.1=i/\lv cur i=lv aB e.2.1+e.2.2))/\∀e∈E,lv aB e.2.1+e.2.2<=lv cur e.1
 |[],_=>⟨aB,Q,λi D=>⟨aIe _,.inl rfl⟩,λe a=>by cases a⟩
 |e::E,hE=>by
  obtain⟨cur,j,O,U⟩:=anl d aB Q E λx Z=>hE x (aHC _ Z);obtain⟨b,f,_⟩:=mO d e (hE e aHJ);by_cases h:lv cur e.1<lv aB e.2.1+e.2.2
  .have hs:=λk=>as1 (l:=cur) (i:=e.1) lu (lv aB e.2.1+e.2.2) k;refine⟨cur.set e.1 (lv aB e.2.1+e.2.2,()),KW,λi D=>?_,λx Z=>?_⟩
   · grind
   grind
  grind
theorem auZ(d:List aG)(aB:List (Int×Unit))(Q:aB.length=d.length)(S:∀i,i<d.length->0<=lv aB i):∃cur,raised d aB cur:=by
 obtain⟨cur,E,O,U⟩:=anl d aB Q (eu d) λ_ h=>h;refine⟨cur,E,λi D=>(O i D).1,λB j i D=>?_,λZ e f=>?_,λM k J i D=>?_⟩
 .show lv cur i<=_;rcases(O i D).2 with h|⟨e,f,rfl,h⟩
  .rw[h];have:=j i D;show(aB.getD i (0,())).1<=_;omega
  .obtain⟨_,g2,g3⟩:=mO d e f
   grind [lv]
 · grind [lv]
 .show lv cur i<=_;rcases(O i D).2 with h|⟨e,f,rfl,h⟩
  .rw[h];exact J i D
  .obtain⟨_,g2,_⟩:=mO d e f;have a:lv aB e.2.1<=M e.2.1:=J _ g2;have b:=k e f;omega
theorem MQ{d:List aG}{aB:List (Int×Unit)}{more:Int}:∀(r:LS)(B:Int),Ac d aB more r<=B↔0<=B/\∀x∈r,0<=aP d x.1->lv aB (aP d x.1).toNat+more<=B
 |[],B=>by simp[Ac]
 |x::r,B=>by
  have j:=MQ (d:=d) (aB:=aB) (more:=more) r B;rw[Ac];have e:∀a b:Int,max a b<=B↔a<=B/\b<=B:=λa b=>lu;rw[e,j];simp only[aHH,forall_eq_or_imp];by_cases h:0<=aP d x.1
  .rw[aHF h];constructor
   .exactλ⟨a,b,c⟩=>⟨b,λ_=>a,c⟩
   .exactλ⟨a,b,c⟩=>⟨b h,a,c⟩
  .rw[aHD h];constructor
   .exactλ⟨a,b,c⟩=>⟨b,λf=>(h f).elim,c⟩
   .exactλ⟨a,b,c⟩=>⟨a,a,c⟩
def AQ(l:List (Int×Unit)):Nat->Int
 |0=>0
 |n+1=>AQ l n+lv l n
theorem aiM{a b:List (Int×Unit)}:∀n,(∀i,i<n->lv a i<=lv b i)->AQ a n<=AQ b n
 |0,_=>aIe _
 |n+1,h=>Int.add_le_add (aiM n λi D=>h i lu) (h n lu)
theorem aiL{a b:List (Int×Unit)}:∀n,(∀i,i<n->lv a i<=lv b i)->(∃i,i<n/\lv a i<lv b i)->AQ a n<AQ b n
 |0,_,⟨i,hi,_⟩=>lu
 |n+1,h,⟨i,hi,hl⟩=>by
  have E:=aiM n λj f=>h j (aJj f);show AQ a n+lv a n<AQ b n+lv b n;by_cases e:i=n
  .subst e;omega
  .have:=aiL n (λj f=>h j (aJj f)) ⟨i,lu,hl⟩
   grind
theorem Xn{a:List (Int×Unit)}{b:Nat}:∀n:Nat,(∀i,i<n->lv a i<=b)->AQ a n<=(n*b:Nat)
 |0,_=>by simp[AQ]
 |n+1,h=>by
  have E:=Xn n λi D=>h i (aJj D)
  grind [AQ]
theorem adW{a:List (Int×Unit)}:∀n:Nat,(∀i,i<n->0<=lv a i)->0<=AQ a n
 |0,_=>aIe _
 |n+1,h=>Int.add_nonneg (adW n λi D=>h i lu) (h n lu)
theorem lq:aH d=true↔gG d=true/\∃L,jC (eu d) L:=by unfold aH;simp
theorem Z7(h:gG d=true):d.length<=5:=by
 grind [gG]
end Sp
namespace Sp
abbrev Ext(a α:Type):=a->α->Bool
structure Sys(ι α:Type) where
 T:ι->Ext ι α->α->Prop
 pos:ι->ι->Prop
 neg:ι->ι->Prop
 mono:∀i X Y,(∀j,pos i j->∀x,X j x=true->Y j x=true)->(∀j,neg i j->∀x,X j x=Y j x)->∀x,T i X x->T i Y x
def arM{a α:Type}(S:Sys a α)(N:a->Prop)(aB:a->Nat):Prop:=∀i j,N i->N j->(S.pos i j->aB j<=aB i)/\(S.neg i j->aB j<aB i)
structure Eval{ι α:Type}(S:Sys ι α)(N:ι->Prop)(aB:ι->Nat)(X:Ext ι α):Prop where
 fix:∀i,N i->∀x,X i x=true↔S.T i X x
 least:∀k(Y:Ext ι α),(∀i,¬(N i/\aB i=k)->∀x,Y i x=X i x)->(∀i,N i->aB i=k->∀x,S.T i Y x->Y i x=true)->∀i,N i->aB i=k->∀x,X i x=true->Y i x=true
open Classical in
theorem avW{a α:Type}{P:a->Prop}{A B:Ext a α}:∃Y:Ext a α,(∀i x,Y i x=true↔A i x=true/\(P i->B i x=true))/\∀i,¬P i->∀x,Y i x=A i x:=by
 have h:∀i x,decide (A i x=true/\(P i->B i x=true))=true↔A i x=true/\(P i->B i x=true):=λi x=>decide_eq_true_iff;refine⟨λi x=>decide (A i x=true/\(P i->B i x=true)),h,λi D x=>?_⟩
 simp_all
theorem au1{J α:Type}{o s:Sys J α}{K M U:J->Prop}{q F:J->Nat}{d e:Ext J α}
 (E:Eval o K q d) (O:Eval s M F e) (w:arM o K q) (T:arM s M F) (r:∀i,U i->K i) (I:∀i,U i->M i)
 (S:∀i,U i->∀X x,o.T i X x↔s.T i X x) (C:∀i,U i->∀j,s.pos i j->o.pos i j) (H:∀i,U i->∀j,s.neg i j->o.neg i j)
 (L:∀i,U i->∀j,o.pos i j\/o.neg i j->U j\/∀x,d j x=e j x):∀i,U i->∀x,d i x=e i x:=by
 have W:∀k,∀i,U i->q i=k->∀x,d i x=e i x:=by
  intro k
  induction k using Nat.strongRecOn with
  |_ k ih=>
   have g:∀j,U j->q j<k->∀x,d j x=e j x:=λj a Q=>ih (q j) Q j a rfl;have N:∀i,U i->q i=k->∀x,d i x=true->e i x=true:=by
    obtain⟨Y,u,l⟩:=avW (P:=λi=>U i/\q i=k) (A:=d) (B:=e);have:=E.least k Y (λi D=>l i λh=>D ⟨r i h.1,h.2⟩) λi t Q x Z=>by
     have f:∀j,o.neg i j->∀x,Y j x=d j x:=λj a=>l j λh=>by have:=(w i j t (r j h.1)).2 a;omega
     refine(u i x).2 ⟨(E.fix i t x).2 (o.mono i Y d (λj _ y z=>((u j y).1 z).1) f x Z),λb=>?_⟩;refine(O.fix i (I i b.1) x).2 ((S i b.1 e x).1 (o.mono i Y e (λj a y z=>?_) (λj a y=>?_) x Z))
     .rcases L i b.1 j (.inl a)with h|h
      .have hl2:=(w i j t (r j h)).1 a
       grind
      grind
     .rw[f j a];rcases L i b.1 j (.inr a)with h|h
      .exact g j h (by have:=(w i j t (r j h)).2 a;omega) y
      .exact h y
    grind
   have R:∀m,∀i,U i->q i=k->F i=m->∀x,e i x=true->d i x=true:=by
    intro m
    induction m using Nat.strongRecOn with
    |_ m ih2=>
     obtain⟨Y,u,l⟩:=avW (P:=λi=>U i/\q i=k/\F i=m) (A:=e) (B:=d);have:=O.least m Y (λi D=>l i λh=>D ⟨I i h.1,h.2.2⟩) λi t Q x Z=>by
      have f:∀j,s.neg i j->∀x,Y j x=e j x:=λj a=>l j λh=>by have:=(T i j t (I j h.1)).2 a;omega
      refine(u i x).2 ⟨(O.fix i t x).2 (s.mono i Y e (λj _ y z=>((u j y).1 z).1) f x Z),λb=>?_⟩;refine(E.fix i (r i b.1) x).2 ((S i b.1 d x).2 (s.mono i Y d (λj a y z=>?_) (λj a y=>?_) x Z))
      .have n:=C i b.1 j a;rcases L i b.1 j (.inl n)with h|h
       .have g1:=(w i j (r i b.1) (r j h)).1 n;have g2:=(T i j t (I j h)).1 a
        grind
       grind
      .rw[f j a];have n:=H i b.1 j a;rcases L i b.1 j (.inr n)with h|h
       .exact(g j h (by have:=(w i j (r i b.1) (r j h)).2 n;omega) y).symm
       grind
     grind
   exactλi b Q x=>aHX.2 ⟨N i b Q x,R (F i) i b Q rfl x⟩
 grind
end Sp
namespace Sp
open Go
abbrev dO:=Bytes×List (Int×Unit)×Unit
abbrev BX:=Ext Bytes Int
def iD:List dL->Bytes->Iz
 |[],_=>(0,0,[],())
 |a::r,s=>bif a.1==s then(a.2.1,a.2.2.1,a.2.2.2.1,())else iD r s
def gY:List dO->Bytes->List (Int×Unit)
 |[],_=>[]
 |x::r,s=>bif x.1==s then x.2.1 else gY r s
def bQ(l:List (Int×Unit))(x:Int):Bool:=l.any λy=>y.1==x
def bH(r:List dO):BX:=λs x=>bQ (gY r s) x
theorem MX{l:List (Int×Unit)}{x:Int}:bQ l x=true↔(x,())∈l:=by
 grind [bQ]
def mP(n:aA)(f:aF)(X:BX):Bool:=
 bif n.1==2 then !((iD f.2.2.2.2.1 n.2.2.2.1).1==0)else
 bif n.1==3 then decide (iD f.2.2.2.2.1 n.2.2.2.1=(n.2.2.2.2.1,n.2.2.2.2.2.1,n.2.2.2.2.2.2.1,()))else
 bif n.1==4 then(iD f.2.2.2.2.1 n.2.2.2.1).1==1&&decide ((iD f.2.2.2.2.1 n.2.2.2.1).2.1<n.2.2.2.2.2.1)else
 bif n.1==8 then X n.2.2.2.1 f.1 else
 bif n.1==9 then !(f.2.2.2.1==0)&&X n.2.2.2.1 f.2.2.2.1 else true
def val(q:List aA)(f:aF)(X:BX)(a:Nat):Bool:=
 if(nodeAt q a).1=5 then(if h:(nodeAt q a).2.1.toNat<a then !val q f X (nodeAt q a).2.1.toNat else true)
 else if(nodeAt q a).1=6 then(if h:(nodeAt q a).2.1.toNat<a/\(nodeAt q a).2.2.1.toNat<a then val q f X (nodeAt q a).2.1.toNat&&val q f X (nodeAt q a).2.2.1.toNat else true)
 else if(nodeAt q a).1=7 then(if h:(nodeAt q a).2.1.toNat<a/\(nodeAt q a).2.2.1.toNat<a then val q f X (nodeAt q a).2.1.toNat||val q f X (nodeAt q a).2.2.1.toNat else true)
 else mP (nodeAt q a) f X
termination_by a
decreasing_by all_goals omega
theorem YW(q:List aA)(f:aF)(X:BX)(a:Nat):val q f X a=
 if(nodeAt q a).1=5 then(if h:(nodeAt q a).2.1.toNat<a then !val q f X (nodeAt q a).2.1.toNat else true)
 else if(nodeAt q a).1=6 then(if h:(nodeAt q a).2.1.toNat<a/\(nodeAt q a).2.2.1.toNat<a then val q f X (nodeAt q a).2.1.toNat&&val q f X (nodeAt q a).2.2.1.toNat else true)
 else if(nodeAt q a).1=7 then(if h:(nodeAt q a).2.1.toNat<a/\(nodeAt q a).2.2.1.toNat<a then val q f X (nodeAt q a).2.1.toNat||val q f X (nodeAt q a).2.2.1.toNat else true)
 else mP (nodeAt q a) f X:=by rw[val]
def oQ(q:List aA)(f:aF)(X:BX):Bool:=ax q&&val q f X (q.length-1)
def sel(fs:List aF)(q:List aA)(X:BX):List (Int×Unit):=(fs.filter λf=>oQ q f X).map λf=>(f.1,())
def zi(q:List aA)(i:Nat):Bool:=((negated q).getD i (false,())).1
variable {q:List aA}{i:Nat}
theorem kH(h:ax q=true)(D:i<q.length):fH (nodeAt q i) i=true/\((i:Int)<(q.length:Int)-1->iY q i=1):=by
 unfold ax at h;have E:mQ q i=true:=by
  grind [iF]
 grind [mQ]
theorem iH(h:ax q=true):1<=q.length/\q.length<=9:=by
 grind [ax]
variable {n:aA}
theorem ahK{a:Nat}(h:fH n a=true)(H:n.1=5\/n.1=6\/n.1=7):0<=n.2.1/\n.2.1.toNat<a:=by
 grind [fH]
theorem SX{a:Nat}(h:fH n a=true)(H:n.1=6\/n.1=7):0<=n.2.2.1/\n.2.2.1.toNat<a:=by
 grind [fH]
theorem avY{α:Type}(g:α->Nat):∀(l:List α),(l.map g).sum=1->∀i j,i<l.length->j<l.length->i≠j->∀d,1<=g (l.getD i d)->g (l.getD j d)=0
 |[],_,i,_,hi,_,_,_,_=>by simp at hi
 |x::r,h,i,j,hi,hj,hne,d,hg=>by
  rw[aHT,aIu]at h;have a:∀(l:List α) k,k<l.length->g (l.getD k d)<=(l.map g).sum:=by
   intro l
   induction l with
   |nil=>grind
   |cons y t ih=>
    grind
  cases i with
  |zero=>
   cases j with
   |zero=>exact(hne rfl).elim
   |succ j=>
    have E:1<=g x:=hg;have:=a r j (by simpa using hj);show g (r.getD j d)=0;omega
  |succ i=>
   have E:1<=g (r.getD i d):=hg;have O:=a r i ah2;cases j with
   |zero=>show g x=0;omega
   |succ j=>exact avY g r lu i j ah2 (by simpa using hj) lu d hg
theorem OI{q:List aA}{p:Nat}:∀(n:Nat)(a:List (Bool×Unit)),(∀i,i<n->((nodeAt q i).1=5\/kU (nodeAt q i)=true->(nodeAt q i).2.1.toNat≠p)/\(kU (nodeAt q i)=true->(nodeAt q i).2.2.1.toNat≠p))->
 (jX q n a).getD p (false,())=a.getD p (false,())
 |0,_,_=>rfl
 |n+1,a,h=>by
  have d:=OI n (lS q n a) λi D=>h i lu;show(jX q n (lS q n a)).getD p (false,())=_;rw[d];have X:∀(l:List (Bool×Unit)) k x,k≠p->(l.set k x).getD p (false,())=l.getD p (false,()):=λl k x u=>by rw[aHI,aI5 u,← aHI]
  obtain⟨E,O⟩:=h n lu;unfold lS;dsimp only;cases b:((nodeAt q n).1==5)with
  |true=>exact X _ _ _ (E (.inl (aHE.1 b)))
  |false=>
   cases T:kU (nodeAt q n)with
   |true=>exact(X _ _ _ (O T)).trans (X _ _ _ (E (.inr T)))
   |false=>rfl
theorem F8(q:List aA):∀(n:Nat)(a:List (Bool×Unit)),(jX q n a).length=a.length
 |0,_=>rfl
 |n+1,a=>by show(jX q n (lS q n a)).length=_;rw[F8 q n];unfold lS;dsimp only;cases (nodeAt q n).1==5<;>cases kU (nodeAt q n)<;>simp
theorem lK:kU n=true↔n.1=6\/n.1=7:=by
 grind [kU]
theorem abW(q:List aA):∀(k m:Nat)(a:List (Bool×Unit)),∃b:List (Bool×Unit),b.length=a.length/\jX q (m+k) a=jX q m b
 |0,_,a=>⟨a,rfl,rfl⟩
 |k+1,m,a=>by
  obtain⟨b,E,O⟩:=abW q k m (lS q (m+k) a);have Q:(lS q (m+k) a).length=a.length:=by
   grind [lS]
  exact⟨b,E.trans Q,O⟩
theorem nU(h:ax q=true)(D:i<q.length):((nodeAt q i).1=5\/kU (nodeAt q i)=true->0<=(nodeAt q i).2.1/\(nodeAt q i).2.1.toNat<i)/\(kU (nodeAt q i)=true->0<=(nodeAt q i).2.2.1/\(nodeAt q i).2.2.1.toNat<i):=by
 have E:=(kH h D).1;refine⟨λO=>?_,λO=>SX E (lK.1 O)⟩;rcases O with O|O
 .exact ahK E (.inl O)
 .exact ahK E (.inr (lK.1 O))
variable {p:Nat}
theorem axm(h:ax q=true){j:Nat}(D:i<q.length)(b:j<q.length)(a:i≠j)(C:p<i)(W:1<=refsOf p (nodeAt q i)):refsOf p (nodeAt q j)=0:=
 avY (refsOf p) q ((kH h lu).2 lu) i j D b a _ W
theorem au2(h:refsOf p n=0)(S:((n.1=5\/kU n=true)->0<=n.2.1)/\(kU n=true->0<=n.2.2.1)):(n.1=5\/kU n=true->n.2.1.toNat≠p)/\(kU n=true->n.2.2.1.toNat≠p):=by
 grind [refsOf]
theorem ahL(h:n.1=5\/kU n=true)(S:0<=n.2.1)(e:n.2.1.toNat=p):1<=refsOf p n:=by
 grind [refsOf]
theorem atU(h:kU n=true)(S:0<=n.2.2.1)(e:n.2.2.1.toNat=p):1<=refsOf p n:=by
 grind [refsOf]
theorem aj7{l:List (Bool×Unit)}{k:Nat}{x:Bool×Unit}(u:k<l.length):(l.set k x).getD p (false,())=if k=p then x else l.getD p (false,()):=by
 grind
theorem abn(h:ax q=true)(D:i<q.length):
 ((nodeAt q i).1=5->zi q (nodeAt q i).2.1.toNat=true)/\(kU (nodeAt q i)=true->zi q (nodeAt q i).2.1.toNat=zi q i/\zi q (nodeAt q i).2.2.1.toNat=zi q i):=by
 have H:negated q=jX q q.length (List.replicate q.length (false,())):=by grind [negated]
 obtain⟨d,m,g⟩:=abW q (q.length-(i+1)) (i+1) (List.replicate q.length (false,()));rw[show i+1+(q.length-(i+1))=q.length from lu,← H]at g;have x:d.length=q.length:=by rw[m];simp
 have o:negated q=jX q i (lS q i d):=g;obtain⟨y,z⟩:=nU h D;have f:∀p,p<i->1<=refsOf p (nodeAt q i)->zi q p=((lS q i d).getD p (false,())).1:=λp C W=>by
  unfold zi;rw[o,OI i];intro j w;have l:j<q.length:=lu;obtain⟨t,u⟩:=nU h l
  grind [au2,axm]
 have k:zi q i=(d.getD i (false,())).1:=by
  unfold zi;rw[g,OI (i+1)];intro j w;obtain⟨t,u⟩:=nU h (show j<q.length from lu)
  grind
 refine⟨λM=>?_,λO=>?_⟩
 · grind [ahL,lS]
 .obtain⟨a,b⟩:=y (.inr O);obtain⟨r,s⟩:=z O;have M:((nodeAt q i).1==5)=false:=by rcases lK.1 O with e|e<;>rw[e]<;>rfl
  rw[f _ b (ahL (.inr O) a rfl),f _ s (atU O r rfl),k];unfold lS;dsimp only;rw[M,O];show(((d.set _ ((d.getD i (false,())).1,())).set _ ((d.getD i (false,())).1,())).getD _ (false,())).1=_/\(((d.set _ ((d.getD i (false,())).1,())).set _ ((d.getD i (false,())).1,())).getD _ (false,())).1=_;rw[aj7 ny,aj7 lu,aj7 ny,if_pos rfl,if_pos rfl]
  grind
theorem anm(h:ax q=true):zi q (q.length-1)=false:=by
 have H:negated q=jX q q.length (List.replicate q.length (false,())):=by grind [negated]
 unfold zi;rw[H,OI q.length]
 · grind
 grind [nU]
theorem atV(h:ax q=true)(D:i<q.length)(a:tK (nodeAt q i)=true):(nodeAt q i).2.2.2.1∈fA q (zi q i):=by
 grind [negated,F8,fA,zi]
theorem aAe{f:aF}{X Y:BX}(h:ax q=true)(C:∀s∈fA q false,∀x,X s x=true->Y s x=true)(H:∀s∈fA q true,∀x,X s x=Y s x):
 ∀a,a<q.length->(zi q a=false->val q f X a=true->val q f Y a=true)/\(zi q a=true->val q f X a=val q f Y a):=by
 intro a
 induction a using Nat.strongRecOn with
 |_ a ih=>
  intro b;obtain⟨d,e⟩:=abn h b;rw[YW q f X a,YW q f Y a]
  grind [lK,atV,tK,mP]
theorem afc{f:aF}{X Y:BX}(C:∀s∈fA q false,∀x,X s x=true->Y s x=true)(H:∀s∈fA q true,∀x,X s x=Y s x)(l:oQ q f X=true):oQ q f Y=true:=by unfold oQ at l ⊢;rw[aHy]at l ⊢;have Q:=iH l.1;exact⟨l.1,(aAe l.1 C H _ lu).1 (anm l.1) l.2⟩
theorem aps{fs:List aF}{X:BX}{x:Int}:(x,())∈sel fs q X↔∃f∈fs,f.1=x/\oQ q f X=true:=by
 unfold sel;constructor
 · grind
 .rintro⟨f,hf,rfl,hm⟩
  grind
theorem ayX{fs:List aF}{X Y:BX}(h:∀b,∀s∈fA q b,∀x,X s x=Y s x):sel fs q X=sel fs q Y:=by
 unfold sel;congr 1;apply List.filter_congr;intro f _;rw[aHX]
 grind [afc]
def WS(fs:List aF)(d:List aG):Sys Bytes Int where
 T:=λs X x=>∃i,i<d.length/\(dK d i).1=s/\(x,())∈sel fs (dK d i).2.1 X
 pos:=λs t=>∃i,i<d.length/\(dK d i).1=s/\t∈fA (dK d i).2.1 false
 neg:=λs t=>∃i,i<d.length/\(dK d i).1=s/\t∈fA (dK d i).2.1 true
 mono:=λs X Y C H x⟨i,D,e,Z⟩=>⟨i,D,e,by obtain⟨f,b,a,l⟩:=aps.1 Z;exact aps.2 ⟨f,b,a,afc (λt r=>C t ⟨i,D,e,r⟩) (λt r=>H t ⟨i,D,e,r⟩) l⟩⟩
end Sp
namespace Go.Fw
open Go
variable {n:Nat}{left:Int}
theorem aeS{m:Nat}(h:0<=Sp.aT n left):Sp.aT m (Sp.aT n left)=Sp.aT (n+m) left:=by
 grind [Sp.aT]
theorem aa0{m:Nat}(h:Sp.aT n left<0):Sp.aT (n+m) left=-1:=by
 grind [Sp.aT]
theorem aqo(h:0<=left):Sp.aT n left<=left:=by grind [Sp.aT]
theorem aeR(h:¬left-(n:Int)<0):Sp.aT n left=left-n:=by grind [Sp.aT]
def JZ{α:Type}(f:α->Nat):List α->Nat
 |[]=>0
 |x::r=>f x+JZ f r
theorem jO{α:Type}(f:α->Nat):∀a:List α,Sp.jR f a=a.length+JZ f a
 |[]=>rfl
 |x::r=>by simp only[Sp.jR,JZ,jO f r,aHx];omega
theorem aqw{α:Type}(f:α->Nat)(d:α):∀(a:List α)(n:Nat),n<a.length->JZ f (a.take (n+1))=JZ f (a.take n)+f (a.getD n d)
 |[],n,h=>XD
 |x::r,0,_=>by simp[JZ]
 |x::r,n+1,h=>by have:=aqw f d r n y7;simp only[aJa,JZ,aJS]at this ⊢;omega
theorem avZ{α:Type}(f:α->Nat):∀(a:List α)(n:Nat),JZ f (a.take n)<=JZ f a
 |[],n=>vk
 |x::r,0=>by simp[JZ]
 |x::r,n+1=>by simp only[aJa,JZ];have:=avZ f r n;omega
theorem qL{α:Type}(f:α->Nat):∀(a:List α)(x:α),x∈a->f x<=Sp.jR f a
 |y::r,x,h=>by
  rw[Sp.jR];rcases aHH.1 h with rfl|h
  .omega
  .have:=qL f r x h;omega
 |[],x,h=>zH
variable {α β:Type}
theorem Oy(f:α->Nat)(d:α)(a:List α)(left:Int)(t:β)(Y:a.length<=9223372036854775807)(S:0<=left)(E:left<=1048576){K:Int×Unit->Prop}(e:K (Sp.aT (Sp.jR f a) left,())):
 bif decide (IntKind.i64.wrap (left-(a.length:Int))<(0:Int))then K ((-1:Int),())
 else∃(I:(Int×Int×Unit)×Unit->Prop),∃(P:(Int×Int×Unit)×Unit->Nat),I ((IntKind.i64.wrap (left-(a.length:Int)),(0:Int),()),())/\∀(y:(Int×Int×Unit)×Unit),I y->
  bif decide (y.fst.snd.fst<(a.length:Int))then
   ((0:Int)<=y.fst.snd.fst/\y.fst.snd.fst<(a.length:Int))/\((0:Int)<=y.fst.fst/\y.fst.fst<=(1048576:Int))/\
     (bif decide (Sp.aT (f (a.getD (Int.toNat y.fst.snd.fst) d)) y.fst.fst<(0:Int))then K ((-1:Int),())
     else t=t/\I ((Sp.aT (f (a.getD (Int.toNat y.fst.snd.fst) d)) y.fst.fst,IntKind.i64.wrap (y.fst.snd.fst+(1:Int)),()),())/\
      P ((Sp.aT (f (a.getD (Int.toNat y.fst.snd.fst) d)) y.fst.fst,IntKind.i64.wrap (y.fst.snd.fst+(1:Int)),()),())<P y)
  else K (y.fst.fst,()):=by
 rw[fU _ lu];refine af (λh=>?_) λh=>?_<;>simp only[aHM,aHW]at h
 · grind [jO,Sp.aT]
 .refine⟨λy=>∃n:Nat,y.1.2.1=n/\n<=a.length/\0<=y.1.1/\y.1.1=Sp.aT (a.length+JZ f (a.take n)) left,λy=>((a.length:Int)-y.1.2.1).toNat,⟨0,rfl,lu,ny,?_⟩,?_⟩
  · grind [JZ,aeR]
  rintro⟨⟨l,_,⟨⟩⟩,⟨⟩⟩ ⟨n,rfl,hn,hl,hJ⟩;dsimp only at hl hJ ⊢;have b:l<=left:=by simp_all [aqo]
  refine af (λh=>?_) λh=>?_<;>simp only[aHM,aHW]at h
  .have key:Sp.aT (f (a.getD n d)) l=Sp.aT (a.length+JZ f (a.take (n+1))) left:=by
    grind [aeS,aqw]
   rw[aHB,fU _ lu];refine⟨⟨lu,lu⟩,⟨hl,lu⟩,af (λO=>?_) λO=>?_⟩<;>simp only[aHM,aHW]at O
   · grind [avZ,Sp.aT,jO]
   grind
  grind [jO]
theorem toS_vc(e:α->Prop)(d:α)(a:List α)(t:β)(f:a.length<=4294967296)(b:∀x∈a,e x){K:List α×Unit->Prop}(g:K (a,())):
 ((0:Int)<=(a.length:Int)/\(a.length:Int)<=(a.length:Int)/\(a.length:Int)<=(big:Int))/\
 ∃(I:(Int×Unit)×List α×Unit->Prop),∃(P:(Int×Unit)×List α×Unit->Nat),I (((0:Int),()),List.replicate (a.length:Int).toNat d,())/\∀(y:(Int×Unit)×List α×Unit),I y->
  bif decide (y.fst.fst<(a.length:Int))then
   ((0:Int)<=y.fst.fst/\y.fst.fst<(a.length:Int))/\e (a.getD (Int.toNat y.fst.fst) d)/\((0:Int)<=y.fst.fst/\y.fst.fst<(List.length y.snd.fst:Int))/\Int.toNat y.fst.fst<List.length y.snd.fst/\
     t=t/\I ((IntKind.i64.wrap (y.fst.fst+(1:Int)),()),List.set y.snd.fst (Int.toNat y.fst.fst) (a.getD (Int.toNat y.fst.fst) d),())/\
      P ((IntKind.i64.wrap (y.fst.fst+(1:Int)),()),List.set y.snd.fst (Int.toNat y.fst.fst) (a.getD (Int.toNat y.fst.fst) d),())<P y
  else K (y.snd.fst,()):=by
 refine⟨⟨lu,lu,FT⟩,λy=>∃n:Nat,y.1.1=n/\n<=a.length/\y.2.1=a.take n++List.replicate (a.length-n) d,λy=>((a.length:Int)-y.1.1).toNat,⟨0,rfl,lu,vk⟩,?_⟩;rintro⟨⟨_,⟨⟩⟩,l,⟨⟩⟩ ⟨n,rfl,hn,rfl⟩;dsimp only;refine af (λh=>?_) λh=>?_<;>simp only[aHM,aHW]at h
 .have hlt:n<a.length:=lu;have Q:(a.take n++List.replicate (a.length-n) d).length=a.length:=ny;rw[fU _ lu,aHB,Q];refine⟨⟨lu,lu⟩,b _ (getD_mem hlt),⟨lu,lu⟩,hlt,rfl,⟨n+1,vk,lu,?_⟩,lu⟩;rw[show a.length-n=a.length-(n+1)+1 from lu,List.replicate_succ,aJk _ _ ny,aHP,aIQ hn,aJl,aJZ,
     aIi hlt,aHO,aHI,aHK hlt]
  rfl
 .have hge:n=a.length:=lu
  simp_all
variable {p:Prop}
theorem bT[Decidable p]{A B:Prop}(h:p)(a:A):cond (decide p) A B:=ny
theorem bP[Decidable p]{A B:Prop}(h:¬p)(b:B):cond (decide p) A B:=ny
theorem dY{B:((Int×Unit)×Unit->Prop)->((Int×Unit)×Unit->Nat)->(Int×Unit)×Unit->Prop}(len:Nat)(Y:len<=9223372036854775807)(J:Nat->Prop)(S:J 0)
 (a:∀I P(n:Nat),n<len->J n->(J (n+1)->I ((IntKind.i64.wrap ((n:Int)+1),()),())/\P ((IntKind.i64.wrap ((n:Int)+1),()),())<P (((n:Int),()),()))->B I P (((n:Int),()),()))
 (b:∀I P,J len->B I P (((len:Int),()),())):∃I,∃P,I (((0:Int),()),())/\∀y,I y->B I P y:=by
 refine⟨λy=>∃n:Nat,y.1.1=n/\n<=len/\J n,λy=>((len:Int)-y.1.1).toNat,⟨0,rfl,aHV _,S⟩,?_⟩
 grind [fU]
theorem dI{Y S:Type}(mk:Int->S->Y)(a:Y->Int)(f:∀i s,a (mk i s)=i){B:(Y->Prop)->(Y->Nat)->Y->Prop}(len:Nat)(g:len<=9223372036854775807)(J:Nat->S->Prop){s0:S}(h:J 0 s0)
 (b:∀I P(n:Nat)(s:S),n<len->J n s->(∀d,J (n+1) d->I (mk (IntKind.i64.wrap ((n:Int)+1)) d)/\P (mk (IntKind.i64.wrap ((n:Int)+1)) d)<P (mk n s))->B I P (mk n s))
 (e:∀I P s,J len s->B I P (mk len s)):∃I,∃P,I (mk 0 s0)/\∀y,I y->B I P y:=by
 refine⟨λy=>∃(n:Nat)(s:S),y=mk n s/\n<=len/\J n s,λy=>((len:Int)-a y).toNat,⟨0,s0,rfl,aHV _,h⟩,?_⟩
 grind [fU]
variable {f:Nat->Bool}
theorem sJ{len:Nat}(H:n<len)(h:f n=false):Sp.iF len f=false:=by
 grind [Sp.iF]
theorem kG{len:Nat}(h:∀i,i<len->f i=true):Sp.iF len f=true:=by
 grind [Sp.iF]
theorem Qe{len:Nat}:Sp.iF len f=true↔∀i,i<len->f i=true:=by
 grind [Sp.iF]
theorem bV(h:∀i,i<n->f i=true)(H:f n=true):∀i,i<n+1->f i=true:=λi D=>by
 grind
theorem dD{b:Bool}(h:(!b)=true):b=false:=by cases b<;>first|rfl|cases h
theorem bI{b:Bool}(h:(!b)=false):b=true:=by cases b<;>first|rfl|cases h
theorem fG[Decidable p](h:decide p=true):p:=aIt h
theorem fK[Decidable p](h:decide p=false):¬p:=of_decide_eq_false h
theorem nH(h:0<n)(H:n<=9223372036854775807):IntKind.i64.wrap ((n:Int)-1)=((n-1:Nat):Int):=by grind [fU]
theorem UI{d:α}{a b:List α}(Q:a.length=b.length)(h:∀i,i<a.length->a.getD i d=b.getD i d):a=b:=by
 grind [List.ext_getElem]
theorem afJ(e:α->α->Bool)(g:∀x y,e x y=false↔x=y)(d:α)(a b:List α)(t:β)(Y:a.length<=9223372036854775807)(Q:a.length=b.length){K:Bool×Unit->Prop}(j:a≠b->K (false,()))(h:a=b->K (true,())):
 ∃(I:(Int×Unit)×Unit->Prop),∃(P:(Int×Unit)×Unit->Nat),I (((0:Int),()),())/\∀(y:(Int×Unit)×Unit),I y->
  bif decide (y.fst.fst<(a.length:Int))then
   ((0:Int)<=y.fst.fst/\y.fst.fst<(a.length:Int))/\((0:Int)<=y.fst.fst/\y.fst.fst<(b.length:Int))/\
     (bif e (a.getD (Int.toNat y.fst.fst) d) (b.getD (Int.toNat y.fst.fst) d)then K (false,())
     else t=t/\I ((IntKind.i64.wrap (y.fst.fst+(1:Int)),()),())/\P ((IntKind.i64.wrap (y.fst.fst+(1:Int)),()),())<P y)
  else K (true,()):=by
 refine dY a.length Y (λn=>∀i,i<n->a.getD i d=b.getD i d) (λi D=>lu) (λI P n H o next=>?_) λI P o=>(by dsimp only;exact bP lu (h (UI Q o)))
 grind
theorem aAf(e:α->α->Bool)(g:∀x y,e x y=false↔x=y)(d:α)(a b:List α)(t:β)(Y:a.length<=9223372036854775807)(Q:a.length=b.length){K:Bool×Unit->Prop}(j:a≠b->K (false,()))(h:a=b->K (true,())):
 ∃(I:(Int×Unit)×Unit->Prop),∃(P:(Int×Unit)×Unit->Nat),I (((0:Int),()),())/\∀(y:(Int×Unit)×Unit),I y->
  bif decide (y.fst.fst<(a.length:Int))then
   ((0:Int)<=y.fst.fst/\y.fst.fst<(a.length:Int))/\((0:Int)<=y.fst.fst/\y.fst.fst<(b.length:Int))/\True/\
     (bif e (a.getD (Int.toNat y.fst.fst) d) (b.getD (Int.toNat y.fst.fst) d)then K (false,())
     else t=t/\I ((IntKind.i64.wrap (y.fst.fst+(1:Int)),()),())/\P ((IntKind.i64.wrap (y.fst.fst+(1:Int)),()),())<P y)
  else K (true,()):=by
 refine dY a.length Y (λn=>∀i,i<n->a.getD i d=b.getD i d) (λi D=>lu) (λI P n H o next=>?_) λI P o=>(by dsimp only;exact bP lu (h (UI Q o)))
 grind
end Go.Fw
namespace Sp
open Go Go.Fw
theorem V5{name:Bytes}:∀(s:List bY)(n:Nat),n<s.length->(∀i,i<n->(s.getD i ([],0,())).1≠name)->(s.getD n ([],0,())).1=name->kindOf s name=(s.getD n ([],0,())).2.1
 |[],n,h,_,_=>XD
 |f::r,0,_,_,he=>by
  grind [kindOf]
 |f::r,n+1,h,hne,he=>by have S:f.1≠name:=hne 0 lu;show(bif decide (f.1=name)then f.2.1 else kindOf r name)=_;rw[aHD S];exact V5 r n y7 (λi D=>hne (i+1) lu) he
theorem Xl{name:Bytes}:∀(s:List bY),(∀i,i<s.length->(s.getD i ([],0,())).1≠name)->kindOf s name=0
 |[],_=>rfl
 |f::r,hne=>by have S:f.1≠name:=hne 0 vk;show(bif decide (f.1=name)then f.2.1 else kindOf r name)=_;rw[aHD S];exact Xl r λi D=>hne (i+1) KW
theorem afd{id:Int}:∀(s:List aF)(k:Int)(n:Nat),n<s.length->(∀i,i<n->(fileAt s i).1≠id)->(fileAt s n).1=id->sO k s id=k+n
 |[],_,n,h,_,_=>XD
 |f::r,k,0,_,_,g=>by
  have g:f.1=id:=g
  grind [sO]
 |f::r,k,n+1,h,hne,g=>by have S:f.1≠id:=hne 0 lu;show(bif decide (f.1=id)then k else sO (k+1) r id)=_;rw[aHD S];show sO (k+1) r id=_;rw[afd r (k+1) n y7 (λi D=>hne (i+1) lu) g];omega
theorem Zf{id:Int}:∀(s:List aF)(k:Int),(∀i,i<s.length->(fileAt s i).1≠id)->sO k s id=-1
 |[],_,_=>rfl
 |f::r,k,hne=>by have S:f.1≠id:=hne 0 vk;show(bif decide (f.1=id)then k else sO (k+1) r id)=_;rw[aHD S];exact Zf r (k+1) λi D=>hne (i+1) KW
variable {n:Nat}
theorem Us{id:Int}{s:List aF}(h:n<s.length)(a:∀i,i<n->(fileAt s i).1≠id)(g:(fileAt s n).1=id):place s id=n:=by
 grind [place,afd]
theorem ak6{id:Int}{s:List aF}(a:∀i,i<s.length->(fileAt s i).1≠id):place s id=-1:=Zf s 0 a
theorem abX:∀(a b:List aF)(k:Int)(id:Int),a.map (·.1)=b.map (·.1)->sO k a id=sO k b id
 |[],[],_,_,_=>rfl
 |[],_::_,_,_,h=>XD
 |_::_,[],_,_,h=>XD
 |f::a,g::b,k,id,h=>by
  simp only[aHT,List.cons.injEq]at h;show(bif decide (f.1=id)then k else sO (k+1) a id)=bif decide (g.1=id)then k else sO (k+1) b id
  rw[h.1,abX a b (k+1) id h.2]
theorem ayc{a b:List aF}(id:Int)(h:a.map (·.1)=b.map (·.1)):place a id=place b id:=abX a b 0 id h
variable {s:List bY}
theorem ahy(h:n<s.length)(H:jW s n=false):dN s=false:=by
 grind [dN,sJ]
theorem axn{fs:List bY}{s:List dL}(h:n<s.length)(H:lg fs s n=false):um fs s=false:=sJ h H
theorem aqb{fs:List bY}{f:aF}(h:n<f.2.2.2.2.1.length)(H:lg fs f.2.2.2.2.1 n=false):gq fs f=false:=by
 grind [gq,axn]
theorem ak2{s:dV}(h:n<s.2.1.length)(H:lV s n=false):bg s=false:=by
 grind [bg,sJ]
theorem U2{s:dV}{i:Nat}:lV s i=true↔gq s.1 (fileAt s.2.1 i)=true/\(fileAt s.2.1 i).1<s.2.2.1/\(0<i->(fileAt s.2.1 (i-1)).1<(fileAt s.2.1 i).1):=by
 grind [lV]
theorem Qd{s:dV}:bg s=true↔(∀i,i<s.2.1.length->lV s i=true)/\dN s.1=true/\s.2.1.length<=12/\1<=s.2.2.1/\s.2.2.1<=61:=by
 grind [bg,Qe]
theorem Ut(s:dV)(f:aF):(EY s f=(s,0,false)/\¬(bg s=true/\s.2.1.length<12/\gq s.1 (s.2.2.1,f.2)=true))\/
 (bg s=true/\s.2.1.length<12/\gq s.1 (s.2.2.1,f.2)=true/\EY s f=((s.1,s.2.1++[(s.2.2.1,f.2)],s.2.2.1+1,()),s.2.2.1,true)):=by
 grind [EY]
theorem aC2{fs:List aF}{i:Nat}:fileAt (fs.eraseIdx n) i=if i<n then fileAt fs i else fileAt fs (i+1):=by
 grind [fileAt]
theorem axo{s:List aF}{f:aF}(h:f∈s):∃i,i<s.length/\fileAt s i=f:=by
 obtain⟨i,D,rfl⟩:=aIf h;refine⟨i,D,?_⟩
 grind [fileAt]
theorem ayY{s:dV}(h:bg s=true):∀(j i:Nat),i<j->j<s.2.1.length->(fileAt s.2.1 i).1<(fileAt s.2.1 j).1
 |0,i,hi,_=>lu
 |j+1,i,hi,hj=>by
  have E:=(U2.1 ((Qd.1 h).1 (j+1) hj)).2.2 lu;rw[aJy]at E;rcases aHU i j with O|O
  .have:=ayY h j i O lu;omega
  .have:i=j:=lu;rw[this];exact E
theorem arj{s:dV}(u:Int)(h:qp s):qp (visible s u):=by
 obtain⟨S,E,O⟩:=h;refine⟨S,?_,λf q=>?_⟩
 .show((s.2.1.filter (kK · u)).map _).length<=1000
  grind
 .obtain⟨g,hg,rfl⟩:=aIo.1 q;exact O g (aIT.1 hg).1
theorem OB{α:Type}{p:α->Bool}{d:α}:∀(l:List α)(n:Nat),n<=l.length->(∀i,i<n->p (l.getD i d)=true)->(n<l.length->p (l.getD n d)=false)->l.takeWhile p=l.take n/\l.dropWhile p=l.drop n
 |[],n,h,_,_=>vk
 |x::r,0,_,_,h=>by
  simp_all
 |x::r,n+1,hn,h1,h2=>by have S:p x=true:=h1 0 lu;have:=OB r n (by simpa using hn) (λi D=>h1 (i+1) lu) λa=>h2 (by simpa using a);constructor<;>simp[S,this.1,this.2]
theorem ahM{α:Type}{p:α->Bool}{d:α}:∀(s:List α)(k:Int)(n:Nat),n<s.length->(∀i,i<n->p (s.getD i d)=false)->p (s.getD n d)=true->IE p k s=k+n
 |[],_,n,h,_,_=>XD
 |f::r,k,0,_,_,he=>by
  grind [IE]
 |f::r,k,n+1,h,hne,he=>by have S:p f=false:=hne 0 lu;show(bif p f then k else IE p (k+1) r)=_;rw[S];show IE p (k+1) r=_;rw[ahM r (k+1) n y7 (λi D=>hne (i+1) lu) he];omega
theorem abY{α:Type}{p:α->Bool}{d:α}:∀(s:List α)(k:Int),(∀i,i<s.length->p (s.getD i d)=false)->IE p k s=-1
 |[],_,_=>rfl
 |f::r,k,hne=>by have S:p f=false:=hne 0 vk;show(bif p f then k else IE p (k+1) r)=_;rw[S];exact abY r (k+1) λi D=>hne (i+1) KW
theorem aqx{α:Type}{p:α->Bool}{d:α}{s:List α}(h:n<s.length)(a:∀i,i<n->p (s.getD i d)=false)(g:p (s.getD n d)=true):findAt p s=n:=by
 grind [findAt,ahM]
theorem ahN{α:Type}{p:α->Bool}{d:α}{s:List α}(a:∀i,i<s.length->p (s.getD i d)=false):findAt p s=-1:=abY s 0 a
theorem afe{α:Type}(p:α->Bool)(d:α)(s:List α):(findAt p s=-1/\∀i,i<s.length->p (s.getD i d)=false)\/∃n,n<s.length/\findAt p s=n/\p (s.getD n d)=true/\∀i,i<n->p (s.getD i d)=false:=by
 by_cases h:∃n,n<s.length/\p (s.getD n d)=true
 .obtain⟨n,h1,h2,h3⟩:=least s.length (p:=λn=>p (s.getD n d)=true) h
  grind [aqx]
 .have hne:∀i,i<s.length->p (s.getD i d)=false:=λi D=>by
   grind
  exact .inl ⟨ahN hne,hne⟩
theorem ahO:∀a:Bytes,Op.bytesLess a a=false
 |[]=>rfl
 |x::a=>by show(decide (x<x)||(x==x&&Op.bytesLess a a))=false;rw[ahO a,aHD (UInt8.lt_irrefl x),aH8];rfl
theorem amD:∀a b:Bytes,Op.bytesLess a b=false->a≠b->Op.bytesLess b a=true
 |[],[],_,h=>(h rfl).elim
 |x::a,[],_,_=>rfl
 |[],y::b,h,_=>zH
 |x::a,y::b,h,hne=>by
  have h:(decide (x<y)||(x==y&&Op.bytesLess a b))=false:=h;show(decide (y<x)||(y==x&&Op.bytesLess b a))=true;rw[aID,aHW]at h;by_cases e:x=y
  .subst e;have O:Op.bytesLess a b=false:=by simpa using h.2
   rw[amD a b O (λe=>hne am1)];simp
  .have:y<x:=by have E:¬x.toNat<y.toNat:=λd=>h.1 (UInt8.lt_iff_toNat_lt.2 d);have O:x.toNat≠y.toNat:=λd=>e (aKe.1 d);exact UInt8.lt_iff_toNat_lt.2 lu
   rw[aHF this];rfl
theorem ayZ{x y:UInt8}{a b:Bytes}:Op.bytesLess (x::a) (y::b)=true↔x.toNat<y.toNat\/(x=y/\Op.bytesLess a b=true):=by
 grind [Op.bytesLess,UInt8.lt_iff_toNat_lt]
theorem JD:∀a b c:Bytes,Op.bytesLess a b=true->Op.bytesLess b c=true->Op.bytesLess a c=true
 |_,[],_,h,_=>by cases d:(‹Bytes›:Bytes)<;>simp_all [Op.bytesLess]
 |_,_::_,[],_,h=>zH
 |[],_::_,_::_,_,_=>rfl
 |x::a,y::b,z::c,E,h2=>by
  rw[ayZ]at E h2 ⊢;rcases E with E|⟨rfl,E⟩
  .rcases h2 with h2|⟨rfl,h2⟩
   .exact .inl lu
   .exact .inl E
  .rcases h2 with h2|⟨rfl,h2⟩
   .exact .inl h2
   .exact .inr ⟨rfl,JD a b c E h2⟩
theorem Y3{a b:Bytes}(h:Op.bytesLess a b=true):a≠b:=λe=>by grind [ahO]
theorem OJ:dN s=true↔(∀i,i<s.length->jW s i=true)/\s.length<=5:=by
 grind [dN,Qe]
theorem abZ{i:Nat}:jW s i=true↔dP (fieldAt s i).1=true/\(1<=(fieldAt s i).2.1/\(fieldAt s i).2.1<=2)/\(0<i->Op.bytesLess (fieldAt s (i-1)).1 (fieldAt s i).1=true):=by
 grind [jW]
theorem aj8{s:List bY}(h:dN s=true):∀(j i:Nat),i<j->j<s.length->Op.bytesLess (fieldAt s i).1 (fieldAt s j).1=true
 |0,i,hi,_=>lu
 |j+1,i,hi,hj=>by
  have E:=(abZ.1 ((OJ.1 h).1 (j+1) hj)).2.2 lu;rcases aHU i j with O|O
  .exact JD _ _ _ (aj8 h j i O lu) E
  .have:i=j:=lu;rw[this];exact E
theorem ab1(s:List bY)(f:bY):∃m,m<=s.length/\(∀i,i<m->Op.bytesLess (fieldAt s i).1 f.1=true)/\(m<s.length->Op.bytesLess (fieldAt s m).1 f.1=false)/\BL s f=s.take m++f::s.drop m:=by
 have a:∀m,m<=s.length->(∀i,i<m->Op.bytesLess (fieldAt s i).1 f.1=true)->(m<s.length->Op.bytesLess (fieldAt s m).1 f.1=false)->BL s f=s.take m++f::s.drop m:=λm l E O=>by
  unfold BL;have:=OB (p:=abl f.1) (d:=([],0,())) s m l E O
  grind
 by_cases h:∃n,n<s.length/\Op.bytesLess (fieldAt s n).1 f.1=false
 .obtain⟨n,E,O,h3⟩:=least s.length (p:=λn=>Op.bytesLess (fieldAt s n).1 f.1=false) h
  grind
 .have h3:∀i,i<s.length->Op.bytesLess (fieldAt s i).1 f.1=true:=λi D=>by
   grind
  exact⟨s.length,aHv _,h3,λb=>lu,a _ (aHv _) h3 λb=>lu⟩
theorem ahP{f:bY}{m:Nat}(l:m<=s.length)(i:Nat):fieldAt (s.take m++f::s.drop m) i=if i<m then fieldAt s i else if i=m then f else fieldAt s (i-1):=by
 grind [fieldAt]
theorem atW{f:bY}(X:dN s=true)(C:dN (BL s f)=true):∀i,i<s.length->(fieldAt s i).1≠f.1:=by
 intro n H e;obtain⟨m,l,E,O,U⟩:=ab1 s f;rw[U]at C;have Y:(s.take m++f::s.drop m).length=s.length+1:=ny;rcases aHU n m with b|a
 · grind [Y3]
 .have h4:=aj8 C (m+1) m lu lu
  grind [ahP,aj8]
theorem added{f:bY}(h:(IG s f).2=true):kindOf (IG s f).1 f.1=f.2.1/\dN (IG s f).1=true/\ahJ (IG s f).1 f.1=(s,true)/\(IG s f).1.length=s.length+1/\s.length<=5:=by
 cases X:(dN s&&dN (BL s f))with
 |false=>grind [IG]
 |true=>
  have e:IG s f=(BL s f,true):=by grind [IG]
  rw[e];rw[aHy]at X;have g:=atW X.1 X.2;obtain⟨m,l,E,O,U⟩:=ab1 s f;have C:=X.2;have Y:(s.take m++f::s.drop m).length=s.length+1:=ny;have u:kindOf (BL s f) f.1=f.2.1:=by
   rw[U];have b:(s.take m++f::s.drop m).getD m ([],0,())=f:=by
    grind
   rw[V5 (name:=f.1) _ m lu (λi D=>?_) (by rw[b]),b]
   grind [fieldAt]
  have d:kindOf (BL s f) f.1≠0:=by
   rw[U]at C;have:=(abZ.1 ((OJ.1 C).1 m lu)).2.1
   grind [ahP]
  refine⟨u,C,?_,ny,(OJ.1 X.1).2⟩;unfold ahJ;have a:∀y∈s,notField f.1 y=true:=λy B=>by
   grind [List.getElem_of_mem,fieldAt,notField]
  rw[U,aJd,aJ7,List.filter_eq_self.2 λy B=>a y (aI7 B),List.filter_eq_self.2 λy B=>a y (aJQ B)]
  simp_all [notField]
end Sp
namespace Sp
open Go
def nameOf(d:List aG)(i:Nat):Bytes:=(dK d i).1
def iG(d:List aG)(i:Nat):List aA:=(dK d i).2.1
def uO(r:List dO)(i:Nat):dO:=r.getD i ([],[],())
def jy(r:List dO)(i:Nat):List (Int×Unit):=(uO r i).2.1
def mW(d:List aG)(aB:List (Int×Unit)):Prop:=
 aB.length=d.length/\(∀i,i<d.length->0<=lv aB i/\lv aB i<=d.length)/\(jC (eu d) λi=>(lv aB i).toNat)/\∀M,jC (eu d) M->∀i,i<d.length->lv aB i<=M i
variable {d:List aG}
theorem aeD{a b:List (Int×Unit)}(E:mW d a)(O:mW d b):a=b:=by
 refine aye (E.1.trans O.1.symm) λi D=>?_;have D:i<d.length:=by rw[← E.1];exact D
 have e:=E.2.2.2 _ O.2.2.1 i D;have f:=O.2.2.2 _ E.2.2.1 i D;have:=(E.2.1 i D).1;have:=(O.2.1 i D).1;omega
theorem ak7(h:∃M,jC (eu d) M/\∀i,i<d.length->M i<d.length):∃s,mW d s:=by
 have o:=mO d;have j:∀i,∃m,(∃M,jC (eu d) M/\M i=m)/\∀M,jC (eu d) M->m<=M i:=λi=>by
  obtain⟨k,S,_⟩:=h;have:∀n,(∃M,jC (eu d) M/\M i=n)->∃m,(∃M,jC (eu d) M/\M i=m)/\∀M,jC (eu d) M->m<=M i:=by
   intro n
   induction n using Nat.strongRecOn with
   |_ n ih=>
    intro H;by_cases Q:∃M,jC (eu d) M/\M i<n
    .obtain⟨M,E,O⟩:=Q;exact ih _ O ⟨M,E,rfl⟩
    grind
  exact this (k i) ⟨k,S,rfl⟩
 obtain⟨L,l⟩:=Classical.axiomOfChoice j;have f:jC (eu d) L:=λe g=>by obtain⟨⟨M,E,O⟩,_⟩:=l e.1;have a:=(l e.2.1).2 M E;have b:=E e g;omega
 have q:∀i,i<d.length->lv ((List.range d.length).map λi=>((L i:Int),())) i=L i:=λi D=>by
  grind [lv]
 refine⟨(List.range d.length).map λi=>((L i:Int),()),vk,λi D=>?_,λe g=>?_,λM r i D=>?_⟩
 · grind
 .obtain⟨E,O,_⟩:=o e g;have:=f e g
  grind
 grind
def XT(d:List aG)(aB:List (Int×Unit))(s:Bytes):Nat:=(lv aB (aP d s).toNat).toNat
def due(d:List aG)(nm:Bytes->Bool)(s:Bytes):Prop:=nm s=true/\∃i,i<d.length/\nameOf d i=s
theorem ay0(h:gG d=true){i:Nat}(D:i<d.length):ax (iG d i)=true/\(0<i->Op.bytesLess (nameOf d (i-1)) (nameOf d i)=true):=by
 unfold gG at h;have E:lC d i=true:=by
  grind [iF]
 unfold lC at E;rw[aHy,aHy]at E;refine⟨E.1.2,λS=>?_⟩
 grind [nameOf]
theorem apt{d:List aG}(h:gG d=true):∀(j i:Nat),i<j->j<d.length->Op.bytesLess (nameOf d i) (nameOf d j)=true
 |0,i,hi,_=>lu
 |j+1,i,hi,hj=>by
  have E:=(ay0 h hj).2 lu;rcases aHU i j with O|O
  .exact JD _ _ _ (apt h j i O lu) E
  .have:i=j:=lu;subst this;exact E
theorem aj9(h:gG d=true){i j:Nat}(D:i<d.length)(a:j<d.length)(e:nameOf d i=nameOf d j):i=j:=by
 rcases aJ2 i j with E|E|E
 · simp_all [Y3,apt]
 .exact E
 .exact(Y3 (apt h i j E D) e.symm).elim
theorem abo(h:gG d=true){i:Nat}(D:i<d.length):aP d (nameOf d i)=i:=by
 rcases JE d (nameOf d i)with⟨_,h2⟩|⟨n,h1,h2,h3,_⟩
 .refine(h2 (dK d i) ?_ rfl).elim
  grind [dK]
 .rw[h2,aj9 h h1 D h3]
variable {aB:List (Int×Unit)}
theorem Bd(h:gG d=true){i:Nat}(D:i<d.length):XT d aB (nameOf d i)=(lv aB i).toNat:=by
 grind [XT,abo]
variable {fs:List aF}
theorem akb(h:gG d=true)(Q:mW d aB)(nm:Bytes->Bool):arM (WS fs d) (due d nm) (XT d aB):=by
 intro s t _ r;obtain⟨_,j,g,rfl⟩:=r;have e:∀i,i<d.length->∀m b,(m=0/\b=false\/m=1/\b=true)->nameOf d j∈fA (iG d i) b->(lv aB j).toNat+m<=(lv aB i).toNat:=λi D m b l f=>by
  refine Q.2.2.1 (i,j,m) (Ir.2 ⟨D,nameOf d j,?_,by grind [abo],by grind [abo]⟩);rcases l with⟨a,b⟩|⟨a,b⟩
  .subst a b;exact .inl ⟨rfl,f⟩
  .subst a b;exact .inr ⟨rfl,f⟩
 refine⟨?_,?_⟩
 .rintro⟨i,D,rfl,f⟩;rw[show(dK d i).1=nameOf d i from rfl,Bd h D,Bd h g];exact e i D 0 false (.inl ⟨rfl,rfl⟩) f
 .rintro⟨i,D,rfl,f⟩;rw[show(dK d i).1=nameOf d i from rfl,Bd h D,Bd h g];exact e i D 1 true (.inr ⟨rfl,rfl⟩) f
def xH(d:List aG)(out:List dO):Prop:=out.length=d.length/\∀i,i<d.length->(uO out i).1=nameOf d i
theorem Qg:∀{r:List dO}{s:Bytes},(∀i,i<r.length->(uO r i).1≠s)->gY r s=[]
 |[],_,_=>rfl
 |x::r,s,h=>by have S:x.1≠s:=h 0 vk;rw[gY,aHt.2 S];exact Qg λi D=>h (i+1) aqP
theorem aew:∀{r:List dO}{i:Nat},i<r.length->(∀j,j<i->(uO r j).1≠(uO r i).1)->gY r (uO r i).1=jy r i
 |[],i,h,_=>XD
 |x::r,0,_,_=>by
  show gY (x::r) x.1=x.2.1
  grind [gY]
 |x::r,i+1,h,hn=>by have S:x.1≠(uO r i).1:=hn 0 lu;show gY (x::r) (uO r i).1=jy r i;rw[gY,aHt.2 S];exact aew y7 λj a=>hn (j+1) lu
variable {out:List dO}
theorem Fh(h:gG d=true)(F:xH d out){i:Nat}(D:i<d.length):gY out (nameOf d i)=jy out i:=by rw[← F.2 i D];refine aew asB λj a e=>?_;rw[F.2 j lu,F.2 i D]at e;have:=aj9 h lu D e;omega
theorem aff(F:xH d out){s:Bytes}(X:∀i,i<d.length->nameOf d i≠s):gY out s=[]:=
 Qg λi D=>by rw[F.1]at D;rw[F.2 i D];exact X i D
structure lF(fs:List aF)(d:List aG)(r:List dO)(nm:Bytes->Bool)(out:List dO):Prop where
 order:xH d out
 kept:∀i,i<d.length->nm (nameOf d i)=false->jy out i=gY r (nameOf d i)
 fix:∀i,i<d.length->nm (nameOf d i)=true->jy out i=sel fs (iG d i) (bH out)
 aB:∃aB,mW d aB/\Eval (WS fs d) (due d nm) (XT d aB) (bH out)
theorem afN{a b:List (Int×Unit)}(h:a=b)(x:Int):bQ a x=bQ b x:=by rw[h]
theorem aBV{a b:List dO}(e:xH d a)(J:xH d b)(h:∀i,i<d.length->jy a i=jy b i):a=b:=by
 refine List.ext_getElem (e.1.trans J.1.symm) λi E O=>?_;have D:i<d.length:=by rw[← e.1];exact E
 have f:=e.2 i D;have T:=J.2 i D
 grind [jy,uO]
variable {r:List dO}{nm:Bytes->Bool}
theorem aeG{a b:List dO}(h:gG d=true)(f:lF fs d r nm a)(J:lF fs d r nm b):a=b:=by
 obtain⟨t,k,o⟩:=f.aB;obtain⟨u,l,T⟩:=J.aB;have m:∀s,¬due d nm s->∀x,bH a s x=bH b s x:=λs X x=>by
  by_cases n:∃i,i<d.length/\nameOf d i=s
  .obtain⟨i,D,rfl⟩:=n;have H:nm (nameOf d i)=false:=by rw[aJG];exactλH=>X ⟨H,i,D,rfl⟩
   exact afN (by rw[Fh h f.order D,Fh h J.order D,f.kept i D H,J.kept i D H]) x
  .have hd':∀i,i<d.length->nameOf d i≠s:=λi D e=>n ⟨i,D,e⟩;exact afN (by rw[aff f.order hd',aff J.order hd']) x
 have q:=au1 (U:=due d nm) o T (akb h k nm) (akb h l nm) (λ_ h=>h) (λ_ h=>h) (λ_ _ _ _=>Iff.rfl) (λ_ _ _ h=>h) (λ_ _ _ h=>h)
  λi _ j _=>Classical.or_iff_not_imp_left.2 (m j)
 have g:bH a=bH b:=by
  grind
 refine aBV f.order J.order λi D=>?_;cases H:nm (nameOf d i)with
 |false=>rw[f.kept i D H,J.kept i D H]
 |true=>rw[f.fix i D H,J.fix i D H,g]
def afO{a α:Type}(S:Sys a α)(N:a->Prop)(aB:a->Nat)(k:Nat)(X:Ext a α):Prop:=
 ∀Y:Ext a α,(∀i,¬(N i/\aB i=k)->∀x,Y i x=X i x)->(∀i,N i->aB i=k->∀x,S.T i Y x->Y i x=true)->∀i,N i->aB i=k->∀x,X i x=true->Y i x=true
variable {m:Nat}
open Classical in
theorem apu{e α:Type}{S:Sys e α}{N:e->Prop}{aB:e->Nat}(k:arM S N aB){X g:Ext e α}(h:∀i,¬(N i/\m<aB i)->∀x,X i x=g i x)(n:afO S N aB m X):afO S N aB m g:=by
 intro Y q C i D Q x Z;have o:=n (λi x=>if N i/\m<aB i then X i x else Y i x) (λj b y=>?_) (λj b f y B=>?_) i D Q x ny
 · grind
 · grind
 .rw[if_neg lu];have l:∀t,(S.pos j t\/S.neg j t)->¬(N t/\m<aB t):=λt a L=>by
   rcases a with a|a
   .have:=(k j t b L.1).1 a;omega
   .have:=(k j t b L.1).2 a;omega
  refine C j b f y (S.mono j _ Y (λt a z s=>?_) (λt a z=>?_) y B)
  · grind
  grind
def canon(fs:List aF)(l:List (Int×Unit)):Prop:=l=(fs.filter λf=>bQ l f.1).map λf=>(f.1,())
def distinct(fs:List aF):Prop:=∀f∈fs,∀g∈fs,f.1=g.1->f=g
theorem ay1(hd:distinct fs)(q:List aA)(X:BX):canon fs (sel fs q X):=by
 show _=List.map _ (List.filter _ _)
 conv=>lhs;unfold sel
 congr 1;apply List.filter_congr;intro f hf;rw[aHX,MX,aps];exact⟨λh=>⟨f,hf,rfl,h⟩,λ⟨g,hg,e,hm⟩=>by rw[hd f hf g hg e.symm];exact hm⟩
theorem aqy{l:List (Int×Unit)}(h:canon fs l):l.length<=fs.length:=by rw[h,aHL];grind
theorem filter_lt{α:Type}{p q:α->Bool}(h:∀x,p x=true->q x=true):∀{l:List α},(∃x∈l,q x=true/\p x=false)->(l.filter p).length<(l.filter q).length
 |[],h'=>ny
 |y::r,h'=>by
  have le:(r.filter p).length<=(r.filter q).length:=by
   clear h'
   induction r with
   |nil=>grind
   |cons z t ih=>
    grind
  grind [filter_lt,Nat.lt_succ_of_lt]
theorem axp{a b:List (Int×Unit)}(g:canon fs a)(J:canon fs b)(h:∀x,bQ a x=true->bQ b x=true)(e:b≠a):a.length<b.length:=by
 rw[g,J,aHL,aHL];refine filter_lt (p:=λf:aF=>bQ a f.1) (q:=λf:aF=>bQ b f.1) (λf=>h f.1) (aIj λi=>e ?_);rw[g,J]
 grind [List.filter_congr]
structure sD(fs:List aF)(d:List aG)(r:List dO)(nm:Bytes->Bool)(aB:List (Int×Unit))(k:Nat)(out:List dO):Prop where
 order:xH d out
 kept:∀i,i<d.length->nm (nameOf d i)=false->jy out i=gY r (nameOf d i)
 later:∀i,i<d.length->nm (nameOf d i)=true->(k:Int)<lv aB i->jy out i=[]
 done:∀i,i<d.length->nm (nameOf d i)=true->lv aB i<k->jy out i=sel fs (iG d i) (bH out)
 afg:∀m,m<k->afO (WS fs d) (due d nm) (XT d aB) m (bH out)
 atX:∀i,i<d.length->nm (nameOf d i)=true->lv aB i=k->∀x,bQ (jy out i) x=true->(x,())∈sel fs (iG d i) (bH out)
 least:afO (WS fs d) (due d nm) (XT d aB) k (bH out)
 canon:∀i,i<d.length->nm (nameOf d i)=true->canon fs (jy out i)
theorem aAg(h:gG d=true)(Q:mW d aB)(F:xH d out)
 (E:∀i,i<d.length->nm (nameOf d i)=false->jy out i=gY r (nameOf d i)) (O:∀i,i<d.length->nm (nameOf d i)=true->jy out i=[]):sD fs d r nm aB 0 out where
 order:=F
 kept:=E
 later:=λi D H _=>O i D H
 done:=λi D _ a=>by have:=(Q.2.1 i D).1;omega
 afg:=λm l=>lu
 atX:=λi D H _ x Z=>by rw[O i D H]at Z;cases Z
 least:=λY _ _ s X _ x Z=>by obtain⟨H,i,D,rfl⟩:=X;have Z:bQ (gY out (nameOf d i)) x=true:=Z;rw[Fh h F D,O i D H]at Z;cases Z
 canon:=λi D H=>by rw[O i D H];show[]=List.map _ (List.filter _ _);grind [List.filter_eq_nil_iff,bQ]
theorem WT{i j:Nat}{x:dO}(D:i<out.length):uO (out.set i x) j=if j=i then x else uO out j:=by
 grind [uO]
theorem aqz(F:xH d out){i:Nat}(D:i<d.length)(l:List (Int×Unit)):xH d (out.set i (nameOf d i,l,())):=by
 refine⟨by rw[aKd];exact F.1,λj a=>?_⟩;rw[WT asB];split
 · grind
 .exact F.2 j a
theorem ay2(h:gG d=true)(F:xH d out){i:Nat}(D:i<d.length)(l:List (Int×Unit)):
 (∀x,bH (out.set i (nameOf d i,l,())) (nameOf d i) x=bQ l x)/\∀s,s≠nameOf d i->∀x,bH (out.set i (nameOf d i,l,())) s x=bH out s x:=by
 have a:=aqz F D l;refine⟨λx=>?_,λs X x=>?_⟩
 .refine afN ?_ x;rw[Fh h a D];unfold jy;rw[WT asB,if_pos rfl]
 .refine afN ?_ x;by_cases b:∃j,j<d.length/\nameOf d j=s
  .obtain⟨j,hj,rfl⟩:=b;rw[Fh h a hj,Fh h F hj];unfold jy;rw[WT asB,if_neg (λe=>X am1)]
  grind [aff]
theorem arN(h:gG d=true){i:Nat}(D:i<d.length){X:BX}{x:Int}:(WS fs d).T (nameOf d i) X x↔(x,())∈sel fs (iG d i) X:=by
 constructor
 .rintro⟨j,hj,e,Z⟩;have:=aj9 h hj D e;subst this;exact Z
 .exactλZ=>⟨i,D,rfl,Z⟩
variable {k:Nat}
theorem at_set(h:gG d=true)(Q:mW d aB)(q:distinct fs)(A:sD fs d r nm aB k out){i:Nat}(D:i<d.length)(H:nm (nameOf d i)=true)(u:lv aB i=k):
 sD fs d r nm aB k (out.set i (nameOf d i,sel fs (iG d i) (bH out),()))/\(sel fs (iG d i) (bH out)≠jy out i->(jy out i).length<(sel fs (iG d i) (bH out)).length)/\(sel fs (iG d i) (bH out)).length<=fs.length:=by
 have L:=ay1 q (iG d i) (bH out);have P:i<out.length:=by rw[A.order.1];exact D
 have X:=akb (fs:=fs) h Q nm;have N:due d nm (nameOf d i):=⟨H,i,D,rfl⟩;have O:XT d aB (nameOf d i)=k:=by grind [Bd]
 obtain⟨J,M⟩:=ay2 h A.order D (sel fs (iG d i) (bH out));have R:∀s x,bH out s x=true->bH (out.set i (nameOf d i,sel fs (iG d i) (bH out),())) s x=true:=λs x Z=>by
  by_cases e:s=nameOf d i
  .subst e;rw[J,MX];refine A.atX i D H u x ?_;have Z:bQ (gY out (nameOf d i)) x=true:=Z;rw[Fh h A.order D]at Z;exact Z
  grind
 have w:∀s,¬(due d nm s/\XT d aB s=k)->∀x,bH out s x=bH (out.set i (nameOf d i,sel fs (iG d i) (bH out),())) s x:=λs z x=>(M s (λe=>z ny) x).symm;have o:∀j,jy (out.set i (nameOf d i,sel fs (iG d i) (bH out),())) j=if j=i then sel fs (iG d i) (bH out)else jy out j:=λj=>by
  grind [jy,WT]
 refine⟨⟨aqz A.order D _,λj f a=>?_,λj f a n=>?_,λj f a n=>?_,λm l=>?_,λj f a n x Z=>?_,?_,λj f a=>?_⟩,λI=>?_,aqy L⟩
 .rw[o,if_neg (λe=>ny)];exact A.kept j f a
 .rw[o,if_neg (λe=>ny)];exact A.later j f a n
 .rw[o,if_neg (λe=>ny),A.done j f a n];refine ayX λb s g x=>w s (λL=>?_) x;have F:due d nm (nameOf d j):=⟨a,j,f,rfl⟩;have:=X (nameOf d j) s F L.1;have K:XT d aB (nameOf d j)<k:=by rw[Bd h f];have:=(Q.2.1 j f).1;omega
  cases b with
  |false=>have:=this.1 ⟨j,f,rfl,g⟩;omega
  |true=>have:=this.2 ⟨j,f,rfl,g⟩;omega
 .exact apu X (λs z=>w s λL=>z ⟨L.1,lu⟩) (A.afg m l)
 .have hT:(WS fs d).T (nameOf d j) (bH out) x:=by
   rw[arN h f];rw[o]at Z;by_cases e:j=i
   · grind [MX]
   .rw[if_neg e]at Z;exact A.atX j f a n x Z
  rw[← arN h f];refine(WS fs d).mono _ _ _ (λs _=>R s) (λs g=>w s λL=>?_) x hT;have:=(X (nameOf d j) s ⟨a,j,f,rfl⟩ L.1).2 g
  grind [Bd]
 .intro Y hY hp s g hls x Z;have C:∀t,¬(due d nm t/\XT d aB t=k)->∀x,Y t x=bH out t x:=λt E x=>(hY t E x).trans (w t E x).symm;have base:=A.least Y C hp;by_cases e:s=nameOf d i
  .subst e;rw[J,MX,← arN h D]at Z;refine hp _ g hls x ((WS fs d).mono _ _ _ (λt _ y B=>?_) (λt E y=>?_) x Z)
   · grind
   .refine(C t (λL=>?_) y).symm;have:=(X (nameOf d i) t N L.1).2 E;omega
  grind
 .rw[o];split
  .exact L
  .exact A.canon j f a
 .refine axp (A.canon i D H) L (λx Z=>?_) I;rw[MX];exact A.atX i D H u x Z
theorem at_next(h:gG d=true)(A:sD fs d r nm aB k out)(a:∀i,i<d.length->nm (nameOf d i)=true->lv aB i=k->sel fs (iG d i) (bH out)=jy out i):sD fs d r nm aB (k+1) out where
 order:=A.order
 kept:=A.kept
 later:=λi D H f=>A.later i D H lu
 done:=λi D H f=>by
  by_cases e:lv aB i=k
  · grind
  .exact A.done i D H lu
 afg:=λm l=>by
  by_cases e:m=k
  .subst e;exact A.least
  .exact A.afg m lu
 atX:=λi D H Q x Z=>by rw[A.later i D H lu]at Z;cases Z
 least:=λY _ _ s X b x Z=>by obtain⟨H,i,D,rfl⟩:=X;rw[Bd h D]at b;have Z:bQ (gY out (nameOf d i)) x=true:=Z;rw[Fh h A.order D,A.later i D H lu]at Z;cases Z
 canon:=A.canon
theorem at_end(h:gG d=true)(Q:mW d aB)(A:sD fs d r nm aB k out)(u:∀i,i<d.length->lv aB i<k):lF fs d r nm out where
 order:=A.order
 kept:=A.kept
 fix:=λi D H=>A.done i D H (u i D)
 aB:=⟨aB,Q,{
  fix:=λs X x=>by obtain⟨H,i,D,rfl⟩:=X;rw[arN h D,← A.done i D H (u i D),← MX,← Fh h A.order D];rfl
  least:=λm Y b C s X a=>by
   have l:m<k:=by obtain⟨H,i,D,rfl⟩:=X;rw[Bd h D]at a;have:=u i D;have:=(Q.2.1 i D).1;omega
   exact A.afg m l Y b C s X a}⟩
def room(n:Nat)(out:List dO):Nat:=(out.map λx=>n-x.2.1.length).sum
theorem akc{n:Nat}:∀{out:List dO}{i:Nat}{x:dO},i<out.length->(jy out i).length<x.2.1.length->x.2.1.length<=n->room n (out.set i x)<room n out
 |[],i,x,h,_,_=>XD
 |y::r,0,x,_,E,h2=>by
  have E:y.2.1.length<x.2.1.length:=E;show((x::r).map λx=>n-x.2.1.length).sum<((y::r).map λx=>n-x.2.1.length).sum
  grind
 |y::r,i+1,x,h,E,h2=>by
  have a:=akc (out:=r) (i:=i) (x:=x) y7 E h2
  grind [room]
abbrev aaM:=Bytes×List (Int×Unit)×List (Int×Unit)×Unit
abbrev nV:=List bY×List aF×Int×List aG×List dO×Unit
instance:DecidableEq (List (Int×Unit)):=inferInstance
instance:DecidableEq dO:=inferInstance
instance:DecidableEq (List dO):=inferInstance
instance:DecidableEq (List dO×Unit):=inferInstance
instance:DecidableEq (List aG×List dO×Unit):=inferInstance
instance:DecidableEq (Int×List aG×List dO×Unit):=inferInstance
instance:DecidableEq (List aF×Int×List aG×List dO×Unit):=inferInstance
instance aHb:DecidableEq nV:=(inferInstance:DecidableEq (List bY×List aF×Int×List aG×List dO×Unit))
def xW(l:LS)(s:Bytes):Bool:=l.any λx=>x.1==s
variable {l:LS}
theorem atr{s:Bytes}:xW l s=true↔(s,())∈l:=by
 grind [xW]
def dQ(r:List dO):Prop:=r.length<=1000/\∀x∈r,x.2.1.length<=1000
def kN(c:nV):dV:=(c.1,c.2.1,c.2.2.1,())
def kT(c:nV):List aG:=c.2.2.2.1
def apv(c:nV):List dO:=c.2.2.2.2.1
def rq(d:List aG):LS:=d.map λx=>(x.1,())
def akm(d:List aG)(m:Int):Prop:=m<=1000/\∀aB,aH d=true->mW d aB->∀i,i<d.length->lv aB i<=m
open Classical in
noncomputable def ru (c:nV):Bool:=aH (kT c)&&bg (kN c)&&decide (lF c.2.1 (kT c) [] (λ_=>true) (apv c))
def aAh(f g:aF):List Bytes:=((f.2.2.2.2.1++g.2.2.2.2.1).map λa=>a.1).filter λs=>!decide (iD f.2.2.2.2.1 s=iD g.2.2.2.2.1 s)
def aBW(q:List aA):List Bytes:=(q.filter λn=>n.1==2||(n.1==3||n.1==4)).map λn=>n.2.2.2.1
def amz(q:List aA):List Bytes:=(q.filter tK).map λn=>n.2.2.2.1
def linked(q:List aA):Bool:=q.any λn=>n.1==9
inductive Reach(d:List aG)(P:Bytes->Prop):Bytes->Prop where
 |base {s}:P s->Reach d P s
 |step {s i}:Reach d P s->i<d.length->s∈amz (iG d i)->Reach d P (nameOf d i)
def aAi(d:List aG)(f g:aF)(s:Bytes):Prop:=
 ∃i,i<d.length/\nameOf d i=s/\(f.1≠g.1\/(∃t,t∈aBW (iG d i)/\t∈aAh f g)\/(linked (iG d i)=true/\f.2.2.2.1≠g.2.2.2.1))
def Aff(d:List aG)(f g:aF):Bytes->Prop:=Reach d (aAi d f g)
open Classical in
noncomputable def aHc (d:List aG) (f g:aF) (s:Bytes):Bool:=decide (Aff d f g s)
def without(a b:List (Int×Unit)):List (Int×Unit):=a.filter λx=>!bQ b x.1
def aC3(a:List dO)(x:dO):aaM:=(x.1,without x.2.1 (gY a x.1),without (gY a x.1) x.2.1,())
def aC4(y:aaM):Bool:=decide (0<y.2.1.length+y.2.2.1.length)
def aBe(a b:List dO):List aaM:=(b.map (aC3 a)).filter aC4
def Gi(l:List (Int×Unit))(n:Int):List (Int×Unit):=
 let k:=(l.takeWhile λx=>decide (x.1<n)).length
 bif decide (k<l.length)&&(l.getD k (0,())).1==n then l else l.take k++[(n,())]++l.drop k
def qN(l:List (Int×Unit))(z:List (Int×Unit)):List (Int×Unit):=z.foldl (λl x=>Gi l x.1) l
def rC(l x y:List (Int×Unit)):List (Int×Unit):=qN (qN [] (l.filter λz=>!bQ y z.1)) x
def Ti(fs:List aF)(d:List aG)(r:List dO)(nm:Bytes->Bool)(aB:List (Int×Unit))(k:Nat)(a:List dO)(i:Nat)(c:Bool)(out:List dO):Prop:=
 sD fs d r nm aB k out/\(c=true->room fs.length out<room fs.length a)/\
  (c=false->out=a/\∀j,j<i->j<d.length->nm (nameOf d j)=true->lv aB j=k->sel fs (iG d j) (bH out)=jy out j)
theorem QN{i:Nat}{a:List dO}{c:Bool}(h:Ti fs d r nm aB k a i c out)(X:nm (nameOf d i)=true->lv aB i=k->sel fs (iG d i) (bH out)=jy out i):Ti fs d r nm aB k a (i+1) c out:=
 ⟨h.1,h.2.1,λL=>⟨(h.2.2 L).1,λj f e H Q=>by
   rcases aHU j i with b|b
   .exact(h.2.2 L).2 j b e H Q
   grind⟩⟩
theorem atq{i:Nat}{a:List dO}{c:Bool}(j:gG d=true)(Q:mW d aB)(q:distinct fs)(h:Ti fs d r nm aB k a i c out)(D:i<d.length)(H:nm (nameOf d i)=true)(u:lv aB i=k)(b:sel fs (iG d i) (bH out)≠jy out i):
 Ti fs d r nm aB k a (i+1) true (out.set i ((uO out i).1,sel fs (iG d i) (bH out),())):=by
 obtain⟨A,E,O⟩:=h;rw[A.order.2 i D];obtain⟨e,f,g⟩:=at_set j Q q A D H u;refine⟨e,λ_=>?_,λh=>zH⟩;have W:room fs.length (out.set i (nameOf d i,sel fs (iG d i) (bH out),()))<room fs.length out:=akc (by rw[A.order.1];exact D) (f b) g
 grind
theorem ahB(A:sD fs d r nm aB k out)(b:d.length<=1000)(q:fs.length<=1000)(W:dQ r):dQ out:=by
 refine⟨by rw[A.order.1];exact b,λx Z=>?_⟩;obtain⟨i,D,rfl⟩:=aIf Z;have a:i<d.length:=by rw[← A.order.1];exact D
 have e:(out[i]).2.1=jy out i:=by
  grind [jy,uO]
 rw[e];cases H:nm (nameOf d i)with
 |true=>exact aHw (aqy (A.canon i a H)) q
 |false=>
  rw[A.kept i a H];have:∀l:List dO,(∀x∈l,x.2.1.length<=1000)->(gY l (nameOf d i)).length<=1000:=by
   intro l
   induction l with
   |nil=>exactλ_=>aHV _
   |cons x t ih=>
    grind [gY]
  exact this r W.2
def DZ(r:List dO)(nm:Bytes->Bool)(x:aG):dO:=(x.1,bif nm x.1 then[]else gY r x.1,())
theorem akd{i:Nat}(D:i<d.length):uO (d.map (DZ r nm)) i=DZ r nm (dK d i):=by
 grind [uO,dK]
theorem XG(a:gG d=true)(Q:mW d aB):sD fs d r nm aB 0 (d.map (DZ r nm)):=by
 refine aAg a Q ⟨vk,λi D=>?_⟩ (λi D H=>?_) λi D H=>?_
 .rw[akd D];rfl
 .unfold jy;rw[akd D];show(bif nm (nameOf d i)then[]else gY r (nameOf d i))=_;rw[H];rfl
 .unfold jy;rw[akd D];show(bif nm (nameOf d i)then[]else gY r (nameOf d i))=_;rw[H];rfl
theorem atY{s:dV}(h:bg s=true):∀(j i:Nat),i<j->j<s.2.1.length->(fileAt s.2.1 i).1<(fileAt s.2.1 j).1:=by
 intro j
 induction j with
 |zero=>omega
 |succ j ih=>
  intro i D a;have E:lV s (j+1)=true:=by
   grind [bg,iF]
  grind [lV]
theorem JB{s:dV}(h:bg s=true):distinct s.2.1:=by
 intro f q g b e;obtain⟨i,D,rfl⟩:=aIf q;obtain⟨j,n,rfl⟩:=aIf b;have a:∀k(u:k<s.2.1.length),fileAt s.2.1 k=s.2.1[k]:=λk u=>by
  grind [fileAt]
 rcases aJ2 i j with E|E|E
 .have:=atY h j i E n
  grind
 .subst E;rfl
 .have:=atY h i j E D
  grind
theorem auS{j:List dO}{e:Bytes->Bool}(h:lF fs d r nm out)(H:∀i,i<d.length->nm (nameOf d i)=e (nameOf d i))(W:∀i,i<d.length->nm (nameOf d i)=false->gY r (nameOf d i)=gY j (nameOf d i)):lF fs d j e out:=by
 have f:∀s,due d nm s↔due d e s:=λs=>by
  constructor
  .rintro⟨a,i,D,rfl⟩;exact⟨ny,i,D,rfl⟩
  .rintro⟨a,i,D,rfl⟩;exact⟨ny,i,D,rfl⟩
 obtain⟨aB,E,O⟩:=h.aB;exact⟨h.order,λi D b=>by rw[← H i D]at b;rw[h.kept i D b,W i D b],λi D b=>h.fix i D ny,aB,E,
  λs X=>O.fix s ((f s).2 X),λk Y n C s X=>O.least k Y (λt g=>n t λb=>g ⟨(f t).2 b.1,b.2⟩) (λt g=>C t ((f t).1 g)) s ((f s).2 X)⟩
theorem axq(e:gG d=true)(Q:mW d aB)(q:distinct fs):∀(n:Nat)(out:List dO),room fs.length out<=n->sD fs d r nm aB k out->∃b,sD fs d r nm aB (k+1) b:=by
 intro n
 induction n using Nat.strongRecOn with
 |_ n ih=>
  intro out H A;by_cases X:∀i,i<d.length->nm (nameOf d i)=true->lv aB i=k->sel fs (iG d i) (bH out)=jy out i
  .exact⟨out,at_next e A X⟩
  .obtain⟨i,hi⟩:=Classical.not_forall.1 X;have E:i<d.length:=aIj λh=>hi λa=>(h a).elim;have O:nm (nameOf d i)=true:=aIj λh=>hi λ_ a=>(h a).elim;have U:lv aB i=k:=aIj λh=>hi λ_ _ a=>(h a).elim;have j:sel fs (iG d i) (bH out)≠jy out i:=λh=>hi λ_ _ _=>h;obtain⟨f,g,o⟩:=at_set e Q q A E O U;have W:room fs.length (out.set i (nameOf d i,sel fs (iG d i) (bH out),()))<room fs.length out:=akc (by rw[A.order.1];exact E) (g j) o;exact ih _ lu _ (aHv _) f
theorem amw(r:List dO)(nm:Bytes->Bool)(a:gG d=true)(Q:mW d aB)(q:distinct fs):∃out,lF fs d r nm out:=by
 have:∀k,∃out,sD fs d r nm aB k out:=λk=>by
  induction k with
  |zero=>exact⟨_,XG a Q⟩
  |succ k ih=>obtain⟨out,A⟩:=ih;exact axq a Q q _ out (aHv _) A
 obtain⟨out,A⟩:=this (d.length+1);exact⟨out,at_end a Q A λi D=>by have:=(Q.2.1 i D).2;omega⟩
def aF2(a:List dL):Prop:=a.Pairwise λx y=>Op.bytesLess x.1 y.1=true
theorem ake{α:Type}{R:α->α->Prop}(e:∀a b c,R a b->R b c->R a c)(d:α):∀(l:List α),(∀i,i+1<l.length->R (l.getD i d) (l.getD (i+1) d))->l.Pairwise R
 |[],_=>List.Pairwise.nil
 |[x],_=>aJD _ _
 |x::y::r,h=>by
  have f:=ake e d (y::r) λi D=>h (i+1) aqP;have S:R x y:=h 0 vk
  grind [List.pairwise_cons]
variable {as:List dL}
theorem ahQ{fs:List bY}:um fs as=true↔(∀a∈as,jI fs a.1 a.2.1 a.2.2.1 a.2.2.2.1=true)/\aF2 as:=by
 have e:∀i(D:i<as.length),dU as i=as[i]:=λi D=>by grind [dU]
 unfold um;rw[show(iF as.length (lg fs as)=true)↔∀i,i<as.length->lg fs as i=true from by
  grind [iF]]
 have one:∀i,lg fs as i=true↔jI fs (dU as i).1 (dU as i).2.1 (dU as i).2.2.1 (dU as i).2.2.2.1=true/\(0<i->Op.bytesLess (dU as (i-1)).1 (dU as i).1=true):=λi=>by
  grind [lg]
 constructor
 .intro h;refine⟨λa f=>?_,?_⟩
  · grind [List.getElem_of_mem]
  .refine ake (R:=λx y:dL=>Op.bytesLess x.1 y.1=true) (λa b c E O=>JD _ _ _ E O) ([],0,0,[],()) as λi D=>?_
   grind
 .rintro⟨E,O⟩ i D;refine(one i).2 ⟨?_,λS=>?_⟩
  · grind
  .rw[e i D,e (i-1) lu];exact aJw.1 O (i-1) i lu D lu
theorem atZ{α:Type}[BEq α][LawfulBEq α]:∀(a b:List α),a.Nodup->(∀x∈a,x∈b)->a.length<=b.length
 |[],_,_,_=>aHV _
 |x::r,b,hn,h=>by
  rw[aKc]at hn;have e:=atZ r (b.erase x) hn.2 λy B=>by
   grind
  grind
theorem abp:∀{fs:List bY}{s:Bytes},kindOf fs s≠0->s∈fs.map λf=>f.1
 |[],_,h=>(h rfl).elim
 |f::r,s,h=>by
  rw[kindOf]at h;by_cases e:f.1=s
  .rw[aHT,e];exact aHJ
  .rw[aHD e]at h;exact aHC _ (abp h)
theorem aAj{fs:List bY}(h:um fs as=true):as.length<=fs.length:=by
 obtain⟨E,O⟩:=ahQ.1 h;have:=atZ (as.map λa=>a.1) (fs.map λf=>f.1) ?_ λs X=>?_
 · grind
 .unfold List.Nodup;rw[aJi];exact O.imp λ{a b} e=>Y3 e
 grind [jI,abp]
def ad7(l:List (Int×Unit)):Prop:=l.Pairwise λx y=>x.1<y.1
theorem ay3{x:Int×Unit}{r:List (Int×Unit)}{n:Int}:Gi (x::r) n=if x.1<n then x::Gi r n else if x.1=n then x::r else(n,())::x::r:=by
 grind [Gi,List.takeWhile_cons_of_pos,List.takeWhile_cons_of_neg]
theorem aqA{n:Int}:∀{l:List (Int×Unit)},ad7 l->ad7 (Gi l n)/\∀x,x∈Gi l n↔x=(n,())\/x∈l
 |[],_=>⟨aJD _ _,λx=>by show x∈[(n,())]↔_;simp⟩
 |y::r,h=>by
  obtain⟨E,O⟩:=aIl.1 h;obtain⟨f,g⟩:=aqA (n:=n) O;rw[ay3];by_cases a:y.1<n
  .rw[if_pos a];refine⟨aIl.2 ⟨λz e=>?_,f⟩,λx=>?_⟩
   · grind
   grind
  .rw[if_neg a];by_cases b:y.1=n
   · grind
   .rw[if_neg b];refine⟨aIl.2 ⟨λz e=>?_,h⟩,λx=>aHH⟩
    grind
theorem XU:∀(z:List (Int×Unit)){l:List (Int×Unit)},ad7 l->ad7 (qN l z)/\∀x,x∈qN l z↔x∈z\/x∈l
 |[],l,h=>⟨h,λx=>by simp[qN]⟩
 |y::r,l,h=>by obtain⟨E,O⟩:=aqA (n:=y.1) h;obtain⟨a,b⟩:=XU r E;refine⟨a,λx=>(b x).trans ?_⟩;rw[O,aHH];exact⟨λh=>h.elim (λh=>.inl (.inr h)) λh=>h.elim (λh=>.inl (.inl h)) .inr,λh=>h.elim (λh=>h.elim (λh=>.inr (.inl h)) .inl) λh=>.inr (.inr h)⟩
theorem avy:∀{a b:List (Int×Unit)},ad7 a->ad7 b->(∀x,x∈a↔x∈b)->a=b
 |[],[],_,_,_=>rfl
 |[],y::r,_,_,h=>by grind [List.mem_cons_self]
 |x::r,[],_,_,h=>by grind [List.mem_cons_self]
 |x::r,y::s,ha,hb,h=>by
  obtain⟨f,i⟩:=aIl.1 ha;obtain⟨g,j⟩:=aIl.1 hb;have e:x=y:=by
   rcases aHH.1 ((h x).1 aHJ)with e|e
   .exact e
   .rcases aHH.1 ((h y).2 aHJ)with e'|e'
    .exact e'.symm
    .have u:=g x e;have v:=f y e';omega
  subst e;have:r=s:=avy i j λz=>by
   constructor
   .intro hz;rcases aHH.1 ((h z).1 (aHC _ hz))with e|e
    .have:=f z hz;rw[e]at this;omega
    .exact e
   .intro hz;rcases aHH.1 ((h z).2 (aHC _ hz))with e|e
    .have:=g z hz;rw[e]at this;omega
    .exact e
  rw[this]
theorem abS{a x y:List (Int×Unit)}:ad7 (rC a x y)/\∀z,z∈rC a x y↔z∈x\/(z∈a/\bQ y z.1=false):=by
 obtain⟨E,O⟩:=XU (a.filter λz=>!bQ y z.1) (l:=[]) List.Pairwise.nil;obtain⟨b,e⟩:=XU x E;refine⟨b,λz=>(e z).trans ?_⟩
 grind
def belowD(name:Bytes)(x:aG):Bool:=Op.bytesLess x.1 name
def ay4(name:Bytes)(x:aG):Bool:=!(x.1==name)
def ay5(d:List aG)(x:aG):List aG:=d.takeWhile (belowD x.1)++x::(d.dropWhile (belowD x.1)).filter (ay4 x.1)
def at1(d:List aG)(x:aG):List aG×Bool:=bif gG d&&gG (ay5 d x)then(ay5 d x,true)else(d,false)
def became(c:nV)(s:dV)(d:List aG)(e:Bool)(a:nV)(f:List aaM)(b:Bool):Prop:=
 b=e/\(b=true->kN a=s/\kT a=d/\ru a=true/\f=aBe (apv c) (apv a))/\(b=false->a=c/\f=[])
def named(f:aF)(w:Bytes):aF:=(f.1,f.2.1,f.2.2.1,f.2.2.2.1,avU f.2.2.2.2.1 [110] 2 0 w,())
def akf(c:nV)(u id:Int):Bool:=(abk (kN c) id).2&&aAb (abk (kN c) id).1 u
def oN(b:UInt8):Bool:=decide (32<=b.toNat)&&decide (b.toNat<=126)
def ac5(s:Bytes):Bool:=s.all λb=>decide (b.toNat<128)
def wordsOf(s:Bytes):LS:=(Lib.fields s).map (·,())
def lQ(s:Bytes):Bool:=decide ((s.length:Int)<=600)&&s.all oN&&decide (((Lib.fields s).length:Int)<=24)
def iI(s:Bytes):LS:=bif lQ s then wordsOf s else[]
def mZ(s:Bytes):Int:=s.foldl (λn b=>10*n+((b.toNat:Int)-48)) 0
def bW(s:Bytes):Bool:=iC (mZ s)&&(Lib.itoa (mZ s)==s)
def parseNum(s:Bytes):Int:=bif bW s then mZ s else 0
def wordAt(w:LS)(i:Int):Bytes:=bif decide (i>=(w.length:Int))then[]else(w.getD i.toNat ([],())).1
def gI(w:LS):Bytes:=Lib.join (w.map (·.1)) [32]
def numAt(w:LS)(i:Int):Int:=parseNum (wordAt w i)
def arO(w:LS):Int×Int×Bytes×Int:=
 bif wordAt w 0==[99,111,109,109,105,116]then(1,numAt w 1,[],0)else
 bif wordAt w 0==[99,114,97,115,104]then(2,numAt w 1,[],numAt w 2)else
 bif wordAt w 0==[119,97,116,99,104]then(3,numAt w 1,wordAt w 2,0)else
 bif wordAt w 0==[112,105,110]then(4,0,[],numAt w 1)else
 bif wordAt w 0==[117,110,112,105,110]then(5,0,[],numAt w 1)else
 bif wordAt w 0==[99,111,108,108,101,99,116]then(6,0,[],0)else
 bif wordAt w 0==[97,100,100]then(7,numAt w 1,wordAt w 2,numAt w 3)else
 bif wordAt w 0==[114,101,109,111,118,101]then(8,numAt w 1,wordAt w 2,numAt w 3)else(0,0,[],0)
def aBX(x:Int×Int×Bytes×Int):Bytes:=anh x.1 x.2.1 0 x.2.2.1 x.2.2.2
theorem aAk(u:Nat):Lib.itoa (u:Int)=Lib.decDigits u:=by grind [Lib.itoa]
theorem Rk(s:Bytes)(d:UInt8):mZ (s++[d])=10*mZ s+((d.toNat:Int)-48):=by grind [mZ]
theorem byte_of(d:Nat)(h:d<10):(UInt8.ofNat (48+d)).toNat=48+d:=by rw[UInt8.toNat_ofNat'];omega
theorem Zg(s:List UInt8):∀(b:Nat)(n:Nat),Lib.decFrom b s=some n->∀d,d<10->Lib.decFrom b (s++[UInt8.ofNat (48+d)])=some (n*10+d):=by
 intro b n h d e
 induction s generalizing b with
 |nil=>
  have:∀d:Fin 10,Lib.digitVal (UInt8.ofNat (48+d.val))=some d.val:=lZ;have O:=this ⟨d,e⟩
  grind [Lib.decFrom]
 |cons a r ih=>
  grind [Lib.decFrom]
theorem Rl:∀(k u:Nat),u<10 ^ (k+1)->mZ (Lib.decDigits u)=u/\Lib.decFrom 0 (Lib.decDigits u)=some u/\(∀b∈Lib.decDigits u,48<=b.toNat/\b.toNat<=57)/\Lib.decDigits u≠[]/\(Lib.decDigits u).length<=k+1
 |0,u,h=>by
  rw[Lib.decDigits_one h];have J:=byte_of u h;have:=Zg [] 0 0 rfl u h;refine⟨?_,?_,λb a=>?_,List.cons_ne_nil _ _,aHv _⟩
  .show 10*0+_=_;omega
  · grind
  grind
 |k+1,u,h=>by
  by_cases E:u<10
  .have:=Rl 0 u (by simpa using E)
   grind
  .have hd:u / 10<10 ^ (k+1):=lu;obtain⟨i,g,j,n,o⟩:=Rl k (u / 10) hd;have e:Lib.decDigits u=Lib.decDigits (u / 10)++[UInt8.ofNat (48+u%10)]:=by
    grind [Lib.decDigits]
   have a:u%10<10:=Nat.mod_lt _ lZ;have J:=byte_of (u%10) a;rw[e];refine⟨by grind [Rk],?_,λb f=>?_,vk,KW⟩
   .rw[Zg _ _ _ g _ a];congr 1;omega
   grind
theorem lU{n:Int}:iC n=true↔0<=n/\n<=1000000000:=by
 grind [iC]
theorem jV{n:Int}(h:iC n=true):mZ (Lib.itoa n)=n/\Lib.atoi (Lib.itoa n)=some n/\(∀b∈Lib.itoa n,48<=b.toNat/\b.toNat<=57)/\Lib.itoa n≠[]/\(Lib.itoa n).length<=10:=by
 obtain⟨S,E⟩:=lU.1 h;obtain⟨u,rfl⟩:=Int.eq_ofNat_of_zero_le S;have a:u<10 ^ (9+1):=lu;rw[aAk];obtain⟨j,o,q,s,t⟩:=Rl 9 u a;cases i:Lib.decDigits u with
 |nil=>grind
 |cons b r=>
  have g:(b==45)=false:=by rw[aHt];intro e;simp_all
  have f:(b==43)=false:=by rw[aHt];intro e;simp_all
  grind [Lib.atoi,Lib.decNat]
theorem Qh{s:Bytes}:bW s=true↔iC (mZ s)=true/\Lib.itoa (mZ s)=s:=by
 grind [bW]
theorem ZQ{s:Bytes}{n:Int}(h:iC n=true)(e:Lib.itoa n=s):bW s=true/\parseNum s=n:=by
 grind [jV,Qh,parseNum]
theorem Fj{n:Int}(h:iC n=true):bW (Lib.itoa n)=true/\parseNum (Lib.itoa n)=n:=ZQ h rfl
theorem kV{s:Bytes}(h:bW s=true):Lib.itoa (parseNum s)=s/\iC (parseNum s)=true:=by
 grind [parseNum,Qh]
theorem FI(s:Bytes):iC (parseNum s)=true:=by
 cases h:bW s with
 |true=>exact(kV h).2
 |false=>unfold parseNum;rw[h];rfl
theorem F7{s:Bytes}(h:bW s=false):parseNum s=0:=by grind [parseNum]
theorem aru{s:Bytes}(h:bW s=true):s.length<=10:=by
 have:=(jV (kV h).2).2.2.2.2
 grind [kV]
theorem adO{s:Bytes}(h:10<s.length):bW s=false:=by
 grind [aru]
theorem Zh{s:Bytes}(h:bW s=true):∀b∈s,48<=b.toNat/\b.toNat<=57:=by
 have:=(jV (kV h).2).2.2.1
 grind [kV]
def abq(x:Bytes):Prop:=x≠[]/\∀b∈x,Lib.isSp b=false
theorem Rn:∀(x R l:Bytes),(∀b∈x,Lib.isSp b=false)->Lib.fieldsGo R (x++l)=Lib.fieldsGo (R++x) l
 |[],R,l,_=>ny
 |b::x,R,l,h=>by rw[aIC,Lib.fieldsGo_more _ _ _ (h b aHJ),Rn x _ l (λc L=>h c (aHC _ L)),aHO];rfl
theorem ab2:∀(r:List Bytes)(x:Bytes),x≠[]->(∀y∈r,abq y)->Lib.fieldsGo x (Lib.joinTail [32] r)=x::r
 |[],x,hx,_=>by
  grind [Lib.joinTail,Lib.fieldsGo]
 |y::r,x,hx,h=>by
  have B:=h y aHJ;have e:Lib.joinTail [32] (y::r)=32::(y++Lib.joinTail [32] r):=by simp[Lib.joinTail]
  rw[e,Lib.fieldsGo_end x 32 _ lZ hx,Rn y [] _ B.2,aIG,ab2 r y B.1 λz a=>h z (aHC _ a)]
theorem ahR:∀a:List Bytes,(∀x∈a,abq x)->Lib.fields (Lib.join a [32])=a
 |[],_=>rfl
 |x::r,h=>by have Z:=h x aHJ;unfold Lib.fields;rw[Lib.join_cons,Rn x [] _ Z.2,aIG,ab2 r x Z.1 λz b=>h z (aHC _ b)]
theorem map_unit:∀w:LS,(w.map (·.1)).map (·,())=w
 |[]=>rfl
 |(_,())::r=>by rw[aHT,aHT,map_unit r]
theorem at6(a:List Bytes)(h:∀x∈a,abq x):wordsOf (Lib.join a [32])=a.map (·,()):=by grind [wordsOf,ahR]
theorem ann{n:Int}(h:iC n=true):abq (Lib.itoa n):=by
 obtain⟨_,_,U,j,_⟩:=jV h;refine⟨j,λb J=>?_⟩;unfold Lib.isSp;have a:∀c:UInt8,c.toNat<48->(b==c)=false:=λc L=>ny
 simp_all
theorem au3{s:Bytes}(h:bK s=true):abq s:=by
 unfold bK lower at h;refine⟨λe=>ny,λb J=>?_⟩;unfold Lib.isSp;have a:∀c:UInt8,c.toNat<97->(b==c)=false:=λc L=>ny
 simp_all
def aAl:Bytes:=[99,111,109,109,105,116]
def aBY:Bytes:=[99,114,97,115,104]
def aBZ:Bytes:=[119,97,116,99,104]
def aEq:Bytes:=[112,105,110]
def aB0:Bytes:=[117,110,112,105,110]
def ay6:Bytes:=[99,111,108,108,101,99,116]
def aEr:Bytes:=[97,100,100]
def aAm:Bytes:=[114,101,109,111,118,101]
theorem aa1(x y:Bytes):Lib.join [x,y] [32]=x++32::y:=by rw[Lib.join_cons];simp[Lib.joinTail]
theorem amQ(x y z:Bytes):Lib.join [x,y,z] [32]=x++32::(y++32::z):=by rw[Lib.join_cons];simp[Lib.joinTail]
theorem aAn(w:LS):arO w=
 (bif wordAt w 0==aAl then(1,numAt w 1,[],0)else bif wordAt w 0==aBY then(2,numAt w 1,[],numAt w 2)else bif wordAt w 0==aBZ then(3,numAt w 1,wordAt w 2,0)else
   bif wordAt w 0==aEq then(4,0,[],numAt w 1)else bif wordAt w 0==aB0 then(5,0,[],numAt w 1)else bif wordAt w 0==ay6 then(6,0,[],0)else
   bif wordAt w 0==aEr then(7,numAt w 1,wordAt w 2,numAt w 3)else bif wordAt w 0==aAm then(8,numAt w 1,wordAt w 2,numAt w 3)else(0,0,[],0)):=rfl
theorem YI(w:LS)(i:Int)(h:wordAt w i=Lib.itoa (numAt w i)):bW (wordAt w i)=true:=by rw[h];exact(Fj (FI _)).1
theorem axd(b:UInt8):(decide ((32:Int)<=IntKind.i64.wrap (b.toNat:Int))&&decide (IntKind.i64.wrap (b.toNat:Int)<=126))=oN b:=by
 have e:IntKind.i64.wrap (b.toNat:Int)=b.toNat:=by rw[IntKind.wrap_i64];have:=b.toNat_lt;omega
 grind [oN]
theorem Fb{b:UInt8}:oN b=true↔32<=b.toNat/\b.toNat<=126:=by grind [oN]
theorem atA{p:UInt8->Bool}{s:Bytes}(h:∀i,i<s.length->p (s.getD i 0)=true):s.all p=true:=by
 grind [List.mem_iff_getElem]
theorem ajQ{p:UInt8->Bool}{s:Bytes}(h:s.all p=true){i:Nat}(D:i<s.length):p (s.getD i 0)=true:=by
 grind
theorem apw{b:UInt8}(h:oN b=true):Lib.isSp b=(b==32):=by
 have h:=Fb.1 h;unfold Lib.isSp;have a:∀c:UInt8,c.toNat<32->(b==c)=false:=λc L=>ny
 simp_all
theorem az3{s:Bytes}(h:s.all oN=true):ac5 s=true:=by
 grind [ac5,Fb]
theorem uN{s:Bytes}:lQ s=true↔s.length<=600/\s.all oN=true/\(Lib.fields s).length<=24:=by
 grind [lQ]
theorem aqp{s:Bytes}(h:lQ s=true):(iI s,lQ s,())=(wordsOf s,true,()):=by grind [iI]
theorem Md{s:Bytes}(h:¬(s.length<=600/\s.all oN=true/\(Lib.fields s).length<=24)):(iI s,lQ s,())=(([]:LS),false,()):=by
 grind [uN,iI]
theorem yx(s:Bytes):(wordsOf s).length=(Lib.fields s).length:=by grind [wordsOf]
def splitAt(s:Bytes)(n b:Nat)(out:LS):Prop:=
 b<=n/\n<=s.length+1/\out.length<=n/\(∀i,i<n->i<s.length->oN (s.getD i 0)=true)/\
 (n<=s.length->out.map (·.1)++Lib.fieldsGo ((s.take n).drop b) (s.drop n)=Lib.fields s)/\(n=s.length+1->out.map (·.1)=Lib.fields s)
theorem atw(s:Bytes):splitAt s 0 0 []:=⟨aHv _,aHV _,aHv _,λi D=>absurd D (aIg _),λ_=>by simp[Lib.fields],λh=>lu⟩
variable {n:Nat}
theorem atz{s:Bytes}{b:Nat}{out:LS}(h:splitAt s n b out)(H:n<s.length)(F:oN (s.getD n 0)=true)(L:s.getD n 0≠32):splitAt s (n+1) b out:=by
 obtain⟨E,O,U,j,M,e⟩:=h;refine⟨lu,lu,lu,λi D a=>?_,λ_=>?_,λh=>lu⟩
 · grind
 grind [Fw.drop_cons,Lib.fieldsGo_more,apw]
theorem atx{s:Bytes}{b:Nat}{out:LS}(h:splitAt s n b out)(H:n<=s.length)(J:b<n)(F:n<s.length->oN (s.getD n 0)=true/\s.getD n 0=32):
 splitAt s (n+1) (n+1) (out++[((s.take n).drop b,())]):=by
 obtain⟨E,O,U,j,M,g⟩:=h;have f:(s.take n).drop b≠[]:=λe=>by
  have:=congrArg List.length e
  grind
 refine⟨aHv _,lu,KW,λi D a=>?_,λQ=>?_,λQ=>?_⟩
 · grind
 · grind [Fw.drop_cons,Lib.fieldsGo_end,apw]
 grind [Lib.fieldsGo]
theorem aty{s:Bytes}{b:Nat}{out:LS}(h:splitAt s n b out)(H:n<=s.length)(J:¬b<n)(F:n<s.length->oN (s.getD n 0)=true/\s.getD n 0=32):splitAt s (n+1) (n+1) out:=by
 obtain⟨E,O,U,j,M,e⟩:=h;refine⟨aHv _,lu,lu,λi D a=>?_,λQ=>?_,λQ=>?_⟩
 · grind
 · grind [Fw.drop_cons,Lib.fieldsGo_sp,apw]
 grind [Lib.fieldsGo]
theorem auX{s:Bytes}{b:Nat}{out:LS}(h:splitAt s (s.length+1) b out):s.all oN=true/\out=wordsOf s:=by
 obtain⟨E,O,U,j,M,a⟩:=h;refine⟨atA λi D=>j i lu D,?_⟩
 grind [wordsOf,map_unit]
def apx(s:Bytes):Prop:=∀b∈s,48<=b.toNat/\b.toNat<=57
theorem UU:∀(k:Nat)(s:Bytes),s.length=k->apx s->0<=mZ s/\mZ s<(10:Int) ^ k
 |0,s,h,_=>by rw[aH0.1 h];exact⟨aIe _,lZ⟩
 |k+1,s,h,hd=>by
  have e:s=s.take k++[s[k]' lu]:=by
   grind [List.take_append_drop,List.drop_eq_getElem_cons]
  have a:apx (s.take k):=λb J=>hd b (aI7 J);obtain⟨f,g⟩:=UU k (s.take k) ny a;have J:=hd _ (aJs (by omega:k<s.length))
  grind [Rk]
theorem auW{s:Bytes}(H:n<s.length):mZ (s.take (n+1))=10*mZ (s.take n)+(((s.getD n 0).toNat:Int)-48):=by
 grind [List.take_add_one,Rk]
theorem atv{s:Bytes}(H:n<s.length)(Q:s.length<=10)(a:∀i,i<n->48<=(s.getD i 0).toNat/\(s.getD i 0).toNat<=57):0<=mZ (s.take n)/\mZ (s.take n)<1000000000:=by
 have a:apx (s.take n):=by
  intro b J
  grind [List.mem_iff_getElem]
 obtain⟨E,O⟩:=UU n (s.take n) ny a;refine⟨E,Int.lt_of_lt_of_le O ?_⟩;have:n<=9:=lu
 match n,this with
 |0,_|1,_|2,_|3,_|4,_|5,_|6,_|7,_|8,_|9,_=>decide
theorem WI{s:Bytes}{i:Nat}(D:i<s.length)(h:¬(48<=(s.getD i 0).toNat/\(s.getD i 0).toNat<=57)):bW s=false:=by
 grind [Zh]
theorem UR{s:Bytes}(h:bW s=false):((0:Int),false,())=(parseNum s,bW s,()):=by rw[F7 h,h]
theorem axc{p:LS}(H:n<p.length):gI (p.take (n+1))=(if n=0 then[]else gI (p.take n)++[32])++(p.getD n ([],())).1:=by
 cases p with
 |nil=>cases H
 |cons x r=>
  unfold gI;cases n with
  |zero=>simp[Lib.join_one]
  |succ n=>
   grind [Lib.join_cons,List.map_take,Lib.joinTail_take_succ]
theorem arl:∀(p:LS)(n:Nat),(gI (p.take n)).length<=(gI p).length
 |[],n=>vk
 |x::r,0=>by simp[gI,Lib.join_nil]
 |x::r,n+1=>by
  grind [gI,Lib.join_cons,List.map_take,Lib.joinTail_take_le]
variable {w:LS}
theorem xB{i:Int}(h:i<(w.length:Int)):wordAt w i=(w.getD i.toNat ([],())).1:=by grind [wordAt]
theorem xC{i:Int}(h:i>=(w.length:Int)):wordAt w i=[]:=by grind [wordAt]
theorem F9{b:Bool}{x y:Bytes}(E:b=true->x.length<=60)(O:y.length<=60):(bif b then x else y).length<=60:=by
 grind
theorem uy{n:Bytes}(h:bK n=true):n.length<=6:=by
 grind [bK]
theorem arv(k u:Int)(b:Nat)(n:Bytes)(a:Int):(anh k u b n a).length<=60:=by
 have z:([]:Bytes).length<=60:=lZ;have D:∀m:Int,iC m=true->(Lib.itoa m).length<=10:=λm h=>(jV h).2.2.2.2;refine F9 (λ_=>z) (F9 (λ_=>z) (F9 (λh=>?_) (F9 (λh=>?_) (F9 (λh=>?_) (F9 (λh=>?_) (F9 (λh=>?_) (F9 (λh=>?_) (F9 (λh=>?_) (F9 (λh=>?_) z)))))))))
 all_goals simp only[aHu,aHx,aHG]
 · grind
 · grind
 · grind [uy]
 · grind
 · grind
 .omega
 · grind [uy]
 grind [uy]
theorem Qk:∀(l R:Bytes)(x:Bytes),x∈Lib.fieldsGo R l->x.length<=R.length+l.length
 |[],R,x,h=>by
  grind [Lib.fieldsGo]
 |b::l,R,x,h=>by
  rw[Lib.fieldsGo]at h;split at h
  .split at h
   .have:=Qk l [] x h;grind
   .rcases aHH.1 h with rfl|h
    .simp
    .have:=Qk l [] x h;grind
  .have:=Qk l (R++[b]) x h
   grind
theorem aaf{s:Bytes}:∀x∈wordsOf s,x.1.length<=s.length:=by
 intro x Z;obtain⟨y,B,rfl⟩:=aIo.1 Z;have:=Qk s [] y B
 grind
theorem Iu(h:∀x∈w,x.1.length<=m)(i:Int):(wordAt w i).length<=m:=by
 grind [wordAt]
theorem arw(h:∀x∈w,x.1.length<=m):(arO w).2.2.1.length<=m:=by
 grind [aAn,wordAt]
theorem ahS{m:Nat}:∀r:List Bytes,(∀x∈r,x.length<=m)->(Lib.joinTail [32] r).length<=r.length*(m+1)
 |[],_=>aHV _
 |x::r,h=>by
  have e:Lib.joinTail [32] (x::r)=[32]++(x++Lib.joinTail [32] r):=by simp[Lib.joinTail]
  have O:=ahS r λy B=>h y (aHC _ B)
  grind [Nat.add_mul]
theorem atb(h:∀x∈w,x.1.length<=m):(gI w).length<=w.length*(m+1):=by
 cases w with
 |nil=>exact aHV _
 |cons x r=>
  unfold gI;rw[aHT,Lib.join_cons,aHu];have O:=ahS (m:=m) (r.map (·.1)) λy B=>ny
  grind [Nat.add_mul]
theorem ahH{s:Bytes}(h:lQ s=true):iI s=wordsOf s/\(wordsOf s).length<=1000/\(gI (wordsOf s)).length<=2097152/\(arO (wordsOf s)).2.2.1.length<=1048576/\(aBX (arO (wordsOf s))).length<=1048576:=by
 obtain⟨E,_,U⟩:=uN.1 h;have a:∀x∈wordsOf s,x.1.length<=600:=λx Z=>aHw (aaf x Z) E;have Q:(wordsOf s).length<=24:=by grind [yx]
 refine⟨by grind [iI],lu,?_,aHw (arw a) lu,aHw (arv _ _ _ _ _) lu⟩;have:=atb a;omega
inductive QT where
 |leaf (n:aA)
 |neg (t:QT)
 |two (op:Int) (a b:QT)
def iU(op:Int):Bytes:=
 bif op==1 then[97,108,108]else bif op==2 then[104,97,115]else bif op==3 then[101,113]else bif op==4 then[108,116]else
 bif op==5 then[110,111,116]else bif op==6 then[97,110,100]else bif op==7 then[111,114]else bif op==8 then[105,110]else
 bif op==9 then[108,105,110,107,101,100]else[63]
def dX(w:Bytes):Int:=
 bif w==[97,108,108]then 1 else bif w==[104,97,115]then 2 else bif w==[101,113]then 3 else bif w==[108,116]then 4 else
 bif w==[110,111,116]then 5 else bif w==[97,110,100]then 6 else bif w==[111,114]then 7 else bif w==[105,110]then 8 else
 bif w==[108,105,110,107,101,100]then 9 else 0
def bU(s:Bytes):Iz×Bool:=
 bif bW s then(bif decide (parseNum s<=999)then((1,parseNum s,[],()),true)else((0,0,[],()),false))
 else bif s==[45]then((0,0,[],()),true)else bif bK s then((2,0,s,()),true)else((0,0,[],()),false)
def dM(v:Iz):Bytes:=
 bif !dB v.1 v.2.1 v.2.2.1 then[63]else bif v.1==1 then Lib.itoa v.2.1 else bif v.1==2 then v.2.2.1 else[45]
def QT.size:QT->Nat
 |.leaf _=>1
 |.neg t=>t.size+1
 |.two _ a b=>a.size+b.size+1
def post:QT->Nat->List aA
 |.leaf n,_=>[n]
 |.neg t,b=>post t b++[(5,((b+t.size:Nat):Int)-1,0,[],0,0,[],())]
 |.two op x y,b=>post x b++(post y (b+x.size)++[(op,((b+x.size:Nat):Int)-1,((b+x.size+y.size:Nat):Int)-1,[],0,0,[],())])
def kP(n:aA):List Bytes:=
 iU n.1::(bif n.1==2||(n.1==8||n.1==9)then[n.2.2.2.1]else bif n.1==3||n.1==4 then[n.2.2.2.1,dM n.2.2.2.2]else[])
def bf:QT->List Bytes
 |.leaf n=>kP n
 |.neg t=>iU 5::bf t
 |.two op a b=>iU op::(bf a++bf b)
def ls(w:List Bytes):LS:=w.map (·,())
def zo:QT->Prop
 |.leaf n=>n.1=1\/n.1=2\/n.1=3\/n.1=4\/n.1=8\/n.1=9
 |.neg t=>zo t
 |.two op a b=>(op=6\/op=7)/\zo a/\zo b
def Ec:QT->Prop
 |.leaf n=>fH n 0=true
 |.neg t=>Ec t
 |.two _ a b=>Ec a/\Ec b
theorem gV:∀(t:QT)(b:Nat),(post t b).length=t.size
 |.leaf _,_=>rfl
 |.neg t,b=>by rw[post,aHu,gV t b];rfl
 |.two op x y,b=>by rw[post,aHu,aHu,gV x b,gV y];rw[QT.size,aHx,aHG];omega
theorem size_pos:∀t:QT,0<t.size
 |.leaf _=>Nat.one_pos
 |.neg _=>aIx _
 |.two _ _ _=>aIx _
theorem Fe(w:Bytes):dX w=0\/((dX w=1\/dX w=2\/dX w=3\/dX w=4\/dX w=5\/dX w=6\/dX w=7\/dX w=8\/dX w=9)/\iU (dX w)=w):=by
 unfold dX;cases E:w==[97,108,108]with
 |true=>right;rw[aHE.1 E];decide
 |false=>
 cases O:w==[104,97,115]with
 |true=>right;rw[aHE.1 O];decide
 |false=>
 cases U:w==[101,113]with
 |true=>right;rw[aHE.1 U];decide
 |false=>
 cases j:w==[108,116]with
 |true=>right;rw[aHE.1 j];decide
 |false=>
 cases M:w==[110,111,116]with
 |true=>right;rw[aHE.1 M];decide
 |false=>
 cases a:w==[97,110,100]with
 |true=>right;rw[aHE.1 a];decide
 |false=>
 cases b:w==[111,114]with
 |true=>right;rw[aHE.1 b];decide
 |false=>
 cases e:w==[105,110]with
 |true=>right;rw[aHE.1 e];decide
 |false=>
 cases f:w==[108,105,110,107,101,100]with
 |true=>right;rw[aHE.1 f];decide
 |false=>left;rfl
variable {op:Int}
theorem D8(h:op=1\/op=2\/op=3\/op=4\/op=5\/op=6\/op=7\/op=8\/op=9):dX (iU op)=op:=by rcases h with rfl|rfl|rfl|rfl|rfl|rfl|rfl|rfl|rfl<;>decide
theorem aAo:dX []=0:=lZ
def rd:Nat->LS->List aA->Bool×LS×List aA
 |0,w,q=>(false,w,q)
 |k+1,w,q=>
  bif dX (wordAt w 0)==2||(dX (wordAt w 0)==8||dX (wordAt w 0)==9)then(true,(w.drop 1).drop 1,q++[(dX (wordAt w 0),0,0,wordAt (w.drop 1) 0,0,0,[],())])
  else bif dX (wordAt w 0)==3||dX (wordAt w 0)==4 then
   ((bU (wordAt ((w.drop 1).drop 1) 0)).2,((w.drop 1).drop 1).drop 1,q++[(dX (wordAt w 0),0,0,wordAt (w.drop 1) 0,(bU (wordAt ((w.drop 1).drop 1) 0)).1)])
  else bif dX (wordAt w 0)==5 then
   ((rd k (w.drop 1) q).1,(rd k (w.drop 1) q).2.1,(rd k (w.drop 1) q).2.2++[(5,((rd k (w.drop 1) q).2.2.length:Int)-1,0,[],0,0,[],())])
  else bif dX (wordAt w 0)==6||dX (wordAt w 0)==7 then
   (bif (rd k (w.drop 1) q).1 then
     ((rd k (rd k (w.drop 1) q).2.1 (rd k (w.drop 1) q).2.2).1,(rd k (rd k (w.drop 1) q).2.1 (rd k (w.drop 1) q).2.2).2.1,
       (rd k (rd k (w.drop 1) q).2.1 (rd k (w.drop 1) q).2.2).2.2++[(dX (wordAt w 0),((rd k (w.drop 1) q).2.2.length:Int)-1,((rd k (rd k (w.drop 1) q).2.1 (rd k (w.drop 1) q).2.2).2.2.length:Int)-1,[],0,0,[],())])
   else(false,(rd k (w.drop 1) q).2.1,(rd k (w.drop 1) q).2.2++[(dX (wordAt w 0),((rd k (w.drop 1) q).2.2.length:Int)-1,((rd k (w.drop 1) q).2.2.length:Int)-1,[],0,0,[],())]))
  else(!(dX (wordAt w 0)==0),w.drop 1,q++[(dX (wordAt w 0),0,0,[],0,0,[],())])
theorem abr(i:Int)(h:0<=i):wordAt [] i=[]:=xC y7
theorem gy(x:Bytes×Unit)(w:LS):wordAt (x::w) 0=x.1:=by
 grind [xB]
theorem afL(h:dX (wordAt w 0)≠0):∃r,w=(iU (dX (wordAt w 0)),())::r/\w.drop 1=r:=by
 cases w with
 |nil=>grind [abr,aAo]
 |cons x r=>
  grind [Fe,gy]
theorem UY:∀(k:Nat)(w:LS)(q:List aA),(rd k w q).2.1.length<=w.length
 |0,w,q=>aHv _
 |k+1,w,q=>by
  have E:=UY k (w.drop 1) q;have O:=UY k (rd k (w.drop 1) q).2.1 (rd k (w.drop 1) q).2.2;have U:(w.drop 1).length<=w.length:=an9;rw[rd];cases dX (wordAt w 0)==2||(dX (wordAt w 0)==8||dX (wordAt w 0)==9)with
  |true=>show((w.drop 1).drop 1).length<=_;rw[aH7];omega
  |false=>
  cases dX (wordAt w 0)==3||dX (wordAt w 0)==4 with
  |true=>show(((w.drop 1).drop 1).drop 1).length<=_;rw[aH7,aH7];omega
  |false=>
  cases dX (wordAt w 0)==5 with
  |true=>exact aHw E U
  |false=>
  cases dX (wordAt w 0)==6||dX (wordAt w 0)==7 with
  |true=>
   cases (rd k (w.drop 1) q).1 with
   |true=>exact aHw O (aHw E U)
   |false=>exact aHw E U
  |false=>exact U
variable {v:Iz}
theorem axr(h:dB v.1 v.2.1 v.2.2.1=true)(S:v.1≠0):(∃n,v=(1,n,[],())/\0<=n/\n<=999)\/∃s,v=(2,0,s,())/\bK s=true:=by
 grind [dB]
theorem axs{s:Bytes}(h:bK s=true):∃b r,s=b::r/\97<=b.toNat:=by
 unfold bK at h;cases s with
 |nil=>grind
 |cons b r=>
  grind [lower]
theorem arx{s:Bytes}(h:bK s=true):bW s=false/\(s==[45])=false:=by
 obtain⟨b,r,rfl,J⟩:=axs h;refine⟨?_,?_⟩
 · grind [Zh]
 .rw[aHt];intro e
  simp_all
theorem ahT:bW []=false:=by
 cases h:bW []with
 |false=>rfl
 |true=>obtain⟨a,b⟩:=kV h;exact((ann b).1 a).elim
theorem XV(h:dB v.1 v.2.1 v.2.2.1=true)(S:v.1≠0):bU (dM v)=(v,true):=by
 grind [dM,axr,bU,iC,Fj,arx]
theorem ahU{s:Bytes}(h:dB (bU s).1.1 (bU s).1.2.1 (bU s).1.2.2.1=true)(S:(bU s).1.1≠0):(bU s).2=true/\dM (bU s).1=s:=by
 grind [dM,bU,kV]
theorem apy{s:Bytes}(h:dP s=true):s≠[]:=by rintro rfl;exact absurd h lZ
theorem at7{s:Bytes}(h:bK s=true):s≠[]:=by rintro rfl;exact absurd h lZ
theorem Bf{n:aA}{a:Int}(h:fH n a=true)(x:n.1=1\/n.1=2\/n.1=3\/n.1=4\/n.1=8\/n.1=9):
 n=(1,0,0,[],0,0,[],())\/(∃op s,n=(op,0,0,s,0,0,[],())/\(op=2\/op=8\/op=9)/\s≠[])\/
 ∃op s v,n=(op,0,0,s,v)/\(op=3\/op=4)/\s≠[]/\dB v.1 v.2.1 v.2.2.1=true/\v.1≠0:=by
 obtain⟨op,l,r,s,k,m,t,⟨⟩⟩:=n;rcases x with rfl|rfl|rfl|rfl|rfl|rfl
 .left;have h:((l==0&&r==0)&&(s==[]&&(k==0&&(m==0&&t==[]))))=true:=h
  grind
 .right;left;have h:((l==0&&r==0)&&(k==0&&(m==0&&t==[]))&&dP s)=true:=h
  grind [apy]
 .right;right;have h:((l==0&&r==0)&&dP s&&dB k m t&&!(k==0))=true:=h
  grind [apy]
 .right;right;have h:((l==0&&r==0)&&dP s&&dB k m t&&k==1)=true:=h
  grind [apy]
 .right;left;have h:((l==0&&r==0)&&(k==0&&(m==0&&t==[]))&&bK s)=true:=h
  grind [at7]
 .right;left;have h:((l==0&&r==0)&&(k==0&&(m==0&&t==[]))&&bK s)=true:=h
  grind [at7]
theorem Ql(h:wordAt w 0≠[]):w=(wordAt w 0,())::w.drop 1:=by
 cases w with
 |nil=>grind [abr]
 |cons x r=>grind [gy]
theorem afP:∀(k:Nat)(w:LS)(q:List aA),(rd k w q).1=true->∃t,zo t/\(rd k w q).2.2=q++post t q.length/\(Ec t->w=ls (bf t)++(rd k w q).2.1)
 |0,w,q,h=>zH
 |k+1,w,q,h=>by
  by_cases S:dX (wordAt w 0)=0
  · grind [rd]
  obtain⟨r,e,T⟩:=afL S;rcases Fe (wordAt w 0)with c|⟨c,_⟩
  .omega
  rw[rd]at h ⊢;rw[T]at h ⊢;generalize dX (wordAt w 0)=op at h c e S ⊢;have i:op=2\/op=8\/op=9->∃t,zo t/\q++[(op,0,0,wordAt r 0,0,0,[],())]=q++post t q.length/\(Ec t->w=ls (bf t)++r.drop 1):=λc=>by
   refine⟨.leaf (op,0,0,wordAt r 0,0,0,[],()),?_,rfl,λa=>?_⟩
   .show op=1\/op=2\/op=3\/op=4\/op=8\/op=9;omega
   .have hn:wordAt r 0≠[]:=by
     rcases Bf a lu with x|⟨_,s,x,_,hs⟩|⟨op',s,v,x,hop,_⟩
     · grind
     · grind
     grind
    rw[e,Ql hn];have J:(op==2||(op==8||op==9))=true:=by rcases c with rfl|rfl|rfl<;>rfl
    show _=ls (iU op::(bif op==2||(op==8||op==9)then[wordAt ((wordAt r 0,())::r.drop 1) 0]else _))++_;rw[J,gy];rfl
  have j:op=3\/op=4->∃t,zo t/\q++[(op,0,0,wordAt r 0,(bU (wordAt (r.drop 1) 0)).1)]=q++post t q.length/\(Ec t->w=ls (bf t)++(r.drop 1).drop 1):=λc=>by
   refine⟨.leaf (op,0,0,wordAt r 0,(bU (wordAt (r.drop 1) 0)).1),?_,rfl,λa=>?_⟩
   .show op=1\/op=2\/op=3\/op=4\/op=8\/op=9;omega
   .have hn:wordAt r 0≠[]/\(bU (wordAt (r.drop 1) 0)).2=true/\dM (bU (wordAt (r.drop 1) 0)).1=wordAt (r.drop 1) 0:=by
     rcases Bf a lu with x|⟨op',s,x,hop,hs⟩|⟨op',s,v,x,hop,hs,hv,h1⟩
     · grind
     · grind
     grind [ahU]
    have B:wordAt (r.drop 1) 0≠[]:=λF=>by
     have:(bU []).2=false:=by unfold bU;rw[ahT];rfl
     grind
    have J:(op==2||(op==8||op==9))=false:=apD;have b:(op==3||op==4)=true:=apD;have u:r=(wordAt r 0,())::(wordAt (r.drop 1) 0,())::(r.drop 1).drop 1:=by
     grind [Ql]
    show _=ls (iU op::(bif op==2||(op==8||op==9)then _ else bif op==3||op==4 then[wordAt r 0,dM (bU (wordAt (r.drop 1) 0)).1]else _))++_;rw[J,b,hn.2.2];exact e.trans (congrArg _ u)
  have o:(op=6\/op=7)->(rd k r q).1=true->(rd k (rd k r q).2.1 (rd k r q).2.2).1=true->∃t,zo t/\(rd k (rd k r q).2.1 (rd k r q).2.2).2.2++[(op,((rd k r q).2.2.length:Int)-1,((rd k (rd k r q).2.1 (rd k r q).2.2).2.2.length:Int)-1,[],0,0,[],())]=q++post t q.length/\(Ec t->w=ls (bf t)++(rd k (rd k r q).2.1 (rd k r q).2.2).2.1):=λc z A=>by
   obtain⟨x,f,D,g⟩:=afP k r q z;obtain⟨y,E,I,K⟩:=afP k _ _ A;have C:(rd k r q).2.2.length=q.length+x.size:=akT;have H:(rd k (rd k r q).2.1 (rd k r q).2.2).2.2.length=q.length+x.size+y.size:=akT;refine⟨.two op x y,⟨c,f,E⟩,?_,λa=>?_⟩
   · grind [post]
   grind [Ec,ls,bf]
  rcases c with rfl|rfl|rfl|rfl|rfl|rfl|rfl|rfl|rfl
  .refine⟨.leaf (1,0,0,[],0,0,[],()),.inl rfl,rfl,λ_=>?_⟩;rw[e];rfl
  · grind
  · grind
  · grind
  .obtain⟨x,f,D,g⟩:=afP k r q h;have C:(rd k r q).2.2.length=q.length+x.size:=akT;refine⟨.neg x,f,?_,λa=>?_⟩
   · grind [post]
   .rw[e];exact congrArg _ (g a)
  · grind
  · grind
  · grind
  grind
theorem aC6(k:Nat)(r:LS)(q:List aA):rd (k+1) ((iU 1,())::r) q=(true,r,q++[(1,0,0,[],0,0,[],())]):=by
 simp_all [rd,gy,D8]
theorem aB1(c:op=2\/op=8\/op=9)(k:Nat)(r:LS)(q:List aA):rd (k+1) ((iU op,())::r) q=(true,r.drop 1,q++[(op,0,0,wordAt r 0,0,0,[],())]):=by
 grind [rd,gy,D8]
theorem rd_val(c:op=3\/op=4)(k:Nat)(r:LS)(q:List aA):rd (k+1) ((iU op,())::r) q=((bU (wordAt (r.drop 1) 0)).2,(r.drop 1).drop 1,q++[(op,0,0,wordAt r 0,(bU (wordAt (r.drop 1) 0)).1)]):=by
 grind [rd,gy,D8]
theorem rd_not(k:Nat)(r:LS)(q:List aA):rd (k+1) ((iU 5,())::r) q=((rd k r q).1,(rd k r q).2.1,(rd k r q).2.2++[(5,((rd k r q).2.2.length:Int)-1,0,[],0,0,[],())]):=by
 grind [rd,gy,D8]
theorem aC7(c:op=6\/op=7)(k:Nat)(r:LS)(q:List aA)(h:(rd k r q).1=true):rd (k+1) ((iU op,())::r) q=
 ((rd k (rd k r q).2.1 (rd k r q).2.2).1,(rd k (rd k r q).2.1 (rd k r q).2.2).2.1,(rd k (rd k r q).2.1 (rd k r q).2.2).2.2++[(op,((rd k r q).2.2.length:Int)-1,((rd k (rd k r q).2.1 (rd k r q).2.2).2.2.length:Int)-1,[],0,0,[],())]):=by
 grind [rd,gy,D8]
theorem aua(x:Bytes)(a b:List Bytes)(r:LS):ls (x::(a++b))++r=(x,())::(ls a++(ls b++r)):=by
 grind [ls]
theorem JI{s:Bytes}(c:op=2\/op=8\/op=9):kP (op,0,0,s,0,0,[],())=[iU op,s]:=by rcases c with rfl|rfl|rfl<;>rfl
theorem MZ{s:Bytes}(c:op=3\/op=4):kP (op,0,0,s,v)=[iU op,s,dM v]:=apD
theorem U3:∀(t:QT)(k:Nat)(e:LS)(q:List aA),zo t->Ec t->(ls (bf t)++e).length<k->rd k (ls (bf t)++e) q=(true,e,q++post t q.length)
 |_,0,_,_,_,_,h=>absurd h (aIg _)
 |.leaf n,k+1,e,q,hw,ho,_=>by
  rcases Bf ho hw with rfl|⟨op,s,rfl,c,X⟩|⟨op,s,v,rfl,c,X,K,S⟩
  .exact aC6 k e q
  .show rd (k+1) (ls (kP _)++e) q=_;rw[JI c];show rd (k+1) ((iU op,())::(s,())::e) q=_;rw[aB1 c,gy];rfl
  .show rd (k+1) (ls (kP _)++e) q=_;rw[MZ c];show rd (k+1) ((iU op,())::(s,())::(dM v,())::e) q=_;rw[rd_val c,gy];show((bU (wordAt ((dM v,())::e) 0)).2,e,q++[(op,0,0,s,(bU (wordAt ((dM v,())::e) 0)).1)])=_;rw[gy,XV K S];rfl
 |.neg t,k+1,e,q,hw,ho,h=>by
  have h:((iU 5,())::(ls (bf t)++e)).length<k+1:=h;rw[aHx]at h;show rd (k+1) ((iU 5,())::(ls (bf t)++e)) q=_;rw[rd_not,U3 t k e q hw ho lu];show(true,e,(q++post t q.length)++[(5,((q++post t q.length).length:Int)-1,0,[],0,0,[],())])=(true,e,q++(post t q.length++[_]));rw[aHu,gV,aHO]
 |.two op x y,k+1,e,q,⟨c,w1,w2⟩,⟨o1,o2⟩,h=>by show rd (k+1) (ls (iU op::(bf x++bf y))++e) q=_;have h:(ls (iU op::(bf x++bf y))++e).length<k+1:=h;rw[aua]at h ⊢;rw[aHx]at h;have a:=U3 x k (ls (bf y)++e) q w1 o1 lu;rw[aHu]at h;have T:=U3 y k e (q++post x q.length) w2 o2 lu;rw[aC7 c k _ q (by rw[a]),a,T];show(true,e,((q++post x q.length)++post y (q++post x q.length).length)++[(op,((q++post x q.length).length:Int)-1,(((q++post x q.length)++post y (q++post x q.length).length).length:Int)-1,[],0,0,[],())])=(true,e,q++(post x q.length++(post y (q.length+x.size)++[_])));rw[aHu,aHu,gV,gV,aHu,gV,aHO,aHO]
def rs:Nat->LS->List aA->List aA×Int
 |0,_,q=>(q,0)
 |d+1,w,q=>
  bif dX (wordAt w 0)==0||decide ((q.length:Int)>9)then(q,0)
  else bif dX (wordAt w 0)==2||(dX (wordAt w 0)==8||dX (wordAt w 0)==9)then(q++[(dX (wordAt w 0),0,0,wordAt w 1,0,0,[],())],2)
  else bif dX (wordAt w 0)==3||dX (wordAt w 0)==4 then(q++[(dX (wordAt w 0),0,0,wordAt w 1,(bU (wordAt w 2)).1)],3)
  else bif dX (wordAt w 0)==5||(dX (wordAt w 0)==6||dX (wordAt w 0)==7)then
   (bif (rs d (w.drop 1) q).2==0 then((rs d (w.drop 1) q).1,0)
   else bif dX (wordAt w 0)==5 then((rs d (w.drop 1) q).1++[(5,((rs d (w.drop 1) q).1.length:Int)-1,0,[],0,0,[],())],1+(rs d (w.drop 1) q).2)
   else bif (rs d (w.drop (1+(rs d (w.drop 1) q).2).toNat) (rs d (w.drop 1) q).1).2==0 then((rs d (w.drop (1+(rs d (w.drop 1) q).2).toNat) (rs d (w.drop 1) q).1).1,0)
   else((rs d (w.drop (1+(rs d (w.drop 1) q).2).toNat) (rs d (w.drop 1) q).1).1++[(dX (wordAt w 0),((rs d (w.drop 1) q).1.length:Int)-1,((rs d (w.drop (1+(rs d (w.drop 1) q).2).toNat) (rs d (w.drop 1) q).1).1.length:Int)-1,[],0,0,[],())],
    1+(rs d (w.drop 1) q).2+(rs d (w.drop (1+(rs d (w.drop 1) q).2).toNat) (rs d (w.drop 1) q).1).2))
  else(q++[(dX (wordAt w 0),0,0,[],0,0,[],())],1)
theorem KT(x:Bytes×Unit)(r:LS)(i:Int)(h:0<=i):wordAt (x::r) (i+1)=wordAt r i:=by
 grind [xB,xC]
theorem ano(x:Bytes×Unit)(r:LS):wordAt (x::r) 2=wordAt (r.drop 1) 0:=by
 rw[show(2:Int)=1+1 from rfl,KT x r 1 lZ];cases r with
 |nil=>grind [abr]
 |cons y r=>rw[show(1:Int)=0+1 from rfl,KT y r 0 lZ];rfl
theorem S9(x:Bytes×Unit)(r:LS):wordAt (x::r) 1=wordAt r 0:=KT x r 0 lZ
theorem abt:∀(t:QT)(d:Nat)(f:LS)(q:List aA),zo t->Ec t->t.size<=d->q.length+t.size<=10->rs d (ls (bf t)++f) q=(q++post t q.length,((bf t).length:Int))
 |t,0,_,_,_,_,h,_=>absurd (size_pos t) lu
 |.leaf n,d+1,f,q,hw,ho,_,i=>by
  have B:q.length+1<=10:=i;have j:decide ((q.length:Int)>9)=false:=aHD lu;rcases Bf ho hw with rfl|⟨op,s,rfl,c,X⟩|⟨op,s,v,rfl,c,X,K,S⟩
  .show rs (d+1) ((iU 1,())::f) q=_;rw[rs,gy,D8 (.inl rfl),j];rfl
  .show rs (d+1) (ls (kP _)++f) q=(_,((kP _).length:Int));rw[JI c];show rs (d+1) ((iU op,())::(s,())::f) q=_;rw[rs,S9,gy,gy,D8 lu,j];rcases c with rfl|rfl|rfl<;>rfl
  .show rs (d+1) (ls (kP _)++f) q=(_,((kP _).length:Int));rw[MZ c];show rs (d+1) ((iU op,())::(s,())::(dM v,())::f) q=_;rw[rs,S9,ano,gy,gy,D8 lu,j];have e:wordAt (List.drop 1 ((s,())::(dM v,())::f)) 0=dM v:=gy _ _;rw[e,XV K S];rcases c with rfl|rfl<;>rfl
 |.neg t,d+1,f,q,hw,ho,o,i=>by
  have o:t.size+1<=d+1:=o;have i:q.length+(t.size+1)<=10:=i;have g:decide ((q.length:Int)>9)=false:=aHD lu;have e:=abt t d f q hw ho lu lu;have Q:0<(bf t).length:=by
   cases t with
   |leaf n=>exact aIx _
   |neg t=>exact aIx _
   |two op a b=>exact aIx _
  show rs (d+1) ((iU 5,())::(ls (bf t)++f)) q=_;rw[rs,gy,D8 (.inr (.inr (.inr (.inr (.inl rfl))))),g];rw[show List.drop 1 ((iU 5,())::(ls (bf t)++f))=ls (bf t)++f from rfl,e];rw[show(((bf t).length:Int)==0)=false from aHt.2 lu];show((q++post t q.length)++[(5,((q++post t q.length).length:Int)-1,0,[],0,0,[],())],1+((bf t).length:Int))=(q++(post t q.length++[_]),(((bf t).length+1:Nat):Int));rw[aHu,gV,aHO,show(1+((bf t).length:Int))=(((bf t).length+1:Nat):Int)from lu]
 |.two op x y,d+1,f,q,⟨c,w1,w2⟩,⟨o1,o2⟩,o,i=>by
  have o:x.size+y.size+1<=d+1:=o;have i:q.length+(x.size+y.size+1)<=10:=i;have g:decide ((q.length:Int)>9)=false:=aHD lu;have u:∀t:QT,0<(bf t).length:=λt=>by
   cases t with
   |leaf n=>exact aIx _
   |neg t=>exact aIx _
   |two op a b=>exact aIx _
  have C:=u x;have D:=u y;have z:=abt x d (ls (bf y)++f) q w1 o1 lu lu;have T:=abt y d f (q++post x q.length) w2 o2 lu akT;show rs (d+1) (ls (iU op::(bf x++bf y))++f) q=_;rw[aua,rs,gy,D8 lu,g];rw[show List.drop 1 ((iU op,())::(ls (bf x)++(ls (bf y)++f)))=ls (bf x)++(ls (bf y)++f)from rfl,z];have A:List.drop (1+((bf x).length:Int)).toNat ((iU op,())::(ls (bf x)++(ls (bf y)++f)))=ls (bf y)++f:=by
   grind [ls]
  rw[A,T];rw[show(((bf x).length:Int)==0)=false from aHt.2 lu,show(((bf y).length:Int)==0)=false from aHt.2 lu];have fin:((q++post x q.length)++post y (q++post x q.length).length++[(op,((q++post x q.length).length:Int)-1,((q++post x q.length++post y (q++post x q.length).length).length:Int)-1,[],0,0,[],())],1+((bf x).length:Int)+((bf y).length:Int))=(q++post (.two op x y) q.length,((bf (.two op x y)).length:Int)):=by
   show _=(q++(post x q.length++(post y (q.length+x.size)++[_])),((iU op::(bf x++bf y)).length:Int));rw[aHu,aHu,gV,gV,aHu,gV,aHO,aHO,aHx,aHu]
   grind
  rcases c with rfl|rfl<;>exact fin
theorem au4{r:LS}(c:op=2\/op=8\/op=9)(a:fH (op,0,0,wordAt r 0,0,0,[],()) 0=true):
 (iU op,())::r=ls (kP (op,0,0,wordAt r 0,0,0,[],()))++r.drop 1:=by
 have H:wordAt r 0≠[]:=by
  rcases Bf a lu with x|⟨_,s,x,_,hs⟩|⟨op',s,v,x,hop,_⟩
  · grind
  · grind
  grind
 rw[JI c];exact congrArg _ (Ql H)
theorem au5{r:LS}(c:op=3\/op=4)(b:fH (op,0,0,wordAt r 0,(bU (wordAt (r.drop 1) 0)).1) 0=true):
 (iU op,())::r=ls (kP (op,0,0,wordAt r 0,(bU (wordAt (r.drop 1) 0)).1))++(r.drop 1).drop 1:=by
 have H:wordAt r 0≠[]/\(bU (wordAt (r.drop 1) 0)).2=true/\dM (bU (wordAt (r.drop 1) 0)).1=wordAt (r.drop 1) 0:=by
  rcases Bf b lu with x|⟨op',s,x,hop,hs⟩|⟨op',s,v,x,hop,hs,hv,h1⟩
  · grind
  · grind
  grind [ahU]
 have e:wordAt (r.drop 1) 0≠[]:=λf=>by
  have:(bU []).2=false:=by unfold bU;rw[ahT];rfl
  grind
 have a:r=(wordAt r 0,())::(wordAt (r.drop 1) 0,())::(r.drop 1).drop 1:=by
  grind [Ql]
 rw[MZ c,H.2.2];exact congrArg _ a
theorem afQ:∀(d:Nat)(w:LS)(q:List aA),(rs d w q).2≠0->∃t,zo t/\(rs d w q).1=q++post t q.length/\0<(rs d w q).2/\(Ec t->∃a,w=ls (bf t)++a/\(rs d w q).2=((bf t).length:Int))
 |0,w,q,h=>(h rfl).elim
 |d+1,w,q,h=>by
  by_cases S:dX (wordAt w 0)=0
  · grind [rs]
  obtain⟨r,e,T⟩:=afL S;rcases Fe (wordAt w 0)with c|⟨c,_⟩
  .omega
  have H:wordAt w 1=wordAt r 0:=by grind [S9]
  have I:wordAt w 2=wordAt (r.drop 1) 0:=by grind [ano]
  rw[rs]at h ⊢;rw[T,H,I]at h ⊢;generalize dX (wordAt w 0)=op at h c e S ⊢;cases i:decide ((q.length:Int)>9)with
  |true=>grind
  |false=>
  rw[i,show(op==0)=false from aHt.2 S]at h;have z:op=2\/op=8\/op=9->∃t,zo t/\q++[(op,0,0,wordAt r 0,0,0,[],())]=q++post t q.length/\(0:Int)<2/\(Ec t->∃a,w=ls (bf t)++a/\(2:Int)=((bf t).length:Int)):=λc=>
   ⟨.leaf (op,0,0,wordAt r 0,0,0,[],()),(show op=1\/op=2\/op=3\/op=4\/op=8\/op=9 from lu),rfl,lZ,λb=>⟨r.drop 1,e.trans (au4 c b),by show _=((kP _).length:Int);rw[JI c];rfl⟩⟩
  have A:op=3\/op=4->∃t,zo t/\q++[(op,0,0,wordAt r 0,(bU (wordAt (r.drop 1) 0)).1)]=q++post t q.length/\(0:Int)<3/\(Ec t->∃a,w=ls (bf t)++a/\(3:Int)=((bf t).length:Int)):=λc=>
   ⟨.leaf (op,0,0,wordAt r 0,(bU (wordAt (r.drop 1) 0)).1),(show op=1\/op=2\/op=3\/op=4\/op=8\/op=9 from lu),rfl,lZ,λb=>⟨(r.drop 1).drop 1,e.trans (au5 c b),by show _=((kP _).length:Int);rw[MZ c];rfl⟩⟩
  have B:(op=6\/op=7)->(rs d r q).2≠0->(rs d (w.drop (1+(rs d r q).2).toNat) (rs d r q).1).2≠0->
   ∃t,zo t/\(rs d (w.drop (1+(rs d r q).2).toNat) (rs d r q).1).1++[(op,((rs d r q).1.length:Int)-1,((rs d (w.drop (1+(rs d r q).2).toNat) (rs d r q).1).1.length:Int)-1,[],0,0,[],())]=q++post t q.length/\
    0<1+(rs d r q).2+(rs d (w.drop (1+(rs d r q).2).toNat) (rs d r q).1).2/\(Ec t->∃a,w=ls (bf t)++a/\1+(rs d r q).2+(rs d (w.drop (1+(rs d r q).2).toNat) (rs d r q).1).2=((bf t).length:Int)):=λc C f=>by
   obtain⟨x,o,J,K,s⟩:=afQ d r q C;obtain⟨y,L,R,U,M⟩:=afQ d _ _ f;have D:(rs d r q).1.length=q.length+x.size:=akT;have O:(rs d (w.drop (1+(rs d r q).2).toNat) (rs d r q).1).1.length=q.length+x.size+y.size:=akT;refine⟨.two op x y,⟨c,o,L⟩,?_,lu,λb=>?_⟩
   · grind [post]
   .obtain⟨t1,t2⟩:Ec x/\Ec y:=b;obtain⟨j,u,E⟩:=s t1;obtain⟨F,P,Q⟩:=M t2;have N:w.drop (1+(rs d r q).2).toNat=j:=by
     grind [ls]
    refine⟨F,?_,?_⟩
    · grind [bf,aua]
    grind [bf]
  rcases c with rfl|rfl|rfl|rfl|rfl|rfl|rfl|rfl|rfl
  .refine⟨.leaf (1,0,0,[],0,0,[],()),.inl rfl,rfl,ny,λ_=>⟨r,e,rfl⟩⟩
  · grind
  · grind
  · grind
  .have h:(bif (rs d r q).2==0 then((rs d r q).1,0)else(_,1+(rs d r q).2):List aA×Int).2≠0:=h;cases g:(rs d r q).2==0 with
   |true=>grind
   |false=>
    obtain⟨x,o,J,K,s⟩:=afQ d r q (aHt.1 g);have D:(rs d r q).1.length=q.length+x.size:=akT;refine⟨.neg x,o,?_,?_,λb=>?_⟩
    · grind [post]
    · grind
    .obtain⟨j,u,E⟩:=s b;refine⟨j,e.trans (congrArg _ u),?_⟩
     grind [bf]
  .have h:(bif (rs d r q).2==0 then((rs d r q).1,0)else bif (rs d (w.drop (1+(rs d r q).2).toNat) (rs d r q).1).2==0 then(_,0)else(_,_):List aA×Int).2≠0:=h;cases g:(rs d r q).2==0 with
   |true=>grind
   |false=>
    rw[g]at h;cases f:(rs d (w.drop (1+(rs d r q).2).toNat) (rs d r q).1).2==0 with
    |true=>grind
    |false=>grind
  .have h:(bif (rs d r q).2==0 then((rs d r q).1,0)else bif (rs d (w.drop (1+(rs d r q).2).toNat) (rs d r q).1).2==0 then(_,0)else(_,_):List aA×Int).2≠0:=h;cases g:(rs d r q).2==0 with
   |true=>grind
   |false=>
    rw[g]at h;cases f:(rs d (w.drop (1+(rs d r q).2).toNat) (rs d r q).1).2==0 with
    |true=>grind
    |false=>grind
  · grind
  grind
def dW:Nat->List aA->Int->List Bytes
 |0,_,_=>[]
 |k+1,q,i=>
  bif (nodeAt q i.toNat).1==5 then iU (nodeAt q i.toNat).1::dW k q (nodeAt q i.toNat).2.1
  else bif (nodeAt q i.toNat).1==6||(nodeAt q i.toNat).1==7 then iU (nodeAt q i.toNat).1::(dW k q (nodeAt q i.toNat).2.1++dW k q (nodeAt q i.toNat).2.2.1)
  else kP (nodeAt q i.toNat)
def textOf(q:List aA):Bytes:=bif ax q then Lib.join (dW 9 q ((q.length:Int)-1)) [32]else[]
theorem JJ(l r:List aA)(n:aA):nodeAt (l++(n::r)) l.length=n:=by
 grind [nodeAt]
theorem WU:∀(t:QT)(k:Nat)(l r:List aA),zo t->t.size<=k->dW k (l++(post t l.length++r)) (((l.length+t.size:Nat):Int)-1)=bf t
 |t,0,_,_,_,h=>absurd (size_pos t) lu
 |.leaf n,k+1,l,r,a,_=>by
  have a:n.1=1\/n.1=2\/n.1=3\/n.1=4\/n.1=8\/n.1=9:=a;show dW (k+1) (l++(n::r)) (((l.length+1:Nat):Int)-1)=kP n
  grind [dW,JJ]
 |.neg t,k+1,l,r,a,u=>by
  have u:t.size+1<=k+1:=u;have i:=WU t k l ((5,((l.length+t.size:Nat):Int)-1,0,[],0,0,[],())::r) a lu;have e:l++(post (.neg t) l.length++r)=l++(post t l.length++(((5,((l.length+t.size:Nat):Int)-1,0,[],0,0,[],()):aA)::r)):=by
   grind [post]
  have b:nodeAt (l++(post (.neg t) l.length++r)) (l.length+t.size)=(5,((l.length+t.size:Nat):Int)-1,0,[],0,0,[],()):=by
   grind [gV,JJ]
  rw[dW,show((((l.length+(QT.neg t).size:Nat):Int)-1).toNat)=l.length+t.size by show(((l.length+(t.size+1):Nat):Int)-1).toNat=_;omega,b,e]
  grind [bf]
 |.two op x y,k+1,l,r,⟨c,w1,w2⟩,u=>by
  have u:x.size+y.size+1<=k+1:=u;generalize H:((op,((l.length+x.size:Nat):Int)-1,((l.length+x.size+y.size:Nat):Int)-1,[],0,0,[],()):aA)=N;have e:l++(post (.two op x y) l.length++r)=l++(post x l.length++(post y (l.length+x.size)++(N::r))):=by
   grind [post]
  have g:=WU x k l (post y (l.length+x.size)++(N::r)) w1 lu;have f:=WU y k (l++post x l.length) (N::r) w2 lu;rw[aHu,gV,aHO]at f;have b:nodeAt (l++(post (.two op x y) l.length++r)) (l.length+x.size+y.size)=N:=by
   grind [gV,JJ]
  rw[dW,show((((l.length+(QT.two op x y).size:Nat):Int)-1).toNat)=l.length+x.size+y.size by show(((l.length+(x.size+y.size+1):Nat):Int)-1).toNat=_;omega,b,e];subst H;rw[g,f];rcases c with rfl|rfl<;>rfl
theorem Qm{n:aA}(a:Int)(x:n.1=1\/n.1=2\/n.1=3\/n.1=4\/n.1=8\/n.1=9):fH n a=fH n 0:=by obtain⟨op,l,r,s,v⟩:=n;rcases x with rfl|rfl|rfl|rfl|rfl|rfl<;>rfl
theorem anp:∀(t:QT)(b:Nat),zo t->(∀n∈post t b,∃a,fH n a=true)->Ec t
 |.leaf n,_,hw,h=>by
  obtain⟨a,e⟩:=h n aHJ;show fH n 0=true;rw[← Qm a hw];exact e
 |.neg t,b,hw,h=>anp t b hw λn H=>h n (aIh _ H)
 |.two op x y,b,⟨_,w1,w2⟩,h=>⟨anp x b w1 λn H=>h n (aIh _ H),anp y _ w2 λn H=>h n (aIA _ (aIh _ H))⟩
variable {t:QT}
theorem Tm(x:zo t)(h:ax (post t 0)=true):Ec t/\t.size<=9:=by
 refine⟨anp t 0 x λn H=>?_,by grind [iH,gV]⟩;obtain⟨i,D,e⟩:=aIf H;have:=(kH h D).1
 grind [nodeAt]
theorem aub:∀t:QT,∃x r,bf t=x::r/\x≠[]
 |.leaf n=>⟨_,_,rfl,axt _⟩
 |.neg t=>⟨_,_,rfl,axt _⟩
 |.two op x y=>⟨_,_,rfl,axt _⟩
where axt (op:Int):iU op≠[]:=by
       grind [iU]
theorem ay7(a:zo t)(h:ax (post t 0)=true):textOf (post t 0)=Lib.join (bf t) [32]/\textOf (post t 0)≠[]:=by
 obtain⟨_,X⟩:=Tm a h;have e:textOf (post t 0)=Lib.join (bf t) [32]:=by
  unfold textOf;rw[h,gV];have:=WU t 9 [] [] a X
  grind
 obtain⟨x,r,b,Z⟩:=aub t;rw[e,b,Lib.join_cons]
 simp_all
def Ht(w:LS):Bool×LS×List aA:=rd (w.length+1) w []
def iE(s:Bytes):Bool:=lQ s&&((Ht (wordsOf s)).1&&(!decide (((Ht (wordsOf s)).2.1.length:Int)>0)&&ax (Ht (wordsOf s)).2.2))
def iJ(s:Bytes):List aA:=bif iE s then(Ht (wordsOf s)).2.2 else[]
def afM(s:Bytes):Bool:=lQ s&&((rs 10 (wordsOf s) []).2==((wordsOf s).length:Int)&&(!(textOf (rs 10 (wordsOf s) []).1==[])&&textOf (rs 10 (wordsOf s) []).1==gI (wordsOf s)))
theorem atK(w:List Bytes):(ls w).map (·.1)=w:=by unfold ls;rw[aIR];exact List.map_id' w
theorem abu(s:Bytes):iE s=true↔lQ s=true/\∃t,zo t/\ax (post t 0)=true/\wordsOf s=ls (bf t):=by
 unfold iE;rw[aHy,aHy,aHy,aJh,aHW];refine aKb λ_=>⟨λ⟨E,O,U⟩=>?_,λ⟨t,x,i,e⟩=>?_⟩
 · grind [afP,Ht,List.length_eq_zero_iff,Tm]
 .have e1:=U3 t ((wordsOf s).length+1) [] [] x (Tm x i).1 ny
  grind [Ht]
theorem auc{s:Bytes}(x:zo t)(i:ax (post t 0)=true)(e:wordsOf s=ls (bf t)):Ht (wordsOf s)=(true,[],post t 0):=by have h:=U3 t ((wordsOf s).length+1) [] [] x (Tm x i).1 ny;rw[aH1,← e]at h;exact h
theorem aBf{s:Bytes}(x:zo t)(i:ax (post t 0)=true)(e:wordsOf s=ls (bf t)):rs 10 (wordsOf s) []=(post t 0,((wordsOf s).length:Int)):=by
 obtain⟨F,X⟩:=Tm x i;have h:=abt t 10 [] [] x F lu ny
 grind [ls]
theorem am3(s:Bytes):afM s=iE s:=by
 rw[aHX,abu];unfold afM;rw[aHy,aHy,aHy,aJh,aHE,aHE,aHt];refine aKb λ_=>⟨λ⟨E,O,U⟩=>?_,λ⟨t,x,i,e⟩=>?_⟩
 .have i:ax (rs 10 (wordsOf s) []).1=true:=by
   grind [textOf]
  by_cases S:(rs 10 (wordsOf s) []).2=0
  .have:wordsOf s=[]:=aH0.1 lu;rw[this]at i;exact absurd i lZ
  obtain⟨t,x,e,u,h⟩:=afQ _ _ _ S
  grind [Tm,ls,List.length_eq_zero_iff]
 grind [ay7,aBf,gI,atK]
theorem aa6{s:Bytes}(h:iE s=true):(rs 10 (wordsOf s) []).1=(Ht (wordsOf s)).2.2/\iJ s=(Ht (wordsOf s)).2.2/\ax (iJ s)=true:=by
 grind [abu,iJ,aBf,auc]
def aAp:Bytes:=[99,114,101,97,116,101]
def aAq:Bytes:=[117,112,100,97,116,101]
def aAr:Bytes:=[100,101,108,101,116,101]
def aAs:Bytes:=[100,101,102,105,110,101]
def axu:Bytes:=[117,110,100,101,102,105,110,101]
def Zi:Bytes->Bytes->LS
 |cur,[]=>[(cur,())]
 |cur,b::l=>bif b==10 then(cur,())::Zi [] l else Zi (cur++[b]) l
def fine(x:Bytes):Prop:=abq x/\x.all oN=true
theorem QS{n:Int}(h:iC n=true):fine (Lib.itoa n):=by
 refine⟨ann h,?_⟩
 grind [jV,Fb]
theorem av1:∀r:List Bytes,(∀x∈r,x.all oN=true)->(Lib.joinTail [32] r).all oN=true
 |[],_=>rfl
 |x::r,h=>by
  have e:Lib.joinTail [32] (x::r)=[32]++(x++Lib.joinTail [32] r):=by simp[Lib.joinTail]
  rw[e,aJP,aJP,h x aHJ,av1 r λy B=>h y (aHC _ B)];decide
theorem av2:∀a:List Bytes,(∀x∈a,x.all oN=true)->(Lib.join a [32]).all oN=true
 |[],_=>rfl
 |x::r,h=>by
  grind [Lib.join_cons,av1]
variable {ws:List Bytes}
theorem anq(h:∀x∈ws,fine x)(Q:(Lib.join ws [32]).length<=600)(L:ws.length<=24):lQ (Lib.join ws [32])=true/\wordsOf (Lib.join ws [32])=ws.map (·,()):=by have X:∀x∈ws,abq x:=λx Z=>(h x Z).1;refine⟨uN.2 ⟨Q,av2 ws λx Z=>(h x Z).2,by grind [ahR]⟩,at6 ws X⟩
theorem akg{n:Int}(h:iC n=true):(Lib.itoa n).length<=10:=(jV h).2.2.2.2
theorem avL{l:List aG}{i:Nat}(D:i<l.length):dK l i∈l:=by
 grind [dK]
theorem aB2{l:List aG}{y:aG}(B:y∈l):∃i,i<l.length/\dK l i=y:=by obtain⟨i,D,e⟩:=aIf B;exact⟨i,D,by grind [dK]⟩
theorem anr:gG d=true↔(∀x∈d,bK x.1=true/\ax x.2.1=true)/\(d.Pairwise λx y=>Op.bytesLess x.1 y.1=true)/\d.length<=5:=by
 have one:∀i,lC d i=true↔(bK (dK d i).1=true/\ax (dK d i).2.1=true)/\(0<i->Op.bytesLess (dK d (i-1)).1 (dK d i).1=true):=λi=>by
  grind [lC]
 unfold gG;rw[aHy,show(iF d.length (lC d)=true)↔∀i,i<d.length->lC d i=true from by
  grind [iF],aHM]
 constructor
 .rintro⟨h,hl⟩;refine⟨λx Z=>?_,?_,lu⟩
  · grind [aB2]
  .exact ake (R:=λx y:aG=>Op.bytesLess x.1 y.1=true) (λa b c E O=>JD _ _ _ E O) ([],[],()) d λi D=>((one (i+1)).1 (h (i+1) D)).2 lu
 grind [dK,List.pairwise_iff_getElem]
def aB3(d:List aG)(name:Bytes):List aG:=d.filter (ay4 name)
def removeDir(d:List aG)(name:Bytes):List aG×Bool:=bif gG d&&decide (0<=aP d name)then(aB3 d name,true)else(d,false)
def rX(u:Int):Bool:=decide (0<=u)&&decide (u<=2)
def wE(x:mr):aF:=(x.2.1,x.2.2.1,x.2.2.2.1,x.2.2.2.2.1,x.2.2.2.2.2.1,())
def abv(x:mr):Int:=x.2.2.2.2.2.2.1
def Fp(x:mr):aG:=(x.2.2.2.2.2.2.2.1,x.2.2.2.2.2.2.2.2.1,())
def avJ(c:nV)(x:mr):dV:=
 bif x.1==1 then(EY (kN c) (wE x)).1 else bif x.1==2 then(XR (kN c) (wE x)).1 else bif x.1==3 then(ani (kN c) (abv x)).1 else kN c
def ayE(c:nV)(x:mr):List aG:=bif x.1==4 then(at1 (kT c) (Fp x)).1 else bif x.1==5 then(removeDir (kT c) (Fp x).1).1 else kT c
noncomputable def aBa (c:nV) (u:Int) (x:mr):Bool:=
 bif x.1==1 then decide ((wE x).2.1=u)&&(EY (kN c) (wE x)).2.2 else
 bif x.1==2 then(akf c u (wE x).1&&decide ((wE x).2.1=u))&&(XR (kN c) (wE x)).2 else
 bif x.1==3 then akf c u (abv x)&&(ani (kN c) (abv x)).2 else
 bif x.1==4 then(at1 (kT c) (Fp x)).2&&aH (at1 (kT c) (Fp x)).1 else
 bif x.1==5 then(removeDir (kT c) (Fp x).1).2 else false
noncomputable def aCR (c:nV) (u:Int) (x:mr):Bool:=(rX u&&ru c)&&aBa c u x
def applied(c:nV)(u:Int)(x:mr)(a:nV)(b:List aaM)(e:Bool):Prop:=became c (avJ c x) (ayE c x) (aCR c u x) a b e
def aAt(f:aF):Int:=1+f.2.2.2.2.1.length
def afj(fs:List aF)(u:Int):Int:=((fs.filter λf=>decide (f.2.1=u)).map aAt).sum
def apz(q:List (Int×Unit))(u:Int):Int:=bif decide (0<=u)&&decide (u<=(q.length:Int)-1)then(q.getD u.toNat (0,())).1 else 0
def av3(fs:List aF)(q:List (Int×Unit)):Bool:=decide (afj fs 0<=apz q 0)&&(decide (afj fs 1<=apz q 1)&&decide (afj fs 2<=apz q 2))
def aud(u:Int):nV->List mr->nV->Prop
 |c,[],c'=>c'=c
 |c,x::r,c'=>∃a b,applied c u x a b true/\aud u a r c'
def ant(c:nV)(u:Int)(l:List mr)(q:List (Int×Unit))(a:nV)(f:List aaM)(b:Bool):Prop:=
 (b=true↔ru c=true/\l.length<=6/\∃e,aud u c l e/\av3 e.2.1 q=true)/\(b=true->aud u c l a/\f=aBe (apv c) (apv a))/\(b=false->a=c/\f=[])
def QU(a:dL):Bool:=dP a.1&&(dB a.2.1 a.2.2.1 a.2.2.2.1&&!(a.2.1==0))
def II(f:aF):Bool:=f.2.2.2.2.1.all QU&&(iC f.1&&(iC f.2.1&&iC f.2.2.2.1))
def fP:List dL->List Bytes
 |[]=>[]
 |a::r=>a.1::dM a.2::fP r
def ng(f:aF):List Bytes:=Lib.itoa f.2.1::(bif f.2.2.1 then[115]else[111])::Lib.itoa f.2.2.2.1::fP f.2.2.2.2.1
def noF:aF:=(0,0,false,0,[],())
def ay8(q:List aA):Bool:=ax q&&decide (iJ (textOf q)=q)
def axv(x:mr):Bool:=(Fp x).1==[]&&(Fp x).2.1.isEmpty
def aAu(x:mr):List Bytes:=
 bif x.1==1&&(II (wE x)&&((wE x).1==0&&(abv x==0&&axv x)))then aAp::ng (wE x)
 else bif x.1==2&&(II (wE x)&&(abv x==0&&axv x))then aAq::Lib.itoa (wE x).1::ng (wE x)
 else bif x.1==3&&(decide (wE x=noF)&&(iC (abv x)&&axv x))then[aAr,Lib.itoa (abv x)]
 else bif x.1==4&&(decide (wE x=noF)&&(abv x==0&&(bK (Fp x).1&&ay8 (Fp x).2.1)))then aAs::(Fp x).1::dW 9 (Fp x).2.1 (((Fp x).2.1.length:Int)-1)
 else bif x.1==5&&(decide (wE x=noF)&&(abv x==0&&(bK (Fp x).1&&(Fp x).2.1.isEmpty)))then[axu,(Fp x).1]
 else[]
def aqB(x:mr):Bytes:=Lib.join (aAu x) [32]
theorem ni{s:Bytes}(h:dP s=true):bK s=true:=by
 grind [dP,bK]
theorem xk{s:Bytes}(h:bK s=true):fine s:=by
 refine⟨au3 h,?_⟩
 grind [bK,lower,Fb]
theorem aue(h:dB v.1 v.2.1 v.2.2.1=true)(S:v.1≠0):fine (dM v):=by
 grind [dM,axr,QS,iC,xk]
theorem OM{a:dL}:QU a=true↔dP a.1=true/\dB a.2.1 a.2.2.1 a.2.2.2.1=true/\a.2.1≠0:=by
 grind [QU]
variable {f:aF}
theorem Bc:II f=true↔(∀a∈f.2.2.2.2.1,QU a=true)/\iC f.1=true/\iC f.2.1=true/\iC f.2.2.2.1=true:=by
 grind [II]
theorem anu:∀as:List dL,(∀a∈as,QU a=true)->∀y∈fP as,fine y
 |[],_,y,B=>by cases B
 |a::r,h,y,B=>by
  obtain⟨E,O,U⟩:=OM.1 (h a aHJ);rcases aHH.1 B with rfl|B
  .exact xk (ni E)
  rcases aHH.1 B with rfl|B
  .exact aue O U
  .exact anu r (λb J=>h b (aHC _ J)) y B
theorem aB4(b:Bool):fine (bif b then[115]else[111]):=by cases b<;>exact⟨⟨lZ,lZ⟩,lZ⟩
theorem ay9(h:II f=true):∀y∈ng f,fine y:=by
 obtain⟨E,O,U,j⟩:=Bc.1 h;intro y B;rcases aHH.1 B with rfl|B
 .exact QS U
 rcases aHH.1 B with rfl|B
 .exact aB4 _
 grind [QS,anu]
theorem aza{n:aA}(h:fH n 0=true)(x:n.1=1\/n.1=2\/n.1=3\/n.1=4\/n.1=8\/n.1=9):n.1=1\/fine n.2.2.2.1:=by
 obtain⟨op,l,r,s,k,m,t,⟨⟩⟩:=n;rcases x with rfl|rfl|rfl|rfl|rfl|rfl
 .exact .inl rfl
 .have h:((l==0&&r==0)&&(k==0&&(m==0&&t==[]))&&dP s)=true:=h
  grind [xk,ni]
 .have h:((l==0&&r==0)&&dP s&&dB k m t&&!(k==0))=true:=h
  grind [xk,ni]
 .have h:((l==0&&r==0)&&dP s&&dB k m t&&k==1)=true:=h
  grind [xk,ni]
 .have h:((l==0&&r==0)&&(k==0&&(m==0&&t==[]))&&bK s)=true:=h
  grind [xk]
 .have h:((l==0&&r==0)&&(k==0&&(m==0&&t==[]))&&bK s)=true:=h
  grind [xk]
theorem U4(op:Int):fine (iU op):=by unfold iU;cases op==1<;>cases op==2<;>cases op==3<;>cases op==4<;>cases op==5<;>cases op==6<;>cases op==7<;>cases op==8<;>cases op==9<;>exact⟨⟨lZ,lZ⟩,lZ⟩
theorem KU:∀t:QT,zo t->Ec t->∀y∈bf t,fine y
 |.leaf n,hw,ho,y,B=>by
  have e:=aza ho hw;have B:y∈kP n:=B;rcases Bf ho hw with rfl|⟨op,s,rfl,c,X⟩|⟨op,s,v,rfl,c,X,K,S⟩
  .have:y=iU 1:=aH9.1 B
   grind [U4]
  · grind [JI,U4]
  grind [MZ,U4,aue]
 |.neg t,hw,ho,y,B=>by
  rcases aHH.1 (show y∈iU 5::bf t from B)with rfl|B
  .exact U4 5
  .exact KU t hw ho y B
 |.two op a b,⟨_,w1,w2⟩,⟨o1,o2⟩,y,B=>by
  rcases aHH.1 (show y∈iU op::(bf a++bf b)from B)with rfl|B
  .exact U4 op
  rcases aH3.1 B with B|B
  .exact KU a w1 o1 y B
  .exact KU b w2 o2 y B
def jM:LS->List dL
 |[]=>[]
 |[x]=>[(x.1,(bU []).1)]
 |x::y::r=>(x.1,(bU y.1).1)::jM r
def AZ:LS->Bool
 |[]=>true
 |[_]=>true
 |_::y::r=>(bU y.1).2&&AZ r
def Om(id:Int)(r:LS):aF:=(id,numAt r 0,wordAt r 1==[115],numAt r 2,jM (r.drop 3),())
def kL(w:LS):aF×Bool:=
 bif decide ((w.length:Int)<4)||!(w.length%2==0)then(noF,false)
 else(Om (numAt w 0) (w.drop 1),(bW (wordAt w 0)&&(bW (wordAt w 1)&&bW (wordAt w 3)))&&AZ (w.drop 4))
theorem Tc:∀as:List dL,(∀a∈as,QU a=true)->jM (ls (fP as))=as/\AZ (ls (fP as))=true/\(fP as).length=2*as.length
 |[],_=>⟨rfl,rfl,rfl⟩
 |a::r,h=>by
  obtain⟨E,O,U⟩:=OM.1 (h a aHJ);obtain⟨g,i,j⟩:=Tc r λb J=>h b (aHC _ J);have e:=XV (v:=a.2) O U;refine⟨?_,?_,?_⟩
  · grind [jM,ls,fP]
  · grind [AZ,ls,fP]
  grind [fP]
theorem word2(x:Bytes×Unit)(y:Bytes×Unit)(r:LS):wordAt (x::y::r) 1=y.1:=by rw[S9,gy]
theorem aBh(x y z:Bytes×Unit)(r:LS):wordAt (x::y::z::r) 2=z.1:=by rw[show(2:Int)=1+1 from rfl,KT _ _ 1 lZ,word2]
theorem aEu(x y z u:Bytes×Unit)(r:LS):wordAt (x::y::z::u::r) 3=u.1:=by rw[show(3:Int)=2+1 from rfl,KT _ _ 2 lZ,aBh]
theorem aqC(h:II f=true)(id:Int):Om id (ls (ng f))=(id,f.2):=by
 obtain⟨E,O,U,j⟩:=Bc.1 h;obtain⟨a,o,s,l,as,⟨⟩⟩:=f;have b:numAt (ls (ng (a,o,s,l,as,()))) 0=o:=by
  show parseNum (wordAt ((Lib.itoa o,())::_) 0)=o
  grind [gy,Fj]
 have e:(wordAt (ls (ng (a,o,s,l,as,()))) 1==[115])=s:=by
  show(wordAt ((Lib.itoa o,())::((bif s then[115]else[111]),())::_) 1==[115])=s
  grind [word2]
 grind [numAt,ls,ng,aBh,Fj,Tc,Om]
theorem axw(h:II f=true):kL ((Lib.itoa f.1,())::ls (ng f))=(f,true):=by
 obtain⟨E,O,U,j⟩:=Bc.1 h;obtain⟨_,a,b⟩:=Tc _ E;have e:wordAt ((Lib.itoa f.1,())::ls (ng f)) 0=Lib.itoa f.1:=gy _ _;have g:wordAt ((Lib.itoa f.1,())::ls (ng f)) 1=Lib.itoa f.2.1:=word2 _ _ _;have i:wordAt ((Lib.itoa f.1,())::ls (ng f)) 3=Lib.itoa f.2.2.2.1:=aEu _ _ _ _ _
 grind [ls,ng,numAt,aqC,Fj,kL]
def passes(x:mr)(w:LS):Prop:=aqB x≠[]/\aqB x=gI w
def gm(b:UInt8):Bytes->Bytes->LS
 |cur,[]=>[(cur,())]
 |cur,x::l=>bif x==b then(cur,())::gm b [] l else gm b (cur++[x]) l
def pieces(b:UInt8)(s:Bytes):LS:=gm b [] s
theorem afk:∀(l R:Bytes),gm 10 R l=Zi R l
 |[],_=>rfl
 |x::l,R=>by
  show(bif x==10 then(R,())::gm 10 [] l else gm 10 (R++[x]) l)=bif x==10 then(R,())::Zi [] l else Zi (R++[x]) l
  rw[afk l [],afk l (R++[x])]
theorem XW{b:UInt8}:∀(w R l:Bytes),(∀x∈w,x≠b)->gm b R (w++l)=gm b (R++w) l
 |[],R,l,_=>ny
 |x::w,R,l,h=>by have Z:(x==b)=false:=aHt.2 (h x aHJ);show(bif x==b then(R,())::gm b [] (w++l)else gm b (R++[x]) (w++l))=_;rw[Z];rw[XW w (R++[x]) l λy B=>h y (aHC _ B),aHO];rfl
theorem axx{b:UInt8}{w:Bytes}(h:∀x∈w,x≠b)(l:Bytes):pieces b (w++b::l)=(w,())::pieces b l:=by
 unfold pieces;rw[XW w [] (b::l) h,aIG];show(bif b==b then _ else _)=_
 grind
theorem au6{b:UInt8}{w:Bytes}(h:∀x∈w,x≠b):pieces b w=[(w,())]:=by have:=XW w [] [] h;rw[aH1,aIG]at this;exact this
theorem sN(x y:Bytes)(r:List Bytes):Lib.join (x::y::r) [32]=x++32::Lib.join (y::r) [32]:=by
 grind [Lib.join_cons,Lib.joinTail]
theorem ahV:∀(ws:List Bytes),ws≠[]->(∀w∈ws,∀x∈w,x≠32)->pieces 32 (Lib.join ws [32])=ls ws
 |[],h,_=>(h rfl).elim
 |[w],_,h=>by
  have e:Lib.join [w] [32]=w:=by exact aH1 w
  rw[e];exact au6 (h w aHJ)
 |w::y::r,_,h=>by rw[sN,axx (h w aHJ),ahV (y::r) vk λv K=>h v (aHC _ K)];rfl
theorem U1(b:UInt8):∀(l R:Bytes),0<(gm b R l).length
 |[],_=>Nat.one_pos
 |x::l,R=>by
  show 0<(bif x==b then(R,())::gm b [] l else gm b (R++[x]) l).length;cases x==b with
  |true=>exact aIx _
  |false=>exact U1 b l _
theorem Ro(b:UInt8):∀(l R:Bytes),Lib.join ((gm b R l).map (·.1)) [b]=R++l
 |[],R=>by
  rfl
 |x::l,R=>by
  show Lib.join ((bif x==b then(R,())::gm b [] l else gm b (R++[x]) l).map (·.1)) [b]=_;cases h:x==b with
  |false=>
   show Lib.join ((gm b (R++[x]) l).map (·.1)) [b]=_;rw[Ro b l (R++[x]),aHO];rfl
  |true=>
   have Z:x=b:=aHE.1 h;have a:=Ro b l [];have C:=U1 b l [];cases e:gm b [] l with
   |nil=>rw[e]at C;exact absurd C (Nat.lt_irrefl 0)
   |cons y r=>rw[e]at a;show Lib.join (R::((y::r).map (·.1))) [b]=_;rw[aHT]at a ⊢;rw[Lib.join_cons]at a ⊢;show R++([b]++y.1++Lib.joinTail [b] (r.map (·.1)))=_;rw[aHO,a,Z];rfl
theorem au7(s:Bytes):gI (pieces 32 s)=s:=by
 grind [gI,pieces,Ro]
def iZ:List dL->Bytes
 |[]=>[]
 |a::r=>32::(a.1++32::(dM a.2++iZ r))
theorem abg:∀as:List dL,Lib.joinTail [32] (fP as)=iZ as
 |[]=>rfl
 |a::r=>by show[32]++a.1++([32]++dM a.2++Lib.joinTail [32] (fP r))=_;rw[abg r];show _=32::(a.1++32::(dM a.2++iZ r));simp
theorem ayO(h:n<as.length):iZ (as.take (n+1))=iZ (as.take n)++32::((as.getD n ([],0,0,[],())).1++32::dM (as.getD n ([],0,0,[],())).2):=by
 induction as generalizing n with
 |nil=>grind
 |cons a r ih=>
  cases n with
  |zero=>
   show 32::(a.1++32::(dM a.2++[]))=[]++32::(a.1++32::dM a.2)
   grind
  |succ n=>
   grind [iZ]
theorem aqu(f:aF):Lib.join (ng f) [32]=Lib.itoa f.2.1++32::((bif f.2.2.1 then[115]else[111])++32::(Lib.itoa f.2.2.2.1++iZ f.2.2.2.2.1)):=by
 grind [ng,sN,Lib.join_cons,abg]
def mY:Bytes:=[102,105,108,101]
def iK(f:aF):Bytes:=Lib.join (mY::Lib.itoa f.1::ng f) [32]
theorem join_one(x:Bytes):Lib.join [x] [32]=x:=by exact aH1 x
theorem auf:∀(a:List Bytes)(y:Bytes)(b:List Bytes),a≠[]->Lib.join (a++y::b) [32]=Lib.join a [32]++32::Lib.join (y::b) [32]
 |[],_,_,h=>(h rfl).elim
 |[x],y,b,_=>by grind [join_one,sN]
 |x::z::a,y,b,_=>by show Lib.join (x::z::(a++y::b)) [32]=_;rw[sN,sN];have:=auf (z::a) y b vk;rw[show z::(a++y::b)=(z::a)++y::b from rfl,this,aHO];rfl
theorem amT(x:Bytes){a:List Bytes}(h:a≠[]):Lib.join [x,Lib.join a [32]] [32]=Lib.join (x::a) [32]:=by
 cases a with
 |nil=>grind
 |cons y r=>grind [sN,join_one]
theorem amU(x:Bytes){a b:List Bytes}(h:a≠[])(g:b≠[]):Lib.join [x,Lib.join a [32],Lib.join b [32]] [32]=Lib.join (x::(a++b)) [32]:=by
 cases a with
 |nil=>grind
 |cons y r=>
  cases b with
  |nil=>grind
  |cons z s=>
   grind [auf,sN,join_one]
theorem Tj(k:Nat)(q:List aA)(i:Int):dW (k+1) q i≠[]:=by
 rw[dW];cases (nodeAt q i.toNat).1==5 with
 |true=>grind
 |false=>
  cases (nodeAt q i.toNat).1==6||(nodeAt q i.toNat).1==7 with
  |true=>grind
  |false=>exact List.cons_ne_nil _ _
theorem apA{n:aA}{a:Int}(h:fH n a=true)(c:n.1=5):0<=n.2.1/\n.2.1<a:=by
 obtain⟨op,l,r,s,k,m,t,⟨⟩⟩:=n;subst c;have h:((decide (0<=l)&&decide (l<=a-1)&&decide (0<a))&&r==0&&(s==[]&&(k==0&&(m==0&&t==[]))))=true:=h
 grind
theorem apB{n:aA}{a:Int}(h:fH n a=true)(c:n.1=6\/n.1=7):(0<=n.2.1/\n.2.1<a)/\0<=n.2.2.1/\n.2.2.1<a:=by
 obtain⟨op,l,r,s,k,m,t,⟨⟩⟩:=n;have h:((decide (0<=l)&&decide (l<=a-1)&&decide (0<a))&&(decide (0<=r)&&decide (r<=a-1))&&(s==[]&&(k==0&&(m==0&&t==[]))))=true:=by
  rcases c with c|c
  .subst c;exact h
  .subst c;exact h
 grind
theorem IA{q:List aA}(h:ax q=true):∀(k j:Nat)(i:Int),0<=i->i.toNat<q.length->i.toNat<k->i.toNat<j->dW k q i=dW j q i
 |0,_,_,_,_,hk,_=>absurd hk (aIg _)
 |_+1,0,_,_,_,_,hj=>absurd hj (aIg _)
 |k+1,j+1,i,hi,hl,hk,hj=>by
  have H:=(kH h hl).1;rw[dW,dW];cases b:(nodeAt q i.toNat).1==5 with
  |true=>
   have L:=apA H (aHE.1 b);show _::dW k q _=_::dW j q _;rw[IA h k j (nodeAt q i.toNat).2.1 L.1 lu lu lu]
  |false=>
  cases a:(nodeAt q i.toNat).1==6||(nodeAt q i.toNat).1==7 with
  |true=>
   rw[aIS,aHE,aHE]at a;have L:=apB H a;rw[IA h k j (nodeAt q i.toNat).2.1 L.1.1 lu lu lu,IA h k j (nodeAt q i.toNat).2.2.1 L.2.1 lu lu lu]
  |false=>rfl
def yD(w:List Bytes):Nat:=(w.map λx=>x.length+1).sum
theorem QV:∀w:List Bytes,(Lib.join w [32]).length<=yD w
 |[]=>aHv _
 |[x]=>by rw[join_one];show x.length<=x.length+1+0;omega
 |x::y::r=>by have:=QV (y::r);rw[sN,aHu,aHx];show _<=x.length+1+yD (y::r);omega
theorem lM(x:Bytes)(r:List Bytes):yD (x::r)=x.length+1+yD r:=by grind [yD]
theorem aug(a b:List Bytes):yD (a++b)=yD a+yD b:=by grind [yD]
theorem afl(op:Int):(iU op).length<=6:=by unfold iU;cases op==1<;>cases op==2<;>cases op==3<;>cases op==4<;>cases op==5<;>cases op==6<;>cases op==7<;>cases op==8<;>cases op==9<;>decide
theorem av4(h:dB v.1 v.2.1 v.2.2.1=true)(S:v.1≠0):(dM v).length<=10:=by
 grind [dM,axr,akg,iC,uy]
theorem auh{n:aA}(h:fH n 0=true)(x:n.1=1\/n.1=2\/n.1=3\/n.1=4\/n.1=8\/n.1=9):yD (kP n)<=25:=by
 have a:n.1=1\/n.2.2.2.1.length<=6:=by
  obtain⟨op,l,r,s,k,m,t,⟨⟩⟩:=n;rcases x with rfl|rfl|rfl|rfl|rfl|rfl
  .exact .inl rfl
  .have h:((l==0&&r==0)&&(k==0&&(m==0&&t==[]))&&dP s)=true:=h
   grind [uy,ni]
  .have h:((l==0&&r==0)&&dP s&&dB k m t&&!(k==0))=true:=h
   grind [uy,ni]
  .have h:((l==0&&r==0)&&dP s&&dB k m t&&k==1)=true:=h
   grind [uy,ni]
  .have h:((l==0&&r==0)&&(k==0&&(m==0&&t==[]))&&bK s)=true:=h
   grind [uy]
  .have h:((l==0&&r==0)&&(k==0&&(m==0&&t==[]))&&bK s)=true:=h
   grind [uy]
 rcases Bf h x with rfl|⟨op,s,rfl,c,X⟩|⟨op,s,v,rfl,c,X,K,S⟩
 .decide
 .have hl:s.length<=6:=a.resolve_left lu;have u:=afl op;rw[JI c,lM,lM];show _+(_+0)<=25;omega
 .have hl:s.length<=6:=a.resolve_left lu;have u:=afl op;have i:=av4 K S;rw[MZ c,lM,lM,lM];show _+(_+(_+0))<=25;omega
theorem QW{q:List aA}(h:ax q=true):∀(k:Nat)(i:Int),0<=i->i.toNat<q.length->yD (dW k q i)+7<=24*2 ^ k
 |0,_,_,_=>by show 0+7<=24*1;decide
 |k+1,i,hi,hl=>by
  have H:=(kH h hl).1;have u:=afl (nodeAt q i.toNat).1;rw[dW];cases b:(nodeAt q i.toNat).1==5 with
  |true=>
   have L:=apA H (aHE.1 b);have j:=QW h k (nodeAt q i.toNat).2.1 L.1 lu
   grind [lM]
  |false=>
  cases a:(nodeAt q i.toNat).1==6||(nodeAt q i.toNat).1==7 with
  |true=>
   rw[aIS,aHE,aHE]at a;have L:=apB H a;have e:=QW h k (nodeAt q i.toNat).2.1 L.1.1 lu;have g:=QW h k (nodeAt q i.toNat).2.2.1 L.2.1 lu
   grind [lM,aug]
  |false=>
   grind [auh,Qm,yD,kP]
theorem anc(q:List aA):(textOf q).length<=12288:=by
 unfold textOf;cases h:ax q with
 |false=>grind
 |true=>
  have Q:=iH h;have:=QW h 9 ((q.length:Int)-1) lu lu
  grind [QV]
theorem IJ:∀t:QT,zo t->Ec t->(bf t).length<=2*t.size+1/\yD (bf t)<=32*t.size
 |.leaf n,hw,ho=>by
  have h:=auh ho hw;refine⟨?_,show yD (kP n)<=32*1 from lu⟩;show(kP n).length<=2*1+1
  grind [kP]
 |.neg t,hw,ho=>by
  obtain⟨E,O⟩:=IJ t hw ho;have:=afl 5;refine⟨?_,?_⟩
  .show(bf t).length+1<=2*(t.size+1)+1;omega
  .show yD (iU 5::bf t)<=32*(t.size+1);rw[lM];omega
 |.two op a b,⟨_,w1,w2⟩,⟨o1,o2⟩=>by
  obtain⟨E,O⟩:=IJ a w1 o1;obtain⟨U,j⟩:=IJ b w2 o2;have:=afl op;refine⟨?_,?_⟩
  .show(bf a++bf b).length+1<=2*(a.size+b.size+1)+1
   grind
  .show yD (iU op::(bf a++bf b))<=32*(a.size+b.size+1);rw[lM,aug];omega
theorem abf:∀as:List dL,(∀a∈as,QU a=true)->yD (fP as)<=18*as.length
 |[],_=>aHv _
 |a::r,h=>by obtain⟨E,O,U⟩:=OM.1 (h a aHJ);have i:=abf r λb J=>h b (aHC _ J);have e:=uy (ni E);have g:=av4 (v:=a.2) O U;show yD (a.1::dM a.2::fP r)<=18*(r.length+1);rw[lM,lM];omega
theorem azb(h:II f=true):yD (ng f)<=24+18*f.2.2.2.2.1.length/\(ng f).length=3+2*f.2.2.2.2.1.length:=by
 obtain⟨E,O,U,j⟩:=Bc.1 h;have i:=abf _ E;have a:=akg U;have b:=akg j;refine⟨?_,?_⟩
 .show yD (Lib.itoa f.2.1::(bif f.2.2.1 then[115]else[111])::Lib.itoa f.2.2.2.1::fP f.2.2.2.2.1)<=_
  grind [lM]
 .show(fP f.2.2.2.2.1).length+1+1+1=_
  grind [Tc]
theorem xE(w:LS)(a i:Int)(b:0<=a)(D:0<=i):wordAt (w.drop a.toNat) i=wordAt w (a+i):=by
 grind [xB,xC]
theorem WN:∀(d:Nat)(w:LS)(q:List aA),(rs d w q).1.length<=max (10+d) q.length/\0<=(rs d w q).2/\(rs d w q).2<3*2 ^ d
 |0,w,q=>⟨Nat.le_max_right _ _,aIe _,by show(0:Int)<_;decide⟩
 |d+1,w,q=>by
  have C:1<=2 ^ d:=aJ0;have e:(1:Int)<=2 ^ d:=ny;rw[rs];cases S:dX (wordAt w 0)==0||decide ((q.length:Int)>9)with
  |true=>grind
  |false=>
  rw[aID,aHW]at S;cases dX (wordAt w 0)==2||(dX (wordAt w 0)==8||dX (wordAt w 0)==9)with
  |true=>grind
  |false=>
  cases dX (wordAt w 0)==3||dX (wordAt w 0)==4 with
  |true=>grind
  |false=>
  cases dX (wordAt w 0)==5||(dX (wordAt w 0)==6||dX (wordAt w 0)==7)with
  |false=>grind
  |true=>
  have a:=WN d (w.drop 1) q;generalize rs d (w.drop 1) q=x at a ⊢;obtain⟨r,k⟩:=x;have a:r.length<=max (10+d) q.length/\0<=k/\k<3*2 ^ d:=a;have b:=WN d (w.drop (1+k).toNat) r;cases k==0 with
  |true=>exact⟨by show r.length<=_;omega,aIe _,by show(0:Int)<_;omega⟩
  |false=>
  cases dX (wordAt w 0)==5 with
  |true=>exact⟨by show(r++[_]).length<=_;rw[aHu,aHx,aHG];omega,by show 0<=1+k;omega,by show 1+k<_;omega⟩
  |false=>
  generalize rs d (w.drop (1+k).toNat) r=y at b ⊢;obtain⟨s,m⟩:=y;have b:s.length<=max (10+d) r.length/\0<=m/\m<3*2 ^ d:=b;cases m==0 with
  |true=>exact⟨by show s.length<=_;omega,aIe _,by show(0:Int)<_;omega⟩
  |false=>exact⟨by show(s++[_]).length<=_;rw[aHu,aHx,aHG];omega,by show 0<=1+k+m;omega,by show 1+k+m<_;omega⟩
theorem JF{n:Int}(h:(-9223372036854775808:Int)<=n/\n<=9223372036854775807):(Lib.itoa n).length<=21:=Lib.itoa_length_le n h.1 h.2
theorem apo{as:List dL}{n:Nat}:(iZ (as.take n)).length<=(iZ as).length:=by
 induction as generalizing n with
 |nil=>grind
 |cons a r ih=>
  cases n with
  |zero=>exact aHV _
  |succ n=>
   grind [iZ]
theorem atJ(E:(-9223372036854775808:Int)<=f.1/\f.1<=9223372036854775807)(O:(-9223372036854775808:Int)<=f.2.1/\f.2.1<=9223372036854775807)(U:(-9223372036854775808:Int)<=f.2.2.2.1/\f.2.2.2.1<=9223372036854775807):
 (iK f).length<=80+(iZ f.2.2.2.2.1).length/\(Lib.join (ng f) [32]).length<=47+(iZ f.2.2.2.2.1).length:=by
 have a:=JF E;have b:=JF O;have g:=JF U;have J:(Lib.join (ng f) [32]).length<=47+(iZ f.2.2.2.2.1).length:=by
  grind [aqu]
 have e:iK f=mY++32::(Lib.itoa f.1++32::Lib.join (ng f) [32]):=by
  grind [iK,sN,ng]
 rw[e];simp only[aHx,aHu,show mY.length=4 from rfl];omega
theorem ahW:∀(a:List UInt8)(k:Nat)(s:List UInt8),∃h t,Lib.splitK a 0 k s=h::t
 |_,0,s=>⟨s,[],rfl⟩
 |a,k+1,s=>by
  unfold Lib.splitK;split
  .exact⟨_,_,rfl⟩
  .exact⟨_,_,rfl⟩
theorem aAv(b c:UInt8)(l h:List UInt8)(t:List (List UInt8))(J:b≠c)(e:Lib.splitK [c] 0 (Lib.count l [c]) l=h::t):Lib.splitK [c] 0 (Lib.count (b::l) [c]) (b::l)=(b::h)::t:=by
 rw[Lib.count_cons_ne b c l J];have C:([c]:List UInt8).isPrefixOf (b::l)=false:=by simp[List.isPrefixOf,aJB J]
 have g:Lib.index (b::l) [c]=if Lib.index l [c]==-1 then -1 else Lib.index l [c]+1:=by rw[Lib.index,C];simp
 cases u:Lib.count l [c]with
 |zero=>rw[u]at e;simp only[Lib.splitK,List.cons.injEq]at e ⊢;exact⟨⟨trivial,e.1⟩,e.2⟩
 |succ k=>
  rw[u]at e;by_cases o:Lib.index l [c]=-1
  .rw[Lib.count_miss o]at u;cases u
  .have hge:=Lib.index_ge l [c];obtain⟨j,i⟩:∃j:Nat,Lib.index l [c]=j:=⟨(Lib.index l [c]).toNat,lu⟩;have a:Lib.index (b::l) [c]=((j+1:Nat):Int):=by rw[g,if_neg (λe=>o (aHE.1 e)),i];omega
   simp only[Lib.splitK]at e ⊢;rw[i,if_neg (λh=>by have:=aHE.1 h;omega)]at e;rw[a,if_neg (λh=>by have:=aHE.1 h;omega)];simp only[List.cons.injEq,aHB]at e ⊢;refine⟨?_,?_⟩
   .rw[← e.1];rfl
   .rw[← e.2];rfl
theorem aAw(c:UInt8)(l:List UInt8):Lib.splitK [c] 0 (Lib.count (c::l) [c]) (c::l)=[]::Lib.splitK [c] 0 (Lib.count l [c]) l:=by
 rw[Lib.count_cons_eq,Nat.add_comm];have a:Lib.index (c::l) [c]=((0:Nat):Int):=by rw[Lib.index];simp[List.isPrefixOf]
 simp only[Lib.splitK];rw[a,if_neg vk];rfl
theorem PZ(c:UInt8):∀(l R h:Bytes)(t:List Bytes),Lib.splitK [c] 0 (Lib.count l [c]) l=h::t->(gm c R l).map (·.1)=(R++h)::t
 |[],R,h,t,e=>by
  have S:Lib.count [] [c]=0:=Lib.count_one c [];rw[S]at e;simp only[Lib.splitK,List.cons.injEq]at e;rw[← e.1,← e.2,aH1];rfl
 |b::l,R,h,t,e=>by
  obtain⟨g,i,a⟩:=ahW [c] (Lib.count l [c]) l;by_cases J:b=c
  .obtain rfl:b=c:=J;rw[aAw,List.cons.injEq]at e;have Q:gm b R (b::l)=(R,())::gm b [] l:=by rw[gm,aJJ];rfl
   rw[Q,aHT,PZ b l [] g i a,← e.1,← e.2,a,aH1,aIG]
  .rw[aAv b c l g i J a,List.cons.injEq]at e;have Q:gm c R (b::l)=gm c (R++[b]) l:=by rw[gm,aHt.2 J];rfl
   rw[Q,PZ c l (R++[b]) g i a,← e.1,← e.2,aHO];rfl
theorem asR(c:UInt8)(s:Bytes):(pieces c s).map (·.1)=Lib.split s [c]:=by obtain⟨h,t,e⟩:=ahW [c] (Lib.count s [c]) s;unfold pieces Lib.split;rw[PZ c s [] h t e,e,aIG]
theorem XY(c:UInt8):∀(l R:Bytes)(x:Bytes×Unit),x∈gm c R l->x.1.length<=R.length+l.length
 |[],R,x,h=>by
  simp only[gm,aH9]at h;subst h;simp
 |b::l,R,x,h=>by
  rw[gm]at h;cases J:b==c with
  |true=>
   rw[J]at h;rcases aHH.1 h with rfl|h
   .simp
   .have:=XY c l [] x h;simp at this ⊢;omega
  |false=>rw[J]at h;have:=XY c l (R++[b]) x h;simp at this ⊢;omega
theorem Il{c:UInt8}{s:Bytes}:∀x∈pieces c s,x.1.length<=s.length:=λx Z=>by have:=XY c s [] x Z;simpa using this
theorem U5(c:UInt8):∀(l R:Bytes),(gm c R l).length<=l.length+1
 |[],R=>aHv _
 |b::l,R=>by
  rw[gm];cases b==c with
  |true=>have:=U5 c l [];show _+1<=_;simp;omega
  |false=>have:=U5 c l (R++[b]);show(gm c (R++[b]) l).length<=_;simp;omega
theorem pieces_len(c:UInt8)(s:Bytes):(pieces c s).length<=s.length+1:=U5 c s []
theorem WL{n:aA}{a:Int}(H:fH n a=true):(n.1=1\/n.1=2\/n.1=3\/n.1=4\/n.1=8\/n.1=9)\/n.1=5\/n.1=6\/n.1=7:=by
 obtain⟨op,l,r,s,k,m,t,⟨⟩⟩:=n;dsimp only;by_cases b:op=1
 .omega
 by_cases e:op=2
 .omega
 by_cases g:op=3
 .omega
 by_cases h:op=4
 .omega
 by_cases i:op=5
 .omega
 by_cases j:op=6
 .omega
 by_cases o:op=7
 .omega
 by_cases q:op=8
 .omega
 by_cases u:op=9
 .omega
 unfold fH at H;dsimp only at H;rw[aHt.2 b,aHt.2 e,aHt.2 g,aHt.2 h,aHt.2 i,aHt.2 j,aHt.2 o,aHt.2 q,aHt.2 u]at H;cases H
variable {q:List aA}
theorem avM{i:Int}(k:Nat)(c:(nodeAt q i.toNat).1=1\/(nodeAt q i.toNat).1=2\/(nodeAt q i.toNat).1=3\/(nodeAt q i.toNat).1=4\/(nodeAt q i.toNat).1=8\/(nodeAt q i.toNat).1=9):dW (k+1) q i=kP (nodeAt q i.toNat):=by rw[dW,aHt.2 (show(nodeAt q i.toNat).1≠5 from lu),aHt.2 (show(nodeAt q i.toNat).1≠6 from lu),aHt.2 (show(nodeAt q i.toNat).1≠7 from lu)];rfl
theorem ayI{i:Int}(h:ax q=true)(S:0<=i)(Q:i<(q.length:Int))(c:(nodeAt q i.toNat).1=5):
 dW (i.toNat+1) q i=iU 5::dW ((nodeAt q i.toNat).2.1.toNat+1) q (nodeAt q i.toNat).2.1/\0<=(nodeAt q i.toNat).2.1/\(nodeAt q i.toNat).2.1<i:=by
 have H:=(kH h (show i.toNat<q.length from lu)).1;have u:=apA H c;have a:(nodeAt q i.toNat).2.1<i:=by have:=u.2;omega
 refine⟨?_,u.1,a⟩;rw[dW,aHE.2 c,c,IA h i.toNat ((nodeAt q i.toNat).2.1.toNat+1) (nodeAt q i.toNat).2.1 u.1 lu lu lu];rfl
theorem ayJ{i:Int}(h:ax q=true)(S:0<=i)(Q:i<(q.length:Int))(c:(nodeAt q i.toNat).1=6\/(nodeAt q i.toNat).1=7):
 dW (i.toNat+1) q i=iU (nodeAt q i.toNat).1::(dW ((nodeAt q i.toNat).2.1.toNat+1) q (nodeAt q i.toNat).2.1++dW ((nodeAt q i.toNat).2.2.1.toNat+1) q (nodeAt q i.toNat).2.2.1)/\
  (0<=(nodeAt q i.toNat).2.1/\(nodeAt q i.toNat).2.1<i)/\0<=(nodeAt q i.toNat).2.2.1/\(nodeAt q i.toNat).2.2.1<i:=by
 have H:=(kH h (show i.toNat<q.length from lu)).1;have u:=apB H c;have e:((i.toNat:Nat):Int)=i:=lu;rw[e]at u;refine⟨?_,u.1,u.2⟩;have L:((nodeAt q i.toNat).1==6||(nodeAt q i.toNat).1==7)=true:=by rcases c with c|c<;>rw[c]<;>rfl
 rw[dW,aHt.2 (show(nodeAt q i.toNat).1≠5 from lu),L,IA h i.toNat ((nodeAt q i.toNat).2.1.toNat+1) (nodeAt q i.toNat).2.1 u.1.1 lu lu lu,
  IA h i.toNat ((nodeAt q i.toNat).2.2.1.toNat+1) (nodeAt q i.toNat).2.2.1 u.2.1 lu lu lu]
 rfl
theorem atB{i:Int}(h:ax q=true)(S:0<=i)(Q:i<(q.length:Int)):(Lib.join (dW (i.toNat+1) q i) [32]).length<=12288:=by have:=(iH h).2;have x:=QW h (i.toNat+1) i S lu;have C:2 ^ (i.toNat+1)<=2 ^ 9:=Nat.pow_le_pow_right lZ lu;refine aHw (QV _) ?_;have e:(2:Nat) ^ 9=512:=lZ;omega
def OE(w:Bytes):Nat->Int
 |0=>0
 |k+1=>bif w==iU ((k:Int)+1)then(k:Int)+1 else OE w k
theorem amY(w:Bytes):OE w 9=dX w:=by
 rcases Fe w with h|⟨h,e⟩
 .have no:∀op:Int,(op=1\/op=2\/op=3\/op=4\/op=5\/op=6\/op=7\/op=8\/op=9)->(w==iU op)=false:=λop F=>aHt.2 λe=>by rw[e,D8 F]at h;omega
  rw[h];simp only[OE];rw[no _ lZ,no _ lZ,no _ lZ,no _ lZ,no _ lZ,no _ lZ,no _ lZ,no _ lZ,no _ lZ];rfl
 .rw[← e];rcases h with h|h|h|h|h|h|h|h|h<;>rw[h]<;>decide
theorem amZ(w:Bytes):0<=dX w/\dX w<=9:=by rcases Fe w with h|⟨h,_⟩<;>omega
theorem am4(h:n<as.length):fP (as.take (n+1))=fP (as.take n)++[(as.getD n ([],0,0,[],())).1,dM (as.getD n ([],0,0,[],())).2]:=by
 induction as generalizing n with
 |nil=>exact absurd h (aIg _)
 |cons a r ih=>
  cases n with
  |zero=>rfl
  |succ n=>
   have h:n<r.length:=by rw[aHx]at h;omega
   show a.1::dM a.2::fP (r.take (n+1))=a.1::dM a.2::(fP (r.take n)++_);rw[ih h];rfl
theorem PW:∀as:List dL,(fP as).length=2*as.length
 |[]=>rfl
 |a::r=>by show(fP r).length+1+1=2*(r.length+1);rw[PW r];omega
def RQ(q:List aA):QT->Nat->Prop
 |.leaf n,i=>nodeAt q i=n/\(n.1=1\/n.1=2\/n.1=3\/n.1=4\/n.1=8\/n.1=9)
 |.neg t,i=>(nodeAt q i).1=5/\RQ q t (nodeAt q i).2.1.toNat
 |.two op a b,i=>(nodeAt q i).1=op/\(op=6\/op=7)/\RQ q a (nodeAt q i).2.1.toNat/\RQ q b (nodeAt q i).2.2.1.toNat
theorem anv{q:List aA}:∀(t:QT)(i:Nat),RQ q t i->zo t
 |.leaf _,_,h=>h.2
 |.neg t,_,h=>anv t _ h.2
 |.two _ a b,_,h=>⟨h.2.1,anv a _ h.2.2.1,anv b _ h.2.2.2⟩
theorem aB5(h:ax q=true)(i:Nat)(D:i<q.length):∃t,RQ q t i:=by
 induction i using Nat.strongRecOn with
 |_ i ih=>
  obtain⟨e,g⟩:=nU h D;rcases WL (kH h D).1 with c|c|c
  .exact⟨.leaf (nodeAt q i),rfl,c⟩
  .obtain⟨_,l⟩:=e (.inl c);obtain⟨t,o⟩:=ih _ l lu;exact⟨.neg t,c,o⟩
  .obtain⟨_,l1⟩:=e (.inr (lK.2 c));obtain⟨_,s⟩:=g (lK.2 c);obtain⟨a,j⟩:=ih _ l1 lu;obtain⟨b,J⟩:=ih _ s lu;exact⟨.two (nodeAt q i).1 a b,rfl,c,j,J⟩
theorem anw{q:List aA}(h:ax q=true):∀(t:QT)(i:Nat),i<q.length->RQ q t i->Ec t
 |.leaf n,i,hi,ht=>by
  obtain⟨rfl,c⟩:=ht;show fH (nodeAt q i) 0=true
  grind [Qm,kH]
 |.neg t,i,hi,ht=>anw h t _ (by have:=((nU h hi).1 (.inl ht.1)).2;omega) ht.2
 |.two op a b,i,hi,⟨e,c,ha,hb⟩=>by have c:kU (nodeAt q i)=true:=lK.2 arG;exact⟨anw h a _ (by grind [nU]) ha,anw h b _ (by grind [nU]) hb⟩
theorem abw{q:List aA}(h:ax q=true):∀(t:QT)(i k:Nat),i<q.length->i<k->RQ q t i->dW k q (i:Int)=bf t
 |_,_,0,_,hk,_=>absurd hk (aIg _)
 |.leaf n,i,k+1,hi,hk,ht=>by
  obtain⟨rfl,c⟩:=ht;rw[dW,aHB,show((nodeAt q i).1==5)=false from aHt.2 lu,show((nodeAt q i).1==6)=false from aHt.2 lu,show((nodeAt q i).1==7)=false from aHt.2 lu];rfl
 |.neg t,i,k+1,hi,hk,⟨e,ht⟩=>by
  obtain⟨g,x⟩:=(nU h hi).1 (.inl e);have u:=abw h t _ k lu lu ht;rw[aJT g]at u;rw[dW,aHB,u,e];rfl
 |.two op a b,i,k+1,hi,hk,⟨e,c,ha,hb⟩=>by have j:kU (nodeAt q i)=true:=lK.2 arG;obtain⟨g,x⟩:=(nU h hi).1 (.inr j);obtain⟨y,z⟩:=(nU h hi).2 j;have o:=abw h a _ k lu lu ha;have s:=abw h b _ k lu lu hb;rw[aJT g]at o;rw[aJT y]at s;rw[dW,aHB,o,s,e];rcases c with rfl|rfl<;>rfl
def vis(q:List aA):QT->Nat->List Nat
 |.leaf _,i=>[i]
 |.neg t,i=>i::vis q t (nodeAt q i).2.1.toNat
 |.two _ a b,i=>i::(vis q a (nodeAt q i).2.1.toNat++vis q b (nodeAt q i).2.2.1.toNat)
theorem afR{q:List aA}:∀(t:QT)(i:Nat),(vis q t i).length=t.size
 |.leaf _,_=>rfl
 |.neg t,_=>by rw[vis,aHx,afR t];rfl
 |.two _ a b,_=>by rw[vis,aHx,aHu,afR a,afR b];rfl
theorem Zj{q:List aA}(h:ax q=true):∀(t:QT)(i:Nat),i<q.length->RQ q t i->∀p∈vis q t i,p<=i
 |.leaf _,i,_,_,p,C=>by rw[aH9.1 C];omega
 |.neg t,i,hi,⟨e,ht⟩,p,C=>by
  obtain⟨_,j⟩:=(nU h hi).1 (.inl e);rcases aHH.1 C with rfl|C
  .omega
  .have:=Zj h t _ lu ht p C;omega
 |.two op a b,i,hi,⟨e,c,ha,hb⟩,p,C=>by
  have g:kU (nodeAt q i)=true:=lK.2 arG;obtain⟨_,j⟩:=(nU h hi).1 (.inr g);obtain⟨_,o⟩:=(nU h hi).2 g;rcases aHH.1 C with rfl|C
  .omega
  rcases aH3.1 C with C|C
  .have:=Zj h a _ lu ha p C;omega
  .have:=Zj h b _ lu hb p C;omega
theorem afm{n:aA}(j:Nat)(c:n.1=1\/n.1=2\/n.1=3\/n.1=4\/n.1=8\/n.1=9):refsOf j n=0:=by
 grind [refsOf,kU]
theorem akh{n:aA}(j:Nat)(c:n.1=5)(S:0<=n.2.1):refsOf j n=if j=n.2.1.toNat then 1 else 0:=by
 grind [refsOf,kU]
theorem aki{n:aA}(j:Nat)(c:n.1=6\/n.1=7)(S:0<=n.2.1)(E:0<=n.2.2.1):refsOf j n=(if j=n.2.1.toNat then 1 else 0)+(if j=n.2.2.1.toNat then 1 else 0):=by
 grind [refsOf,lK]
theorem ahX(j i:Nat)(l:List Nat):(i::l).count j=(if j=i then 1 else 0)+l.count j:=by
 grind
theorem abx{q:List aA}(h:ax q=true)(j:Nat):∀(t:QT)(i:Nat),i<q.length->RQ q t i->(vis q t i).count j=(if j=i then 1 else 0)+((vis q t i).map λp=>refsOf j (nodeAt q p)).sum
 |.leaf n,i,_,ht=>by
  obtain⟨rfl,c⟩:=ht
  grind [vis,afm]
 |.neg t,i,hi,⟨e,ht⟩=>by
  obtain⟨g,u⟩:=(nU h hi).1 (.inl e);rw[vis,ahX,abx h j t _ lu ht,aHT,aIu,akh j e g]
 |.two op a b,i,hi,⟨e,c,ha,hb⟩=>by have o:(nodeAt q i).1=6\/(nodeAt q i).1=7:=arG;have s:kU (nodeAt q i)=true:=lK.2 o;obtain⟨g,u⟩:=(nU h hi).1 (.inr s);obtain⟨x,y⟩:=(nU h hi).2 s;rw[vis,ahX,List.count_append,abx h j a _ lu ha,abx h j b _ lu hb,aHT,aIu,aIk,aJx,aki j o g x];omega
theorem av5(f:Nat->Nat)(a:Nat):∀n,a<n->((List.range n).map λp=>(if p=a then 1 else 0)*f p).sum=f a
 |n+1,h=>by
  rw[aJO,aIk,aJx,aHT,List.map_nil,aIu,List.sum_nil];by_cases e:n=a
  .subst e;have z:∀m,m<=n->((List.range m).map λp=>(if p=n then 1 else 0)*f p).sum=0:=by
    intro m
    induction m with
    |zero=>intro _;rfl
    |succ m ih=>
     grind [List.range_succ]
   grind
  .rw[av5 f a n lu,if_neg e];omega
theorem sum_add(f g:Nat->Nat):∀l:List Nat,(l.map λp=>f p+g p).sum=(l.map f).sum+(l.map g).sum
 |[]=>rfl
 |a::l=>by rw[aHT,aIu,sum_add f g l,aHT,aIu,aHT,aIu];omega
theorem afn(f:Nat->Nat)(n:Nat):∀l:List Nat,(∀p∈l,p<n)->(l.map f).sum=((List.range n).map λp=>l.count p*f p).sum
 |[],_=>by
  have:∀r:List Nat,(r.map λp=>([]:List Nat).count p*f p).sum=0:=by
   intro r
   induction r with
   |nil=>rfl
   |cons a r ih=>grind
  rw[this];rfl
 |a::l,h=>by
  have e:(λp=>(a::l).count p*f p)=λp=>(if p=a then 1 else 0)*f p+l.count p*f p:=by
   grind
  rw[e,sum_add,av5 f a n (h a aHJ),aHT,aIu,afn f n l λp C=>h p (aHC _ C)]
theorem map_range(g:aA->Nat)(q:List aA):q.map g=(List.range q.length).map λp=>g (nodeAt q p):=by
 grind [List.ext_getElem,List.length_map,nodeAt]
theorem aby{f g:Nat->Nat}:∀l:List Nat,(∀p∈l,f p=g p)->(l.map f).sum=(l.map g).sum
 |[],_=>rfl
 |a::l,h=>by rw[aHT,aIu,aHT,aIu,h a aHJ,aby l λp C=>h p (aHC _ C)]
theorem aqD(h:ax q=true){p j:Nat}(C:p<q.length)(e:p<=j):refsOf j (nodeAt q p)=0:=by
 obtain⟨a,b⟩:=nU h C;rcases WL (kH h C).1 with c|c|c
 .exact afm j c
 · grind [akh]
 grind [lK,aki]
theorem count_one(h:ax q=true)(b:RQ q t (q.length-1)):∀(m j:Nat),j<q.length->q.length-1-j=m->(vis q t (q.length-1)).count j=1:=by
 intro m
 induction m using Nat.strongRecOn with
 |_ m ih=>
  intro j g i;rw[abx h j t _ lu b,afn _ q.length _ λp C=>by have:=Zj h t _ lu b p C;omega];have e:((List.range q.length).map λp=>(vis q t (q.length-1)).count p*refsOf j (nodeAt q p)).sum=((List.range q.length).map λp=>refsOf j (nodeAt q p)).sum:=by
   grind [aby,aqD]
  rw[e];by_cases c:j=q.length-1
  .rw[if_pos c];have z:((List.range q.length).map λp=>refsOf j (nodeAt q p)).sum=((List.range q.length).map λ_=>0).sum:=aby _ λp C=>aqD h (aIL.1 C) ny;rw[z];have:∀r:List Nat,(r.map λ_=>0).sum=0:=by
    intro r
    induction r with
    |nil=>rfl
    |cons a r ih=>grind
   rw[this]
  .have:=(kH h g).2 lu
   grind [iY,map_range]
theorem azc(h:ax q=true)(i:RQ q t (q.length-1)):t.size=q.length:=by
 have Q:=iH h;have e:=afn (λ_=>1) q.length (vis q t (q.length-1)) λp C=>by have:=Zj h t _ lu i p C;omega
 have b:∀r:List Nat,(r.map λ_=>1).sum=r.length:=by
  intro r
  induction r with
  |nil=>rfl
  |cons a r ih=>grind
 rw[b,afR,aby (g:=λ_=>1) _ λp C=>by rw[count_one h i _ p (aIL.1 C) rfl],b,List.length_range]at e;exact e
theorem XZ{l r:List aA}{i:Nat}(h:i<l.length):nodeAt (l++r) i=nodeAt l i:=by
 grind [nodeAt]
theorem U6{l r:List aA}{i:Nat}(h:l.length<=i):nodeAt (l++r) i=nodeAt r (i-l.length):=by
 grind [nodeAt]
theorem aC8{l a:Int}(S:0<=l)(E:l<=a-1):fH (5,l,0,[],0,0,[],()) a=true:=by
 grind [fH]
theorem ok_two{l r a:Int}(c:op=6\/op=7)(S:0<=l)(E:l<=a-1)(b:0<=r)(e:r<=a-1):fH (op,l,r,[],0,0,[],()) a=true:=by
 grind [fH]
theorem afS:∀(t:QT)(b i:Nat),zo t->Ec t->i<t.size->fH (nodeAt (post t b) i) ((b+i:Nat):Int)=true
 |.leaf n,b,i,hw,ho,D=>by
  have D:i<1:=D;obtain rfl:i=0:=lu;show fH n _=true;rw[Qm _ hw];exact ho
 |.neg t,b,i,hw,ho,D=>by
  have D:i<t.size+1:=D;have C:=gV t b;have X:=size_pos t;rw[post];rcases aHU i t.size with g|g
  .rw[XZ lu];exact afS t b i hw ho g
  .rw[U6 lu,C,show i-t.size=0 from lu];exact aC8 lu lu
 |.two op x y,b,i,⟨c,w1,w2⟩,⟨o1,o2⟩,D=>by
  have D:i<x.size+y.size+1:=D;have C:=gV x b;have a:=gV y (b+x.size);have X:=size_pos x;rw[post];rcases aHU i x.size with g|g
  .rw[XZ lu];exact afS x b i w1 o1 g
  .rw[U6 lu,C];rcases aHU (i-x.size) y.size with e|e
   .rw[XZ lu];have:=afS y (b+x.size) (i-x.size) w2 o2 e
    rwa [show b+x.size+(i-x.size)=b+i from lu]at this
   .rw[U6 lu,a,show i-x.size-y.size=0 from lu];exact ok_two c lu lu lu lu
theorem WV:∀(t:QT)(b j:Nat),zo t->iY (post t b) j=if b<=j/\j+1<b+t.size then 1 else 0
 |.leaf n,b,j,hw=>by
  have:iY (post (.leaf n) b) j=refsOf j n+0:=rfl;rw[this,afm j hw,if_neg (by show ¬(b<=j/\j+1<b+1);omega)]
 |.neg t,b,j,hw=>by
  have X:=size_pos t;have e:iY (post (.neg t) b) j=iY (post t b) j+(refsOf j (5,((b+t.size:Nat):Int)-1,0,[],0,0,[],())+0):=by
   grind [iY,post]
  rw[e,WV t b j hw,akh j rfl ny];have T:(((b+t.size:Nat):Int)-1).toNat=b+t.size-1:=lu;show _+((if j=(((b+t.size:Nat):Int)-1).toNat then 1 else 0)+0)=if b<=j/\j+1<b+(t.size+1)then 1 else 0
  grind
 |.two op x y,b,j,⟨c,w1,w2⟩=>by
  have X:=size_pos x;have a:=size_pos y;have e:iY (post (.two op x y) b) j=iY (post x b) j+(iY (post y (b+x.size)) j+(refsOf j (op,((b+x.size:Nat):Int)-1,((b+x.size+y.size:Nat):Int)-1,[],0,0,[],())+0)):=by
   grind [iY,post]
  rw[e,WV x b j w1,WV y _ j w2,aki j c ny ny];have T:(((b+x.size:Nat):Int)-1).toNat=b+x.size-1:=lu;have g:(((b+x.size+y.size:Nat):Int)-1).toNat=b+x.size+y.size-1:=lu;show _+(_+((if j=(((b+x.size:Nat):Int)-1).toNat then 1 else 0)+(if j=(((b+x.size+y.size:Nat):Int)-1).toNat then 1 else 0)+0))=if b<=j/\j+1<b+(x.size+y.size+1)then 1 else 0
  grind
theorem aui(x:zo t)(F:Ec t)(X:t.size<=9):ax (post t 0)=true:=by
 grind [size_pos,ax,gV,iF,afS,mQ,WV]
theorem abz:∀(t:QT)(l r:List aA),zo t->RQ (l++(post t l.length++r)) t (l.length+t.size-1)
 |.leaf n,l,r,hw=>by
  refine⟨?_,hw⟩;exact JJ l r n
 |.neg t,l,r,hw=>by
  have e:l++(post (.neg t) l.length++r)=l++(post t l.length++(((5,((l.length+t.size:Nat):Int)-1,0,[],0,0,[],()):aA)::r)):=by
   grind [post]
  have a:nodeAt (l++(post (.neg t) l.length++r)) (l.length+t.size)=(5,((l.length+t.size:Nat):Int)-1,0,[],0,0,[],()):=by
   grind [gV,JJ]
  have b:l.length+(QT.neg t).size-1=l.length+t.size:=by show l.length+(t.size+1)-1=_;omega
  have g:=abz t l ((5,((l.length+t.size:Nat):Int)-1,0,[],0,0,[],())::r) hw;rw[← e]at g;rw[b];refine⟨by rw[a],?_⟩;rw[a];rw[show(((l.length+t.size:Nat):Int)-1).toNat=l.length+t.size-1 from lu];exact g
 |.two op x y,l,r,⟨c,w1,w2⟩=>by
  generalize H:((op,((l.length+x.size:Nat):Int)-1,((l.length+x.size+y.size:Nat):Int)-1,[],0,0,[],()):aA)=N;have e:l++(post (.two op x y) l.length++r)=l++(post x l.length++(post y (l.length+x.size)++(N::r))):=by
   grind [post]
  have i:=abz x l (post y (l.length+x.size)++(N::r)) w1;have h:=abz y (l++post x l.length) (N::r) w2;rw[aHu,gV,aHO]at h;have a:nodeAt (l++(post (.two op x y) l.length++r)) (l.length+x.size+y.size)=N:=by
   grind [gV,JJ]
  have b:l.length+(QT.two op x y).size-1=l.length+x.size+y.size:=by show l.length+(x.size+y.size+1)-1=_;omega
  grind [RQ]
def tD:QT->Bool->List (Bool×Bytes)
 |.leaf n,p=>bif tK n then[(p,n.2.2.2.1)]else[]
 |.neg t,_=>tD t true
 |.two _ a b,p=>tD a p++tD b p
theorem auj{n:aA}(c:n.1=5\/n.1=6\/n.1=7):tK n=false:=by
 grind [tK]
theorem anx{q:List aA}(h:ax q=true)(x:Bool×Bytes):∀(t:QT)(i:Nat),i<q.length->RQ q t i->(x∈tD t (zi q i)↔∃p∈vis q t i,tK (nodeAt q p)=true/\x=(zi q p,(nodeAt q p).2.2.2.1))
 |.leaf n,i,hi,⟨e,c⟩=>by
  subst e;rw[tD];cases H:tK (nodeAt q i)with
  |true=>exact⟨λZ=>⟨i,aHJ,H,aH9.1 Z⟩,λ⟨p,C,_,e⟩=>by rw[aH9.1 C]at e;grind⟩
  |false=>exact⟨λZ=>(List.not_mem_nil Z).elim,λ⟨p,C,e,_⟩=>by rw[aH9.1 C,H]at e;cases e⟩
 |.neg t,i,hi,⟨e,ht⟩=>by
  obtain⟨y,z⟩:=(nU h hi).1 (.inl e);have u:=anx h x t _ lu ht;rw[(abn h hi).1 e]at u;rw[tD,vis,u];refine⟨λ⟨p,C,r⟩=>⟨p,aHC _ C,r⟩,λ⟨p,C,r⟩=>?_⟩;rcases aHH.1 C with rfl|C
  .rw[auj (.inl e)]at r;cases r.1
  .exact⟨p,C,r⟩
 |.two op a b,i,hi,⟨e,c,ha,hb⟩=>by
  have j:(nodeAt q i).1=6\/(nodeAt q i).1=7:=arG;have g:kU (nodeAt q i)=true:=lK.2 j;obtain⟨y,z⟩:=(nU h hi).1 (.inr g);obtain⟨D,E⟩:=(nU h hi).2 g;obtain⟨A,B⟩:=(abn h hi).2 g;have o:=anx h x a _ lu ha;have s:=anx h x b _ lu hb;rw[A]at o;rw[B]at s;rw[tD,vis,aH3,o,s];refine⟨λZ=>?_,λ⟨p,C,r⟩=>?_⟩
  .rcases Z with⟨p,C,r⟩|⟨p,C,r⟩
   .exact⟨p,aHC _ (aIh _ C),r⟩
   .exact⟨p,aHC _ (aIA _ C),r⟩
  .rcases aHH.1 C with rfl|C
   .rw[auj (.inr j)]at r;cases r.1
   rcases aH3.1 C with C|C
   .exact .inl ⟨p,C,r⟩
   .exact .inr ⟨p,C,r⟩
theorem aqE(h:ax q=true)(g:RQ q t (q.length-1))(s:Bytes)(b:Bool):s∈fA q b↔(b,s)∈tD t false:=by
 have Q:=iH h;have H:(negated q).length=q.length:=by grind [negated,F8]
 have a:=anx h (b,s) t (q.length-1) lu g;rw[anm h]at a;rw[a];constructor
 .intro hs;unfold fA at hs;rw[List.mem_filterMap]at hs;obtain⟨i,D,e⟩:=hs;have D:i<q.length:=ny;cases L:tK (nodeAt q i)&&((negated q).getD i (false,())).1==b with
  |false=>grind
  |true=>rw[L]at e;rw[aHy]at L;have e:(nodeAt q i).2.2.2.1=s:=Option.some.inj e;have J:zi q i=b:=aHE.1 L.2;refine⟨i,List.count_pos_iff.1 (by rw[count_one h g _ i D rfl];decide),L.1,by rw[J,e]⟩
 .rintro⟨p,C,hd,e⟩;have C:p<q.length:=by have:=Zj h t _ lu g p C;omega
  grind [atV]
theorem azd(h:ax q=true):∃t,RQ q t (q.length-1)/\zo t/\Ec t/\t.size=q.length/\textOf q=Lib.join (bf t) [32]/\iE (textOf q)=true/\iJ (textOf q)=post t 0/\ax (post t 0)=true/\∀s b,s∈fA (post t 0) b↔s∈fA q b:=by
 have Q:=iH h;obtain⟨t,a⟩:=aB5 h (q.length-1) lu;have x:=anv t _ a;have F:=anw h t _ lu a;have o:=azc h a;have i:=aui x F lu;have Z:=abw h t (q.length-1) 9 lu lu a;have e:textOf q=Lib.join (bf t) [32]:=by
  grind [textOf]
 obtain⟨z,u⟩:=IJ t x F;obtain⟨y,g⟩:=anq (KU t x F) (aHw (aHw (QV _) u) lu) lu;have C:iE (textOf q)=true:=(abu _).2 ⟨ny,t,x,i,by rw[e];exact g⟩;have j:iJ (textOf q)=post t 0:=by rw[(aa6 C).2.1,auc x i (by rw[e];exact g)]
 refine⟨t,a,x,F,o,e,C,j,i,λs b=>?_⟩;have D:=abz t [] [] x;rw[aqE h a,aqE i (t:=t) akT]
theorem anz(h:ax q=true):∃t,zo t/\Ec t/\t.size=q.length/\textOf q=Lib.join (bf t) [32]/\iE (textOf q)=true/\iJ (textOf q)=post t 0/\ax (post t 0)=true/\∀s b,s∈fA (post t 0) b↔s∈fA q b:=by obtain⟨t,_,r⟩:=azd h;exact⟨t,r⟩
abbrev Qn:=Bool×List dL×Unit
def U7:Qn:=(false,[],())
def aC9(l:List dL)(x:dL):Bool:=l.any λy=>y.1==x.1
def aDa(l:List dL)(x:dL):Bool:=l.any λy=>y.1==x.1&&!decide (y.2=x.2)
def aze(name:Bytes)(y:dL):Bool:=Op.bytesLess y.1 name
def aF4(l:List dL)(x:dL):List dL:=l.takeWhile (aze x.1)++x::l.dropWhile (aze x.1)
def auk(a:List dL):List dL->List dL->Option (List dL)
 |acc,[]=>some acc
 |acc,x::r=>bif aDa a x then none else bif aC9 a x then auk a acc r else auk a (aF4 acc x) r
def aEv:Option (List dL)->Qn
 |some l=>(true,l,())
 |none=>U7
def aDb(a b:Qn):Qn:=bif a.1&&b.1 then aEv (auk a.2.1 a.2.1 b.2.1)else U7
def aF5(a b:Qn):Qn:=bif a.1==b.1 then U7 else bif a.1 then a else b
def Zk(q:List aA)(f:aF)(X:BX)(a:Nat)(m:Bool):Qn:=
 if val q f X a=m then(true,[],())
 else if(nodeAt q a).1=5 then(if h:(nodeAt q a).2.1.toNat<a then Zk q f X (nodeAt q a).2.1.toNat (!m)else U7)
 else if kU (nodeAt q a)=true then(if h:(nodeAt q a).2.1.toNat<a/\(nodeAt q a).2.2.1.toNat<a then
  (bif ((nodeAt q a).1==6)==m then aDb (Zk q f X (nodeAt q a).2.1.toNat m) (Zk q f X (nodeAt q a).2.2.1.toNat m)
   else aF5 (Zk q f X (nodeAt q a).2.1.toNat m) (Zk q f X (nodeAt q a).2.2.1.toNat m))else U7)
 else if(nodeAt q a).1=3/\m=true then(true,[((nodeAt q a).2.2.2.1,(nodeAt q a).2.2.2.2.1,(nodeAt q a).2.2.2.2.2.1,(nodeAt q a).2.2.2.2.2.2.1,())],())
 else if(nodeAt q a).1=2/\m=false then(true,[((nodeAt q a).2.2.2.1,0,0,[],())],())
 else U7
termination_by a
decreasing_by all_goals omega
def aDc(a l:List dL):List dL:=l.foldl (λa x=>avU a x.1 x.2.1 x.2.2.1 x.2.2.2.1) a
def azf(l:List dL)(i:Nat):List dL:=l.take i++l.drop (i+1)
def edited(f:aF)(l:List dL):aF:=(f.1,f.2.1,f.2.2.1,f.2.2.2.1,aDc f.2.2.2.2.1 l,())
theorem aul{fs:List bY}(h:gq fs f=true):um fs f.2.2.2.2.1=true:=by
 grind [gq]
theorem U8{s:dV}:bg s=true↔(∀f∈s.2.1,gq s.1 f=true/\f.1<s.2.2.1)/\(s.2.1.Pairwise λf g=>f.1<g.1)/\dN s.1=true/\s.2.1.length<=12/\1<=s.2.2.1/\s.2.2.1<=61:=by
 have b:∀i(D:i<s.2.1.length),fileAt s.2.1 i=s.2.1[i]:=λi D=>by grind [fileAt]
 constructor
 .intro h;obtain⟨E,O,U,e,M⟩:=Qd.1 h;refine⟨λf u=>?_,?_,O,U,e,M⟩
  · grind [axo,U2]
  .refine aJw.2 λi j D o a=>?_;have:=ayY h j i a o
   grind
 grind [Qd,U2,List.pairwise_iff_getElem]
theorem arz{fs:List bY}{a:List aF}(h:gq fs f=true):gq fs (unlink a f)=true:=by
 grind [gq,unlink]
theorem amJ{s:dV}(u:Int)(h:bg s=true):bg (visible s u)=true:=by
 obtain⟨E,O,U,j,M⟩:=U8.1 h;refine U8.2 ⟨λf b=>?_,?_,U,?_,M⟩
 .obtain⟨g,hg,rfl⟩:=aIo.1 b;obtain⟨a,_⟩:=aIT.1 hg;exact⟨arz (E g a).1,(E g a).2⟩
 .show List.Pairwise _ ((s.2.1.filter (kK · u)).map (unlink (s.2.1.filter (kK · u))));rw[aJi];exact List.Pairwise.filter _ O
 .show((s.2.1.filter (kK · u)).map (unlink (s.2.1.filter (kK · u)))).length<=12
  grind
open Classical in
noncomputable def KQ (fs:List aF) (d:List aG):List dO:=if h:∃out,lF fs d [] (λ_=>true) out then h.choose else[]
theorem ayF(a:gG d=true)(h:lF fs d [] (λ_=>true) out):KQ fs d=out:=by
 unfold KQ;have Z:∃out,lF fs d [] (λ_=>true) out:=⟨out,h⟩
 grind [aeG]
theorem aaS(h:aH d=true):gG d=true:=by
 grind [aH]
theorem ayG{s:dV}(h:bg s=true)(a:aH d=true):lF s.2.1 d [] (λ_=>true) (KQ s.2.1 d):=by
 have:∃out,lF s.2.1 d [] (λ_=>true) out:=by obtain⟨aB,Q⟩:=ak7 (Oh (mO d) (lq.1 a).2);exact amw [] (λ_=>true) (aaS a) Q (JB h)
 grind [KQ]
noncomputable def aB6 (s:dV) (d:List aG) (u:Int) (name:Bytes):List (Int×Unit):=gY (KQ (visible s u).2.1 d) name
noncomputable def listed (s:dV) (d:List aG) (u:Int) (name:Bytes) (id:Int):Bool:=bQ (aB6 s d u name) id
def avK(s:dV)(d:List aG)(u:Int):Prop:=bg s=true/\aH d=true/\rX u=true
def av6(d:List aG)(name:Bytes):aG×Bool:=bif decide (aP d name<0)then(([],[],()),false)else(dK d (aP d name).toNat,true)
def aDd(s:dV)(u id:Int):aF:=(abk (visible s u) id).1
def aEw(q:List aA)(f:aF)(X:BX)(m:Bool):Qn:=bif ax q then Zk q f X (q.length-1) m else U7
noncomputable def axy (c:nV) (u:Int) (name:Bytes) (id:Int) (b:Bool):Qn:=
 aEw (av6 (kT c) name).1.2.1 (aDd (kN c) u id) (bH (KQ (visible (kN c) u).2.1 (kT c))) b
def aum(c:nV)(id:Int)(l:List dL):dV×Bool:=XR (kN c) (edited (abk (kN c) id).1 l)
noncomputable def needed (c:nV) (u:Int) (name:Bytes) (id:Int) (b:Bool) (l:List dL) (i:Nat):Bool:=
 (aum c id (azf l i)).2&&!(listed (aum c id (azf l i)).1 (kT c) u name id==b)
noncomputable def aDe (c:nV) (u:Int) (name:Bytes) (id:Int) (b:Bool) (w:Qn):Bool:=
 w.1&&((aum c id w.2.1).2&&((listed (aum c id w.2.1).1 (kT c) u name id==b)&&iF w.2.1.length (needed c u name id b w.2.1)))
noncomputable def aF6 (c:nV) (u:Int) (name:Bytes) (id:Int) (b:Bool):Bool:=
 (ru c&&(akf c u id&&(av6 (kT c) name).2))&&aDe c u name id b (axy c u name id b)
def written(c:nV)(u:Int)(name:Bytes)(id:Int)(b:Bool)(e:nV)(a:List dL)(g:Bool):Prop:=
 g=aF6 c u name id b/\(g=true->kN e=(aum c id (axy c u name id b).2.1).1/\kT e=kT c/\ru e=true/\a=(axy c u name id b).2.1)/\(g=false->e=c/\a=[])
theorem ayv{c:nV}(h:ru c=true):bg (kN c)=true/\aH (kT c)=true/\lF c.2.1 (kT c) [] (λ_=>true) (apv c):=by
 grind [ru]
def jF:Bytes:=[102,105,101,108,100]
def wz:Bytes:=[110,101,120,116]
def nJ:Bytes:=[100,105,114]
def Wh:Bytes:=[105,110,116]
def vY:Bytes:=[115,116,114,105,110,103]
def eF(f:bY):Bytes:=bif !dP f.1 then[]else bif f.2.1==1 then jF++32::(f.1++32::Wh)else bif f.2.1==2 then jF++32::(f.1++32::vY)else[]
def kJ(n:Int):Bytes:=wz++32::Lib.itoa n
def lD(d:aG):Bytes:=nJ++32::(d.1++32::textOf d.2.1)
def qm(x:bM):List Bytes:=x.1.map eF++(kJ x.2.2.1::(x.2.1.map iK++x.2.2.2.1.map lD))
noncomputable def enc (x:bM):LS:=bif dS x then ls (qm x)else[]
def gu:bM:=([],[],0,[],())
def oI(x:bM)(w:LS):bM×Bool:=
 bif wordAt w 0==jF&&decide ((w.length:Int)=3)then((x.1++[(wordAt w 1,(bif wordAt w 2==vY then 2 else 1),())],x.2.1,x.2.2.1,x.2.2.2.1,()),true)
 else bif wordAt w 0==wz&&decide ((w.length:Int)=2)then((x.1,x.2.1,parseNum (wordAt w 1),x.2.2.2.1,()),bW (wordAt w 1))
 else bif wordAt w 0==mY then((x.1,x.2.1++[(kL (w.drop 1)).1],x.2.2.1,x.2.2.2.1,()),(kL (w.drop 1)).2)
 else bif wordAt w 0==nJ&&decide (2<(w.length:Int))then((x.1,x.2.1,x.2.2.1,x.2.2.2.1++[(wordAt w 1,iJ (gI (w.drop 2)),())],()),iE (gI (w.drop 2)))
 else(x,false)
def jL:bM->LS->bM×Bool
 |x,[]=>(x,true)
 |x,l::r=>bif (oI x (pieces 32 l.1)).2 then jL (oI x (pieces 32 l.1)).1 r else((oI x (pieces 32 l.1)).1,false)
noncomputable def as2 (l:LS):bM×Bool:=bif (jL gu l).2&&(dS (jL gu l).1&&decide (enc (jL gu l).1=l))then((jL gu l).1,true)else(gu,false)
def rW(x:bM)(w:LS):bM:=
 bif wordAt w 0==jF then(x.1++[(wordAt w 1,(bif wordAt w 2==Wh then 1 else 2),())],x.2.1,x.2.2.1,x.2.2.2.1,())
 else bif wordAt w 0==wz then(x.1,x.2.1,numAt w 1,x.2.2.2.1,())
 else bif wordAt w 0==mY then(x.1,x.2.1++[Om (numAt w 1) (w.drop 2)],x.2.2.1,x.2.2.2.1,())
 else bif wordAt w 0==nJ then(x.1,x.2.1,x.2.2.1,x.2.2.2.1++[(wordAt w 1,(bif decide (2<(w.length:Int))then iJ (gI (w.drop 2))else[]),())],())
 else x
def qg:bM->LS->bM
 |x,[]=>x
 |x,l::r=>qg (rW x (iI l.1)) r
noncomputable def dec (l:LS):bM×Bool:=bif dS (qg gu l)&&decide (enc (qg gu l)=l)then(qg gu l,true)else(gu,false)
def abA(d:aG):aG:=(d.1,iJ (textOf d.2.1),())
def norm(x:bM):bM:=(x.1,x.2.1,x.2.2.1,x.2.2.2.1.map abA,())
theorem OO(h:∀x∈ws,fine x)(Q:yD ws<=600)(L:ws.length<=24)(S:ws≠[]):iI (Lib.join ws [32])=ls ws/\pieces 32 (Lib.join ws [32])=ls ws/\(Lib.join ws [32]).length<=600:=by have J:=aHw (QV ws) Q;obtain⟨a,b⟩:=anq h J L;refine⟨by unfold iI;rw[a,b];rfl,ahV ws S λw g x Z e=>?_,J⟩;have:=(h w g).1.2 x Z;rw[e]at this;exact absurd this lZ
theorem azg{s:Bytes}(h:dP s=true):fine s:=xk (ni h)
theorem aj0{s:Bytes}(h:dP s=true):s.length<=1:=by
 grind [dP]
theorem afo(x y z:Bytes):x++32::(y++32::z)=Lib.join [x,y,z] [32]:=(amQ x y z).symm
theorem anA{f:bY}(E:dP f.1=true)(O:f.2.1=1\/f.2.1=2)(x:bM):
 oI x (pieces 32 (eF f))=((x.1++[f],x.2.1,x.2.2.1,x.2.2.2.1,()),true)/\rW x (iI (eF f))=(x.1++[f],x.2.1,x.2.2.1,x.2.2.2.1,())/\(eF f).length<=600/\(∃ws:List Bytes,eF f=Lib.join ws [32]/\∀w∈ws,fine w):=by
 obtain⟨nm,k,⟨⟩⟩:=f;have u:nm.length<=1:=aj0 E;have i:fine jF:=⟨⟨lZ,lZ⟩,lZ⟩;have H:=azg E;rcases O with rfl|rfl
 .have e:eF (nm,1,())=Lib.join [jF,nm,Wh] [32]:=by grind [eF,afo]
  have D:fine Wh:=⟨⟨lZ,lZ⟩,lZ⟩;have g:∀w∈[jF,nm,Wh],fine w:=λw h=>by
   grind
  obtain⟨a,b,c⟩:=OO g (by show 5+1+(nm.length+1+(3+1+0))<=600;omega) ny vk;rw[e,a,b];exact⟨rfl,rfl,c,_,rfl,g⟩
 .have e:eF (nm,2,())=Lib.join [jF,nm,vY] [32]:=by grind [eF,afo]
  have D:fine vY:=⟨⟨lZ,lZ⟩,lZ⟩;have g:∀w∈[jF,nm,vY],fine w:=λw h=>by
   grind
  obtain⟨a,b,c⟩:=OO g (by show 5+1+(nm.length+1+(6+1+0))<=600;omega) ny vk;rw[e,a,b];exact⟨rfl,rfl,c,_,rfl,g⟩
theorem aqF{n:Int}(h:iC n=true)(x:bM):
 oI x (pieces 32 (kJ n))=((x.1,x.2.1,n,x.2.2.2.1,()),true)/\rW x (iI (kJ n))=(x.1,x.2.1,n,x.2.2.2.1,())/\(kJ n).length<=600/\(∃ws:List Bytes,kJ n=Lib.join ws [32]/\∀w∈ws,fine w):=by
 have e:kJ n=Lib.join [wz,Lib.itoa n] [32]:=by rw[aa1];rfl
 have g:∀w∈[wz,Lib.itoa n],fine w:=λw i=>by
  rcases aHH.1 i with rfl|i
  .exact⟨⟨lZ,lZ⟩,lZ⟩
  grind [QS]
 have Q:=(jV h).2.2.2.2;obtain⟨a,b,c⟩:=OO g (by show 4+1+((Lib.itoa n).length+1+0)<=600;omega) ny vk;obtain⟨o,j⟩:=Fj h;rw[e,a,b];refine⟨?_,?_,c,_,rfl,g⟩
 .show((x.1,x.2.1,parseNum (Lib.itoa n),x.2.2.2.1,()),bW (Lib.itoa n))=_;rw[o,j]
 .show(x.1,x.2.1,parseNum (Lib.itoa n),x.2.2.2.1,())=_;rw[j]
theorem aqG(h:II f=true)(u:f.2.2.2.2.1.length<=5)(x:bM):
 oI x (pieces 32 (iK f))=((x.1,x.2.1++[f],x.2.2.1,x.2.2.2.1,()),true)/\rW x (iI (iK f))=(x.1,x.2.1++[f],x.2.2.1,x.2.2.2.1,())/\(iK f).length<=600/\(∃ws:List Bytes,iK f=Lib.join ws [32]/\∀w∈ws,fine w):=by
 have i:=(Bc.1 h).2.1;have Q:=(jV i).2.2.2.2;obtain⟨o,s⟩:=azb h;have g:∀w∈mY::Lib.itoa f.1::ng f,fine w:=λw j=>by
  rcases aHH.1 j with rfl|j
  .exact⟨⟨lZ,lZ⟩,lZ⟩
  grind [QS,ay9]
 obtain⟨a,b,c⟩:=OO g (by rw[lM,lM];show 4+1+_<=600;omega) ny vk;have e:iK f=Lib.join (mY::Lib.itoa f.1::ng f) [32]:=rfl;rw[e,a,b];refine⟨?_,?_,c,_,rfl,g⟩
 .show((x.1,x.2.1++[(kL ((Lib.itoa f.1,())::ls (ng f))).1],x.2.2.1,x.2.2.2.1,()),(kL ((Lib.itoa f.1,())::ls (ng f))).2)=_;rw[axw h]
 .show(x.1,x.2.1++[Om (parseNum (Lib.itoa f.1)) (ls (ng f))],x.2.2.1,x.2.2.2.1,())=_
  grind [Fj,aqC]
theorem aun{d:aG}(E:bK d.1=true)(O:ax d.2.1=true)(x:bM):
 oI x (pieces 32 (lD d))=((x.1,x.2.1,x.2.2.1,x.2.2.2.1++[abA d],()),true)/\rW x (iI (lD d))=(x.1,x.2.1,x.2.2.1,x.2.2.2.1++[abA d],())/\(lD d).length<=600/\(∃ws:List Bytes,lD d=Lib.join ws [32]/\∀w∈ws,fine w):=by
 obtain⟨t,s,F,z,y,C,i,_,_⟩:=anz O;obtain⟨A,B⟩:=IJ t s F;obtain⟨H,D,u,_⟩:=aub t;have o:=(iH O).2;have K:=uy E;have e:lD d=Lib.join (nJ::d.1::bf t) [32]:=by
  grind [lD,sN]
 have g:∀w∈nJ::d.1::bf t,fine w:=λw h=>by
  rcases aHH.1 h with rfl|h
  .exact⟨⟨lZ,lZ⟩,lZ⟩
  grind [xk,KU]
 obtain⟨a,b,c⟩:=OO g (by rw[lM,lM];show 3+1+_<=600;omega) ny vk;have j:gI ((ls (nJ::d.1::bf t)).drop 2)=textOf d.2.1:=by
  grind [gI,ls,atK]
 have Y:2<((ls (nJ::d.1::bf t)).length:Int):=by
  grind [ls]
 rw[e,a,b];refine⟨?_,?_,c,_,rfl,g⟩
 .have:oI x (ls (nJ::d.1::bf t))=bif decide (2<((ls (nJ::d.1::bf t)).length:Int))then((x.1,x.2.1,x.2.2.1,x.2.2.2.1++[(d.1,iJ (gI ((ls (nJ::d.1::bf t)).drop 2)),())],()),iE (gI ((ls (nJ::d.1::bf t)).drop 2)))else(x,false):=rfl
  rw[this,j,aHF Y,C];rfl
 .have:rW x (ls (nJ::d.1::bf t))=(x.1,x.2.1,x.2.2.1,x.2.2.2.1++[(d.1,(bif decide (2<((ls (nJ::d.1::bf t)).length:Int))then iJ (gI ((ls (nJ::d.1::bf t)).drop 2))else[]),())],()):=rfl;rw[this,j,aHF Y];rfl
theorem abB:∀(a:LS)(x:bM)(b:LS),(jL x a).2=true->jL x (a++b)=jL (jL x a).1 b
 |[],_,_,_=>rfl
 |l::r,x,b,h=>by
  rw[aIC,jL,jL];rw[jL]at h;cases W:(oI x (pieces 32 l.1)).2 with
  |true=>rw[W]at h;exact abB r _ b h
  |false=>rw[W]at h;cases h
theorem abC:∀(a:LS)(x:bM)(b:LS),qg x (a++b)=qg (qg x a) b
 |[],_,_=>rfl
 |l::r,x,b=>by exact abC r _ b
theorem atI(a b:List Bytes):ls (a++b)=ls a++ls b:=by grind [ls]
theorem anB:∀(fs:List bY)(x:bM),(∀f∈fs,dP f.1=true/\(f.2.1=1\/f.2.1=2))->jL x (ls (fs.map eF))=((x.1++fs,x.2.1,x.2.2.1,x.2.2.2.1,()),true)/\qg x (ls (fs.map eF))=(x.1++fs,x.2.1,x.2.2.1,x.2.2.2.1,())
 |[],x,_=>by rw[aH1];exact⟨rfl,rfl⟩
 |f::r,x,h=>by
  obtain⟨a,b⟩:=h f aHJ;obtain⟨E,O,_⟩:=anA a b x;obtain⟨i,j⟩:=anB r (x.1++[f],x.2.1,x.2.2.1,x.2.2.2.1,()) λg e=>h g (aHC _ e);refine⟨?_,?_⟩
  .show jL x ((eF f,())::ls (r.map eF))=_;rw[jL,E];rw[i,aHO];rfl
  .show qg x ((eF f,())::ls (r.map eF))=_;rw[qg,O,j,aHO];rfl
theorem aqH:∀(fs:List aF)(x:bM),(∀f∈fs,II f=true/\f.2.2.2.2.1.length<=5)->jL x (ls (fs.map iK))=((x.1,x.2.1++fs,x.2.2.1,x.2.2.2.1,()),true)/\qg x (ls (fs.map iK))=(x.1,x.2.1++fs,x.2.2.1,x.2.2.2.1,())
 |[],x,_=>by rw[aH1];exact⟨rfl,rfl⟩
 |f::r,x,h=>by
  obtain⟨a,b⟩:=h f aHJ;obtain⟨E,O,_⟩:=aqG a b x;obtain⟨i,j⟩:=aqH r (x.1,x.2.1++[f],x.2.2.1,x.2.2.2.1,()) λg e=>h g (aHC _ e);refine⟨?_,?_⟩
  .show jL x ((iK f,())::ls (r.map iK))=_;rw[jL,E];rw[i,aHO];rfl
  .show qg x ((iK f,())::ls (r.map iK))=_;rw[qg,O,j,aHO];rfl
theorem auo:∀(e:List aG)(x:bM),(∀d∈e,bK d.1=true/\ax d.2.1=true)->jL x (ls (e.map lD))=((x.1,x.2.1,x.2.2.1,x.2.2.2.1++e.map abA,()),true)/\qg x (ls (e.map lD))=(x.1,x.2.1,x.2.2.1,x.2.2.2.1++e.map abA,())
 |[],x,_=>by rw[show([]:List aG).map abA=[]from rfl,aH1];exact⟨rfl,rfl⟩
 |d::r,x,h=>by
  obtain⟨a,b⟩:=h d aHJ;obtain⟨E,O,_⟩:=aun a b x;obtain⟨j,o⟩:=auo r (x.1,x.2.1,x.2.2.1,x.2.2.2.1++[abA d],()) λg i=>h g (aHC _ i);refine⟨?_,?_⟩
  .show jL x ((lD d,())::ls (r.map lD))=_;rw[jL,E];rw[j,aHO];rfl
  .show qg x ((lD d,())::ls (r.map lD))=_;rw[qg,O,o,aHO];rfl
variable {x:bM}
theorem JG(h:dS x=true):(∀f∈x.1,dP f.1=true/\(f.2.1=1\/f.2.1=2))/\(∀f∈x.2.1,II f=true/\f.2.2.2.2.1.length<=5)/\iC x.2.2.1=true/\(∀d∈x.2.2.2.1,bK d.1=true/\ax d.2.1=true)/\x.1.length<=5/\x.2.1.length<=12/\x.2.2.2.1.length<=5:=by
 unfold dS at h;rw[aHy]at h;obtain⟨X,C⟩:=h;obtain⟨b,_,e,F,j,o⟩:=U8.1 X;have b:∀f∈x.2.1,gq x.1 f=true/\f.1<x.2.2.1:=b;have e:dN x.1=true:=e;have j:1<=x.2.2.1:=j;have o:x.2.2.1<=61:=o;obtain⟨y,_,z⟩:=anr.1 (lq.1 C).1;obtain⟨H,D⟩:=OJ.1 e;have E:∀f∈x.1,dP f.1=true/\(f.2.1=1\/f.2.1=2):=λf i=>by
  grind [List.getElem_of_mem,jW,fieldAt]
 refine⟨E,λf i=>?_,lU.2 lu,y,D,F,z⟩;obtain⟨A,_⟩:=b f i;have g:=aul A;have Q:=aAj g;refine⟨Bc.2 ⟨λa B=>?_,?_⟩,lu⟩
 .have hm:=(ahQ.1 g).1 a B;unfold jI at hm;simp only[aHy,aJh,aHM,aHW]at hm;have u:=abp (fs:=x.1) (s:=a.1) lu
  grind [OM]
 grind [gq,lU]
theorem av7(h:dS x=true):jL gu (ls (qm x))=(norm x,true)/\qg gu (ls (qm x))=norm x:=by
 obtain⟨C,D,E,F,_⟩:=JG h;obtain⟨fs,a,n,i,⟨⟩⟩:=x;obtain⟨j,s⟩:=anB fs gu C;obtain⟨u,y,_⟩:=aqF E (([]:List bY)++fs,[],0,[],());obtain⟨o,z⟩:=aqH a (([]:List bY)++fs,[],n,[],()) D;obtain⟨A,B⟩:=auo i (([]:List bY)++fs,([]:List aF)++a,n,[],()) F;have e:ls (qm (fs,a,n,i,()))=ls (fs.map eF)++((kJ n,())::(ls (a.map iK)++ls (i.map lD))):=by
  grind [qm,ls]
 rw[e];constructor
 .rw[abB _ _ _ (by rw[j]),j,jL];have b:oI (([]:List bY)++fs,[],0,[],()) (pieces 32 (kJ n))=_:=u;show(bif (oI (([]:List bY)++fs,[],0,[],()) (pieces 32 (kJ n))).2 then jL (oI (([]:List bY)++fs,[],0,[],()) (pieces 32 (kJ n))).1 _ else _)=_;rw[b];rw[abB _ _ _ (by rw[o]),o];exact A
 .rw[abC,s,qg];have g:rW (([]:List bY)++fs,[],0,[],()) (iI (kJ n))=_:=y;show qg (rW (([]:List bY)++fs,[],0,[],()) (iI (kJ n))) _=_;rw[g,abC];rw[z];exact B
theorem Zb(h:dS x=true):enc x=ls (qm x):=by grind [enc]
theorem ayP(h:dS x=false):enc x=[]:=by grind [enc]
theorem aup(h:(dec l).2=true):dS (dec l).1=true/\enc (dec l).1=l/\norm (dec l).1=(dec l).1:=by
 grind [dec,av7,Zb]
theorem aAx(h:(dec l).2=false):dec l=(gu,false):=by
 grind [dec]
theorem aiO(l:LS):as2 l=dec l:=by
 grind [as2,dec,av7,Zb]
def sumOf(s:Bytes):Int:=s.foldl (λn b=>(33*n+(b.toNat:Int)).tmod 65521) 3
def linesT(ws:List Bytes):Bytes:=(ws.map (· ++[10])).flatten
def PX(n:Int)(x:bM):Bytes:=linesT (Lib.itoa n::qm x)
noncomputable def slot (n:Int) (x:bM):Bytes:=bif dS x&&(decide (1<=n)&&decide (n<=1000000000))then PX n x++(Lib.itoa (sumOf (PX n x))++[46])else[]
def inner(l:LS):LS:=(l.take (l.length-1)).drop 1
noncomputable def aW (s:Bytes):Int×bM×Bool:=
 bif decide (2<=(pieces 10 s).length)&&((dec (inner (pieces 10 s))).2&&decide (slot (parseNum ((pieces 10 s).getD 0 ([],())).1) (dec (inner (pieces 10 s))).1=s))then(parseNum ((pieces 10 s).getD 0 ([],())).1,(dec (inner (pieces 10 s))).1,true)else(0,gu,false)
def Et(l:LS):Prop:=l.length<=1048577/\∀x∈l,x.1.length<=1048576
def uh(s:Bytes):LS:=(pieces 10 s).take ((pieces 10 s).length-1)
def fV(s:Bytes):Prop:=s.length<=1048576
theorem ae7(s:Bytes):0<=sumOf s/\sumOf s<65521:=by
 have:∀(s:Bytes)(n:Int),0<=n->n<65521->0<=s.foldl (λn b=>(33*n+(b.toNat:Int)).tmod 65521) n/\s.foldl (λn b=>(33*n+(b.toNat:Int)).tmod 65521) n<65521:=by
  intro s
  induction s with
  |nil=>grind
  |cons b r ih=>
   grind
 exact this s 3 lZ lZ
def xO(s:Bytes):Prop:=∀b∈s,b≠46
theorem U9{n:Int}(h:iC n=true):xO (Lib.itoa n):=λb J e=>by
 have:=(jV h).2.2.1 b J
 simp_all
theorem Bg{s:Bytes}(h:bK s=true):xO s:=λb J e=>by
 unfold bK lower at h;rw[aHy,aHy,aHS]at h;have:=h.1.1 b J
 simp_all
theorem QX(op:Int):xO (iU op):=by unfold iU;cases op==1<;>cases op==2<;>cases op==3<;>cases op==4<;>cases op==5<;>cases op==6<;>cases op==7<;>cases op==8<;>cases op==9<;>(intro b J;revert b;decide)
theorem apC(h:dB v.1 v.2.1 v.2.2.1=true)(S:v.1≠0):xO (dM v):=by
 grind [axr,dM,U9,lU,Bg]
theorem P5:∀ws:List Bytes,(∀w∈ws,xO w)->xO (Lib.join ws [32])
 |[],_=>λb J=>by cases J
 |x::r,h=>by
  grind [Lib.join_cons,List.mem_cons_self,xO,Lib.joinTail]
theorem aqI:∀as:List dL,(∀a∈as,QU a=true)->∀w∈fP as,xO w
 |[],_,w,e=>Q7
 |a::r,h,w,e=>by
  obtain⟨g,i,j⟩:=OM.1 (h a aHJ);rcases aHH.1 e with rfl|e
  .exact Bg (ni g)
  rcases aHH.1 e with rfl|e
  .exact apC i j
  .exact aqI r (λb J=>h b (aHC _ J)) w e
theorem axz{n:aA}(h:fH n 0=true)(b:n.1=1\/n.1=2\/n.1=3\/n.1=4\/n.1=8\/n.1=9):∀w∈kP n,xO w:=by
 obtain⟨op,l,r,s,v⟩:=n;unfold fH at h;rcases b with rfl|rfl|rfl|rfl|rfl|rfl<;>simp at h<;>intro w a
 .rw[aH9.1 a];exact QX 1
 .rcases aHH.1 a with rfl|a
  .exact QX 2
  grind [Bg,ni]
 .rcases aHH.1 a with rfl|a
  .exact QX 3
  grind [Bg,ni,apC]
 .rcases aHH.1 a with rfl|a
  .exact QX 4
  grind [Bg,ni,apC]
 .rcases aHH.1 a with rfl|a
  .exact QX 8
  grind [Bg]
 .rcases aHH.1 a with rfl|a
  .exact QX 9
  grind [Bg]
theorem WW:∀t:QT,zo t->Ec t->∀w∈bf t,xO w
 |.leaf n,hw,ho,w,h=>axz ho hw w h
 |.neg t,hw,ho,w,h=>by
  rcases aHH.1 h with rfl|h
  .exact QX 5
  .exact WW t hw ho w h
 |.two op a b,⟨_,w1,w2⟩,⟨o1,o2⟩,w,h=>by
  rcases aHH.1 h with rfl|h
  .exact QX op
  rcases aH3.1 h with h|h
  .exact WW a w1 o1 w h
  .exact WW b w2 o2 w h
theorem Na{s:Bytes}(h:s.all (λb=>b !=46)=true):xO s:=λb J e=>by
 grind
def aDf(l:Bytes):Prop:=l.length<=600/\(∀b∈l,b≠10)/\xO l
theorem arP(h:∀w∈ws,fine w):∀b∈Lib.join ws [32],b≠10:=λb J e=>by have:=aHS.1 (av2 ws λw a=>(h w a).2) b J;rw[e]at this;exact absurd this lZ
theorem ae8(h:dS x=true):(∀l∈qm x,aDf l)/\(qm x).length<=23:=by
 obtain⟨u,y,z,A,D,E,F⟩:=JG h;refine⟨λl Q=>?_,?_⟩
 .rcases aH3.1 Q with Q|Q
  .obtain⟨f,hf,rfl⟩:=aIo.1 Q;obtain⟨b,g⟩:=u f hf;obtain⟨_,_,c,ws,e,a⟩:=anA b g x;refine⟨c,by grind [arP],?_⟩;unfold eF;rw[b];have i:=Bg (ni b);rcases g with k|k<;>rw[k]
   .rw[afo];refine P5 _ λw a=>?_;rcases aHH.1 a with rfl|a
    .exact Na rfl
    rcases aHH.1 a with rfl|a
    .exact i
    .rw[aH9.1 a];exact Na rfl
   .show xO (jF++32::(f.1++32::vY));rw[afo];refine P5 _ λw a=>?_;rcases aHH.1 a with rfl|a
    .exact Na rfl
    rcases aHH.1 a with rfl|a
    .exact i
    .rw[aH9.1 a];exact Na rfl
  rcases aHH.1 Q with rfl|Q
  .obtain⟨_,_,c,ws,e,a⟩:=aqF z x;refine⟨c,by grind [arP],?_⟩;unfold kJ;rw[← aa1];refine P5 _ λw a=>?_;rcases aHH.1 a with rfl|a
   .exact Na rfl
   grind [U9]
  rcases aH3.1 Q with Q|Q
  .obtain⟨f,hf,rfl⟩:=aIo.1 Q;obtain⟨b,g⟩:=y f hf;obtain⟨_,_,c,ws,e,a⟩:=aqG b g x;refine⟨c,by grind [arP],?_⟩;obtain⟨H,B,C,I⟩:=Bc.1 b;refine P5 _ λw a=>?_;rcases aHH.1 a with rfl|a
   .exact Na rfl
   rcases aHH.1 a with rfl|a
   .exact U9 B
   rcases aHH.1 a with rfl|a
   .exact U9 C
   grind [Na,U9,aqI]
  .obtain⟨d,hd,rfl⟩:=aIo.1 Q;obtain⟨b,g⟩:=A d hd;obtain⟨_,_,c,ws,e,a⟩:=aun b g x;refine⟨c,by grind [arP],?_⟩;obtain⟨t,s,j,_,o,_⟩:=anz g;unfold lD;rw[o,afo];refine P5 _ λw a=>?_;rcases aHH.1 a with rfl|a
   .exact Na rfl
   grind [Bg,P5,WW]
 grind [qm]
theorem atN(s:Bytes):iC (sumOf s)=true:=by
 grind [ae7,lU]
theorem avT{n:Int}(h:dS x=true)(E:1<=n)(O:n<=1000000000):slot n x=PX n x++(Lib.itoa (sumOf (PX n x))++[46]):=by
 grind [slot]
theorem aB7{n:Int}(h:slot n x≠[]):dS x=true/\1<=n/\n<=1000000000:=by
 grind [slot]
theorem Va{s:Bytes}(h:(aW s).2.2=false):aW s=(0,gu,false):=by
 grind [aW]
theorem afp{s:Bytes}(h:(aW s).2.2=true):dS (aW s).2.1=true/\1<=(aW s).1/\(aW s).1<=1000000000/\slot (aW s).1 (aW s).2.1=s/\norm (aW s).2.1=(aW s).2.1:=by
 unfold aW at h ⊢;cases L:decide (2<=(pieces 10 s).length)&&((dec (inner (pieces 10 s))).2&&decide (slot (parseNum ((pieces 10 s).getD 0 ([],())).1) (dec (inner (pieces 10 s))).1=s))with
 |false=>grind
 |true=>
  rw[aHy,aHy,aHM,aHM]at L;obtain⟨a,b,c⟩:=L;have X:s≠[]:=λe=>by rw[e]at a;exact absurd a lZ
  obtain⟨g,i,j⟩:=aB7 (n:=parseNum ((pieces 10 s).getD 0 ([],())).1) (x:=(dec (inner (pieces 10 s))).1) ny
  grind [aup]
noncomputable def latest (a b:Bytes):Int×bM×Bool×Bool:=
 bif (aW b).2.2&&(!(aW a).2.2||decide ((aW a).1<(aW b).1))then((aW b).1,(aW b).2.1,true,false)else((aW a).1,(aW a).2.1,(aW a).2.2,(aW a).2.2)
theorem auQ(a b:Bytes):(bif (aW a).2.2&&(!(aW b).2.2||decide ((aW a).1>=(aW b).1))then((aW a).1,(aW a).2.1,true,true)else((aW b).1,(aW b).2.1,(aW b).2.2,false))=latest a b:=by
 unfold latest;cases e:(aW a).2.2<;>cases J:(aW b).2.2
 · grind [Va]
 .rfl
 .rfl
 grind
theorem alo(a b:Bytes):0<=(latest a b).1/\(latest a b).1<=1000000000:=by
 grind [Va,afp,latest]
def kept(a:Int)(n:Nat):Nat:=(max 0 (min a (n:Int))).toNat
noncomputable def ve (a b:Bytes) (x:bM):Bytes:=slot ((latest a b).1+1) x
noncomputable def aqJ (a b:Bytes) (x:bM) (e:Int):(Bytes×Bytes×Unit)×Bool×Unit:=
 bif ve a b x==[]then((a,b,()),false,())else
 bif (latest a b).2.2.2 then((a,(ve a b x).take (kept e (ve a b x).length),()),(ve a b x).take (kept e (ve a b x).length)==ve a b x,())else
 (((ve a b x).take (kept e (ve a b x).length),b,()),(ve a b x).take (kept e (ve a b x).length)==ve a b x,())
abbrev oM:=Int×List (Int×Unit)×List (Int×Unit)×Unit
abbrev lY:=Int×Bytes×List (Int×Unit)×List oM×Unit
abbrev jv:=List bY×List aF×Int×List aG×List dO×Bytes×Bytes×Int×List nS×List lY×List (Int×Unit)×Unit
def pK(x:jv):nV:=(x.1,x.2.1,x.2.2.1,x.2.2.2.1,x.2.2.2.2.1,())
def lG(x:jv):bM:=(x.1,x.2.1,x.2.2.1,x.2.2.2.1,())
def afT(c:nV):bM:=(c.1,c.2.1,c.2.2.1,c.2.2.2.1,())
def kz(x:jv):Bytes:=x.2.2.2.2.2.1
def kC(x:jv):Bytes:=x.2.2.2.2.2.2.1
def vW(x:jv):Int:=x.2.2.2.2.2.2.2.1
def jQ(x:jv):List nS:=x.2.2.2.2.2.2.2.2.1
def oW(x:jv):List lY:=x.2.2.2.2.2.2.2.2.2.1
def PO(x:jv):List (Int×Unit):=x.2.2.2.2.2.2.2.2.2.2.1
def mkS(c:nV)(a b:Bytes)(n:Int)(I:List nS)(ws:List lY)(q:List (Int×Unit)):jv:=
 (c.1,c.2.1,c.2.2.1,c.2.2.2.1,c.2.2.2.2.1,a,b,n,I,ws,q,())
def ali(l:List (Int×Unit))(e:oM):List (Int×Unit):=rC l e.2.1 e.2.2.1
def replay(l:List (Int×Unit))(a:List oM):List (Int×Unit):=a.foldl ali l
def jG(a:List oM):Nat:=(a.map λe=>e.2.1.length).sum
def Q8(l:List (Int×Unit))(a:List oM):Prop:=l.length+jG a<=4000000
def azk(e:oM):Prop:=e.2.1.length<=4000000/\e.2.2.1.length<=4000000
def listing(w:lY):List (Int×Unit):=replay w.2.2.1 w.2.2.2.1
def zC(w:lY):Prop:=Q8 w.2.2.1 w.2.2.2.1/\w.2.2.2.1.length<=4000000/\∀e∈w.2.2.2.1,azk e
noncomputable def lN (s:dV) (d:List aG) (u:Int):List dO×Bool:=bif bg s&&(aH d&&rX u)then(KQ (visible s u).2.1 d,true)else([],false)
noncomputable def Dk (s:dV) (d:List aG) (u:Int) (name:Bytes):List (Int×Unit):=gY (lN s d u).1 name
def told(w:lY)(n:Int)(l:List (Int×Unit)):lY:=
 bif decide (0<(without l (listing w)).length+(without (listing w) l).length)then(w.1,w.2.1,w.2.2.1,w.2.2.2.1++[(n,without l (listing w),without (listing w) l,())],())else w
def rise(l:List (Int×Unit)):Bool:=iF (l.length-1) λi=>decide ((l.getD i (0,())).1<(l.getD (i+1) (0,())).1)
def Iw(a:List oM)(i:Nat):oM:=a.getD i (0,[],[],())
def FM(l:List (Int×Unit))(a:List oM)(i:Nat):Bool:=
 !decide ((Iw a i).2.1.length+(Iw a i).2.2.1.length=0)&&(rise (Iw a i).2.1&&(rise (Iw a i).2.2.1&&(!(decide (0<i)&&decide ((Iw a (i-1)).1>=(Iw a i).1))&&
   (((Iw a i).2.1.all λx=>!bQ (replay l (a.take i)) x.1)&&(Iw a i).2.2.1.all λx=>bQ (replay l (a.take i)) x.1))))
def kX(w:lY):Bool:=(rX w.1&&rise w.2.2.1)&&iF w.2.2.2.1.length (FM w.2.2.1 w.2.2.2.1)
def qO(w:lY):Int:=bif decide (w.2.2.2.1.length=0)then 0 else(Iw w.2.2.2.1 (w.2.2.2.1.length-1)).1
noncomputable def nG (a b:bM):Bool:=decide (enc a=enc b)
def uj(q:List (Int×Unit)):Bool:=decide (q.length=3)&&q.all λx=>decide (0<=x.1)&&decide (x.1<=999)
noncomputable def nT (s:dV) (d:List aG) (n:Int) (w:lY):Bool:=decide (qO w<=n)&&(kX w&&decide (listing w=Dk s d w.1 w.2.1))
noncomputable def ED (x:jv):Bool:=
 ru (pK x)&&((latest (kz x) (kC x)).2.2.1&&(decide ((latest (kz x) (kC x)).1=vW x)&&(nG (latest (kz x) (kC x)).2.1 (lG x)&&
  (pF (jQ x)&&(decide (jQ x≠[])&&(decide ((oW x).length<=4)&&(uj (PO x)&&
    ((decide ((fM (jQ x) ((jQ x).length-1)).1=vW x)&&nG (uw (fM (jQ x) ((jQ x).length-1))) (lG x))&&
      (oW x).all (nT (kN (pK x)) (kT (pK x)) (vW x))))))))))
noncomputable def MI (x:jv):Bool:=(latest (kz x) (kC x)).2.2.1&&nG (latest (kz x) (kC x)).2.1 (lG x)
noncomputable def Uz (s:dV) (d:List aG) (w:lY):Bool:=decide (listing w=Dk s d w.1 w.2.1)
noncomputable def streams (x:jv):Bool:=(oW x).all (Uz (kN (pK x)) (kT (pK x)))
def aop:lY:=(0,[],[],[],())
def aw5(ws:List lY)(i:Nat):lY:=ws.getD i (0,[],[],[],())
def Az(x:jv)(i:Int):lY×Bool:=bif decide (0<=i)&&decide (i<=((oW x).length:Int)-1)then(aw5 (oW x) i.toNat,true)else(aop,false)
noncomputable def Pg (x:jv) (i:Int):Bool:=(Az x i).2&&Uz (kN (pK x)) (kT (pK x)) (Az x i).1
def aBi(n:Int)(s:bM):nS:=(n,s.1,s.2.1,s.2.2.1,s.2.2.2.1,0,())
noncomputable def toldAll (s:dV) (d:List aG) (n:Int) (ws:List lY):List lY:=ws.map λw=>told w n (Dk s d w.1 w.2.1)
noncomputable def aBj (I:List nS):List nS:=bif decide (6<=I.length)then collect I else I
noncomputable def auq (a b:Bytes) (s:bM):Bytes×Bytes×Unit:=(aqJ a b s 1000000).1
noncomputable def commit (x:jv) (c:nV):jv×Bool:=
 bif !(ED x&&ru c)then(x,false)else
 bif nG (afT c) (lG x)then(x,true)else
 bif decide (1000000000<=vW x)||decide (6<=(aBj (jQ x)).length)then(x,false)else
 (mkS c (auq (kz x) (kC x) (afT c)).1 (auq (kz x) (kC x) (afT c)).2.1 (vW x+1) (aBj (jQ x)++[aBi (vW x+1) (afT c)]) (toldAll (kN c) (kT c) (vW x+1) (oW x)) (PO x),true)
noncomputable def aEx (s:bM):nV:=(s.1,s.2.1,s.2.2.1,s.2.2.2.1,KQ s.2.1 s.2.2.2.1,())
noncomputable def aAy (s:dV) (d:List aG) (n:Int) (w:lY):lY:=bif decide (qO w<n)then told w n (Dk s d w.1 w.2.1)else w
noncomputable def recover (x:jv):jv×Bool:=
 bif (latest (kz x) (kC x)).2.2.1 then
  (mkS (aEx (latest (kz x) (kC x)).2.1) (kz x) (kC x) (latest (kz x) (kC x)).1 [aBi (latest (kz x) (kC x)).1 (latest (kz x) (kC x)).2.1]
    ((oW x).map (aAy (Ea (latest (kz x) (kC x)).2.1) (latest (kz x) (kC x)).2.1.2.2.2.1 (latest (kz x) (kC x)).1)) (PO x),true)
 else(x,false)
def aAz(x:jv)(d:Bytes×Bytes×Unit):jv:=mkS (pK x) d.1 d.2.1 (vW x) (jQ x) (oW x) (PO x)
def akj(x:jv)(v:List nS):jv:=mkS (pK x) (kz x) (kC x) (vW x) v (oW x) (PO x)
def aAA(x:jv)(w:List lY):jv:=mkS (pK x) (kz x) (kC x) (vW x) (jQ x) w (PO x)
def aEy(x:jv)(u:Int)(ops:List mr)(y:jv)(b:Bool):Prop:=
 ∃c a o,ant (pK x) u ops (PO x) c a o/\(y,b)=bif o then commit x c else(x,false)
def crashed(x:jv)(u:Int)(ops:List mr)(a:Int)(y:jv)(b:Bool):Prop:=
 bif ED x then∃c e o,ant (pK x) u ops (PO x) c e o/\(y,b)=recover (bif o&&!nG (afT c) (lG x)then aAz x (aqJ (kz x) (kC x) (afT c) a).1 else x)else y=x/\b=false
def aAB(x:jv)(u:Int)(name:Bytes)(id:Int)(b:Bool)(y:jv)(e:Bool):Prop:=
 ∃c a o,written (pK x) u name id b c a o/\(y,e)=bif o&&av3 c.2.1 (PO x)then commit x c else(x,false)
abbrev aAC:=Int×Int×List mr×Bytes×Int×Unit
def aEz(a:aAC):Bool:=(decide (1<=a.1)&&decide (a.1<=8))&&decide (a.2.2.1.length<=6)
noncomputable def watched (x:jv) (u:Int) (name:Bytes):jv×Bool:=
 bif decide (4<=(oW x).length)||!rX u then(x,false)else(aAA x (oW x++[(u,name,Dk (kN (pK x)) (kT (pK x)) u name,[],())]),true)
def aEA(x:jv)(a:aAC)(y:jv)(b:Bool):Prop:=
 bif !(aEz a&&ED x)then y=x/\b=false else
 bif a.1==1 then aEy x a.2.1 a.2.2.1 y b else
 bif a.1==2 then crashed x a.2.1 a.2.2.1 a.2.2.2.2.1 y b else
 bif a.1==3 then(y,b)=watched x a.2.1 a.2.2.2.1 else
 bif a.1==4 then y=akj x (ank (jQ x) a.2.2.2.2.1 1).1/\b=(ank (jQ x) a.2.2.2.2.1 1).2 else
 bif a.1==5 then y=akj x (ank (jQ x) a.2.2.2.2.1 (-1)).1/\b=(ank (jQ x) a.2.2.2.2.1 (-1)).2 else
 bif a.1==6 then y=akj x (collect (jQ x))/\b=true else
 aAB x a.2.1 a.2.2.2.1 a.2.2.2.2.1 (a.1==7) y b
def runs:jv->List aAC->jv->List (Bool×Unit)->List (Int×Unit)->Prop
 |x,[],y,t,l=>y=x/\t=[]/\l=[]
 |x,a::r,y,t,l=>∃b g h e,aEA x a b g/\runs b r y h e/\t=(g,())::h/\l=(vW b,())::e
theorem anC(s:Bytes):(bU s).1.2.2.1.length<=s.length:=by
 grind [bU]
theorem Zl(m:Nat):∀w:LS,(∀x∈w,x.1.length<=m)->2*(jM w).length<=w.length+1/\∀a∈jM w,a.1.length<=m/\a.2.2.2.1.length<=m
 |[],_=>⟨aHV _,λa b=>by cases b⟩
 |[x],h=>⟨aHv _,λa b=>by
  grind [jM,anC]⟩
 |x::y::r,h=>by
  obtain⟨E,O⟩:=Zl m r λz e=>h z (aHC _ (aHC _ e))
  grind [jM,anC]
theorem anD(s:Bytes):(iJ s).length<=9:=by
 grind [iH,aa6,iJ]
theorem avw{s:Bytes}(h:fV s):s.length<=1048576:=h
theorem ayQ(l:List Bytes):(ls l).length=l.length:=by grind [ls]
theorem Mc(h:dS x=true):fJ x:=by obtain⟨s,e,u,g,i,j,o⟩:=JG h;refine⟨⟨aHw i lZ,aHw j lZ,λf b=>aHw (e f b).2 lZ⟩,aHw o lZ,λd a=>aHw (iH (g d a).2).2 lZ⟩
theorem anE:fJ gu:=⟨⟨lZ,lZ,λf b=>by cases b⟩,lZ,λd a=>by cases a⟩
theorem aqg(l:LS):fJ (dec l).1:=by
 grind [aAx,anE,Mc,aup]
theorem abT(s:Bytes):fJ (aW s).2.1:=by
 grind [Va,anE,Mc,afp]
theorem axh(ws:List Bytes)(h:∀w∈ws,w.length<=600):(linesT ws).length<=ws.length*601:=by
 induction ws with
 |nil=>exact aHV _
 |cons w r ih=>
  grind [linesT]
theorem ahI(ws:List Bytes)(w:Bytes):linesT (ws++[w])=linesT ws++(w++[10]):=by grind [linesT]
theorem aqK:∀{l:List Nat}{n:Nat},n∈l->n<=l.sum
 |a::r,n,h=>by
  rw[aIu];rcases aHH.1 h with rfl|h
  .omega
  have:=aqK h;omega
theorem au8:∀w:LS,2*(jM w).length<=w.length+1
 |w=>(Zl (w.map λx=>x.1.length).sum w λx Z=>aqK (List.mem_map_of_mem Z)).1
def szX(n:Nat)(x:bM):Prop:=x.1.length<=n/\x.2.1.length<=n/\(∀f∈x.2.1,f.2.2.2.2.1.length<=1048576)/\x.2.2.2.1.length<=n/\∀d∈x.2.2.2.1,d.2.1.length<=1000
theorem aqL{id:Int}{r:LS}(h:r.length<=1048577):(Om id r).2.2.2.2.1.length<=1048576:=by have:=au8 (r.drop 3);rw[aH7]at this;show(jM (r.drop 3)).length<=1048576;omega
theorem azh(h:w.length<=1048577):(kL w).1.2.2.2.2.1.length<=1048576:=by
 unfold kL;cases decide ((w.length:Int)<4)||!(w.length%2==0)with
 |true=>exact aHV _
 |false=>grind [aqL]
theorem afU{α:Type}{p:α->Prop}{l:List α}{a:α}(h:∀x∈l,p x)(b:p a):∀x∈l++[a],p x:=λx Z=>by
 grind
theorem Tn{α:Type}{l:List α}{a:α}(h:l.length<=n):(l++[a]).length<=n+1:=ny
theorem ayh(h:szX n x)(a:w.length<=1048577):szX (n+1) (oI x w).1:=by
 obtain⟨E,O,U,j,M⟩:=h;unfold oI;cases wordAt w 0==jF&&decide ((w.length:Int)=3)with
 |true=>exact⟨Tn E,aH2 O,U,aH2 j,M⟩
 |false=>
 cases wordAt w 0==wz&&decide ((w.length:Int)=2)with
 |true=>exact⟨aH2 E,aH2 O,U,aH2 j,M⟩
 |false=>
 cases wordAt w 0==mY with
 |true=>exact⟨aH2 E,Tn O,afU U (azh ny),aH2 j,M⟩
 |false=>
 cases wordAt w 0==nJ&&decide (2<(w.length:Int))with
 |true=>exact⟨aH2 E,aH2 O,U,Tn j,afU M (aHw (anD _) lZ)⟩
 |false=>exact⟨aH2 E,aH2 O,U,aH2 j,M⟩
theorem aym(h:szX n x)(a:w.length<=1048577):szX (n+1) (rW x w):=by
 obtain⟨E,O,U,j,M⟩:=h;unfold rW;cases wordAt w 0==jF with
 |true=>exact⟨Tn E,aH2 O,U,aH2 j,M⟩
 |false=>
 cases wordAt w 0==wz with
 |true=>exact⟨aH2 E,aH2 O,U,aH2 j,M⟩
 |false=>
 cases wordAt w 0==mY with
 |true=>exact⟨aH2 E,Tn O,afU U (aqL ny),aH2 j,M⟩
 |false=>
 cases wordAt w 0==nJ with
 |true=>
  refine⟨aH2 E,aH2 O,U,Tn j,afU M ?_⟩
  grind [anD]
 |false=>exact⟨aH2 E,aH2 O,U,aH2 j,M⟩
theorem as3:szX 0 gu:=⟨aHv _,aHv _,λf b=>(by cases b),aHv _,λd a=>(by cases a)⟩
theorem ayg(H:n<l.length)(h:(jL gu (l.take n)).2=true):jL gu (l.take (n+1))=oI (jL gu (l.take n)).1 (pieces 32 (l.getD n ([],())).1):=by
 have e:l.take (n+1)=l.take n++[l.getD n ([],())]:=by
  simp_all
 rw[e,abB _ _ _ h,jL]
 grind [jL]
theorem aqM:∀(a:LS)(x:bM)(b:LS),(jL x a).2=false->(jL x (a++b)).2=false
 |[],_,_,h=>zH
 |l::r,x,b,h=>by
  rw[aIC,jL];rw[jL]at h;cases W:(oI x (pieces 32 l.1)).2 with
  |true=>rw[W]at h;exact aqM r _ b h
  |false=>rfl
theorem azH(h:(jL gu (l.take n)).2=false):dec l=(gu,false):=by
 have:=aqM (l.take n) gu (l.drop n) h;rw[aJo]at this;rw[← aiO]
 grind [as2]
theorem ayl(H:n<l.length):qg gu (l.take (n+1))=rW (qg gu (l.take n)) (iI (l.getD n ([],())).1):=by
 have e:l.take (n+1)=l.take n++[l.getD n ([],())]:=by
  simp_all
 rw[e,abC];rfl
theorem au0(x:bM)(y k:Bytes):oI x [(jF,()),(y,()),(k,())]=((x.1++[(y,(bif k==vY then 2 else 1),())],x.2.1,x.2.2.1,x.2.2.2.1,()),true):=rfl
theorem axj(x:bM)(y:Bytes):oI x [(wz,()),(y,())]=((x.1,x.2.1,parseNum y,x.2.2.2.1,()),bW y):=rfl
theorem axk(x:bM)(r:LS):oI x ((mY,())::r)=((x.1,x.2.1++[(kL r).1],x.2.2.1,x.2.2.2.1,()),(kL r).2):=rfl
theorem anF(a:Bytes×Unit)(r:LS):(gI r).length<=(gI (a::r)).length:=by
 cases r with
 |nil=>exact aHV _
 |cons b r=>unfold gI;simp only[aHT,Lib.join_cons,Lib.joinTail,aHu,List.flatten_cons];omega
theorem ayV{a b:Bytes×Unit}{r:LS}{e:Bytes}(h:pieces 32 e=a::b::r):(gI r).length<=e.length:=by have E:=anF b r;have O:=anF a (b::r);rw[← h,au7]at O;omega
theorem ayW(x:bM)(y:Bytes)(r:LS)(W:0<r.length):oI x ((nJ,())::(y,())::r)=((x.1,x.2.1,x.2.2.1,x.2.2.2.1++[(y,iJ (gI r),())],()),iE (gI r)):=by
 have e:oI x ((nJ,())::(y,())::r)=bif decide (2<((((nJ,())::(y,())::r:LS).length:Nat):Int))then((x.1,x.2.1,x.2.2.1,x.2.2.2.1++[(y,iJ (gI r),())],()),iE (gI r))else(x,false):=rfl
 grind
theorem axl(x:bM)(a:Bytes)(r:LS)(E:¬(a=jF/\r.length=2))(O:¬(a=wz/\r.length=1))(U:¬a=mY)(j:¬(a=nJ/\2<=r.length)):oI x ((a,())::r)=(x,false):=by
 grind [oI,gy]
def TP:bY->Nat|(n,_,_)=>n.length
def FU(a:List bY):Nat:=jR TP a
def TQ(a:List aF):Nat:=jR P6 a
def Dv:dV->Nat|(a,l,_,_)=>FU a+TQ l
def wO(a:List aG):Nat:=jR Nu a
def anO:dO->Nat|(n,l,_)=>n.length+l.length
def P7(a:List dO):Nat:=jR anO a
def ac6:nV->Nat|(a,l,n,d,r,_)=>Dv (a,l,n,())+(wO d+P7 r)
def VK:bM->Nat|(a,l,n,d,_)=>Dv (a,l,n,())+wO d
def WZ:nS->Nat|(_,a,l,n,d,_,_)=>VK (a,l,n,d,())
def AA(a:List nS):Nat:=jR WZ a
def wEv:oM->Nat|(_,a,b,_)=>a.length+b.length
def Ia(a:List oM):Nat:=jR wEv a
def TS:lY->Nat|(_,n,l,e,_)=>n.length+(l.length+Ia e)
def Jc(a:List lY):Nat:=jR TS a
def W9:jv->Nat|(a,l,n,d,r,da,db,_,v,w,q,_)=>ac6 (a,l,n,d,r,())+((da.length+db.length)+(AA v+(Jc w+q.length)))
def gK(d:List aG):Prop:=d.length<=2000000/\∀x∈d,x.2.1.length<=2000000
def hugeS(x:jv):Prop:=gK x.2.2.2.1/\x.2.2.2.2.2.2.2.2.2.1.length<=2000000/\∀w∈x.2.2.2.2.2.2.2.2.2.1,zC w
theorem Iq(h:gG d=true):xU d:=by obtain⟨E,_,U⟩:=anr.1 h;exact⟨aHw U lZ,λx Z=>aHw (iH (E x Z).2).2 lZ⟩
theorem Wl(h:xU d):gK d:=⟨aHw h.1 lZ,λx Z=>aHw (h.2 x Z) lZ⟩
theorem FN{s:dV}(h:bg s=true):qp s:=by
 have C:dS (s.1,s.2.1,s.2.2.1,[],())=true:=by unfold dS;rw[aHy];refine⟨h,?_⟩;rw[lq];exact⟨rfl,λ_=>0,λe g=>by cases g⟩
 exact(Mc C).1
def Pe(f:aF):Prop:=f.2.2.2.2.1.length<=2000000
def bigS(s:dV):Prop:=s.1.length<=2000000/\s.2.1.length<=2000000/\∀f∈s.2.1,Pe f
def C9(x:bM):Prop:=bigS (Ea x)/\gK x.2.2.2.1
def Zr(v:List nS):Prop:=v.length<=2000000/\∀x∈v,C9 (uw x)
theorem aaP(h:amI f):Pe f:=aHw h lZ
theorem alm{s:dV}(h:qp s):bigS s:=⟨aHw h.1 lZ,aHw h.2.1 lZ,λf a=>aaP (h.2.2 f a)⟩
theorem Ov(h:fJ x):C9 x:=⟨alm h.1,Wl h.2⟩
theorem avu(h:szX n x)(H:n<=2000000):C9 x:=⟨⟨aHw h.1 H,aHw h.2.1 H,λf b=>aHw (h.2.2.1 f b) lZ⟩,aHw h.2.2.2.1 H,λd a=>aHw (h.2.2.2.2 d a) lZ⟩
def VI(x:jv):Prop:=gK x.2.2.2.1/\(fV (kz x)/\fV (kC x))/\Zr (jQ x)/\((oW x).length<=2000000/\∀w∈oW x,zC w)
theorem ayw{x:jv}(h:VI x):hugeS x:=⟨h.1,h.2.2.2⟩
end Sp
namespace Go.Fw
open Go
variable {α:Type}
theorem asV{l:List α}{a:Nat}{f:List α}(h:a+f.length<=l.length):(iL l a f).length=l.length:=by
 grind [iL]
theorem aqc{l:List α}{a k:Nat}{f:List α}(u:k<=a)(h:a<=l.length):(iL l a f).take k=l.take k:=by
 grind [iL]
variable {β:Type}{K:Bool×Unit->Prop}
theorem eqL(e:α->α->Bool)(g:∀x y,e x y=false↔x=y)(d:α)(a b:List α)[Decidable (a=b)](t:β)(Y:a.length<=maxLen)(f:K (decide (a=b),())):
 bif ((a.length:Int)) !=(b.length:Int)then K (false,())else
 ∃(I:(Int×Unit)×Unit->Prop),∃(P:(Int×Unit)×Unit->Nat),I (((0:Int),()),())/\∀(y:(Int×Unit)×Unit),I y->
  bif decide (y.fst.fst<(a.length:Int))then
   ((0:Int)<=y.fst.fst/\y.fst.fst<(a.length:Int))/\((0:Int)<=y.fst.fst/\y.fst.fst<(b.length:Int))/\
     (bif e (a.getD (Int.toNat y.fst.fst) d) (b.getD (Int.toNat y.fst.fst) d)then K (false,())
     else t=t/\I ((IntKind.i64.wrap (y.fst.fst+(1:Int)),()),())/\P ((IntKind.i64.wrap (y.fst.fst+(1:Int)),()),())<P y)
  else K (true,()):=by
 refine af (λh=>?_) λh=>?_
 .have h:(a.length:Int)≠b.length:=y7;rw[aHD λe=>h am1]at f;exact f
 .have h:(a.length:Int)=b.length:=y7;exact afJ e g d a b t Y lu (λe=>ny) λe=>ny
theorem aFS(e:α->α->Bool)(g:∀x y,e x y=false↔x=y)(d:α)(a b:List α)[Decidable (a=b)](t:β)(Y:a.length<=maxLen)(f:K (decide (a=b),())):
 bif ((a.length:Int)) !=(b.length:Int)then K (false,())else
 ∃(I:(Int×Unit)×Unit->Prop),∃(P:(Int×Unit)×Unit->Nat),I (((0:Int),()),())/\∀(y:(Int×Unit)×Unit),I y->
  bif decide (y.fst.fst<(a.length:Int))then
   ((0:Int)<=y.fst.fst/\y.fst.fst<(a.length:Int))/\((0:Int)<=y.fst.fst/\y.fst.fst<(b.length:Int))/\True/\
     (bif e (a.getD (Int.toNat y.fst.fst) d) (b.getD (Int.toNat y.fst.fst) d)then K (false,())
     else t=t/\I ((IntKind.i64.wrap (y.fst.fst+(1:Int)),()),())/\P ((IntKind.i64.wrap (y.fst.fst+(1:Int)),()),())<P y)
  else K (true,()):=by
 refine af (λh=>?_) λh=>?_
 .have h:(a.length:Int)≠b.length:=y7;rw[aHD λe=>h am1]at f;exact f
 .have h:(a.length:Int)=b.length:=y7;exact aAf e g d a b t Y lu (λe=>ny) λe=>ny
theorem ati(p:α->Bool)(d:α)(a:List α)(t:β)(Y:a.length<=maxLen){K:Int×Unit->Prop}(b:K (Sp.findAt p a,())):
 ∃(I:(Int×Unit)×Unit->Prop),∃(P:(Int×Unit)×Unit->Nat),I (((0:Int),()),())/\∀(y:(Int×Unit)×Unit),I y->
  bif decide (y.fst.fst<(a.length:Int))then
   ((0:Int)<=y.fst.fst/\y.fst.fst<(a.length:Int))/\True/\
     (bif p (a.getD (Int.toNat y.fst.fst) d)then K (y.fst.fst,())
     else t=t/\I ((IntKind.i64.wrap (y.fst.fst+(1:Int)),()),())/\P ((IntKind.i64.wrap (y.fst.fst+(1:Int)),()),())<P y)
  else K ((-1:Int),()):=by
 refine dY a.length Y (λn=>∀i,i<n->p (a.getD i d)=false) (λi D=>lu) (λI P n H o next=>?_) λI P o=>?_
 · grind [Sp.aqx]
 .dsimp only;refine bP lu ?_;rw[Sp.ahN o]at b;exact b
theorem ayy(p:α->Bool)(d:α)(a:List α)(t:β)(Y:a.length<=maxLen){K:Int×Unit->Prop}(b:K (Sp.findAt p a,())):
 ∃(I:(Int×Unit)×Unit->Prop),∃(P:(Int×Unit)×Unit->Nat),I (((0:Int),()),())/\∀(y:(Int×Unit)×Unit),I y->
  bif decide (y.fst.fst<(a.length:Int))then
   ((0:Int)<=y.fst.fst/\y.fst.fst<(a.length:Int))/\
     (bif p (a.getD (Int.toNat y.fst.fst) d)then K (y.fst.fst,())
     else t=t/\I ((IntKind.i64.wrap (y.fst.fst+(1:Int)),()),())/\P ((IntKind.i64.wrap (y.fst.fst+(1:Int)),()),())<P y)
  else K ((-1:Int),()):=by
 obtain⟨I,P,S,E⟩:=ati p d a t Y b;refine⟨I,P,S,λy B=>?_⟩
 grind
theorem aBJ(p:α->Bool)(d:α)(s:List α)(t:β)(Y:s.length<=4611686018427387903){K:(List α×Unit)×Unit->Prop}(o:K ((s.filter λx=>!p x,()),())):
 bif Sp.findAt p s==(-1:Int)then K ((s,()),())else
 ∃(I:(Int×Int×Unit)×List α×Unit->Prop),∃(P:(Int×Int×Unit)×List α×Unit->Nat),
  I ((Sp.findAt p s,IntKind.i64.wrap (Sp.findAt p s+(1:Int)),()),s,())/\∀(y:(Int×Int×Unit)×List α×Unit),I y->
    bif decide (y.fst.snd.fst<(↑(List.length y.snd.fst):Int))then
     ((0:Int)<=y.fst.snd.fst/\y.fst.snd.fst<(↑(List.length y.snd.fst):Int))/\Int.toNat y.fst.snd.fst<List.length y.snd.fst/\True/\
       (bif !p (List.getD y.snd.fst (Int.toNat y.fst.snd.fst) d)then
         ((0:Int)<=y.fst.fst/\y.fst.fst<(↑(List.length y.snd.fst):Int))/\Int.toNat y.fst.fst<List.length y.snd.fst/\t=t/\
           I ((IntKind.i64.wrap (y.fst.fst+(1:Int)),IntKind.i64.wrap (y.fst.snd.fst+(1:Int)),()),List.set y.snd.fst (Int.toNat y.fst.fst) (List.getD y.snd.fst (Int.toNat y.fst.snd.fst) d),())/\
           P ((IntKind.i64.wrap (y.fst.fst+(1:Int)),IntKind.i64.wrap (y.fst.snd.fst+(1:Int)),()),List.set y.snd.fst (Int.toNat y.fst.fst) (List.getD y.snd.fst (Int.toNat y.fst.snd.fst) d),())<P y
       else t=t/\I ((y.fst.fst,IntKind.i64.wrap (y.fst.snd.fst+(1:Int)),()),y.snd.fst,())/\P ((y.fst.fst,IntKind.i64.wrap (y.fst.snd.fst+(1:Int)),()),y.snd.fst,())<P y)
    else
     (0:Nat)<List.length y.snd.fst/\((0:Int)<=y.fst.fst/\y.fst.fst<=(↑(List.length y.snd.fst):Int))/\
       (0:Nat)+Int.toNat y.fst.fst+(List.length y.snd.fst-Int.toNat y.fst.fst)<=List.length y.snd.fst/\
         ((0:Nat)<(iL y.snd.fst ((0:Nat)+Int.toNat y.fst.fst) (List.replicate (List.length y.snd.fst-Int.toNat y.fst.fst) d)).length/\
           List.length y.snd.fst<=(iL y.snd.fst ((0:Nat)+Int.toNat y.fst.fst) (List.replicate (List.length y.snd.fst-Int.toNat y.fst.fst) d)).length)/\
           ((0:Int)<=y.fst.fst/\y.fst.fst<=(↑(List.take (List.length y.snd.fst) (iL y.snd.fst ((0:Nat)+Int.toNat y.fst.fst) (List.replicate (List.length y.snd.fst-Int.toNat y.fst.fst) d))).length:Int))/\
             K ((List.take (Int.toNat y.fst.fst) (List.take (List.length y.snd.fst) (iL y.snd.fst ((0:Nat)+Int.toNat y.fst.fst) (List.replicate (List.length y.snd.fst-Int.toNat y.fst.fst) d))),()),()):=by
 rcases Sp.afe p d s with⟨e,m⟩|⟨n,H,e,g,f⟩
 · grind [List.filter_eq_self,List.getElem_of_mem]
 .rw[e];have b:∀k:Nat,k<=4611686018427387903->IntKind.i64.wrap ((k:Int)+1)=((k+1:Nat):Int):=λk u=>fU _ lu;rw[b n lu];refine⟨λy=>∃(i j:Nat)(l:List α),y=(((i:Int),(j:Int),()),l,())/\i<j/\j<=s.length/\l.length=s.length/\l.take i=(s.take j).filter (λx=>!p x)/\∀t,j<=t->l.getD t d=s.getD t d,
   λy=>((s.length:Int)-y.1.2.1).toNat,⟨n,n+1,s,rfl,lu,lu,rfl,?_,λ_ _=>rfl⟩,?_⟩
  .rw[Sp.take_succ' s n d H,aJd,aJ7]
   grind [List.filter_eq_self,List.getElem_of_mem]
  .rintro y ⟨i,j,l,rfl,hij,hj,hl,r,hs⟩;dsimp only;refine af (λh=>?_) λh=>?_
   .have h:j<s.length:=ny;have a:=hs j (aHv _);rw[aHB,aHB,a,b i lu,b j lu];refine⟨⟨lu,lu⟩,lu,trivial,af (λO=>⟨⟨lu,lu⟩,lu,rfl,⟨i+1,j+1,_,rfl,lu,lu,ny,?_,λt r=>?_⟩,lu⟩) λO=>⟨rfl,⟨i,j+1,l,rfl,lu,lu,hl,?_,λt r=>hs t lu⟩,lu⟩⟩
    .rw[Sp.take_succ' _ i d ny,Sp.take_succ' s j d h,aJd,aJ7,List.take_set_of_le (aHv _),r]
     grind
    · grind
    grind [Sp.take_succ']
   .have l1:(iL l i (List.replicate (l.length-i) d)).length=l.length:=asV ny
    grind [aqc]
theorem aFR(p:α->Bool)(d:α)(a:List α)(t:β)(Y:a.length<=maxLen)(b:K (a.any p,())):
 ∃(I:(Int×Unit)×Unit->Prop),∃(P:(Int×Unit)×Unit->Nat),I (((0:Int),()),())/\∀(y:(Int×Unit)×Unit),I y->
  bif decide (y.fst.fst<(a.length:Int))then
   ((0:Int)<=y.fst.fst/\y.fst.fst<(a.length:Int))/\
     (bif p (a.getD (Int.toNat y.fst.fst) d)then K (true,())
     else t=t/\I ((IntKind.i64.wrap (y.fst.fst+(1:Int)),()),())/\P ((IntKind.i64.wrap (y.fst.fst+(1:Int)),()),())<P y)
  else K (false,()):=by
 refine dY a.length Y (λn=>∀i,i<n->p (a.getD i d)=false) (λi D=>lu) (λI P n H o next=>?_) λI P o=>?_
 · grind
 grind [List.getElem_of_mem]
theorem aiS(p:α->Bool)(s:List α):decide (Sp.findAt p s>=0)=s.any p:=by
 cases X:s with
 |nil=>rfl
 |cons d r=>
  rcases Sp.afe p d s with⟨e,h⟩|⟨n,H,e,E,O⟩
  · grind [List.getElem_of_mem]
  grind
theorem ahC(p:α->Bool)(d:α)(l:List α){n:Nat}(h:n<l.length):(l.take (n+1)).filter p=(l.take n).filter p++(bif p (l.getD n d)then[l.getD n d]else[]):=by
 grind [Sp.take_succ']
theorem ajA{δ:Type}(p:α->Bool)(g:α->β)(d:α)(a:List α)(t:δ){A:Int->Prop}(b:∀n:Nat,n<a.length->A n)(Y:a.length<=4000000){K:List β×Unit->Prop}(e:K ((a.filter p).map g,())):
 ∃(I:(Unit×Int×Unit)×List β×Unit->Prop),∃(P:(Unit×Int×Unit)×List β×Unit->Nat),I (((),(0:Int),()),[],())/\∀(y:(Unit×Int×Unit)×List β×Unit),I y->
  bif decide (y.1.2.1<(a.length:Int))then
   ((0:Int)<=y.1.2.1/\y.1.2.1<(a.length:Int))/\A y.1.2.1/\
     (bif p (a.getD (Int.toNat y.1.2.1) d)then List.length y.2.1+1<=big/\t=t/\I (((),IntKind.i64.wrap (y.1.2.1+(1:Int)),()),y.2.1++[g (a.getD (Int.toNat y.1.2.1) d)],())/\P (((),IntKind.i64.wrap (y.1.2.1+(1:Int)),()),y.2.1++[g (a.getD (Int.toNat y.1.2.1) d)],())<P y
     else t=t/\I (((),IntKind.i64.wrap (y.1.2.1+(1:Int)),()),y.2)/\P (((),IntKind.i64.wrap (y.1.2.1+(1:Int)),()),y.2)<P y)
  else K y.2:=by
 refine dI (λi(x:List β)=>(((),i,()),x,())) (λy=>y.1.2.1) (λ_ _=>rfl) a.length lu (λn l=>l=((a.take n).filter p).map g) vk (λI P n l H o next=>?_) λI P l o=>?_
 .subst o;have Q:(((a.take n).filter p).map g).length<=n:=by
   grind
  have step:=ahC p d a H;dsimp only;refine bT lu ⟨⟨lu,lu⟩,b n H,af (λh=>⟨FT,rfl,next _ ?_⟩) λh=>⟨rfl,next _ ?_⟩⟩
  · simp_all
  grind
 grind
theorem aFT{δ:Type}(g:α->β)(d:α)(a:List α)(t:δ)(Y:a.length<=4000000){K:List β×Unit->Prop}(b:K (a.map g,())):
 ∃(I:(Unit×Int×Unit)×List β×Unit->Prop),∃(P:(Unit×Int×Unit)×List β×Unit->Nat),I (((),(0:Int),()),[],())/\∀(y:(Unit×Int×Unit)×List β×Unit),I y->
  bif decide (y.1.2.1<(a.length:Int))then
   ((0:Int)<=y.1.2.1/\y.1.2.1<(a.length:Int))/\
     List.length y.2.1+1<=big/\t=t/\I (((),IntKind.i64.wrap (y.1.2.1+(1:Int)),()),y.2.1++[g (a.getD (Int.toNat y.1.2.1) d)],())/\P (((),IntKind.i64.wrap (y.1.2.1+(1:Int)),()),y.2.1++[g (a.getD (Int.toNat y.1.2.1) d)],())<P y
  else K y.2:=by
 obtain⟨I,P,S,E⟩:=ajA (λ_=>true) g d a t (A:=λ_=>True) (λ_ _=>trivial) Y (K:=K) (by grind [List.filter_eq_self]);refine⟨I,P,S,λy B=>?_⟩
 grind
end Go.Fw
