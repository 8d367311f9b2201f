import Derived.Test.YtdmilcleobbphaaGreatFwA
import Derived.Lib.ItoaNum
import Derived.Lib.ItoaLen
import Derived.Lib.Join
import Derived.Test.YtdmilcleobbphaaGreatFwC
import Derived.Lib.Fields
import Derived.Lib.Atoi
import Derived.Lib.SplitLaws
namespace Sp
open Go
abbrev Bytes:=List UInt8
abbrev LI:=List (Int×Unit)
abbrev LS:=List (Bytes×Unit)
theorem take_succ'{α:Type}(a:List α)(n:Nat)(d:α)(h:n<a.length):a.take (n+1)=a.take n++[a.getD n d]:=by rw[aSq h,aQJ,aQD h];rfl
def atl(l:LI):Prop:=∀x∈l,-9223372036854775808<=x.1/\x.1<=9223372036854775807
theorem atl.take{a:LI}(h:atl a)(n:Nat):atl (a.take n):=λx Z=>h x (aRa Z)
theorem atl.get{a:LI}(h:atl a){n:Nat}(H:n<a.length)(d:Int×Unit):(Lib.itoa (a.getD n d).1).length<=21:=by
 have:a.getD n d∈a:=by rw[aQJ,aQD H,Option.getD_some];exact aRM H
 exact Lib.itoa_length_le _ (h _ this).1 (h _ this).2
theorem avW(c:Nat):Lib.decDigits c=(if c / 10=0 then[]else Lib.decDigits (c / 10))++[UInt8.ofNat (48+c%10)]:=by
 conv=>lhs;rw[Lib.decDigits]
 by_cases h:c<10
 .rw[dif_pos h,if_pos fC,Nat.mod_eq_of_lt h];rfl
 .rw[dif_neg h,if_neg fC]
set_option synthInstance.maxSize 100000
set_option synthInstance.maxHeartbeats 1000000
abbrev ET:=Int×Int×Bytes×Unit
abbrev aW:=Bytes×Int×Int×Bytes×Unit
abbrev aO:=Int×Int×Int×Bytes×Int×Int×Bytes×Unit
abbrev aG:=Int×Int×Bool×Int×List aW×Unit
abbrev aH:=Bytes×List aO×Unit
abbrev eG:=Int×Int×Int×Bool×Int×List aW×Int×Bytes×List aO×Unit
abbrev aKQ:=Int×Int×List eG×Bytes×Int×Unit
instance:DecidableEq ET:=inferInstance
instance:DecidableEq aW:=inferInstance
instance:DecidableEq aO:=inferInstance
instance:DecidableEq aG:=inferInstance
instance:DecidableEq aH:=inferInstance
instance:DecidableEq (Int×aH):=inferInstance
instance:DecidableEq (List aW×Int×aH):=inferInstance
instance:DecidableEq (Bool×Int×List aW×Int×aH):=inferInstance
instance aOC:DecidableEq eG:=(inferInstance:DecidableEq (Int×Int×Int×Bool×Int×List aW×Int×aH))
instance:DecidableEq (List eG):=inferInstance
instance:DecidableEq (List eG×Bytes×Int×Unit):=inferInstance
def lower(s:Bytes):Bool:=s.all λc=>decide (97<=c.toNat)&&decide (c.toNat<=122)
def dU(s:Bytes):Bool:=lower s&&decide (1<=(s.length:Int))&&decide ((s.length:Int)<=6)
def jc(n:Int):Bool:=decide (0<=n)&&decide (n<=1000000000)
def idxFrom:Int->LI->Int
 |_,[]=>-1
 |k,x::r=>if jc x.1 then idxFrom (k+1) r else k
def idxOf(l:LI):Int:=idxFrom 0 l
def YF(k:Int)(a:Nat):Bool:=decide (1<=k)&&decide (k<=8)&&decide ((a:Int)<=6)
def atm(k u:Int)(b:Nat)(n:Bytes)(a:Int):Bytes:=
 bif !(YF k b)then[]else
 bif (decide ((b:Int)>0)&&decide (k>2))then[]else
 bif (k==1&&(jc u&&(a==0&&n==[])))then[99,111,109,109,105,116,32]++Lib.itoa u else
 bif (k==2&&(jc u&&(jc a&&n==[])))then[99,114,97,115,104,32]++Lib.itoa u++[32]++Lib.itoa a else
 bif (k==3&&(jc u&&(dU n&&a==0)))then[119,97,116,99,104,32]++Lib.itoa u++[32]++n else
 bif (k==4&&(u==0&&(jc a&&n==[])))then[112,105,110,32]++Lib.itoa a else
 bif (k==5&&(u==0&&(jc a&&n==[])))then[117,110,112,105,110,32]++Lib.itoa a else
 bif (k==6&&(u==0&&(a==0&&n==[])))then[99,111,108,108,101,99,116]else
 bif (k==7&&(jc u&&(jc a&&dU n)))then[97,100,100,32]++Lib.itoa u++[32]++n++[32]++Lib.itoa a else
 bif (k==8&&(jc u&&(jc a&&dU n)))then[114,101,109,111,118,101,32]++Lib.itoa u++[32]++n++[32]++Lib.itoa a else[]
abbrev dm:=Bytes×Int×Unit
abbrev bT:=List dm×List aG×Int×Unit
instance:DecidableEq dm:=inferInstance
instance:DecidableEq (List dm):=inferInstance
instance:DecidableEq (List aG):=inferInstance
instance:DecidableEq (List aG×Int×Unit):=inferInstance
instance aPl:DecidableEq bT:=(inferInstance:DecidableEq (List dm×List aG×Int×Unit))
def usual:List dm:=[([97],1,()),([98],1,()),([110],2,()),([116],2,())]
def fZ(f:aG):Prop:=f.2.2.2.2.1.length<=1000
def aV(s:bT):Prop:=s.1.length<=1000/\s.2.1.length<=1000/\∀f∈s.2.1,fZ f
def jG(n:Nat)(f:Nat->Bool):Bool:=(List.range n).all f
def iw(s:Bytes):Bool:=lower s&&decide (1<=(s.length:Int))&&decide ((s.length:Int)<=1)
def gy(k n:Int)(s:Bytes):Bool:=
 bif decide (k=0)then decide (n=0)&&decide (s=[])
 else bif decide (k=1)then decide (0<=n)&&decide (n<=999)&&decide (s=[])
 else bif decide (k=2)then dU s&&decide (n=0)
 else false
def kindOf:List dm->Bytes->Int
 |[],_=>0
 |f::r,s=>bif decide (f.1=s)then f.2.1 else kindOf r s
def fieldAt(fs:List dm)(i:Nat):dm:=fs.getD i ([],0,())
def nK(fs:List dm)(i:Nat):Bool:=
 iw (fieldAt fs i).1&&(decide (1<=(fieldAt fs i).2.1)&&decide ((fieldAt fs i).2.1<=2))&&!(decide (0<i)&&!Op.bytesLess (fieldAt fs (i-1)).1 (fieldAt fs i).1)
def fJ(fs:List dm):Bool:=jG fs.length (nK fs)&&decide ((fs.length:Int)<=5)
def mO(fs:List dm)(name:Bytes)(k n:Int)(s:Bytes):Bool:=gy k n s&&!decide (k=0)&&decide (k=kindOf fs name)
def iJ(a:List aW)(i:Nat):aW:=a.getD i ([],0,0,[],())
def oJ(fs:List dm)(a:List aW)(i:Nat):Bool:=
 mO fs (iJ a i).1 (iJ a i).2.1 (iJ a i).2.2.1 (iJ a i).2.2.2.1&&!(decide (0<i)&&!Op.bytesLess (iJ a (i-1)).1 (iJ a i).1)
def jh(fs:List dm)(a:List aW):Bool:=jG a.length (oJ fs a)
def fD(fs:List dm)(f:aG):Bool:=
 jh fs f.2.2.2.2.1&&fJ fs&&(decide (1<=f.1)&&decide (f.1<=60))&&(decide (0<=f.2.1)&&decide (f.2.1<=2))&&(decide (0<=f.2.2.2.1)&&decide (f.2.2.2.1<=60))
def fileAt(fs:List aG)(i:Nat):aG:=fs.getD i (0,0,false,0,[],())
def oL(s:bT)(i:Nat):Bool:=
 fD s.1 (fileAt s.2.1 i)&&decide ((fileAt s.2.1 i).1<s.2.2.1)&&!(decide (0<i)&&!decide ((fileAt s.2.1 (i-1)).1<(fileAt s.2.1 i).1))
def aJ(s:bT):Bool:=
 jG s.2.1.length (oL s)&&fJ s.1&&decide ((s.2.1.length:Int)<=12)&&(decide (1<=s.2.2.1)&&decide (s.2.2.1<=61))
def xA:Int->List aG->Int->Int
 |_,[],_=>-1
 |k,f::r,id=>bif decide (f.1=id)then k else xA (k+1) r id
def place(fs:List aG)(id:Int):Int:=xA 0 fs id
def uT(f:aG)(u:Int):Bool:=(decide (0<=u)&&decide (u<=2))&&(decide (f.2.1=u)||f.2.2.1)
def Az(f:aG)(u:Int):Bool:=(decide (0<=u)&&decide (u<=2))&&decide (f.2.1=u)
def unlink(fs:List aG)(f:aG):aG:=(f.1,f.2.1,f.2.2.1,(bif decide (place fs f.2.2.2.1<0)then 0 else f.2.2.2.1),f.2.2.2.2.1,())
def visible(s:bT)(u:Int):bT:=
 let a:=s.2.1.filter (uT · u)
 (s.1,a.map (unlink a),s.2.2.1,())
def auL(fs:List aG)(u:Int):List (Int×Unit):=(fs.filter λf=>decide (f.2.1=u)).map λf=>(f.1,())
def aAw:aG:=(0,0,false,0,[],())
def bI(s:bT)(id:Int):aG×Bool:=
 bif decide (place s.2.1 id<0)then(aAw,false)else(fileAt s.2.1 (place s.2.1 id).toNat,true)
def nC(name:Bytes)(b:aW):Bool:=!(b.1==name)
def lT(name:Bytes)(b:aW):Bool:=Op.bytesLess b.1 name||b.1==name
def Yq(b:List aW)(a:aW):List aW:=b.takeWhile (lT a.1)++a::b.dropWhile (lT a.1)
def ku(a:List aW)(name:Bytes)(k n:Int)(s:Bytes):List aW:=
 bif decide (k=0)then a.filter (nC name)else Yq (a.filter (nC name)) (name,k,n,s,())
def bH(s:bT)(f:aG):bT×Int×Bool:=
 let g:aG:=(s.2.2.1,f.2)
 bif aJ s&&decide ((s.2.1.length:Int)<12)&&fD s.1 g then((s.1,s.2.1++[g],s.2.2.1+1,()),s.2.2.1,true)else(s,0,false)
def bU(s:bT)(f:aG):bT×Bool:=
 bif aJ s&&!decide (place s.2.1 f.1<0)&&fD s.1 f then((s.1,s.2.1.set (place s.2.1 f.1).toNat f,s.2.2.1,()),true)else(s,false)
def dM(s:bT)(id:Int):bT×Bool:=
 bif aJ s&&!decide (place s.2.1 id<0)then((s.1,s.2.1.eraseIdx (place s.2.1 id).toNat,s.2.2.1,()),true)else(s,false)
def MN{α:Type}(p:α->Bool):Int->List α->Int
 |_,[]=>-1
 |k,f::r=>bif p f then k else MN p (k+1) r
def findAt{α:Type}(p:α->Bool)(l:List α):Int:=MN p 0 l
def fieldPlace(l:List dm)(name:Bytes):Int:=findAt (λf=>f.1==name) l
def notField(name:Bytes)(f:dm):Bool:=!(f.1==name)
def afW(name:Bytes)(f:dm):Bool:=Op.bytesLess f.1 name
def FN(s:List dm)(f:dm):List dm:=s.takeWhile (afW f.1)++f::s.dropWhile (afW f.1)
def MO(s:List dm)(f:dm):List dm×Bool:=bif fJ s&&fJ (FN s f)then(FN s f,true)else(s,false)
def anA(s:List dm)(name:Bytes):List dm×Bool:=bif fJ s&&!decide (kindOf s name=0)then(s.filter (notField name),true)else(s,false)
end Sp
namespace Sp
theorem aAV:∀(n m:Nat)(L:Nat->Nat),(∀k,k<m->∃j,j<n/\L j=k)->m<=n
 |0,m,L,h=>by
  simp_all
 |n+1,m,L,h=>by
  by_cases R:L n<m
  .have:=aAV n (m-1) (λj=>if L n<L j then L j-1 else L j) λk a=>by
    by_cases C:k<L n
    .obtain⟨j,hj,e⟩:=h k fC
     grind
    .obtain⟨j,hj,e⟩:=h (k+1) fC
     grind
   omega
  .have:=aAV n m L λk a=>by
    grind
   omega
abbrev afX:=List (Nat×Nat×Nat)
def kN(E:afX)(L:Nat->Nat):Prop:=∀e∈E,L e.2.1+e.2.2<=L e.1
def av6(E:afX)(n:Nat):Prop:=∀e∈E,e.1<n/\e.2.1<n/\e.2.2<=1
def sumTo(n:Nat)(L:Nat->Nat):Nat:=match n with|0=>0|n+1=>sumTo n L+L n
theorem sumTo_le{L M:Nat->Nat}:∀n,(∀i,i<n->L i<=M i)->sumTo n L<=sumTo n M
 |0,_=>aQp _
 |n+1,h=>Nat.add_le_add (sumTo_le n λi D=>h i fC) (h n fC)
theorem aAW{L M:Nat->Nat}:∀n,(∀i,i<n->L i<=M i)->(∃i,i<n/\L i<M i)->sumTo n L<sumTo n M
 |0,_,⟨i,hi,_⟩=>fC
 |n+1,h,⟨i,hi,hl⟩=>by
  have C:=sumTo_le n λj a=>h j (aR7 a);show sumTo n L+L n<sumTo n M+M n;by_cases e:i=n
  .subst e;omega
  .have:=aAW n (λj a=>h j (aR7 a)) ⟨i,fC,hl⟩
   grind
theorem adM{E:afX}{n:Nat}(h:av6 E n):∀(s:Nat)(L:Nat->Nat),sumTo n L<=s->kN E L->∃M,kN E M/\∀i,i<n->M i<n
 |s,L,hs,hL=>by
  by_cases a:∀i,i<n->L i<n
  .exact⟨L,hL,a⟩
  .obtain⟨i,hi⟩:=aSf.1 a;have d:i<n/\n<=L i:=by
    by_cases C:i<n
    .exact⟨C,Nat.le_of_not_lt λO=>hi λ_=>O⟩
    .exact(hi λO=>(C O).elim).elim
   have f:∃k,k<n/\∀j,j<n->L j≠k:=by
    refine aQX λb=>?_;have:=aAV n (n+1) (λj=>min (L j) n) λk m=>by
     by_cases C:k<n
     .refine aQX λO=>b ⟨k,C,λj l e=>O ⟨j,l,?_⟩⟩;omega
     .exact⟨i,d.1,fC⟩
    omega
   obtain⟨k,m,b⟩:=f;have o:sumTo n (λj=>if k<L j then L j-1 else L j)<sumTo n L:=by
    refine aAW n (λj _=>?_) ⟨i,d.1,?_⟩
    .split
     .exact Nat.sub_le _ _
     .exact aQp _
    .rw[if_pos fC];omega
   match s,hs with
   |0,hs=>omega
   |s+1,hs=>refine adM h s (λj=>if k<L j then L j-1 else L j) fC λe g=>?_;have C:=hL e g;obtain⟨O,K,x⟩:=h e g;have q:=b e.2.1 K;show(if k<L e.2.1 then L e.2.1-1 else L e.2.1)+e.2.2<=(if k<L e.1 then L e.1-1 else L e.1);split<;>split<;>omega
theorem Td{E:afX}{n:Nat}(a:av6 E n)(h:∃L,kN E L):∃M,kN E M/\∀i,i<n->M i<n:=by obtain⟨L,b⟩:=h;exact adM a (sumTo n L) L (aQp _) b
structure Raises(E:afX)(n:Nat)(R:(Nat->Nat)->Nat->Nat):Prop where
 up:∀L i,L i<=R L i
 fix:∀L,(∀i,i<n->R L i=L i)->kN E L
 below:∀L M,kN E M->(∀i,i<n->L i<=M i)->∀i,i<n->R L i<=M i
 same:∀L L',(∀i,i<n->L i=L' i)->∀i,i<n->R L i=R L' i
end Sp
namespace Sp
open Go
abbrev dw:=List dm×List aG×Int×List aH×Unit
abbrev gJ:=Int×List dm×List aG×Int×List aH×Int×Unit
instance:DecidableEq (List aO):=inferInstance
instance:DecidableEq aH:=inferInstance
instance:DecidableEq (List aH):=inferInstance
instance:DecidableEq (List aH×Unit):=inferInstance
instance:DecidableEq (Int×List aH×Unit):=inferInstance
instance:DecidableEq (List aG×Int×List aH×Unit):=inferInstance
instance aPD:DecidableEq dw:=(inferInstance:DecidableEq (List dm×List aG×Int×List aH×Unit))
instance:DecidableEq (List aH×Int×Unit):=inferInstance
instance:DecidableEq (Int×List aH×Int×Unit):=inferInstance
instance:DecidableEq (List aG×Int×List aH×Int×Unit):=inferInstance
instance:DecidableEq (List dm×List aG×Int×List aH×Int×Unit):=inferInstance
instance aPV:DecidableEq gJ:=(inferInstance:DecidableEq (Int×List dm×List aG×Int×List aH×Int×Unit))
instance:DecidableEq (List gJ):=inferInstance
def nodeAt(q:List aO)(i:Nat):aO:=q.getD i (0,0,0,[],0,0,[],())
def jS(n:aO):Bool:=n.1==6||n.1==7
def tN(n:aO):Bool:=n.1==8||n.1==9
def iM(n:aO)(a:Int):Bool:=
 let f:=decide (0<=n.2.1)&&decide (n.2.1<=a-1)&&decide (0<a)
 let two:=decide (0<=n.2.2.1)&&decide (n.2.2.1<=a-1)
 let e:=n.2.2.2.1==[]&&(n.2.2.2.2.1==0&&(n.2.2.2.2.2.1==0&&n.2.2.2.2.2.2.1==[]))
 let b:=n.2.1==0&&n.2.2.1==0
 let d:=gy n.2.2.2.2.1 n.2.2.2.2.2.1 n.2.2.2.2.2.2.1
 let g:=n.2.2.2.2.1==0&&(n.2.2.2.2.2.1==0&&n.2.2.2.2.2.2.1==[])
 bif n.1==1 then b&&e else bif n.1==2 then b&&g&&iw n.2.2.2.1 else
 bif n.1==3 then b&&iw n.2.2.2.1&&d&&!(n.2.2.2.2.1==0)else bif n.1==4 then b&&iw n.2.2.2.1&&d&&n.2.2.2.2.1==1 else
 bif n.1==5 then f&&n.2.2.1==0&&e else bif n.1==6||n.1==7 then f&&two&&e else
 bif n.1==8||n.1==9 then b&&g&&dU n.2.2.2.1 else false
def refsOf(a:Int)(n:aO):Nat:=(bif (jS n||n.1==5)&&n.2.1==a then 1 else 0)+(bif jS n&&n.2.2.1==a then 1 else 0)
def nJ(q:List aO)(a:Int):Nat:=(q.map (refsOf a)).sum
def pY(q:List aO)(i:Nat):Bool:=iM (nodeAt q i) i&&!(decide ((i:Int)<(q.length:Int)-1)&&!(nJ q i==1))
def aN(q:List aO):Bool:=jG q.length (pY q)&&(decide (1<=(q.length:Int))&&decide ((q.length:Int)<=9))
def dh(d:List aH)(i:Nat):aH:=d.getD i ([],[],())
def oz(d:List aH)(i:Nat):Bool:=dU (dh d i).1&&aN (dh d i).2.1&&!(decide (0<i)&&!Op.bytesLess (dh d (i-1)).1 (dh d i).1)
def dK(d:List aH):Bool:=jG d.length (oz d)&&decide ((d.length:Int)<=5)
def oC(q:List aO)(i:Nat)(out:List (Bool×Unit)):List (Bool×Unit):=
 let n:=nodeAt q i
 bif n.1==5 then out.set n.2.1.toNat (true,())else bif jS n then(out.set n.2.1.toNat ((out.getD i (false,())).1,())).set n.2.2.1.toNat ((out.getD i (false,())).1,())else out
def rH(q:List aO):Nat->List (Bool×Unit)->List (Bool×Unit)
 |0,out=>out
 |n+1,out=>rH q n (oC q n out)
def negated(q:List aO):List (Bool×Unit):=bif aN q then rH q q.length (List.replicate q.length (false,()))else[]
def iZ(q:List aO)(neg:Bool):List Bytes:=(List.range (negated q).length).filterMap λi=>bif tN (nodeAt q i)&&((negated q).getD i (false,())).1==neg then some (nodeAt q i).2.2.2.1 else none
def Cj:Int->List aH->Bytes->Int
 |_,[],_=>-1
 |k,x::r,s=>bif x.1==s then k else Cj (k+1) r s
def bn(d:List aH)(s:Bytes):Int:=Cj 0 d s
def fO(d:List aH):afX:=
 (List.range d.length).flatMap λi=>
   ((iZ (dh d i).2.1 false).filterMap λs=>bif decide (0<=bn d s)then some (i,(bn d s).toNat,0)else none)++
   ((iZ (dh d i).2.1 true).filterMap λs=>bif decide (0<=bn d s)then some (i,(bn d s).toNat,1)else none)
open Classical in
noncomputable def aA (d:List aH):Bool:=dK d&&decide (∃L,kN (fO d) L)
def kG(x:dw):bT:=(x.1,x.2.1,x.2.2.1,())
noncomputable def eU (x:dw):Bool:=aJ (kG x)&&aA x.2.2.2.1
def dP(v:List gJ)(i:Nat):gJ:=v.getD i (0,[],[],0,[],0,())
def pJ(x:gJ):dw:=(x.2.1,x.2.2.1,x.2.2.2.1,x.2.2.2.2.1,())
noncomputable def yD (v:List gJ) (i:Nat):Bool:=
 (decide (1<=(dP v i).1)&&decide ((dP v i).1<=1000000000))&&(!(decide (0<i)&&decide ((dP v (i-1)).1>=(dP v i).1))&&(eU (pJ (dP v i))&&(decide (0<=(dP v i).2.2.2.2.2.1)&&decide ((dP v i).2.2.2.2.2.1<=99))))
noncomputable def gQ (v:List gJ):Bool:=jG v.length (yD v)&&decide ((v.length:Int)<=6)
def Ec:Int->List gJ->Int->Int
 |_,[],_=>-1
 |k,x::r,n=>bif x.1==n then k else Ec (k+1) r n
def bM(v:List gJ)(n:Int):Int:=Ec 0 v n
noncomputable def jq (v:List gJ) (n:Int) (x:dw):List gJ×Bool:=
 bif gQ v&&gQ (v++[(n,x.1,x.2.1,x.2.2.1,x.2.2.2.1,0,())])then(v++[(n,x.1,x.2.1,x.2.2.1,x.2.2.2.1,0,())],true)else(v,false)
def jB(v:List gJ)(n:Int):dw×Bool:=bif decide (0<=bM v n)then(pJ (dP v (bM v n).toNat),true)else(([],[],0,[],()),false)
def iE(r:LS)(l:List Bytes):Prop:=r.length<=1000/\∀s,(s,())∈r↔s∈l
def Ei(d:List aH)(aS:List (Int×Unit))(more:Int):LS->Int
 |[]=>0
 |x::r=>max (bif decide (0<=bn d x.1)then(aS.getD (bn d x.1).toNat (0,())).1+more else 0) (Ei d aS more r)
def Gs(l:LS)(s:Bytes):LS:=
 let n:=(l.takeWhile λx=>Op.bytesLess x.1 s).length
 bif decide (n<l.length)&&(l.getD n ([],())).1==s then l else l.take n++[(s,())]++l.drop n
def raised(d:List aH)(aS r:List (Int×Unit)):Prop:=
 r.length=d.length/\(∀i,i<d.length->(aS.getD i (0,())).1<=(r.getD i (0,())).1)/\(∀B:Int,(∀i,i<d.length->(aS.getD i (0,())).1<=B)->∀i,i<d.length->(r.getD i (0,())).1<=B+5000)/\
 ((∀i,i<d.length->(r.getD i (0,())).1=(aS.getD i (0,())).1)->kN (fO d) λi=>(aS.getD i (0,())).1.toNat)/\
 ∀M,kN (fO d) M->(∀i,i<d.length->(aS.getD i (0,())).1<=M i)->∀i,i<d.length->(r.getD i (0,())).1<=M i
def aK(d:List aH):Prop:=d.length<=1000/\∀x∈d,x.2.1.length<=1000
def fB(x:dw):Prop:=aV (kG x)/\aK x.2.2.2.1
def fK(v:List gJ):Prop:=v.length<=1000/\∀x∈v,fB (pJ x)
def qo(x:gJ):Int:=x.2.2.2.2.2.1
def UZ(x:gJ)(p:Int):gJ:=(x.1,x.2.1,x.2.2.1,x.2.2.2.1,x.2.2.2.2.1,p,())
def Di(v:List gJ)(n more:Int):Bool:=
 decide (0<=bM v n)&&(decide (0<=qo (dP v (bM v n).toNat)+more)&&decide (qo (dP v (bM v n).toNat)+more<=99))
noncomputable def kZ (v:List gJ) (n more:Int):List gJ×Bool:=
 bif gQ v&&Di v n more then(v.set (bM v n).toNat (UZ (dP v (bM v n).toNat) (qo (dP v (bM v n).toNat)+more)),true)else(v,false)
def unpinned(x:gJ):Bool:=qo x==0
def wR(v:List gJ)(n:Nat):List gJ:=(v.take n).filter (λx=>!unpinned x)
noncomputable def collect (v:List gJ):List gJ:=bif gQ v then wR v (v.length-1)++v.drop (v.length-1)else v
theorem akl(s:Bytes):∀(d:List aH)(k:Int),(Cj k d s=-1/\∀x∈d,x.1≠s)\/∃n,n<d.length/\Cj k d s=k+n/\(dh d n).1=s/\∀i,i<n->(dh d i).1≠s
 |[],k=>.inl ⟨rfl,λx Z=>vk⟩
 |x::r,k=>by
  by_cases h:x.1=s
  .right;refine⟨0,ni,?_,h,λi D=>fC⟩;rw[Cj,aQv.2 h];simp
  .rcases akl s r (k+1)with⟨h1,h2⟩|⟨n,h1,h2,h3,h4⟩
   .left;refine⟨by rw[Cj,aQl.2 h];exact h1,λy F=>?_⟩;rcases aQt.1 F with rfl|F
    .exact h
    .exact h2 y F
   .right;refine⟨n+1,ql,by rw[Cj,aQl.2 h];show Cj (k+1) r s=_;omega,h3,λi D=>?_⟩;cases i with
    |zero=>exact h
    |succ i=>exact h4 i fC
theorem yG(d:List aH)(s:Bytes):(bn d s=-1/\∀x∈d,x.1≠s)\/∃n,n<d.length/\bn d s=n/\(dh d n).1=s/\∀i,i<n->(dh d i).1≠s:=by
 rcases akl s d 0 with h|⟨n,C,O,K⟩
 .exact .inl h
 .exact .inr ⟨n,C,by show Cj 0 d s=_;omega,K⟩
variable {d:List aH}
theorem Pe{s:Bytes}(h:0<=bn d s):bn d s<d.length:=by rcases yG d s with⟨C,_⟩|⟨n,C,O,_⟩<;>omega
variable {i:Nat}
theorem H9{j m:Nat}:(i,j,m)∈fO d↔i<d.length/\∃s,((m=0/\s∈iZ (dh d i).2.1 false)\/(m=1/\s∈iZ (dh d i).2.1 true))/\0<=bn d s/\j=(bn d s).toNat:=by
 grind [fO]
theorem rV(d:List aH):av6 (fO d) d.length:=by
 rintro⟨i,j,m⟩ he;obtain⟨C,s,O,K,x⟩:=H9.1 he;have:=Pe K
 grind
def lv(l:List (Int×Unit))(i:Nat):Int:=(l.getD i (0,())).1
variable {l:List (Int×Unit)}
theorem azX(D:i<l.length)(x:Int)(k:Nat):lv (l.set i (x,())) k=if k=i then x else lv l k:=by
 grind [lv]
theorem ajx(D:i<l.length):(lv l i,())∈l:=by
 grind [lv]
theorem azW{p:Int->Prop}(h:∀i,i<l.length->p (lv l i)):∀x∈l,p x.1:=by
 grind [List.getElem_of_mem,lv]
theorem aFW{a b:List (Int×Unit)}(W:a.length=b.length)(h:∀i,i<a.length->lv a i=lv b i):a=b:=by
 grind [List.ext_getElem,lv]
structure Uw(d:List aH)(aS cur:List (Int×Unit))(g:Int)(P:Nat×Nat×Nat->Prop):Prop where
 len:cur.length=d.length
 up:∀i,i<d.length->lv aS i<=lv cur i
 grow:∀B,(∀i,i<d.length->lv aS i<=B)->∀i,i<d.length->lv cur i<=B+g
 fix:(∀i,i<d.length->lv cur i=lv aS i)->∀e,P e->lv aS e.2.1+e.2.2<=lv aS e.1
 below:∀M,kN (fO d) M->(∀i,i<d.length->lv aS i<=M i)->∀i,i<d.length->lv cur i<=M i
variable {aS:List (Int×Unit)}
theorem Uw.start(h:aS.length=d.length):Uw d aS aS 0 λ_=>False:=
 ⟨h,λ_ _=>aQN _,λB a i D=>jv,λ_ e g=>g.elim,λ_ _ h=>h⟩
variable {cur:List (Int×Unit)}{g:Int}{P:Nat×Nat×Nat->Prop}
theorem Uw.weaken{b:Int}{a:Nat×Nat×Nat->Prop}(h:Uw d aS cur g P)(m:g<=b)(j:∀e,a e->P e):Uw d aS cur b a:=
 ⟨h.len,h.up,λB f i D=>by have:=h.grow B f i D;omega,λZ e k=>h.fix Z e (j e k),h.below⟩
theorem Uw.still(h:Uw d aS cur g P){j m:Nat}(a:(i,j,m)∈fO d)(b:lv cur j+m<=lv cur i):Uw d aS cur g λe=>P e\/e=(i,j,m):=by
 obtain⟨C,O,_⟩:=rV d _ a;refine⟨h.len,h.up,h.grow,λZ e J=>?_,h.below⟩;rcases J with J|rfl
 .exact h.fix Z e J
 grind
theorem Uw.set(h:Uw d aS cur g P){j m:Nat}(q:(i,j,m)∈fO d)(r:lv cur i<lv cur j+m):Uw d aS (cur.set i (lv cur j+m,())) (g+m) λe=>P e\/e=(i,j,m):=by
 obtain⟨C,O,_⟩:=rV d _ q;have W:=h.len;have Y:=λk=>azX (l:=cur) (i:=i) fC (lv cur j+m) k;refine⟨ql,λk f=>?_,λB o k f=>?_,λZ e J=>?_,λM n U k f=>?_⟩
 .have a:=h.up k f;grind
 .rw[Y];have a:=h.grow B o k f;have b:=h.grow B o j O;split<;>omega
 .have:=Z i C;rw[Y,if_pos rfl]at this;have:=h.up i C;omega
 .rw[Y];split
  .next e=>
   have a:=h.below M n U j O;have b:=n _ q
   grind
  .exact h.below M n U k f
theorem Uw.raised(h:Uw d aS cur g P)(m:g<=5000)(j:∀e∈fO d,P e)(k:∀i,i<d.length->0<=lv aS i):raised d aS cur:=by
 refine⟨h.len,h.up,λB f i D=>by have:=h.grow B f i D;grind [lv],λZ e b=>?_,h.below⟩;have a:=h.fix Z e (j e b);obtain⟨C,O,_⟩:=rV d _ b
 grind [lv]
theorem atn(d:List aH)(aS:List (Int×Unit))(W:aS.length=d.length):∀(E:afX),(∀e∈E,e∈fO d)->∃cur:List (Int×Unit),cur.length=d.length/\(∀i,i<d.length->lv aS i<=lv cur i/\(lv cur i=lv aS i\/∃e∈E,e.1=i/\lv cur i=lv aS e.2.1+e.2.2))/\∀e∈E,lv aS e.2.1+e.2.2<=lv cur e.1
 |[],_=>⟨aS,W,λi D=>⟨aQN _,.inl rfl⟩,λe a=>by cases a⟩
 |e::E,hE=>by
  obtain⟨cur,C,O,K⟩:=atn d aS W E λx Z=>hE x (aQo _ Z);obtain⟨b,f,_⟩:=rV d e (hE e aQr);by_cases h:lv cur e.1<lv aS e.2.1+e.2.2
  .have hs:=λk=>azX (l:=cur) (i:=e.1) fC (lv aS e.2.1+e.2.2) k;refine⟨cur.set e.1 (lv aS e.2.1+e.2.2,()),ql,λi D=>?_,λx Z=>?_⟩
   · grind
   grind
  grind
theorem aCj(d:List aH)(aS:List (Int×Unit))(W:aS.length=d.length)(m:∀i,i<d.length->0<=lv aS i):∃cur,raised d aS cur:=by
 obtain⟨cur,C,O,K⟩:=atn d aS W (fO d) λ_ h=>h;refine⟨cur,C,λi D=>(O i D).1,λB j i D=>?_,λZ e f=>?_,λM k U i D=>?_⟩
 .show lv cur i<=_;rcases(O i D).2 with h|⟨e,f,rfl,h⟩
  .rw[h];have:=j i D;show(aS.getD i (0,())).1<=_;omega
  .obtain⟨_,g2,g3⟩:=rV d e f
   grind [lv]
 · grind [lv]
 .show lv cur i<=_;rcases(O i D).2 with h|⟨e,f,rfl,h⟩
  .rw[h];exact U i D
  .obtain⟨_,g2,_⟩:=rV d e f;have a:lv aS e.2.1<=M e.2.1:=U _ g2;have b:=k e f;omega
theorem QY{d:List aH}{aS:List (Int×Unit)}{more:Int}:∀(r:LS)(B:Int),Ei d aS more r<=B↔0<=B/\∀x∈r,0<=bn d x.1->lv aS (bn d x.1).toNat+more<=B
 |[],B=>by simp[Ei]
 |x::r,B=>by
  have j:=QY (d:=d) (aS:=aS) (more:=more) r B;rw[Ei];have e:∀a b:Int,max a b<=B↔a<=B/\b<=B:=λa b=>fC;rw[e,j];simp only[aQt,forall_eq_or_imp];by_cases h:0<=bn d x.1
  .rw[aQT h];constructor
   .exactλ⟨a,b,c⟩=>⟨b,λ_=>a,c⟩
   .exactλ⟨a,b,c⟩=>⟨b h,a,c⟩
  .rw[aQH h];constructor
   .exactλ⟨a,b,c⟩=>⟨b,λf=>(h f).elim,c⟩
   .exactλ⟨a,b,c⟩=>⟨a,a,c⟩
def Ja(l:List (Int×Unit)):Nat->Int
 |0=>0
 |n+1=>Ja l n+lv l n
theorem aoE{a b:List (Int×Unit)}:∀n,(∀i,i<n->lv a i<=lv b i)->Ja a n<=Ja b n
 |0,_=>aQN _
 |n+1,h=>Int.add_le_add (aoE n λi D=>h i fC) (h n fC)
theorem aoD{a b:List (Int×Unit)}:∀n,(∀i,i<n->lv a i<=lv b i)->(∃i,i<n/\lv a i<lv b i)->Ja a n<Ja b n
 |0,_,⟨i,hi,_⟩=>fC
 |n+1,h,⟨i,hi,hl⟩=>by
  have C:=aoE n λj f=>h j (aR7 f);show Ja a n+lv a n<Ja b n+lv b n;by_cases e:i=n
  .subst e;omega
  .have:=aoD n (λj f=>h j (aR7 f)) ⟨i,fC,hl⟩
   grind
theorem abC{a:List (Int×Unit)}{b:Nat}:∀n:Nat,(∀i,i<n->lv a i<=b)->Ja a n<=(n*b:Nat)
 |0,_=>by simp[Ja]
 |n+1,h=>by
  have C:=abC n λi D=>h i (aR7 D)
  grind [Ja]
theorem aiK{a:List (Int×Unit)}:∀n:Nat,(∀i,i<n->0<=lv a i)->0<=Ja a n
 |0,_=>aQN _
 |n+1,h=>Int.add_nonneg (aiK n λi D=>h i fC) (h n fC)
theorem jH:aA d=true↔dK d=true/\∃L,kN (fO d) L:=by unfold aA;simp
theorem aeK(h:dK d=true):d.length<=5:=by
 grind [dK]
end Sp
namespace Sp
abbrev Ext(a α:Type):=a->α->Bool
structure Sys(ι α:Type) where
 T:ι->Ext ι α->α->Prop
 pos:ι->ι->Prop
 neg:ι->ι->Prop
 mono:∀i X Y,(∀j,pos i j->∀x,X j x=true->Y j x=true)->(∀j,neg i j->∀x,X j x=Y j x)->∀x,T i X x->T i Y x
def ayM{a α:Type}(S:Sys a α)(N:a->Prop)(aS:a->Nat):Prop:=∀i j,N i->N j->(S.pos i j->aS j<=aS i)/\(S.neg i j->aS j<aS i)
structure Eval{ι α:Type}(S:Sys ι α)(N:ι->Prop)(aS:ι->Nat)(X:Ext ι α):Prop where
 fix:∀i,N i->∀x,X i x=true↔S.T i X x
 least:∀k(Y:Ext ι α),(∀i,¬(N i/\aS i=k)->∀x,Y i x=X i x)->(∀i,N i->aS i=k->∀x,S.T i Y x->Y i x=true)->∀i,N i->aS i=k->∀x,X i x=true->Y i x=true
open Classical in
theorem aC9{a α:Type}{P:a->Prop}{A B:Ext a α}:∃Y:Ext a α,(∀i x,Y i x=true↔A i x=true/\(P i->B i x=true))/\∀i,¬P i->∀x,Y i x=A i x:=by
 have h:∀i x,decide (A i x=true/\(P i->B i x=true))=true↔A i x=true/\(P i->B i x=true):=λi x=>aSC;refine⟨λi x=>decide (A i x=true/\(P i->B i x=true)),h,λi D x=>?_⟩
 simp_all
theorem ab6{I α:Type}{o s:Sys I α}{K L U:I->Prop}{q w:I->Nat}{d e:Ext I α}
 (C:Eval o K q d) (O:Eval s L w e) (z:ayM o K q) (S:ayM s L w) (r:∀i,U i->K i) (E:∀i,U i->L i)
 (R:∀i,U i->∀X x,o.T i X x↔s.T i X x) (J:∀i,U i->∀j,s.pos i j->o.pos i j) (H:∀i,U i->∀j,s.neg i j->o.neg i j)
 (N:∀i,U i->∀j,o.pos i j\/o.neg i j->U j\/∀x,d j x=e j x):∀i,U i->∀x,d i x=e i x:=by
 have T:∀k,∀i,U i->q i=k->∀x,d i x=e i x:=by
  intro k
  induction k using Nat.strongRecOn with
  |_ k ih=>
   have g:∀j,U j->q j<k->∀x,d j x=e j x:=λj a W=>ih (q j) W j a rfl;have M:∀i,U i->q i=k->∀x,d i x=true->e i x=true:=by
    obtain⟨Y,u,l⟩:=aC9 (P:=λi=>U i/\q i=k) (A:=d) (B:=e);have:=C.least k Y (λi D=>l i λh=>D ⟨r i h.1,h.2⟩) λi t W x Z=>by
     have f:∀j,o.neg i j->∀x,Y j x=d j x:=λj a=>l j λh=>by have:=(z i j t (r j h.1)).2 a;omega
     refine(u i x).2 ⟨(C.fix i t x).2 (o.mono i Y d (λj _ y F=>((u j y).1 F).1) f x Z),λb=>?_⟩;refine(O.fix i (E i b.1) x).2 ((R i b.1 e x).1 (o.mono i Y e (λj a y F=>?_) (λj a y=>?_) x Z))
     .rcases N i b.1 j (.inl a)with h|h
      .have hl2:=(z i j t (r j h)).1 a
       grind
      grind
     .rw[f j a];rcases N i b.1 j (.inr a)with h|h
      .exact g j h (by have:=(z i j t (r j h)).2 a;omega) y
      .exact h y
    grind
   have Q:∀m,∀i,U i->q i=k->w i=m->∀x,e i x=true->d i x=true:=by
    intro m
    induction m using Nat.strongRecOn with
    |_ m ih2=>
     obtain⟨Y,u,l⟩:=aC9 (P:=λi=>U i/\q i=k/\w i=m) (A:=e) (B:=d);have:=O.least m Y (λi D=>l i λh=>D ⟨E i h.1,h.2.2⟩) λi t W x Z=>by
      have f:∀j,s.neg i j->∀x,Y j x=e j x:=λj a=>l j λh=>by have:=(S i j t (E j h.1)).2 a;omega
      refine(u i x).2 ⟨(O.fix i t x).2 (s.mono i Y e (λj _ y F=>((u j y).1 F).1) f x Z),λb=>?_⟩;refine(C.fix i (r i b.1) x).2 ((R i b.1 d x).2 (s.mono i Y d (λj a y F=>?_) (λj a y=>?_) x Z))
      .have n:=J i b.1 j a;rcases N i b.1 j (.inl n)with h|h
       .have g1:=(z i j (r i b.1) (r j h)).1 n;have g2:=(S i j t (E j h)).1 a
        grind
       grind
      .rw[f j a];have n:=H i b.1 j a;rcases N i b.1 j (.inr n)with h|h
       .exact(g j h (by have:=(z i j (r i b.1) (r j h)).2 n;omega) y).symm
       grind
     grind
   exactλi b W x=>aRJ.2 ⟨M i b W x,Q (w i) i b W rfl x⟩
 grind
end Sp
namespace Sp
open Go
abbrev fA:=Bytes×List (Int×Unit)×Unit
abbrev BX:=Ext Bytes Int
def dA:List aW->Bytes->ET
 |[],_=>(0,0,[],())
 |a::r,s=>bif a.1==s then(a.2.1,a.2.2.1,a.2.2.2.1,())else dA r s
def gY:List fA->Bytes->List (Int×Unit)
 |[],_=>[]
 |x::r,s=>bif x.1==s then x.2.1 else gY r s
def fF(l:List (Int×Unit))(x:Int):Bool:=l.any λy=>y.1==x
def bK(r:List fA):BX:=λs x=>fF (gY r s) x
theorem E5{l:List (Int×Unit)}{x:Int}:fF l x=true↔(x,())∈l:=by
 grind [fF]
def mQ(n:aO)(f:aG)(X:BX):Bool:=
 bif n.1==2 then !((dA f.2.2.2.2.1 n.2.2.2.1).1==0)else
 bif n.1==3 then decide (dA f.2.2.2.2.1 n.2.2.2.1=(n.2.2.2.2.1,n.2.2.2.2.2.1,n.2.2.2.2.2.2.1,()))else
 bif n.1==4 then(dA f.2.2.2.2.1 n.2.2.2.1).1==1&&decide ((dA f.2.2.2.2.1 n.2.2.2.1).2.1<n.2.2.2.2.2.1)else
 bif n.1==8 then X n.2.2.2.1 f.1 else
 bif n.1==9 then !(f.2.2.2.1==0)&&X n.2.2.2.1 f.2.2.2.1 else true
def val(q:List aO)(f:aG)(X:BX)(a:Nat):Bool:=
 if(nodeAt q a).1=5 then(if h:(nodeAt q a).2.1.toNat<a then !val q f X (nodeAt q a).2.1.toNat else true)
 else if(nodeAt q a).1=6 then(if h:(nodeAt q a).2.1.toNat<a/\(nodeAt q a).2.2.1.toNat<a then val q f X (nodeAt q a).2.1.toNat&&val q f X (nodeAt q a).2.2.1.toNat else true)
 else if(nodeAt q a).1=7 then(if h:(nodeAt q a).2.1.toNat<a/\(nodeAt q a).2.2.1.toNat<a then val q f X (nodeAt q a).2.1.toNat||val q f X (nodeAt q a).2.2.1.toNat else true)
 else mQ (nodeAt q a) f X
termination_by a
decreasing_by all_goals omega
theorem O7(q:List aO)(f:aG)(X:BX)(a:Nat):val q f X a=
 if(nodeAt q a).1=5 then(if h:(nodeAt q a).2.1.toNat<a then !val q f X (nodeAt q a).2.1.toNat else true)
 else if(nodeAt q a).1=6 then(if h:(nodeAt q a).2.1.toNat<a/\(nodeAt q a).2.2.1.toNat<a then val q f X (nodeAt q a).2.1.toNat&&val q f X (nodeAt q a).2.2.1.toNat else true)
 else if(nodeAt q a).1=7 then(if h:(nodeAt q a).2.1.toNat<a/\(nodeAt q a).2.2.1.toNat<a then val q f X (nodeAt q a).2.1.toNat||val q f X (nodeAt q a).2.2.1.toNat else true)
 else mQ (nodeAt q a) f X:=by rw[val]
def kz(q:List aO)(f:aG)(X:BX):Bool:=aN q&&val q f X (q.length-1)
def sel(fs:List aG)(q:List aO)(X:BX):List (Int×Unit):=(fs.filter λf=>kz q f X).map λf=>(f.1,())
def DV(q:List aO)(i:Nat):Bool:=((negated q).getD i (false,())).1
variable {q:List aO}{i:Nat}
theorem nT(h:aN q=true)(D:i<q.length):iM (nodeAt q i) i=true/\((i:Int)<(q.length:Int)-1->nJ q i=1):=by
 unfold aN at h;have C:pY q i=true:=by
  grind [jG]
 grind [pY]
theorem jF(h:aN q=true):1<=q.length/\q.length<=9:=by
 grind [aN]
variable {n:aO}
theorem anB{a:Nat}(h:iM n a=true)(H:n.1=5\/n.1=6\/n.1=7):0<=n.2.1/\n.2.1.toNat<a:=by
 grind [iM]
theorem Yg{a:Nat}(h:iM n a=true)(H:n.1=6\/n.1=7):0<=n.2.2.1/\n.2.2.1.toNat<a:=by
 grind [iM]
theorem aDa{α:Type}(g:α->Nat):∀(l:List α),(l.map g).sum=1->∀i j,i<l.length->j<l.length->i≠j->∀d,1<=g (l.getD i d)->g (l.getD j d)=0
 |[],_,i,_,hi,_,_,_,_=>by simp at hi
 |x::r,h,i,j,hi,hj,hne,d,hg=>by
  rw[aQB,aRh]at h;have a:∀(l:List α) k,k<l.length->g (l.getD k d)<=(l.map g).sum:=by
   intro l
   induction l with
   |nil=>grind
   |cons y t ih=>
    grind
  cases i with
  |zero=>
   cases j with
   |zero=>exact(hne rfl).elim
   |succ j=>
    have C:1<=g x:=hg;have:=a r j (by simpa using hj);show g (r.getD j d)=0;omega
  |succ i=>
   have C:1<=g (r.getD i d):=hg;have O:=a r i Uy;cases j with
   |zero=>show g x=0;omega
   |succ j=>exact aDa g r fC i j Uy (by simpa using hj) fC d hg
theorem TT{q:List aO}{p:Nat}:∀(n:Nat)(a:List (Bool×Unit)),(∀i,i<n->((nodeAt q i).1=5\/jS (nodeAt q i)=true->(nodeAt q i).2.1.toNat≠p)/\(jS (nodeAt q i)=true->(nodeAt q i).2.2.1.toNat≠p))->
 (rH q n a).getD p (false,())=a.getD p (false,())
 |0,_,_=>rfl
 |n+1,a,h=>by
  have e:=TT n (oC q n a) λi D=>h i fC;show(rH q n (oC q n a)).getD p (false,())=_;rw[e];have Y:∀(l:List (Bool×Unit)) k x,k≠p->(l.set k x).getD p (false,())=l.getD p (false,()):=λl k x j=>by rw[aQJ,aSc j,← aQJ]
  obtain⟨C,O⟩:=h n fC;unfold oC;dsimp only;cases b:((nodeAt q n).1==5)with
  |true=>exact Y _ _ _ (C (.inl (aQv.1 b)))
  |false=>
   cases d:jS (nodeAt q n)with
   |true=>exact(Y _ _ _ (O d)).trans (Y _ _ _ (C (.inr d)))
   |false=>rfl
theorem JY(q:List aO):∀(n:Nat)(a:List (Bool×Unit)),(rH q n a).length=a.length
 |0,_=>rfl
 |n+1,a=>by show(rH q n (oC q n a)).length=_;rw[JY q n];unfold oC;dsimp only;cases (nodeAt q n).1==5<;>cases jS (nodeAt q n)<;>simp
theorem mg:jS n=true↔n.1=6\/n.1=7:=by
 grind [jS]
theorem agF(q:List aO):∀(k m:Nat)(a:List (Bool×Unit)),∃b:List (Bool×Unit),b.length=a.length/\rH q (m+k) a=rH q m b
 |0,_,a=>⟨a,rfl,rfl⟩
 |k+1,m,a=>by
  obtain⟨b,C,O⟩:=agF q k m (oC q (m+k) a);have W:(oC q (m+k) a).length=a.length:=by
   grind [oC]
  exact⟨b,C.trans W,O⟩
theorem nS(h:aN q=true)(D:i<q.length):((nodeAt q i).1=5\/jS (nodeAt q i)=true->0<=(nodeAt q i).2.1/\(nodeAt q i).2.1.toNat<i)/\(jS (nodeAt q i)=true->0<=(nodeAt q i).2.2.1/\(nodeAt q i).2.2.1.toNat<i):=by
 have C:=(nT h D).1;refine⟨λO=>?_,λO=>Yg C (mg.1 O)⟩;rcases O with O|O
 .exact anB C (.inl O)
 .exact anB C (.inr (mg.1 O))
variable {p:Nat}
theorem aES(h:aN q=true){j:Nat}(D:i<q.length)(b:j<q.length)(a:i≠j)(J:p<i)(hr:1<=refsOf p (nodeAt q i)):refsOf p (nodeAt q j)=0:=
 aDa (refsOf p) q ((nT h fC).2 fC) i j D b a _ hr
theorem aCl(h:refsOf p n=0)(l:((n.1=5\/jS n=true)->0<=n.2.1)/\(jS n=true->0<=n.2.2.1)):(n.1=5\/jS n=true->n.2.1.toNat≠p)/\(jS n=true->n.2.2.1.toNat≠p):=by
 grind [refsOf]
theorem anC(h:n.1=5\/jS n=true)(l:0<=n.2.1)(e:n.2.1.toNat=p):1<=refsOf p n:=by
 grind [refsOf]
theorem aAY(h:jS n=true)(l:0<=n.2.2.1)(e:n.2.2.1.toNat=p):1<=refsOf p n:=by
 grind [refsOf]
theorem apY{l:List (Bool×Unit)}{k:Nat}{x:Bool×Unit}(j:k<l.length):(l.set k x).getD p (false,())=if k=p then x else l.getD p (false,()):=by
 grind
theorem afY(h:aN q=true)(D:i<q.length):
 ((nodeAt q i).1=5->DV q (nodeAt q i).2.1.toNat=true)/\(jS (nodeAt q i)=true->DV q (nodeAt q i).2.1.toNat=DV q i/\DV q (nodeAt q i).2.2.1.toNat=DV q i):=by
 have H:negated q=rH q q.length (List.replicate q.length (false,())):=by grind [negated]
 obtain⟨d,m,g⟩:=agF q (q.length-(i+1)) (i+1) (List.replicate q.length (false,()));rw[show i+1+(q.length-(i+1))=q.length from fC,← H]at g;have y:d.length=q.length:=by rw[m];simp
 have o:negated q=rH q i (oC q i d):=g;obtain⟨z,A⟩:=nS h D;have f:∀p,p<i->1<=refsOf p (nodeAt q i)->DV q p=((oC q i d).getD p (false,())).1:=λp J hr=>by
  unfold DV;rw[o,TT i];intro j x;have l:j<q.length:=fC;obtain⟨u,w⟩:=nS h l
  grind [aCl,aES]
 have k:DV q i=(d.getD i (false,())).1:=by
  unfold DV;rw[g,TT (i+1)];intro j x;obtain⟨u,w⟩:=nS h (show j<q.length from fC)
  grind
 refine⟨λr=>?_,λO=>?_⟩
 · grind [anC,oC]
 .obtain⟨a,b⟩:=z (.inr O);obtain⟨s,t⟩:=A O;have r:((nodeAt q i).1==5)=false:=by rcases mg.1 O with e|e<;>rw[e]<;>rfl
  rw[f _ b (anC (.inr O) a rfl),f _ t (aAY O s rfl),k];unfold oC;dsimp only;rw[r,O];show(((d.set _ ((d.getD i (false,())).1,())).set _ ((d.getD i (false,())).1,())).getD _ (false,())).1=_/\(((d.set _ ((d.getD i (false,())).1,())).set _ ((d.getD i (false,())).1,())).getD _ (false,())).1=_;rw[apY jv,apY fC,apY jv,if_pos rfl,if_pos rfl]
  grind
theorem ato(h:aN q=true):DV q (q.length-1)=false:=by
 have H:negated q=rH q q.length (List.replicate q.length (false,())):=by grind [negated]
 unfold DV;rw[H,TT q.length]
 · grind
 grind [nS]
theorem aAZ(h:aN q=true)(D:i<q.length)(e:tN (nodeAt q i)=true):(nodeAt q i).2.2.2.1∈iZ q (DV q i):=by
 grind [negated,JY,iZ,DV]
theorem aIL{f:aG}{X Y:BX}(h:aN q=true)(J:∀s∈iZ q false,∀x,X s x=true->Y s x=true)(H:∀s∈iZ q true,∀x,X s x=Y s x):
 ∀a,a<q.length->(DV q a=false->val q f X a=true->val q f Y a=true)/\(DV q a=true->val q f X a=val q f Y a):=by
 intro a
 induction a using Nat.strongRecOn with
 |_ a ih=>
  intro r;obtain⟨b,d⟩:=afY h r;rw[O7 q f X a,O7 q f Y a]
  grind [mg,aAZ,tN,mQ]
theorem akm{f:aG}{X Y:BX}(J:∀s∈iZ q false,∀x,X s x=true->Y s x=true)(H:∀s∈iZ q true,∀x,X s x=Y s x)(k:kz q f X=true):kz q f Y=true:=by unfold kz at k ⊢;rw[aQm]at k ⊢;have W:=jF k.1;exact⟨k.1,(aIL k.1 J H _ fC).1 (ato k.1) k.2⟩
theorem av7{fs:List aG}{X:BX}{x:Int}:(x,())∈sel fs q X↔∃f∈fs,f.1=x/\kz q f X=true:=by
 unfold sel;constructor
 · grind
 .rintro⟨f,hf,rfl,hm⟩
  grind
theorem akn{fs:List aG}{X Y:BX}(h:∀b,∀s∈iZ q b,∀x,X s x=Y s x):sel fs q X=sel fs q Y:=by
 unfold sel;congr 1;apply List.filter_congr;intro f _;rw[aRJ]
 grind [akm]
def VI(fs:List aG)(d:List aH):Sys Bytes Int where
 T:=λs X x=>∃i,i<d.length/\(dh d i).1=s/\(x,())∈sel fs (dh d i).2.1 X
 pos:=λs t=>∃i,i<d.length/\(dh d i).1=s/\t∈iZ (dh d i).2.1 false
 neg:=λs t=>∃i,i<d.length/\(dh d i).1=s/\t∈iZ (dh d i).2.1 true
 mono:=λs X Y J H x⟨i,D,e,Z⟩=>⟨i,D,e,by obtain⟨f,g,b,k⟩:=av7.1 Z;exact av7.2 ⟨f,g,b,akm (λt a=>J t ⟨i,D,e,a⟩) (λt a=>H t ⟨i,D,e,a⟩) k⟩⟩
end Sp
namespace Go.Fw
open Go
variable {p:Prop}
theorem dH[Decidable p]{A B:Prop}(h:p)(a:A):cond (decide p) A B:=jv
theorem gU[Decidable p]{A B:Prop}(h:¬p)(b:B):cond (decide p) A B:=jv
theorem iW{B:((Int×Unit)×Unit->Prop)->((Int×Unit)×Unit->Nat)->(Int×Unit)×Unit->Prop}(len:Nat)(L:len<=9223372036854775807)(J:Nat->Prop)(l:J 0)
 (a:∀I P(n:Nat),n<len->J n->(J (n+1)->I ((IntKind.i64.wrap ((n:Int)+1),()),())/\P ((IntKind.i64.wrap ((n:Int)+1),()),())<P (((n:Int),()),()))->B I P (((n:Int),()),()))
 (b:∀I P,J len->B I P (((len:Int),()),())):∃I,∃P,I (((0:Int),()),())/\∀y,I y->B I P y:=by
 refine⟨λy=>∃n:Nat,y.1.1=n/\n<=len/\J n,λy=>((len:Int)-y.1.1).toNat,⟨0,rfl,aQx _,l⟩,?_⟩
 grind [eH]
theorem aoT{S:Type}{B:((Int×Unit)×S×Unit->Prop)->((Int×Unit)×S×Unit->Nat)->(Int×Unit)×S×Unit->Prop}(len:Nat)(L:len<=9223372036854775807)(J:Nat->S->Prop){s0:S}(l:J 0 s0)
 (a:∀I P(n:Nat)(s:S),n<len->J n s->(∀b,J (n+1) b->I ((IntKind.i64.wrap ((n:Int)+1),()),b,())/\P ((IntKind.i64.wrap ((n:Int)+1),()),b,())<P (((n:Int),()),s,()))->B I P (((n:Int),()),s,()))
 (d:∀I P s,J len s->B I P (((len:Int),()),s,())):∃I,∃P,I (((0:Int),()),s0,())/\∀y,I y->B I P y:=by
 refine⟨λy=>∃n:Nat,y.1.1=n/\n<=len/\J n y.2.1,λy=>((len:Int)-y.1.1).toNat,⟨0,rfl,aQx _,l⟩,?_⟩
 grind [eH]
theorem bQ{Y S:Type}(mk:Int->S->Y)(a:Y->Int)(f:∀i s,a (mk i s)=i){B:(Y->Prop)->(Y->Nat)->Y->Prop}(len:Nat)(L:len<=9223372036854775807)(J:Nat->S->Prop){s0:S}(l:J 0 s0)
 (b:∀I P(n:Nat)(s:S),n<len->J n s->(∀d,J (n+1) d->I (mk (IntKind.i64.wrap ((n:Int)+1)) d)/\P (mk (IntKind.i64.wrap ((n:Int)+1)) d)<P (mk n s))->B I P (mk n s))
 (e:∀I P s,J len s->B I P (mk len s)):∃I,∃P,I (mk 0 s0)/\∀y,I y->B I P y:=by
 refine⟨λy=>∃(n:Nat)(s:S),y=mk n s/\n<=len/\J n s,λy=>((len:Int)-a y).toNat,⟨0,s0,rfl,aQx _,l⟩,?_⟩
 grind [eH]
variable {f:Nat->Bool}
theorem uf{len:Nat}{n:Nat}(H:n<len)(h:f n=false):Sp.jG len f=false:=by
 grind [Sp.jG]
theorem kV{len:Nat}(h:∀i,i<len->f i=true):Sp.jG len f=true:=by
 grind [Sp.jG]
theorem Vy{len:Nat}:Sp.jG len f=true↔∀i,i<len->f i=true:=by
 grind [Sp.jG]
theorem fH{n:Nat}(h:∀i,i<n->f i=true)(H:f n=true):∀i,i<n+1->f i=true:=λi D=>by
 grind
theorem kJ{b:Bool}(h:(!b)=true):b=false:=by cases b<;>first|rfl|cases h
theorem dN{b:Bool}(h:(!b)=false):b=true:=by cases b<;>first|rfl|cases h
theorem rU[Decidable p](h:decide p=true):p:=aQ6 h
theorem Tf[Decidable p](h:decide p=false):¬p:=aSm h
theorem rE{n:Nat}(h:0<n)(H:n<=9223372036854775807):IntKind.i64.wrap ((n:Int)-1)=((n-1:Nat):Int):=by grind [eH]
theorem ajw{α:Type}{d:α}{a b:List α}(W:a.length=b.length)(h:∀i,i<a.length->a.getD i d=b.getD i d):a=b:=by
 grind [List.ext_getElem]
theorem avS{α j:Type}(e:α->α->Bool)(g:∀x y,e x y=false↔x=y)(d:α)(a b:List α)(t:j)(L:a.length<=9223372036854775807)(W:a.length=b.length){K:Bool×Unit->Prop}(k:a≠b->K (false,()))(h:a=b->K (true,())):
 ∃(I:(Int×Unit)×Unit->Prop),∃(P:(Int×Unit)×Unit->Nat),I (((0:Int),()),())/\∀(y:(Int×Unit)×Unit),I y->
  bif decide (y.fst.fst<(a.length:Int))then
   ((0:Int)<=y.fst.fst/\y.fst.fst<(a.length:Int))/\((0:Int)<=y.fst.fst/\y.fst.fst<(b.length:Int))/\
     (bif e (a.getD (Int.toNat y.fst.fst) d) (b.getD (Int.toNat y.fst.fst) d)then K (false,())
     else t=t/\I ((IntKind.i64.wrap (y.fst.fst+(1:Int)),()),())/\P ((IntKind.i64.wrap (y.fst.fst+(1:Int)),()),())<P y)
  else K (true,()):=by
 refine iW a.length L (λn=>∀i,i<n->a.getD i d=b.getD i d) (λi D=>fC) (λI P n H E next=>?_) λI P E=>(by dsimp only;exact gU fC (h (ajw W E)))
 grind
end Go.Fw
namespace Sp
open Go Go.Fw
theorem aaH{name:Bytes}:∀(s:List dm)(n:Nat),n<s.length->(∀i,i<n->(s.getD i ([],0,())).1≠name)->(s.getD n ([],0,())).1=name->kindOf s name=(s.getD n ([],0,())).2.1
 |[],n,h,_,_=>yj
 |f::r,0,_,_,he=>by
  grind [kindOf]
 |f::r,n+1,h,hne,he=>by have l:f.1≠name:=hne 0 fC;show(bif decide (f.1=name)then f.2.1 else kindOf r name)=_;rw[aQH l];exact aaH r n oQ (λi D=>hne (i+1) fC) he
theorem abA{name:Bytes}:∀(s:List dm),(∀i,i<s.length->(s.getD i ([],0,())).1≠name)->kindOf s name=0
 |[],_=>rfl
 |f::r,hne=>by have l:f.1≠name:=hne 0 ni;show(bif decide (f.1=name)then f.2.1 else kindOf r name)=_;rw[aQH l];exact abA r λi D=>hne (i+1) ql
theorem ako{id:Int}:∀(s:List aG)(k:Int)(n:Nat),n<s.length->(∀i,i<n->(fileAt s i).1≠id)->(fileAt s n).1=id->xA k s id=k+n
 |[],_,n,h,_,_=>yj
 |f::r,k,0,_,_,g=>by
  have g:f.1=id:=g
  grind [xA]
 |f::r,k,n+1,h,hne,g=>by have l:f.1≠id:=hne 0 fC;show(bif decide (f.1=id)then k else xA (k+1) r id)=_;rw[aQH l];show xA (k+1) r id=_;rw[ako r (k+1) n oQ (λi D=>hne (i+1) fC) g];omega
theorem adN{id:Int}:∀(s:List aG)(k:Int),(∀i,i<s.length->(fileAt s i).1≠id)->xA k s id=-1
 |[],_,_=>rfl
 |f::r,k,hne=>by have l:f.1≠id:=hne 0 ni;show(bif decide (f.1=id)then k else xA (k+1) r id)=_;rw[aQH l];exact adN r (k+1) λi D=>hne (i+1) ql
variable {n:Nat}
theorem UX{id:Int}{s:List aG}(h:n<s.length)(a:∀i,i<n->(fileAt s i).1≠id)(g:(fileAt s n).1=id):place s id=n:=by
 grind [place,ako]
theorem aeF{id:Int}{s:List aG}(a:∀i,i<s.length->(fileAt s i).1≠id):place s id=-1:=adN s 0 a
theorem vT(s:List aG)(id:Int):(place s id=-1/\∀i,i<s.length->(fileAt s i).1≠id)\/∃n,n<s.length/\place s id=n/\(fileAt s n).1=id/\∀i,i<n->(fileAt s i).1≠id:=by
 by_cases h:∃n,n<s.length/\(fileAt s n).1=id
 .obtain⟨n,h1,h2,h3⟩:=(least s.length (p:=λn=>(fileAt s n).1=id) h)
  grind [UX]
 grind [aeF]
theorem agG:∀(a b:List aG)(k:Int)(id:Int),a.map (·.1)=b.map (·.1)->xA k a id=xA k b id
 |[],[],_,_,_=>rfl
 |[],_::_,_,_,h=>yj
 |_::_,[],_,_,h=>yj
 |f::a,g::b,k,id,h=>by
  simp only[aQB,List.cons.injEq]at h;show(bif decide (f.1=id)then k else xA (k+1) a id)=bif decide (g.1=id)then k else xA (k+1) b id
  rw[h.1,agG a b (k+1) id h.2]
theorem aFS{a b:List aG}(id:Int)(h:a.map (·.1)=b.map (·.1)):place a id=place b id:=agG a b 0 id h
theorem am5{s:List dm}(h:n<s.length)(H:nK s n=false):fJ s=false:=by
 grind [fJ,uf]
theorem aET{fs:List dm}{s:List aW}(h:n<s.length)(H:oJ fs s n=false):jh fs s=false:=uf h H
variable {f:aG}
theorem awR{fs:List dm}(h:n<f.2.2.2.2.1.length)(H:oJ fs f.2.2.2.2.1 n=false):fD fs f=false:=by
 grind [fD,aET]
variable {s:bT}
theorem aqW(h:n<s.2.1.length)(H:oL s n=false):aJ s=false:=by
 grind [aJ,uf]
variable {i:Nat}
theorem tV:oL s i=true↔fD s.1 (fileAt s.2.1 i)=true/\(fileAt s.2.1 i).1<s.2.2.1/\(0<i->(fileAt s.2.1 (i-1)).1<(fileAt s.2.1 i).1):=by
 grind [oL]
theorem nV:aJ s=true↔(∀i,i<s.2.1.length->oL s i=true)/\fJ s.1=true/\s.2.1.length<=12/\1<=s.2.2.1/\s.2.2.1<=61:=by
 grind [aJ,Vy]
theorem aG0{fs:List dm}(h:fD fs f=true):1<=f.1/\f.1<=60:=by
 grind [fD]
variable {fs:List aG}
theorem aCm{g:aG}(h:i<fs.length):fileAt (fs++[g]) i=fileAt fs i:=by
 grind [fileAt]
theorem aCn{g:aG}:fileAt (fs++[g]) fs.length=g:=by
 grind [fileAt]
theorem aA0{g:aG}(h:aJ s=true)(W:s.2.1.length<12)(a:fD s.1 g=true)(d:g.1=s.2.2.1):aJ (s.1,s.2.1++[g],s.2.2.1+1,())=true:=by
 obtain⟨C,O,K,x,e⟩:=nV.1 h;have b:=aG0 a;refine nV.2 ⟨λi D=>?_,O,jv,jv,jv⟩;rw[aQu,aQz,aQZ]at D
 grind [tV,aCm,aCn]
theorem uI(s:bT)(f:aG):(bH s f=(s,0,false)/\¬(aJ s=true/\s.2.1.length<12/\fD s.1 (s.2.2.1,f.2)=true))\/
 (aJ s=true/\s.2.1.length<12/\fD s.1 (s.2.2.1,f.2)=true/\bH s f=((s.1,s.2.1++[(s.2.2.1,f.2)],s.2.2.1+1,()),s.2.2.1,true)):=by
 grind [bH]
theorem NC(f:aG)(h:aJ s=true):aJ (bH s f).1=true:=by
 grind [uI,aA0]
theorem agx(h:aV s)(X:fZ f):aV (bH s f).1:=by
 rcases uI s f with⟨e,_⟩|⟨C,O,K,e⟩
 .rw[e];exact h
 .rw[e];refine⟨h.1,jv,λg a=>?_⟩;rcases aQM.1 a with a|a
  .exact h.2.2 g a
  .have:g=(s.2.2.1,f.2):=adW;subst this;exact X
theorem Df(s:bT)(id:Int):(dM s id=(s,false)/\¬(aJ s=true/\0<=place s.2.1 id))\/
 ∃n,n<s.2.1.length/\place s.2.1 id=n/\aJ s=true/\dM s id=((s.1,s.2.1.eraseIdx n,s.2.2.1,()),true):=by
 grind [vT,dM]
theorem akp:fileAt (fs.eraseIdx n) i=if i<n then fileAt fs i else fileAt fs (i+1):=by
 grind [fileAt]
theorem ays(h:aJ s=true)(H:n<s.2.1.length):aJ (s.1,s.2.1.eraseIdx n,s.2.2.1,())=true:=by
 obtain⟨C,O,K,x,a⟩:=nV.1 h;have L:(s.2.1.eraseIdx n).length=s.2.1.length-1:=List.length_eraseIdx_of_lt H;refine nV.2 ⟨λi D=>?_,O,jv,x,a⟩;have D:i<(s.2.1.eraseIdx n).length:=D;refine tV.2 ?_;rw[akp,akp];rcases aQE i n with d|b
 .obtain⟨k1,k2,k3⟩:=tV.1 (C i fC)
  grind
 .obtain⟨k1,k2,k3⟩:=tV.1 (C (i+1) fC)
  grind [tV]
theorem ND(id:Int)(h:aJ s=true):aJ (dM s id).1=true:=by
 grind [Df,ays]
theorem agy(id:Int)(h:aV s):aV (dM s id).1:=by
 rcases Df s id with⟨e,_⟩|⟨n,H,_,z,e⟩
 .rw[e];exact h
 .rw[e];refine⟨h.1,?_,λg a=>h.2.2 g (List.mem_of_mem_eraseIdx a)⟩;have:=h.2.1
  grind
theorem mG(s:bT)(f:aG):(bU s f=(s,false)/\¬(aJ s=true/\0<=place s.2.1 f.1/\fD s.1 f=true))\/
 ∃n,n<s.2.1.length/\place s.2.1 f.1=n/\aJ s=true/\fD s.1 f=true/\bU s f=((s.1,s.2.1.set n f,s.2.2.1,()),true):=by
 grind [vT,bU]
theorem adx(h:aV s)(X:fZ f):aV (bU s f).1:=by
 rcases mG s f with⟨e,_⟩|⟨n,H,_,z,_,e⟩
 .rw[e];exact h
 .rw[e];refine⟨h.1,by rw[aRp];exact h.2.1,λg a=>?_⟩;rcases aRD a with a|rfl
  .exact h.2.2 g a
  .exact X
theorem Yi{s:List aG}(h:f∈s):∃i,i<s.length/\fileAt s i=f:=by
 obtain⟨i,D,rfl⟩:=aQQ h;refine⟨i,D,?_⟩
 grind [fileAt]
theorem aft{s:List aG}(h:i<s.length):fileAt s i∈s:=getD_mem h
theorem aG1(s:List aG)(id:Int):place s id<0↔∀f∈s,f.1≠id:=by
 grind [vT,Yi,aft]
theorem aA1(s:bT)(id:Int):(bI s id).2=!decide (place s.2.1 id<0):=by
 grind [bI]
theorem av8(s:bT)(id:Int):(bI s id).2=true↔∃f∈s.2.1,f.1=id:=by
 rw[aA1,aRS,aQP,aG1]
 grind
theorem atp{s:bT}(h:aJ s=true):∀(j i:Nat),i<j->j<s.2.1.length->(fileAt s.2.1 i).1<(fileAt s.2.1 j).1
 |0,i,hi,_=>fC
 |j+1,i,hi,hj=>by
  have C:=(tV.1 ((nV.1 h).1 (j+1) hj)).2.2 fC;rw[aSk]at C;rcases aQE i j with O|O
  .have:=atp h j i O fC;omega
  .have:i=j:=fC;rw[this];exact C
theorem avE(h:aJ s=true){g:aG}(X:f∈s.2.1)(a:g∈s.2.1)(e:f.1=g.1):f=g:=by
 obtain⟨i,D,rfl⟩:=Yi X;obtain⟨j,b,rfl⟩:=Yi a;rcases aR6 i j with C|C|C
 .have:=atp h j i C b;omega
 .rw[C]
 .have:=atp h i j C D;omega
theorem PS(u:Int)(h:aV s):aV (visible s u):=by
 obtain⟨l,C,O⟩:=h;refine⟨l,?_,λf X=>?_⟩
 .show((s.2.1.filter (uT · u)).map _).length<=1000
  grind
 .obtain⟨g,hg,rfl⟩:=aQW.1 X;exact O g (aQ4.1 hg).1
theorem L8{α:Type}{p:α->Bool}{d:α}:∀(l:List α)(n:Nat),n<=l.length->(∀i,i<n->p (l.getD i d)=true)->(n<l.length->p (l.getD n d)=false)->l.takeWhile p=l.take n/\l.dropWhile p=l.drop n
 |[],n,h,_,_=>ni
 |x::r,0,_,_,h=>by
  simp_all
 |x::r,n+1,hn,h1,h2=>by have b:p x=true:=h1 0 fC;have:=L8 r n (by simpa using hn) (λi D=>h1 (i+1) fC) λa=>h2 adW;constructor<;>simp[b,this.1,this.2]
theorem aEU(H:n<fs.length):fileAt (fs.set n f) i=if n=i then f else fileAt fs i:=by
 grind [fileAt]
theorem aCo(h:aJ s=true)(H:n<s.2.1.length)(X:fD s.1 f=true)(g:(fileAt s.2.1 n).1=f.1):aJ (s.1,s.2.1.set n f,s.2.2.1,())=true:=by
 grind [nV,tV,aEU]
theorem Lc(f:aG)(h:aJ s=true):aJ (bU s f).1=true:=by
 grind [mG,aCo,vT]
theorem VG{id:Int}(h:(bI s id).2=true):(bI s id).1∈s.2.1/\(bI s id).1.1=id:=by
 grind [vT,bI,aft]
theorem aA2(h:aJ s=true)(X:f∈s.2.1):bI s f.1=(f,true):=by
 grind [av8,VG,avE]
theorem ayt(h:(bU s f).2=true):bI (bU s f).1 f.1=(f,true)/\aJ (bU s f).1=true:=by
 grind [mG,Lc,aA2,List.mem_iff_getElem]
theorem anD{α:Type}{p:α->Bool}{d:α}:∀(s:List α)(k:Int)(n:Nat),n<s.length->(∀i,i<n->p (s.getD i d)=false)->p (s.getD n d)=true->MN p k s=k+n
 |[],_,n,h,_,_=>yj
 |f::r,k,0,_,_,he=>by
  grind [MN]
 |f::r,k,n+1,h,hne,he=>by have l:p f=false:=hne 0 fC;show(bif p f then k else MN p (k+1) r)=_;rw[l];show MN p (k+1) r=_;rw[anD r (k+1) n oQ (λi D=>hne (i+1) fC) he];omega
theorem agH{α:Type}{p:α->Bool}{d:α}:∀(s:List α)(k:Int),(∀i,i<s.length->p (s.getD i d)=false)->MN p k s=-1
 |[],_,_=>rfl
 |f::r,k,hne=>by have l:p f=false:=hne 0 ni;show(bif p f then k else MN p (k+1) r)=_;rw[l];exact agH r (k+1) λi D=>hne (i+1) ql
theorem axp{α:Type}{p:α->Bool}{d:α}{s:List α}(h:n<s.length)(a:∀i,i<n->p (s.getD i d)=false)(g:p (s.getD n d)=true):findAt p s=n:=by
 grind [findAt,anD]
theorem anE{α:Type}{p:α->Bool}{d:α}{s:List α}(a:∀i,i<s.length->p (s.getD i d)=false):findAt p s=-1:=agH s 0 a
theorem akq{α:Type}(p:α->Bool)(d:α)(s:List α):(findAt p s=-1/\∀i,i<s.length->p (s.getD i d)=false)\/∃n,n<s.length/\findAt p s=n/\p (s.getD n d)=true/\∀i,i<n->p (s.getD i d)=false:=by
 by_cases h:∃n,n<s.length/\p (s.getD n d)=true
 .obtain⟨n,h1,h2,h3⟩:=least s.length (p:=λn=>p (s.getD n d)=true) h
  grind [axp]
 .have hne:∀i,i<s.length->p (s.getD i d)=false:=λi D=>by
   grind
  exact .inl ⟨anE hne,hne⟩
theorem VJ:∀a:Bytes,Op.bytesLess a a=false
 |[]=>rfl
 |x::a=>by show(decide (x<x)||(x==x&&Op.bytesLess a a))=false;rw[VJ a,aQH (UInt8.lt_irrefl x),aR8];rfl
theorem Ya:∀a b:Bytes,Op.bytesLess a b=false->a≠b->Op.bytesLess b a=true
 |[],[],_,h=>(h rfl).elim
 |x::a,[],_,_=>rfl
 |[],y::b,h,_=>o5
 |x::a,y::b,h,hne=>by
  have h:(decide (x<y)||(x==y&&Op.bytesLess a b))=false:=h;show(decide (y<x)||(y==x&&Op.bytesLess b a))=true;rw[aRw,aQP]at h;by_cases e:x=y
  .subst e;have O:Op.bytesLess a b=false:=by simpa using h.2
   rw[Ya a b O (λe=>hne (by rw[e]))];simp
  .have:y<x:=by have C:¬x.toNat<y.toNat:=λd=>h.1 (UInt8.lt_iff_toNat_lt.2 d);have O:x.toNat≠y.toNat:=λd=>e (aSO.1 d);exact UInt8.lt_iff_toNat_lt.2 fC
   rw[aQT this];rfl
variable {a b:Bytes}
theorem aG2{x y:UInt8}:Op.bytesLess (x::a) (y::b)=true↔x.toNat<y.toNat\/(x=y/\Op.bytesLess a b=true):=by
 grind [Op.bytesLess,UInt8.lt_iff_toNat_lt]
theorem BI:∀a b c:Bytes,Op.bytesLess a b=true->Op.bytesLess b c=true->Op.bytesLess a c=true
 |_,[],_,h,_=>by cases d:(‹Bytes›:Bytes)<;>simp_all [Op.bytesLess]
 |_,_::_,[],_,h=>o5
 |[],_::_,_::_,_,_=>rfl
 |x::a,y::b,z::c,C,h2=>by
  rw[aG2]at C h2 ⊢;rcases C with C|⟨rfl,C⟩
  .rcases h2 with h2|⟨rfl,h2⟩
   .exact .inl fC
   .exact .inl C
  .rcases h2 with h2|⟨rfl,h2⟩
   .exact .inl h2
   .exact .inr ⟨rfl,BI a b c C h2⟩
theorem JX(h:Op.bytesLess a b=true):a≠b:=λe=>by grind [VJ]
theorem atq(h:Op.bytesLess a b=true):Op.bytesLess b a=false:=by
 grind [BI,VJ]
theorem aA3(a b:Bytes):(!(Op.bytesLess a b||a==b))=Op.bytesLess b a:=by
 grind [atq,Ya]
theorem MC{s:List dm}:fJ s=true↔(∀i,i<s.length->nK s i=true)/\s.length<=5:=by
 grind [fJ,Vy]
theorem agI{s:List dm}:nK s i=true↔iw (fieldAt s i).1=true/\(1<=(fieldAt s i).2.1/\(fieldAt s i).2.1<=2)/\(0<i->Op.bytesLess (fieldAt s (i-1)).1 (fieldAt s i).1=true):=by
 grind [nK]
theorem apZ{s:List dm}(h:fJ s=true):∀(j i:Nat),i<j->j<s.length->Op.bytesLess (fieldAt s i).1 (fieldAt s j).1=true
 |0,i,hi,_=>fC
 |j+1,i,hi,hj=>by
  have C:=(agI.1 ((MC.1 h).1 (j+1) hj)).2.2 fC;rcases aQE i j with O|O
  .exact BI _ _ _ (apZ h j i O fC) C
  .have:i=j:=fC;rw[this];exact C
theorem agJ(s:List dm)(f:dm):∃m,m<=s.length/\(∀i,i<m->Op.bytesLess (fieldAt s i).1 f.1=true)/\(m<s.length->Op.bytesLess (fieldAt s m).1 f.1=false)/\FN s f=s.take m++f::s.drop m:=by
 have e:∀m,m<=s.length->(∀i,i<m->Op.bytesLess (fieldAt s i).1 f.1=true)->(m<s.length->Op.bytesLess (fieldAt s m).1 f.1=false)->FN s f=s.take m++f::s.drop m:=λm k C O=>by
  unfold FN;have:=L8 (p:=afW f.1) (d:=([],0,())) s m k C O
  grind
 by_cases h:∃n,n<s.length/\Op.bytesLess (fieldAt s n).1 f.1=false
 .obtain⟨n,C,O,h3⟩:=least s.length (p:=λn=>Op.bytesLess (fieldAt s n).1 f.1=false) h
  grind
 .have h3:∀i,i<s.length->Op.bytesLess (fieldAt s i).1 f.1=true:=λi D=>by
   grind
  exact⟨s.length,aQp _,h3,λg=>fC,e _ (aQp _) h3 λg=>fC⟩
theorem anF{s:List dm}{f:dm}{m:Nat}(k:m<=s.length)(i:Nat):fieldAt (s.take m++f::s.drop m) i=if i<m then fieldAt s i else if i=m then f else fieldAt s (i-1):=by
 grind [fieldAt]
theorem aA4{s:List dm}{f:dm}(Y:fJ s=true)(J:fJ (FN s f)=true):∀i,i<s.length->(fieldAt s i).1≠f.1:=by
 intro n H e;obtain⟨m,k,C,O,K⟩:=agJ s f;rw[K]at J;have L:(s.take m++f::s.drop m).length=s.length+1:=jv;rcases aQE n m with g|d
 · grind [JX]
 .have h4:=apZ J (m+1) m fC fC
  grind [anF,apZ]
theorem added{s:List dm}{f:dm}(h:(MO s f).2=true):kindOf (MO s f).1 f.1=f.2.1/\fJ (MO s f).1=true/\anA (MO s f).1 f.1=(s,true)/\(MO s f).1.length=s.length+1/\s.length<=5:=by
 cases Y:(fJ s&&fJ (FN s f))with
 |false=>grind [MO]
 |true=>
  have e:MO s f=(FN s f,true):=by grind [MO]
  rw[e];rw[aQm]at Y;have o:=aA4 Y.1 Y.2;obtain⟨m,k,C,O,K⟩:=agJ s f;have J:=Y.2;have L:(s.take m++f::s.drop m).length=s.length+1:=jv;have j:kindOf (FN s f) f.1=f.2.1:=by
   rw[K];have g:(s.take m++f::s.drop m).getD m ([],0,())=f:=by
    grind
   rw[aaH (name:=f.1) _ m fC (λi D=>?_) (by rw[g]),g]
   grind [fieldAt]
  have l:kindOf (FN s f) f.1≠0:=by
   rw[K]at J;have:=(agI.1 ((MC.1 J).1 m fC)).2.1
   grind [anF]
  refine⟨j,J,?_,jv,(MC.1 Y.1).2⟩;unfold anA;have d:∀y∈s,notField f.1 y=true:=λy F=>by
   grind [List.getElem_of_mem,fieldAt,notField]
  rw[K,aR4,aSK,aR0.2 λy F=>d y (aRa F),aR0.2 λy F=>d y (aSd F)]
  simp_all [notField]
end Sp
namespace Sp
open Go
def nameOf(d:List aH)(i:Nat):Bytes:=(dh d i).1
def fQ(d:List aH)(i:Nat):List aO:=(dh d i).2.1
def yU(r:List fA)(i:Nat):fA:=r.getD i ([],[],())
def kY(r:List fA)(i:Nat):List (Int×Unit):=(yU r i).2.1
def nU(d:List aH)(aS:List (Int×Unit)):Prop:=
 aS.length=d.length/\(∀i,i<d.length->0<=lv aS i/\lv aS i<=d.length)/\(kN (fO d) λi=>(lv aS i).toNat)/\∀M,kN (fO d) M->∀i,i<d.length->lv aS i<=M i
variable {d:List aH}
theorem ajA{a b:List (Int×Unit)}(C:nU d a)(O:nU d b):a=b:=by
 refine aFW (C.1.trans O.1.symm) λi D=>?_;have D:i<d.length:=by rw[← C.1];exact D
 have e:=C.2.2.2 _ O.2.2.1 i D;have f:=O.2.2.2 _ C.2.2.1 i D;have:=(C.2.1 i D).1;have:=(O.2.1 i D).1;omega
theorem arb(h:∃M,kN (fO d) M/\∀i,i<d.length->M i<d.length):∃s,nU d s:=by
 have q:=rV d;have j:∀i,∃m,(∃M,kN (fO d) M/\M i=m)/\∀M,kN (fO d) M->m<=M i:=λi=>by
  obtain⟨k,l,_⟩:=h;have:∀n,(∃M,kN (fO d) M/\M i=n)->∃m,(∃M,kN (fO d) M/\M i=m)/\∀M,kN (fO d) M->m<=M i:=by
   intro n
   induction n using Nat.strongRecOn with
   |_ n ih=>
    intro H;by_cases W:∃M,kN (fO d) M/\M i<n
    .obtain⟨M,C,O⟩:=W;exact ih _ O ⟨M,C,rfl⟩
    grind
  exact this (k i) ⟨k,l,rfl⟩
 obtain⟨L,o⟩:=Classical.axiomOfChoice j;have f:kN (fO d) L:=λe g=>by obtain⟨⟨M,C,O⟩,_⟩:=o e.1;have a:=(o e.2.1).2 M C;have b:=C e g;omega
 have r:∀i,i<d.length->lv ((List.range d.length).map λi=>((L i:Int),())) i=L i:=λi D=>by
  grind [lv]
 refine⟨(List.range d.length).map λi=>((L i:Int),()),ni,λi D=>?_,λe g=>?_,λM t i D=>?_⟩
 · grind
 .obtain⟨C,O,_⟩:=q e g;have:=f e g
  grind
 grind
def Vk(d:List aH)(aS:List (Int×Unit))(s:Bytes):Nat:=(lv aS (bn d s).toNat).toNat
def due(d:List aH)(a:Bytes->Bool)(s:Bytes):Prop:=a s=true/\∃i,i<d.length/\nameOf d i=s
theorem aG3(h:dK d=true){i:Nat}(D:i<d.length):aN (fQ d i)=true/\(0<i->Op.bytesLess (nameOf d (i-1)) (nameOf d i)=true):=by
 unfold dK at h;have C:oz d i=true:=by
  grind [jG]
 unfold oz at C;rw[aQm,aQm]at C;refine⟨C.1.2,λl=>?_⟩
 grind [nameOf]
theorem adO{d:List aH}(h:dK d=true):∀(j i:Nat),i<j->j<d.length->Op.bytesLess (nameOf d i) (nameOf d j)=true
 |0,i,hi,_=>fC
 |j+1,i,hi,hj=>by
  have C:=(aG3 h hj).2 fC;rcases aQE i j with O|O
  .exact BI _ _ _ (adO h j i O fC) C
  .have:i=j:=fC;subst this;exact C
theorem Qz(h:dK d=true){i j:Nat}(D:i<d.length)(a:j<d.length)(e:nameOf d i=nameOf d j):i=j:=by
 rcases aR6 i j with C|C|C
 · simp_all [JX,adO]
 .exact C
 .exact(JX (adO h i j C D) e.symm).elim
theorem Yj(h:dK d=true){i:Nat}(D:i<d.length):bn d (nameOf d i)=i:=by
 rcases yG d (nameOf d i)with⟨_,h2⟩|⟨n,h1,h2,h3,_⟩
 .refine(h2 (dh d i) ?_ rfl).elim
  grind [dh]
 .rw[h2,Qz h h1 D h3]
variable {aS:List (Int×Unit)}
theorem E8(h:dK d=true){i:Nat}(D:i<d.length):Vk d aS (nameOf d i)=(lv aS i).toNat:=by
 grind [Vk,Yj]
variable {fs:List aG}
theorem QB(h:dK d=true)(W:nU d aS)(n:Bytes->Bool):ayM (VI fs d) (due d n) (Vk d aS):=by
 intro s t _ l;obtain⟨_,j,g,rfl⟩:=l;have f:∀i,i<d.length->∀m b,(m=0/\b=false\/m=1/\b=true)->nameOf d j∈iZ (fQ d i) b->(lv aS j).toNat+m<=(lv aS i).toNat:=λi D m b k e=>by
  refine W.2.2.1 (i,j,m) (H9.2 ⟨D,nameOf d j,?_,by grind [Yj],by grind [Yj]⟩);rcases k with⟨a,b⟩|⟨a,b⟩
  .subst a b;exact .inl ⟨rfl,e⟩
  .subst a b;exact .inr ⟨rfl,e⟩
 refine⟨?_,?_⟩
 .rintro⟨i,D,rfl,e⟩;rw[show(dh d i).1=nameOf d i from rfl,E8 h D,E8 h g];exact f i D 0 false (.inl ⟨rfl,rfl⟩) e
 .rintro⟨i,D,rfl,e⟩;rw[show(dh d i).1=nameOf d i from rfl,E8 h D,E8 h g];exact f i D 1 true (.inr ⟨rfl,rfl⟩) e
def zD(d:List aH)(out:List fA):Prop:=out.length=d.length/\∀i,i<d.length->(yU out i).1=nameOf d i
theorem VD:∀{r:List fA}{s:Bytes},(∀i,i<r.length->(yU r i).1≠s)->gY r s=[]
 |[],_,_=>rfl
 |x::r,s,h=>by have l:x.1≠s:=h 0 ni;rw[gY,aQl.2 l];exact VD λi D=>h (i+1) ZQ
theorem ajs:∀{r:List fA}{i:Nat},i<r.length->(∀j,j<i->(yU r j).1≠(yU r i).1)->gY r (yU r i).1=kY r i
 |[],i,h,_=>yj
 |x::r,0,_,_=>by
  show gY (x::r) x.1=x.2.1
  grind [gY]
 |x::r,i+1,h,hn=>by have l:x.1≠(yU r i).1:=hn 0 fC;show gY (x::r) (yU r i).1=kY r i;rw[gY,aQl.2 l];exact ajs oQ λj a=>hn (j+1) fC
variable {out:List fA}
theorem yI(h:dK d=true)(z:zD d out){i:Nat}(D:i<d.length):gY out (nameOf d i)=kY out i:=by rw[← z.2 i D];refine ajs afn λj a e=>?_;rw[z.2 j fC,z.2 i D]at e;have:=Qz h fC D e;omega
theorem WH(z:zD d out){s:Bytes}(Y:∀i,i<d.length->nameOf d i≠s):gY out s=[]:=
 VD λi D=>by rw[z.1]at D;rw[z.2 i D];exact Y i D
structure gX(fs:List aG)(d:List aH)(r:List fA)(nm:Bytes->Bool)(out:List fA):Prop where
 order:zD d out
 kept:∀i,i<d.length->nm (nameOf d i)=false->kY out i=gY r (nameOf d i)
 fix:∀i,i<d.length->nm (nameOf d i)=true->kY out i=sel fs (fQ d i) (bK out)
 aS:∃aS,nU d aS/\Eval (VI fs d) (due d nm) (Vk d aS) (bK out)
theorem ak7{a b:List (Int×Unit)}(h:a=b)(x:Int):fF a x=fF b x:=by rw[h]
theorem aDb{a b:List fA}(r:zD d a)(U:zD d b)(h:∀i,i<d.length->kY a i=kY b i):a=b:=by
 refine List.ext_getElem (r.1.trans U.1.symm) λi C O=>?_;have D:i<d.length:=by rw[← r.1];exact C
 have w:=r.2 i D;have e:=U.2 i D
 grind [kY,yU]
variable {r:List fA}{nm:Bytes->Bool}
theorem TM{a b:List fA}(h:dK d=true)(f:gX fs d r nm a)(g:gX fs d r nm b):a=b:=by
 obtain⟨u,l,w⟩:=f.aS;obtain⟨y,n,q⟩:=g.aS;have m:∀s,¬due d nm s->∀x,bK a s x=bK b s x:=λs Y x=>by
  by_cases o:∃i,i<d.length/\nameOf d i=s
  .obtain⟨i,D,rfl⟩:=o;have H:nm (nameOf d i)=false:=by rw[aRU];exactλH=>Y ⟨H,i,D,rfl⟩
   exact ak7 (by rw[yI h f.order D,yI h g.order D,f.kept i D H,g.kept i D H]) x
  .have hd':∀i,i<d.length->nameOf d i≠s:=λi D e=>o ⟨i,D,e⟩;exact ak7 (by rw[WH f.order hd',WH g.order hd']) x
 have t:=ab6 (U:=due d nm) w q (QB h l nm) (QB h n nm) (λ_ h=>h) (λ_ h=>h) (λ_ _ _ _=>Iff.rfl) (λ_ _ _ h=>h) (λ_ _ _ h=>h)
  λi _ j _=>Classical.or_iff_not_imp_left.2 (m j)
 have k:bK a=bK b:=by
  grind
 refine aDb f.order g.order λi D=>?_;cases H:nm (nameOf d i)with
 |false=>rw[f.kept i D H,g.kept i D H]
 |true=>rw[f.fix i D H,g.fix i D H,k]
def ak8{a α:Type}(S:Sys a α)(N:a->Prop)(aS:a->Nat)(k:Nat)(X:Ext a α):Prop:=
 ∀Y:Ext a α,(∀i,¬(N i/\aS i=k)->∀x,Y i x=X i x)->(∀i,N i->aS i=k->∀x,S.T i Y x->Y i x=true)->∀i,N i->aS i=k->∀x,X i x=true->Y i x=true
variable {m:Nat}
open Classical in
theorem av9{e α:Type}{S:Sys e α}{N:e->Prop}{aS:e->Nat}(l:ayM S N aS){X g:Ext e α}(h:∀i,¬(N i/\m<aS i)->∀x,X i x=g i x)(o:ak8 S N aS m X):ak8 S N aS m g:=by
 intro Y s J i D W x Z;have q:=o (λi x=>if N i/\m<aS i then X i x else Y i x) (λj b y=>?_) (λj b f y F=>?_) i D W x jv
 · grind
 · grind
 .rw[if_neg fC];have n:∀t,(S.pos j t\/S.neg j t)->¬(N t/\m<aS t):=λt a k=>by
   rcases a with a|a
   .have:=(l j t b k.1).1 a;omega
   .have:=(l j t b k.1).2 a;omega
  refine J j b f y (S.mono j _ Y (λt a z u=>?_) (λt a z=>?_) y F)
  · grind
  grind
def canon(fs:List aG)(l:List (Int×Unit)):Prop:=l=(fs.filter λf=>fF l f.1).map λf=>(f.1,())
def distinct(fs:List aG):Prop:=∀f∈fs,∀g∈fs,f.1=g.1->f=g
theorem aG4(hd:distinct fs)(q:List aO)(X:BX):canon fs (sel fs q X):=by
 show _=List.map _ (List.filter _ _)
 conv=>lhs;unfold sel
 congr 1;apply List.filter_congr;intro f hf;rw[aRJ,E5,av7];exact⟨λh=>⟨f,hf,rfl,h⟩,λ⟨g,hg,e,hm⟩=>by rw[hd f hf g hg e.symm];exact hm⟩
theorem axq{l:List (Int×Unit)}(h:canon fs l):l.length<=fs.length:=by rw[h,aQG];grind
theorem filter_lt{α:Type}{p q:α->Bool}(h:∀x,p x=true->q x=true):∀{l:List α},(∃x∈l,q x=true/\p x=false)->(l.filter p).length<(l.filter q).length
 |[],h'=>jv
 |y::r,h'=>by
  have le:(r.filter p).length<=(r.filter q).length:=by
   clear h'
   induction r with
   |nil=>grind
   |cons z t ih=>
    grind
  grind [filter_lt,Nat.lt_succ_of_lt]
theorem aEV{a b:List (Int×Unit)}(g:canon fs a)(U:canon fs b)(h:∀x,fF a x=true->fF b x=true)(e:b≠a):a.length<b.length:=by
 rw[g,U,aQG,aQG];refine filter_lt (p:=λf:aG=>fF a f.1) (q:=λf:aG=>fF b f.1) (λf=>h f.1) (aQX λi=>e ?_);rw[g,U]
 grind [List.filter_congr]
structure sQ(fs:List aG)(d:List aH)(r:List fA)(nm:Bytes->Bool)(aS:List (Int×Unit))(k:Nat)(out:List fA):Prop where
 order:zD d out
 kept:∀i,i<d.length->nm (nameOf d i)=false->kY out i=gY r (nameOf d i)
 later:∀i,i<d.length->nm (nameOf d i)=true->(k:Int)<lv aS i->kY out i=[]
 done:∀i,i<d.length->nm (nameOf d i)=true->lv aS i<k->kY out i=sel fs (fQ d i) (bK out)
 akr:∀m,m<k->ak8 (VI fs d) (due d nm) (Vk d aS) m (bK out)
 aA5:∀i,i<d.length->nm (nameOf d i)=true->lv aS i=k->∀x,fF (kY out i) x=true->(x,())∈sel fs (fQ d i) (bK out)
 least:ak8 (VI fs d) (due d nm) (Vk d aS) k (bK out)
 canon:∀i,i<d.length->nm (nameOf d i)=true->canon fs (kY out i)
theorem aIM(h:dK d=true)(W:nU d aS)(z:zD d out)
 (C:∀i,i<d.length->nm (nameOf d i)=false->kY out i=gY r (nameOf d i)) (O:∀i,i<d.length->nm (nameOf d i)=true->kY out i=[]):sQ fs d r nm aS 0 out where
 order:=z
 kept:=C
 later:=λi D H _=>O i D H
 done:=λi D _ a=>by have:=(W.2.1 i D).1;omega
 akr:=λm k=>fC
 aA5:=λi D H _ x Z=>by rw[O i D H]at Z;cases Z
 least:=λY _ _ s b _ x Z=>by obtain⟨H,i,D,rfl⟩:=b;have Z:fF (gY out (nameOf d i)) x=true:=Z;rw[yI h z D,O i D H]at Z;cases Z
 canon:=λi D H=>by rw[O i D H];show[]=List.map _ (List.filter _ _);grind [List.filter_eq_nil_iff,fF]
theorem abf{i j:Nat}{x:fA}(D:i<out.length):yU (out.set i x) j=if j=i then x else yU out j:=by
 grind [yU]
theorem axr(z:zD d out){i:Nat}(D:i<d.length)(l:List (Int×Unit)):zD d (out.set i (nameOf d i,l,())):=by
 refine⟨by rw[aRp];exact z.1,λj a=>?_⟩;rw[abf afn];split
 · grind
 .exact z.2 j a
theorem aG5(h:dK d=true)(z:zD d out){i:Nat}(D:i<d.length)(l:List (Int×Unit)):
 (∀x,bK (out.set i (nameOf d i,l,())) (nameOf d i) x=fF l x)/\∀s,s≠nameOf d i->∀x,bK (out.set i (nameOf d i,l,())) s x=bK out s x:=by
 have a:=axr z D l;refine⟨λx=>?_,λs Y x=>?_⟩
 .refine ak7 ?_ x;rw[yI h a D];unfold kY;rw[abf afn,if_pos rfl]
 .refine ak7 ?_ x;by_cases b:∃j,j<d.length/\nameOf d j=s
  .obtain⟨j,hj,rfl⟩:=b;rw[yI h a hj,yI h z hj];unfold kY;rw[abf afn,if_neg (λe=>Y (by rw[e]))]
  grind [WH]
theorem atr(h:dK d=true){i:Nat}(D:i<d.length){X:BX}{x:Int}:(VI fs d).T (nameOf d i) X x↔(x,())∈sel fs (fQ d i) X:=by
 constructor
 .rintro⟨j,hj,e,Z⟩;have:=Qz h hj D e;subst this;exact Z
 .exactλZ=>⟨i,D,rfl,Z⟩
variable {k:Nat}
theorem at_set(h:dK d=true)(W:nU d aS)(X:distinct fs)(A:sQ fs d r nm aS k out){i:Nat}(D:i<d.length)(H:nm (nameOf d i)=true)(I:lv aS i=k):
 sQ fs d r nm aS k (out.set i (nameOf d i,sel fs (fQ d i) (bK out),()))/\(sel fs (fQ d i) (bK out)≠kY out i->(kY out i).length<(sel fs (fQ d i) (bK out)).length)/\(sel fs (fQ d i) (bK out)).length<=fs.length:=by
 have N:=aG4 X (fQ d i) (bK out);have P:i<out.length:=by rw[A.order.1];exact D
 have z:=QB (fs:=fs) h W nm;have L:due d nm (nameOf d i):=⟨H,i,D,rfl⟩;have M:Vk d aS (nameOf d i)=k:=by grind [E8]
 obtain⟨E,K⟩:=aG5 h A.order D (sel fs (fQ d i) (bK out));have Q:∀s x,bK out s x=true->bK (out.set i (nameOf d i,sel fs (fQ d i) (bK out),())) s x=true:=λs x Z=>by
  by_cases e:s=nameOf d i
  .subst e;rw[E,E5];refine A.aA5 i D H I x ?_;have Z:fF (gY out (nameOf d i)) x=true:=Z;rw[yI h A.order D]at Z;exact Z
  grind
 have q:∀s,¬(due d nm s/\Vk d aS s=k)->∀x,bK out s x=bK (out.set i (nameOf d i,sel fs (fQ d i) (bK out),())) s x:=λs u x=>(K s (λe=>u jv) x).symm;have o:∀j,kY (out.set i (nameOf d i,sel fs (fQ d i) (bK out),())) j=if j=i then sel fs (fQ d i) (bK out)else kY out j:=λj=>by
  grind [kY,abf]
 refine⟨⟨axr A.order D _,λj g f=>?_,λj g f n=>?_,λj g f n=>?_,λm O=>?_,λj g f n x Z=>?_,?_,λj g f=>?_⟩,λC=>?_,axq N⟩
 .rw[o,if_neg (λe=>jv)];exact A.kept j g f
 .rw[o,if_neg (λe=>jv)];exact A.later j g f n
 .rw[o,if_neg (λe=>jv),A.done j g f n];refine akn λb s l x=>q s (λN=>?_) x;have B:due d nm (nameOf d j):=⟨f,j,g,rfl⟩;have:=z (nameOf d j) s B N.1;have J:Vk d aS (nameOf d j)<k:=by rw[E8 h g];have:=(W.2.1 j g).1;omega
  cases b with
  |false=>have:=this.1 ⟨j,g,rfl,l⟩;omega
  |true=>have:=this.2 ⟨j,g,rfl,l⟩;omega
 .exact av9 z (λs u=>q s λN=>u ⟨N.1,fC⟩) (A.akr m O)
 .have hT:(VI fs d).T (nameOf d j) (bK out) x:=by
   rw[atr h g];rw[o]at Z;by_cases e:j=i
   · grind [E5]
   .rw[if_neg e]at Z;exact A.aA5 j g f n x Z
  rw[← atr h g];refine(VI fs d).mono _ _ _ (λs _=>Q s) (λs l=>q s λN=>?_) x hT;have:=(z (nameOf d j) s ⟨f,j,g,rfl⟩ N.1).2 l
  grind [E8]
 .intro Y hY hp s l hls x Z;have w:∀t,¬(due d nm t/\Vk d aS t=k)->∀x,Y t x=bK out t x:=λt a x=>(hY t a x).trans (q t a x).symm;have base:=A.least Y w hp;by_cases e:s=nameOf d i
  .subst e;rw[E,E5,← atr h D]at Z;refine hp _ l hls x ((VI fs d).mono _ _ _ (λt _ y F=>?_) (λt a y=>?_) x Z)
   · grind
   .refine(w t (λN=>?_) y).symm;have:=(z (nameOf d i) t L N.1).2 a;omega
  grind
 .rw[o];split
  .exact N
  .exact A.canon j g f
 .refine aEV (A.canon i D H) N (λx Z=>?_) C;rw[E5];exact A.aA5 i D H I x Z
theorem at_next(h:dK d=true)(A:sQ fs d r nm aS k out)(a:∀i,i<d.length->nm (nameOf d i)=true->lv aS i=k->sel fs (fQ d i) (bK out)=kY out i):sQ fs d r nm aS (k+1) out where
 order:=A.order
 kept:=A.kept
 later:=λi D H f=>A.later i D H fC
 done:=λi D H f=>by
  by_cases e:lv aS i=k
  · grind
  .exact A.done i D H fC
 akr:=λm j=>by
  by_cases e:m=k
  .subst e;exact A.least
  .exact A.akr m fC
 aA5:=λi D H W x Z=>by rw[A.later i D H fC]at Z;cases Z
 least:=λY _ _ s g b x Z=>by obtain⟨H,i,D,rfl⟩:=g;rw[E8 h D]at b;have Z:fF (gY out (nameOf d i)) x=true:=Z;rw[yI h A.order D,A.later i D H fC]at Z;cases Z
 canon:=A.canon
theorem at_end(h:dK d=true)(W:nU d aS)(A:sQ fs d r nm aS k out)(j:∀i,i<d.length->lv aS i<k):gX fs d r nm out where
 order:=A.order
 kept:=A.kept
 fix:=λi D H=>A.done i D H (j i D)
 aS:=⟨aS,W,{
  fix:=λs b x=>by obtain⟨H,i,D,rfl⟩:=b;rw[atr h D,← A.done i D H (j i D),← E5,← yI h A.order D];rfl
  least:=λm Y e J s b a=>by
   have f:m<k:=by obtain⟨H,i,D,rfl⟩:=b;rw[E8 h D]at a;have:=j i D;have:=(W.2.1 i D).1;omega
   exact A.akr m f Y e J s b a}⟩
def room(n:Nat)(out:List fA):Nat:=(out.map λx=>n-x.2.1.length).sum
theorem ap0{n:Nat}:∀{out:List fA}{i:Nat}{x:fA},i<out.length->(kY out i).length<x.2.1.length->x.2.1.length<=n->room n (out.set i x)<room n out
 |[],i,x,h,_,_=>yj
 |y::r,0,x,_,C,h2=>by
  have C:y.2.1.length<x.2.1.length:=C;show((x::r).map λx=>n-x.2.1.length).sum<((y::r).map λx=>n-x.2.1.length).sum
  grind
 |y::r,i+1,x,h,C,h2=>by
  have a:=ap0 (out:=r) (i:=i) (x:=x) oQ C h2
  grind [room]
abbrev pz:=Bytes×List (Int×Unit)×List (Int×Unit)×Unit
abbrev dF:=List dm×List aG×Int×List aH×List fA×Unit
instance:DecidableEq (List (Int×Unit)):=inferInstance
instance:DecidableEq fA:=inferInstance
instance:DecidableEq (List fA):=inferInstance
instance:DecidableEq (List fA×Unit):=inferInstance
instance:DecidableEq (List aH×List fA×Unit):=inferInstance
instance:DecidableEq (Int×List aH×List fA×Unit):=inferInstance
instance:DecidableEq (List aG×Int×List aH×List fA×Unit):=inferInstance
instance aPX:DecidableEq dF:=(inferInstance:DecidableEq (List dm×List aG×Int×List aH×List fA×Unit))
def iY(l:LS)(s:Bytes):Bool:=l.any λx=>x.1==s
theorem mV{l:LS}{s:Bytes}:iY l s=true↔(s,())∈l:=by
 grind [iY]
def bW(r:List fA):Prop:=r.length<=1000/\∀x∈r,x.2.1.length<=1000
def aQ(c:dF):bT:=(c.1,c.2.1,c.2.2.1,())
def bF(c:dF):List aH:=c.2.2.2.1
def uK(c:dF):List fA:=c.2.2.2.2.1
def iU(c:dF):Prop:=aV (aQ c)/\aK (bF c)/\bW (uK c)
def akH(f:aG):Prop:=f.2.2.2.2.1.length<=500
def akG(c:dF):Prop:=∀f∈c.2.1,akH f
def jM(d:List aH):LS:=d.map λx=>(x.1,())
def ahU(d:List aH)(m:Int):Prop:=m<=1000/\∀aS,aA d=true->nU d aS->∀i,i<d.length->lv aS i<=m
open Classical in
noncomputable def dn (c:dF):Bool:=aA (bF c)&&aJ (aQ c)&&decide (gX c.2.1 (bF c) [] (λ_=>true) (uK c))
def nZ(a:List aW):LS:=a.map λx=>(x.1,())
def uy(f g:aG):List Bytes:=((f.2.2.2.2.1++g.2.2.2.2.1).map λa=>a.1).filter λs=>!decide (dA f.2.2.2.2.1 s=dA g.2.2.2.2.1 s)
def yu(q:List aO):List Bytes:=(q.filter λn=>n.1==2||(n.1==3||n.1==4)).map λn=>n.2.2.2.1
def AX(q:List aO):List Bytes:=(q.filter tN).map λn=>n.2.2.2.1
def linked(q:List aO):Bool:=q.any λn=>n.1==9
inductive Reach(d:List aH)(P:Bytes->Prop):Bytes->Prop where
 |base {s}:P s->Reach d P s
 |step {s i}:Reach d P s->i<d.length->s∈AX (fQ d i)->Reach d P (nameOf d i)
def isSet(r:LS)(P:Bytes->Prop):Prop:=r.length<=1000/\∀s,iY r s=true↔P s
def reached(d:List aH)(names r:LS):Prop:=isSet r (Reach d λs=>iY names s=true)
def Vg(d:List aH)(f g:aG)(s:Bytes):Prop:=
 ∃i,i<d.length/\nameOf d i=s/\(f.1≠g.1\/(∃t,t∈yu (fQ d i)/\t∈uy f g)\/(linked (fQ d i)=true/\f.2.2.2.1≠g.2.2.2.1))
def touched(d:List aH)(f g:aG)(r:LS):Prop:=r.length<=d.length/\∀s,iY r s=true↔Vg d f g s
def Aff(d:List aH)(f g:aG):Bytes->Prop:=Reach d (Vg d f g)
open Classical in
noncomputable def avw (d:List aH) (f g:aG) (s:Bytes):Bool:=decide (Aff d f g s)
def without(a b:List (Int×Unit)):List (Int×Unit):=a.filter λx=>!fF b x.1
def O8(a:List fA)(x:fA):pz:=(x.1,without x.2.1 (gY a x.1),without (gY a x.1) x.2.1,())
def Wy(y:pz):Bool:=decide (0<y.2.1.length+y.2.2.1.length)
def KP(a b:List fA):List pz:=(b.map (O8 a)).filter Wy
def turned(c:dF)(s:bT)(d:List aH)(nm:Bytes->Bool)(a:dF)(e:List pz)(b:Bool):Prop:=
 b=(aA d&&aJ s)/\(b=true->aQ a=s/\bF a=d/\gX s.2.1 d (uK c) nm (uK a)/\e=KP (uK c) (uK a))/\(b=false->a=c/\e=[])
def updated(c:dF)(f:aG)(a:dF)(e:List pz)(b:Bool):Prop:=
 b=(dn c&&(bU (aQ c) f).2)/\
 (b=true->aQ a=(bU (aQ c) f).1/\bF a=bF c/\gX (bU (aQ c) f).1.2.1 (bF c) (uK c) (avw (bF c) (bI (aQ c) f.1).1 f) (uK a)/\e=KP (uK c) (uK a))/\
 (b=false->a=c/\e=[])
def aqb(c:dF):Prop:=iU c/\c.1=usual/\0<c.2.1.length/\dn c=true
def Oe(l:List (Int×Unit))(n:Int):List (Int×Unit):=
 let k:=(l.takeWhile λx=>decide (x.1<n)).length
 bif decide (k<l.length)&&(l.getD k (0,())).1==n then l else l.take k++[(n,())]++l.drop k
def vK(l:List (Int×Unit))(q:List (Int×Unit)):List (Int×Unit):=q.foldl (λl x=>Oe l x.1) l
def uz(l x y:List (Int×Unit)):List (Int×Unit):=vK (vK [] (l.filter λz=>!fF y z.1)) x
def Vf(fs:List aG)(d:List aH)(r:List fA)(nm:Bytes->Bool)(aS:List (Int×Unit))(k:Nat)(a:List fA)(i:Nat)(c:Bool)(out:List fA):Prop:=
 sQ fs d r nm aS k out/\(c=true->room fs.length out<room fs.length a)/\
  (c=false->out=a/\∀j,j<i->j<d.length->nm (nameOf d j)=true->lv aS j=k->sel fs (fQ d j) (bK out)=kY out j)
theorem Ia{i:Nat}{a:List fA}{c:Bool}(h:Vf fs d r nm aS k a i c out)(Y:nm (nameOf d i)=true->lv aS i=k->sel fs (fQ d i) (bK out)=kY out i):Vf fs d r nm aS k a (i+1) c out:=
 ⟨h.1,h.2.1,λN=>⟨(h.2.2 N).1,λj f e H W=>by
   rcases aQE j i with b|b
   .exact(h.2.2 N).2 j b e H W
   grind⟩⟩
theorem apj{i:Nat}{a:List fA}{c:Bool}(e:dK d=true)(W:nU d aS)(X:distinct fs)(h:Vf fs d r nm aS k a i c out)(D:i<d.length)(H:nm (nameOf d i)=true)(j:lv aS i=k)(b:sel fs (fQ d i) (bK out)≠kY out i):
 Vf fs d r nm aS k a (i+1) true (out.set i ((yU out i).1,sel fs (fQ d i) (bK out),())):=by
 obtain⟨A,C,O⟩:=h;rw[A.order.2 i D];obtain⟨f,g,l⟩:=at_set e W X A D H j;refine⟨f,λ_=>?_,λh=>o5⟩;have hr:room fs.length (out.set i (nameOf d i,sel fs (fQ d i) (bK out),()))<room fs.length out:=ap0 (by rw[A.order.1];exact D) (g b) l
 grind
theorem abT(A:sQ fs d r nm aS k out)(b:d.length<=1000)(X:fs.length<=1000)(hr:bW r):bW out:=by
 refine⟨by rw[A.order.1];exact b,λx Z=>?_⟩;obtain⟨i,D,rfl⟩:=aQQ Z;have a:i<d.length:=by rw[← A.order.1];exact D
 have e:(out[i]).2.1=kY out i:=by
  grind [kY,yU]
 rw[e];cases H:nm (nameOf d i)with
 |true=>exact aQn (axq (A.canon i a H)) X
 |false=>
  rw[A.kept i a H];have:∀l:List fA,(∀x∈l,x.2.1.length<=1000)->(gY l (nameOf d i)).length<=1000:=by
   intro l
   induction l with
   |nil=>exactλ_=>aQx _
   |cons x t ih=>
    grind [gY]
  exact this r hr.2
def Ap(r:List fA)(nm:Bytes->Bool)(x:aH):fA:=(x.1,bif nm x.1 then[]else gY r x.1,())
theorem ap1{i:Nat}(D:i<d.length):yU (d.map (Ap r nm)) i=Ap r nm (dh d i):=by
 grind [yU,dh]
theorem VE(e:dK d=true)(W:nU d aS):sQ fs d r nm aS 0 (d.map (Ap r nm)):=by
 refine aIM e W ⟨ni,λi D=>?_⟩ (λi D H=>?_) λi D H=>?_
 .rw[ap1 D];rfl
 .unfold kY;rw[ap1 D];show(bif nm (nameOf d i)then[]else gY r (nameOf d i))=_;rw[H];rfl
 .unfold kY;rw[ap1 D];show(bif nm (nameOf d i)then[]else gY r (nameOf d i))=_;rw[H];rfl
theorem Zt{s:bT}(h:aJ s=true):∀(j i:Nat),i<j->j<s.2.1.length->(fileAt s.2.1 i).1<(fileAt s.2.1 j).1:=by
 intro j
 induction j with
 |zero=>omega
 |succ j ih=>
  intro i D a;have C:oL s (j+1)=true:=by
   grind [aJ,jG]
  grind [oL]
theorem vI{s:bT}(h:aJ s=true):distinct s.2.1:=by
 intro f X g b e;obtain⟨i,D,rfl⟩:=aQQ X;obtain⟨j,l,rfl⟩:=aQQ b;have a:∀k(n:k<s.2.1.length),fileAt s.2.1 k=s.2.1[k]:=λk n=>by
  grind [fileAt]
 rcases aR6 i j with C|C|C
 .have:=Zt h j i C l
  grind
 .subst C;rfl
 .have:=Zt h i j C D
  grind
theorem abU{l:List fA}{f:Bytes->Bool}(h:gX fs d r nm out)(H:∀i,i<d.length->nm (nameOf d i)=f (nameOf d i))(hr:∀i,i<d.length->nm (nameOf d i)=false->gY r (nameOf d i)=gY l (nameOf d i)):gX fs d l f out:=by
 have e:∀s,due d nm s↔due d f s:=λs=>by
  constructor
  .rintro⟨a,i,D,rfl⟩;exact⟨jv,i,D,rfl⟩
  .rintro⟨a,i,D,rfl⟩;exact⟨jv,i,D,rfl⟩
 obtain⟨aS,C,O⟩:=h.aS;exact⟨h.order,λi D b=>by rw[← H i D]at b;rw[h.kept i D b,hr i D b],λi D b=>h.fix i D jv,aS,C,
  λs g=>O.fix s ((e s).2 g),λk Y n J s g=>O.least k Y (λt j=>n t λb=>j ⟨(e t).2 b.1,b.2⟩) (λt j=>J t ((e t).1 j)) s ((e s).2 g)⟩
theorem aEW(e:dK d=true)(W:nU d aS)(X:distinct fs):∀(n:Nat)(out:List fA),room fs.length out<=n->sQ fs d r nm aS k out->∃b,sQ fs d r nm aS (k+1) b:=by
 intro n
 induction n using Nat.strongRecOn with
 |_ n ih=>
  intro out H A;by_cases Y:∀i,i<d.length->nm (nameOf d i)=true->lv aS i=k->sel fs (fQ d i) (bK out)=kY out i
  .exact⟨out,at_next e A Y⟩
  .obtain⟨i,hi⟩:=aSf.1 Y;have C:i<d.length:=aQX λh=>hi λa=>(h a).elim;have O:nm (nameOf d i)=true:=aQX λh=>hi λ_ a=>(h a).elim;have K:lv aS i=k:=aQX λh=>hi λ_ _ a=>(h a).elim;have x:sel fs (fQ d i) (bK out)≠kY out i:=λh=>hi λ_ _ _=>h;obtain⟨f,g,j⟩:=at_set e W X A C O K;have hr:room fs.length (out.set i (nameOf d i,sel fs (fQ d i) (bK out),()))<room fs.length out:=ap0 (by rw[A.order.1];exact C) (g x) j;exact ih _ fC _ (aQp _) f
theorem TL(r:List fA)(nm:Bytes->Bool)(e:dK d=true)(W:nU d aS)(X:distinct fs):∃out,gX fs d r nm out:=by
 have:∀k,∃out,sQ fs d r nm aS k out:=λk=>by
  induction k with
  |zero=>exact⟨_,VE e W⟩
  |succ k ih=>obtain⟨out,A⟩:=ih;exact aEW e W X _ out (aQp _) A
 obtain⟨out,A⟩:=this (d.length+1);exact⟨out,at_end e W A λi D=>by have:=(W.2.1 i D).2;omega⟩
theorem Vl(z:zD d out){s:Bytes}(Y:¬∃i,i<d.length/\nameOf d i=s)(x:Int):bK out s x=false:=by unfold bK;rw[WH z λi D e=>Y ⟨i,D,e⟩];rfl
variable {old R E:List fA}
theorem incr{y:List aG}{f:List aH}(M:dK d=true)(g:dK f=true)
 (C:gX fs d [] (λ_=>true) old) (O:gX y f old nm R) (K:gX y f [] (λ_=>true) E)
 (n:∀i,i<f.length->nm (nameOf f i)=false->(∃j,j<d.length/\nameOf d j=nameOf f i/\fQ d j=fQ f i)/\(∀X,sel fs (fQ f i) X=sel y (fQ f i) X)/\∀b,∀s∈iZ (fQ f i) b,nm s=false)
 (T:∀j,j<d.length->nm (nameOf d j)=false->∃i,i<f.length/\nameOf f i=nameOf d j):R=E:=by
 obtain⟨l1,N,w⟩:=C.aS;obtain⟨l2,P,o⟩:=O.aS;obtain⟨l3,I,S⟩:=K.aS;have q:∀s,nm s=false->(¬∃i,i<f.length/\nameOf f i=s)->∀x,bK old s x=false:=λs H Y x=>
  Vl C.order (λ⟨j,l,e⟩=>jv) x
 have W:=ab6 (U:=λs=>nm s=false/\∃i,i<f.length/\nameOf f i=s) w S (QB M N _) (QB g I _)
  (λs⟨H,i,D,e⟩=>by subst e;obtain⟨j,l,e,_⟩:=(n i D H).1;exact⟨rfl,j,l,e⟩) (λs⟨_,Y⟩=>⟨rfl,Y⟩)
  (λs⟨H,i,D,e⟩ X x=>by
    grind [atr])
  (λs⟨H,i,D,e⟩ t⟨i2,z,o,a⟩=>by subst e;obtain⟨⟨j,l,e,F⟩,_⟩:=n i D H;have:=Qz g z D o;subst this;exact⟨j,l,e,by grind [fQ]⟩)
  (λs⟨H,i,D,e⟩ t⟨i2,z,o,a⟩=>by subst e;obtain⟨⟨j,l,e,F⟩,_⟩:=n i D H;have:=Qz g z D o;subst this;exact⟨j,l,e,by grind [fQ]⟩)
  (λs⟨H,i,D,e⟩ t a=>by
    subst e;obtain⟨⟨j,l,e,F⟩,_,u⟩:=n i D H;have Q:nm t=false:=by
     rcases a with⟨j2,A,o,a⟩|⟨j2,A,o,a⟩
     .have:=Qz M A l (o.trans e.symm);subst this;exact u false t (by rw[← F];exact a)
     .have:=Qz M A l (o.trans e.symm);subst this;exact u true t (by rw[← F];exact a)
    by_cases B:∃i,i<f.length/\nameOf f i=t
    · grind
    .exact .inr λx=>by rw[q t Q B,Vl K.order B])
 have L:∀s,nm s=false->∀x,bK old s x=bK E s x:=λs H x=>by
  by_cases B:∃i,i<f.length/\nameOf f i=s
  · grind
  .rw[q s H B,Vl K.order B]
 have Z:=ab6 (U:=due f nm) o S (QB g P _) (QB g I _) (λ_ h=>h) (λs⟨_,h⟩=>⟨rfl,h⟩) (λ_ _ _ _=>Iff.rfl) (λ_ _ _ h=>h) (λ_ _ _ h=>h)
  λs _ t _=>by
   by_cases a:due f nm t
   .exact .inl a
   .refine .inr λx=>?_;by_cases B:∃i,i<f.length/\nameOf f i=t
    .obtain⟨i,D,rfl⟩:=B;have H:nm (nameOf f i)=false:=by rw[aRU];exactλH=>a ⟨H,i,D,rfl⟩
     rw[← L _ H];unfold bK;rw[yI g O.order D,O.kept i D H]
    .rw[Vl O.order B,Vl K.order B]
 have all:∀s x,bK R s x=bK E s x:=λs x=>by
  by_cases Y:due f nm s
  · grind
  .by_cases B:∃i,i<f.length/\nameOf f i=s
   .obtain⟨i,D,rfl⟩:=B;have H:nm (nameOf f i)=false:=by rw[aRU];exactλH=>Y ⟨H,i,D,rfl⟩
    rw[← L _ H];unfold bK;rw[yI g O.order D,O.kept i D H]
   .rw[Vl O.order B,Vl K.order B]
 refine aDb O.order K.order λi D=>?_;cases H:nm (nameOf f i)with
 |true=>
  rw[O.fix i D H,K.fix i D rfl]
  grind [akn]
 |false=>
  obtain⟨⟨j,l,e,F⟩,J,u⟩:=n i D H;rw[O.kept i D H,← e,yI M C.order l,C.fix j l rfl,K.fix i D rfl,F,J]
  grind [akn]
theorem adP:∀{l:List aW}{s:Bytes},(∀a∈l,a.1≠s)->dA l s=(0,0,[],())
 |[],_,_=>rfl
 |x::r,s,h=>by rw[dA,aQl.2 (h x aQr)];exact adP λa b=>h a (aQo _ b)
variable {f g:aG}
theorem aG6{t:Bytes}(h:t ∉ uy f g):dA f.2.2.2.2.1 t=dA g.2.2.2.2.1 t:=by
 grind [uy,adP]
variable {q:List aO}
theorem aA6{a:Nat}(h:(nodeAt q a).1≠0):nodeAt q a∈q:=by
 grind [nodeAt]
theorem aG7{a:Nat}{X:BX}(e:f.1=g.1)(b:∀t∈yu q,dA f.2.2.2.2.1 t=dA g.2.2.2.2.1 t)(h:linked q=true->f.2.2.2.1=g.2.2.2.1):mQ (nodeAt q a) f X=mQ (nodeAt q a) g X:=by
 grind [yu,aA6,mQ,linked]
theorem aIN{X:BX}(e:f.1=g.1)(b:∀t∈yu q,dA f.2.2.2.2.1 t=dA g.2.2.2.2.1 t)(h:linked q=true->f.2.2.2.1=g.2.2.2.1):∀a,val q f X a=val q g X a:=by
 intro a
 induction a using Nat.strongRecOn with
 |_ a ih=>
  grind [O7,aG7]
theorem aku{b:Bool}{s:Bytes}(h:s∈iZ q b):s∈AX q:=by
 grind [iZ,tN,AX,aA6]
theorem aKR{X:BX}{n:Nat}(H:n<fs.length)(e:(fileAt fs n).1=g.1)(h:kz q (fileAt fs n) X=kz q g X):sel (fs.set n g) q X=sel fs q X:=by
 have a:∀l:List aG,sel l q X=(l.map λf=>(kz q f X,f.1)).filterMap λp=>bif p.1 then some (p.2,())else none:=λl=>by
  unfold sel
  induction l with
  |nil=>rfl
  |cons f r ih=>
   grind
 rw[a,a,List.map_set];have b:fileAt fs n=fs[n]:=by grind [fileAt]
 have:(kz q g X,g.1)=(fs.map λf=>(kz q f X,f.1))[n]' jv :=jv;rw[this,List.set_getElem_self]
theorem aIq{n:Nat}(e:dK d=true)(H:n<fs.length)(l:(fileAt fs n).1=g.1)
 (C:gX fs d [] (λ_=>true) old) (O:gX (fs.set n g) d old (avw d (fileAt fs n) g) R) (K:gX (fs.set n g) d [] (λ_=>true) E):R=E:=by
 have w:∀s,avw d (fileAt fs n) g s=true↔Aff d (fileAt fs n) g s:=λs=>@aSC _ (Classical.propDecidable _);refine incr e e C O K (λi D o=>⟨⟨i,D,rfl,rfl⟩,λX=>?_,λb s Y=>?_⟩) λj z _=>⟨j,z,rfl⟩
 .have o:¬Aff d (fileAt fs n) g (nameOf d i):=λh=>jv;have u:¬Vg d (fileAt fs n) g (nameOf d i):=λh=>o (.base h);refine(aKR H l ?_).symm;unfold kz;rw[aIN l (λt a=>?_) λW=>?_]
  .exact aG6 λN=>u ⟨i,D,rfl,.inr (.inl ⟨t,a,N⟩)⟩
  .exact aQX λx=>u ⟨i,D,rfl,.inr (.inr ⟨W,x⟩)⟩
 .rw[aRU];intro y;have:=(w s).1 y;have A:Aff d (fileAt fs n) g (nameOf d i):=.step this D (aku Y)
  grind
def Dp(a:List aW):Prop:=a.Pairwise λx y=>Op.bytesLess x.1 y.1=true
theorem ap2{α:Type}{R:α->α->Prop}(e:∀a b c,R a b->R b c->R a c)(d:α):∀(l:List α),(∀i,i+1<l.length->R (l.getD i d) (l.getD (i+1) d))->l.Pairwise R
 |[],_=>List.Pairwise.nil
 |[x],_=>aRg _ _
 |x::y::r,h=>by
  have n:=ap2 e d (y::r) λi D=>h (i+1) ZQ;have j:R x y:=h 0 ni
  grind [List.pairwise_cons]
variable {as:List aW}
theorem yV{fs:List dm}:jh fs as=true↔(∀a∈as,mO fs a.1 a.2.1 a.2.2.1 a.2.2.2.1=true)/\Dp as:=by
 have e:∀i(D:i<as.length),iJ as i=as[i]:=λi D=>by grind [iJ]
 unfold jh;rw[show(jG as.length (oJ fs as)=true)↔∀i,i<as.length->oJ fs as i=true from by
  grind [jG]]
 have one:∀i,oJ fs as i=true↔mO fs (iJ as i).1 (iJ as i).2.1 (iJ as i).2.2.1 (iJ as i).2.2.2.1=true/\(0<i->Op.bytesLess (iJ as (i-1)).1 (iJ as i).1=true):=λi=>by
  grind [oJ]
 constructor
 .intro h;refine⟨λa j=>?_,?_⟩
  · grind [List.getElem_of_mem]
  .refine ap2 (R:=λx y:aW=>Op.bytesLess x.1 y.1=true) (λa b c C O=>BI _ _ _ C O) ([],0,0,[],()) as λi D=>?_
   grind
 .rintro⟨C,O⟩ i D;refine(one i).2 ⟨?_,λl=>?_⟩
  · grind
  .rw[e i D,e (i-1) fC];exact aRb.1 O (i-1) i fC D fC
theorem WI{α:Type}{p:α->Bool}:∀{l:List α}{x:α},x∈l.takeWhile p->p x=true/\x∈l
 |[],_,h=>o5
 |y::r,x,h=>by
  rw[aR1]at h;split at h
  .next hp=>
   rcases aQt.1 h with rfl|h
   .exact⟨hp,aQr⟩
   .exact⟨(WI h).1,aQo _ (WI h).2⟩
  .cases h
variable {name:Bytes}{n:Int}
theorem aCp{fs:List dm}{k:Int}{s:Bytes}(h:jh fs as=true)(u:mO fs name k n s=true)(j:k≠0):jh fs (ku as name k n s)=true:=by
 obtain⟨C,O⟩:=yV.1 h;unfold ku;have o:∀a∈as.filter (nC name),mO fs a.1 a.2.1 a.2.2.1 a.2.2.2.1=true/\a.1≠name:=λa t=>by
  grind [nC]
 have i:Dp (as.filter (nC name)):=aRI _ O;generalize as.filter (nC name)=l at o i;unfold Yq;have e:=aSr (p:=lT name) (l:=l);have b:=i;unfold Dp at b;rw[← e,aRF]at b;have w:∀a∈l.takeWhile (lT name),Op.bytesLess a.1 name=true:=λa t=>by
  grind [WI,lT]
 have D:∀a∈l.dropWhile (lT name),Op.bytesLess name a.1=true:=by
  cases W:l.dropWhile (lT name)with
  |nil=>grind
  |cons y r=>
   have F:lT name y=false:=by
    have:=List.head_dropWhile_not (lT name) (l:=l) (by rw[W];simp)
    grind
   grind [aA3,lT,BI,List.pairwise_cons]
 grind [yV,List.dropWhile_sublist,Dp,List.pairwise_cons]
theorem aA7{α:Type}[BEq α][LawfulBEq α]:∀(a b:List α),a.Nodup->(∀x∈a,x∈b)->a.length<=b.length
 |[],_,_,_=>aQx _
 |x::r,b,hn,h=>by
  rw[List.nodup_cons]at hn;have e:=aA7 r (b.erase x) hn.2 λy F=>by
   grind
  grind
theorem afZ:∀{fs:List dm}{s:Bytes},kindOf fs s≠0->s∈fs.map λf=>f.1
 |[],_,h=>(h rfl).elim
 |f::r,s,h=>by
  rw[kindOf]at h;by_cases e:f.1=s
  .rw[aQB,e];exact aQr
  .rw[aQH e]at h;exact aQo _ (afZ h)
theorem aeW{fs:List dm}(h:jh fs as=true):as.length<=fs.length:=by
 obtain⟨C,O⟩:=yV.1 h;have:=aA7 (as.map λa=>a.1) (fs.map λf=>f.1) ?_ λs Y=>?_
 · grind
 .unfold List.Nodup;rw[aRT];exact O.imp λ{a b} e=>JX e
 grind [mO,afZ]
def zu(l:List (Int×Unit)):Prop:=l.Pairwise λx y=>x.1<y.1
theorem aG8{x:Int×Unit}{r:List (Int×Unit)}:Oe (x::r) n=if x.1<n then x::Oe r n else if x.1=n then x::r else(n,())::x::r:=by
 grind [Oe,List.takeWhile_cons_of_pos,List.takeWhile_cons_of_neg]
theorem axs{n:Int}:∀{l:List (Int×Unit)},zu l->zu (Oe l n)/\∀x,x∈Oe l n↔x=(n,())\/x∈l
 |[],_=>⟨aRg _ _,λx=>by show x∈[(n,())]↔_;simp⟩
 |y::r,h=>by
  obtain⟨C,O⟩:=aQ5.1 h;obtain⟨i,j⟩:=axs (n:=n) O;rw[aG8];by_cases a:y.1<n
  .rw[if_pos a];refine⟨aQ5.2 ⟨λz e=>?_,i⟩,λx=>?_⟩
   · grind
   grind
  .rw[if_neg a];by_cases b:y.1=n
   · grind
   .rw[if_neg b];refine⟨aQ5.2 ⟨λz e=>?_,h⟩,λx=>aQt⟩
    grind
theorem ab7:∀(a:List (Int×Unit)){l:List (Int×Unit)},zu l->zu (vK l a)/\∀x,x∈vK l a↔x∈a\/x∈l
 |[],l,h=>⟨h,λx=>by simp[vK]⟩
 |y::r,l,h=>by obtain⟨C,O⟩:=axs (n:=y.1) h;obtain⟨b,e⟩:=ab7 r C;refine⟨b,λx=>(e x).trans ?_⟩;rw[O,aQt];exact⟨λh=>h.elim (λh=>.inl (.inr h)) λh=>h.elim (λh=>.inl (.inl h)) .inr,λh=>h.elim (λh=>h.elim (λh=>.inr (.inl h)) .inl) λh=>.inr (.inr h)⟩
theorem ak3:∀{a b:List (Int×Unit)},zu a->zu b->(∀x,x∈a↔x∈b)->a=b
 |[],[],_,_,_=>rfl
 |[],y::r,_,_,h=>by grind [List.mem_cons_self]
 |x::r,[],_,_,h=>by grind [List.mem_cons_self]
 |x::r,y::s,ha,hb,h=>by
  obtain⟨i,l⟩:=aQ5.1 ha;obtain⟨j,o⟩:=aQ5.1 hb;have e:x=y:=by
   rcases aQt.1 ((h x).1 aQr)with e|e
   .exact e
   .rcases aQt.1 ((h y).2 aQr)with e'|e'
    .exact e'.symm
    .have u:=j x e;have v:=i y e';omega
  subst e;have:r=s:=ak3 l o λz=>by
   constructor
   .intro hz;rcases aQt.1 ((h z).1 (aQo _ hz))with e|e
    .have:=i z hz;rw[e]at this;omega
    .exact e
   .intro hz;rcases aQt.1 ((h z).2 (aQo _ hz))with e|e
    .have:=j z hz;rw[e]at this;omega
    .exact e
  rw[this]
theorem Xd{a x y:List (Int×Unit)}:zu (uz a x y)/\∀z,z∈uz a x y↔z∈x\/(z∈a/\fF y z.1=false):=by
 obtain⟨C,O⟩:=ab7 (a.filter λz=>!fF y z.1) (l:=[]) List.Pairwise.nil;obtain⟨b,e⟩:=ab7 x C;refine⟨b,λz=>(e z).trans ?_⟩
 grind
theorem agD{a b:List (Int×Unit)}(U:zu b):uz a (without b a) (without a b)=b:=by
 grind [Xd,without,ak3,E5]
theorem aCX{a b:List (Int×Unit)}(e:zu a)(U:zu b)(C:(without b a).length+(without a b).length=0):a=b:=by
 grind [without,List.length_eq_zero_iff,List.filter_eq_nil_iff,E5,ak3]
theorem aKS{s:bT}(h:aJ s=true)(q:List aO)(X:BX):zu (sel s.2.1 q X):=by
 have J:s.2.1.Pairwise λf g=>f.1<g.1:=by
  rw[aRb];intro i j D e a;have b:∀k(l:k<s.2.1.length),fileAt s.2.1 k=s.2.1[k]:=λk l=>by grind [fileAt]
  have:=Zt h j i a e
  grind
 grind [zu,sel]
def belowD(name:Bytes)(x:aH):Bool:=Op.bytesLess x.1 name
def yc(name:Bytes)(x:aH):Bool:=!(x.1==name)
def oZ(d:List aH)(x:aH):List aH:=d.takeWhile (belowD x.1)++x::(d.dropWhile (belowD x.1)).filter (yc x.1)
def iF(d:List aH)(x:aH):List aH×Bool:=bif dK d&&dK (oZ d x)then(oZ d x,true)else(d,false)
theorem aEC{α:Type}(p:α->Bool):∀l:List α,l.dropWhile p=l.drop (l.takeWhile p).length
 |[]=>rfl
 |x::r=>by
  rw[List.dropWhile_cons,aR1];cases p x with
  |true=>exact aEC p r
  |false=>rfl
theorem aEB{α:Type}(p:α->Bool):∀l:List α,l.takeWhile p=l.take (l.takeWhile p).length
 |[]=>rfl
 |x::r=>by
  rw[aR1];cases p x with
  |true=>exact congrArg (x::·) (aEB p r)
  |false=>rfl
theorem aa6{α:Type}(p:α->Bool)(d:α):∀(l:List α)(k:Nat),k<=l.length->(∀i,i<k->p (l.getD i d)=true)->(k<l.length->p (l.getD k d)=false)->(l.takeWhile p).length=k
 |[],0,_,_,_=>rfl
 |[],_+1,h,_,_=>yj
 |x::r,0,_,_,h=>by
  simp_all
 |x::r,k+1,hk,h1,h2=>by have:p x=true:=h1 0 fC;rw[aR1,this];simp only[if_true,aQz];rw[aa6 p d r k (by simpa using hk) (λi D=>h1 (i+1) fC) λh=>h2 oQ]
theorem ap3{α:Type}(p:α->Bool)(d:α):∀(l:List α),(∀i,i<(l.takeWhile p).length->p (l.getD i d)=true)/\((l.takeWhile p).length<l.length->p (l.getD (l.takeWhile p).length d)=false)
 |[]=>⟨λi h=>yj,λh=>yj⟩
 |x::r=>by
  obtain⟨C,O⟩:=ap3 p d r;rw[aR1];cases J:p x with
  |false=>grind
  |true=>
   simp only[if_true,aQz];refine⟨λi D=>?_,λh=>O fC⟩;cases i with
   |zero=>exact J
   |succ i=>grind
def AQ(d:List aH)(s:Bytes):Nat:=(d.takeWhile (belowD s)).length
theorem MP(d:List aH)(x:aH):oZ d x=d.take (AQ d x.1)++x::(d.drop (AQ d x.1)).filter (yc x.1):=by
 grind [oZ,AQ,aEB,aEC]
theorem aEY(d:List aH)(x:aH):(oZ d x).length<=d.length+1:=by
 grind [MP]
variable {y:aH}
theorem att{x:aH}(h:y∈oZ d x):y=x\/y∈d:=by
 grind [MP]
theorem aEZ{x:aH}(h:y∈d):y.1=x.1\/y∈oZ d x:=by
 grind [MP,List.take_append_drop,yc]
theorem aA8(d:List aH)(x:aH):x∈oZ d x:=by
 grind [MP]
theorem asv{x:aH}(e:aK d)(W:d.length<=999)(Z:x.2.1.length<=1000):aK (oZ d x):=by
 refine⟨by grind [aEY],λy F=>?_⟩;rcases att F with rfl|h
 .exact Z
 .exact e.2 y h
theorem aOD{x:aH}(a:dK d=true){n:Nat}(H:n<d.length)(b:nameOf d n=x.1):d.set n x=oZ d x:=by
 have j:AQ d x.1=n:=by
  refine aa6 _ ([],[],()) d n fC (λi D=>?_) λ_=>?_
  .have:=adO a n i D H;rw[b]at this;exact this
  .show Op.bytesLess (nameOf d n) x.1=false
   grind [VJ]
 rw[MP,j,List.set_eq_take_append_cons_drop,if_pos H];have e:d.drop n=dh d n::d.drop (n+1):=by
  unfold dh
  simp_all
 rw[e,aSo (by unfold yc;rw[show(dh d n).1=x.1 from b];simp)];rw[aR0.2];intro y F;obtain⟨i,D,rfl⟩:=aQQ F;rw[aSe]at D;have C:=adO a (n+1+i) n fC fC
 grind [nameOf,dh,yc,JX]
theorem aOE{x:aH}(e:dK d=true)(a:∀y∈d,y.1≠x.1)(j:k<=d.length)(C:∀i,i<k->Op.bytesLess x.1 (nameOf d i)=false)(O:k<d.length->Op.bytesLess x.1 (nameOf d k)=true):d.take k++([x]++d.drop k)=oZ d x:=by
 have nm:∀i,i<d.length->nameOf d i≠x.1:=λi D=>a _ (by grind [dh]);have W:AQ d x.1=k:=by
  refine aa6 _ ([],[],()) d k j (λi D=>?_) λh=>?_
  .exact Ya _ _ (C i D) (nm i fC).symm
  .exact atq (O h)
 rw[MP,W,aR0.2]
 .rfl
 grind [yc]
def zA(d:List aH)(x:aH)(n:Nat):List aH:=
 if n<=AQ d x.1 then d.take n else d.take (AQ d x.1)++x::((d.take n).drop (AQ d x.1)).filter (yc x.1)
theorem asw{x:aH}{n:Nat}(H:n<d.length)(h:n<AQ d x.1):zA d x (n+1)=zA d x n++[dh d n]/\belowD x.1 (dh d n)=true:=by unfold zA;rw[if_pos fC,if_pos fC];exact⟨take_succ' d n ([],[],()) H,(ap3 (belowD x.1) ([],[],()) d).1 n h⟩
theorem axg{x:aH}{n:Nat}(H:n<d.length)(h:n=AQ d x.1):zA d x (n+1)=zA d x n++x::(bif yc x.1 (dh d n)then[dh d n]else[])/\belowD x.1 (dh d n)=false:=by
 unfold zA;refine⟨?_,?_⟩
 · grind [take_succ',dh]
 .have:=(ap3 (belowD x.1) ([],[],()) d).2;unfold AQ at h;rw[← h]at this;exact this H
theorem aB6{x:aH}{n:Nat}(H:n<d.length)(h:AQ d x.1<n):zA d x (n+1)=zA d x n++(bif yc x.1 (dh d n)then[dh d n]else[]):=by unfold zA;rw[if_neg fC,if_neg fC,take_succ' d n ([],[],()) H,List.drop_append_of_le_length jv,aR4,← aRv,← aQL];congr 1
theorem aEw{x:aH}:oZ d x=if d.length<=AQ d x.1 then zA d x d.length++[x]else zA d x d.length:=by
 grind [MP,zA]
theorem aEv(d:List aH)(x:aH)(n:Nat):(zA d x n).length<=n+1:=by
 grind [zA]
theorem aIu{x:aH}(A:dK d=true)(w:dK (oZ d x)=true)
 (a:∀s,nm s=true↔Reach (oZ d x) (λt=>t=x.1) s)
 (C:gX fs d [] (λ_=>true) old) (O:gX fs (oZ d x) old nm R) (K:gX fs (oZ d x) [] (λ_=>true) E):R=E:=by
 have u:∀(l:List aH) i,i<l.length->dh l i∈l:=λl i D=>by
  grind [dh]
 have o:∀(l:List aH) y,y∈l->∃i,i<l.length/\dh l i=y:=λl y F=>by
  grind [List.getElem_of_mem,dh]
 refine incr A w C O K (λi D B=>⟨?_,λ_=>rfl,λb s Y=>?_⟩) λj z _=>?_
 .rcases att (u _ i D)with e|h
  .have:nm (nameOf (oZ d x) i)=true:=(a _).2 (.base Vq)
   grind
  .obtain⟨j,z,e⟩:=o d _ h;exact⟨j,z,Vq,by grind [fQ]⟩
 .rw[aRU];intro h;have:nm (nameOf (oZ d x) i)=true:=(a _).2 (.step ((a s).1 h) D (aku Y))
  grind
 .rcases aEZ (x:=x) (u d j z)with e|h
  .obtain⟨i,D,e'⟩:=o _ _ (aA8 d x);exact⟨i,D,Vq⟩
  .obtain⟨i,D,e'⟩:=o _ _ h;exact⟨i,D,Vq⟩
theorem aIv(h:gX fs d r (iY (jM d)) out):gX fs d [] (λ_=>true) out:=by
 grind [jM,nameOf,mV,dh,List.getElem_mem,abU]
def became(c:dF)(s:bT)(d:List aH)(e:Bool)(a:dF)(h:List pz)(b:Bool):Prop:=
 b=e/\(b=true->aQ a=s/\bF a=d/\dn a=true/\h=KP (uK c) (uK a))/\(b=false->a=c/\h=[])
def aIs(c:dF):Prop:=∀f∈c.2.1,f.2.2.2.2.1.length<=400
variable {c:dF}
theorem aAE(h:aIs c):akG c:=λf X=>aQn (h f X) jI
def kC(c:dF):Prop:=iU c/\aIs c/\(bF c).length<=10
def named(f:aG)(w:Bytes):aG:=(f.1,f.2.1,f.2.2.1,f.2.2.2.1,ku f.2.2.2.2.1 [110] 2 0 w,())
def rP(c:dF)(u id:Int):Bool:=(bI (aQ c) id).2&&Az (bI (aQ c) id).1 u
def changed(c:dF)(g:aG)(b:Bool)(a:dF)(e:Bool):Prop:=
 e=(b&&(dn c&&(bU (aQ c) g).2))/\(e=true->aQ a=(bU (aQ c) g).1/\bF a=bF c/\dn a=true)/\(e=false->a=c)
def yh(b:UInt8):Bool:=decide (32<=b.toNat)&&decide (b.toNat<=126)
def wordsOf(s:Bytes):LS:=(Lib.fields s).map (·,())
def sJ(s:Bytes):Bool:=decide ((s.length:Int)<=600)&&s.all yh&&decide (((Lib.fields s).length:Int)<=24)
def kD(s:Bytes):LS:=bif sJ s then wordsOf s else[]
def yg(s:Bytes):Int:=s.foldl (λn b=>10*n+((b.toNat:Int)-48)) 0
def lD(s:Bytes):Bool:=jc (yg s)&&(Lib.itoa (yg s)==s)
def parseNum(s:Bytes):Int:=bif lD s then yg s else 0
def wordAt(w:LS)(i:Int):Bytes:=bif decide (i>=(w.length:Int))then[]else(w.getD i.toNat ([],())).1
def mY(w:LS):Bytes:=Lib.join (w.map (·.1)) [32]
def numAt(w:LS)(i:Int):Int:=parseNum (wordAt w i)
def VK(w:LS):Int×Int×Bytes×Int:=
 bif wordAt w 0==[99,111,109,109,105,116]then(1,numAt w 1,[],0)else
 bif wordAt w 0==[99,114,97,115,104]then(2,numAt w 1,[],numAt w 2)else
 bif wordAt w 0==[119,97,116,99,104]then(3,numAt w 1,wordAt w 2,0)else
 bif wordAt w 0==[112,105,110]then(4,0,[],numAt w 1)else
 bif wordAt w 0==[117,110,112,105,110]then(5,0,[],numAt w 1)else
 bif wordAt w 0==[99,111,108,108,101,99,116]then(6,0,[],0)else
 bif wordAt w 0==[97,100,100]then(7,numAt w 1,wordAt w 2,numAt w 3)else
 bif wordAt w 0==[114,101,109,111,118,101]then(8,numAt w 1,wordAt w 2,numAt w 3)else(0,0,[],0)
def awc(x:Int×Int×Bytes×Int):Bytes:=atm x.1 x.2.1 0 x.2.2.1 x.2.2.2
def af0(s:Bytes):Bool:=sJ s&&!(wordsOf s==[])&&(!(awc (VK (wordsOf s))==[])&&(awc (VK (wordsOf s))==mY (wordsOf s)))
def aA9(s:Bytes):aKQ:=
 bif af0 s then((VK (wordsOf s)).1,(VK (wordsOf s)).2.1,[],(VK (wordsOf s)).2.2.1,(VK (wordsOf s)).2.2.2,())else(0,0,[],[],0,())
theorem aIO(u:Nat):Lib.itoa (u:Int)=Lib.decDigits u:=by grind [Lib.itoa]
theorem Xm(s:Bytes)(d:UInt8):yg (s++[d])=10*yg s+((d.toNat:Int)-48):=by grind [yg]
theorem byte_of(d:Nat)(h:d<10):(UInt8.ofNat (48+d)).toNat=48+d:=by rw[UInt8.toNat_ofNat'];omega
theorem adQ(s:List UInt8):∀(b:Nat)(n:Nat),Lib.decFrom b s=some n->∀d,d<10->Lib.decFrom b (s++[UInt8.ofNat (48+d)])=some (n*10+d):=by
 intro b n h d e
 induction s generalizing b with
 |nil=>
  have:∀d:Fin 10,Lib.digitVal (UInt8.ofNat (48+d.val))=some d.val:=jI;have O:=this ⟨d,e⟩
  grind [Lib.decFrom]
 |cons a r ih=>
  grind [Lib.decFrom]
theorem Xn:∀(k u:Nat),u<10 ^ (k+1)->yg (Lib.decDigits u)=u/\Lib.decFrom 0 (Lib.decDigits u)=some u/\(∀b∈Lib.decDigits u,48<=b.toNat/\b.toNat<=57)/\Lib.decDigits u≠[]/\(Lib.decDigits u).length<=k+1
 |0,u,h=>by
  rw[Lib.decDigits_one h];have U:=byte_of u h;have:=adQ [] 0 0 rfl u h;refine⟨?_,?_,λb a=>?_,List.cons_ne_nil _ _,aQp _⟩
  .show 10*0+_=_;omega
  · grind
  grind
 |k+1,u,h=>by
  by_cases C:u<10
  .have:=Xn 0 u (by simpa using C)
   grind
  .have hd:u / 10<10 ^ (k+1):=fC;obtain⟨l,j,o,s,t⟩:=Xn k (u / 10) hd;have e:Lib.decDigits u=Lib.decDigits (u / 10)++[UInt8.ofNat (48+u%10)]:=by
    grind [Lib.decDigits]
   have a:u%10<10:=Nat.mod_lt _ jI;have U:=byte_of (u%10) a;rw[e];refine⟨by grind [Xm],?_,λb i=>?_,ni,ql⟩
   .rw[adQ _ _ _ j _ a];congr 1;omega
   grind
theorem oO:jc n=true↔0<=n/\n<=1000000000:=by
 grind [jc]
theorem nM(h:jc n=true):yg (Lib.itoa n)=n/\Lib.atoi (Lib.itoa n)=some n/\(∀b∈Lib.itoa n,48<=b.toNat/\b.toNat<=57)/\Lib.itoa n≠[]/\(Lib.itoa n).length<=10:=by
 obtain⟨l,C⟩:=oO.1 h;obtain⟨u,rfl⟩:=Int.eq_ofNat_of_zero_le l;have a:u<10 ^ (9+1):=fC;rw[aIO];obtain⟨s,t,w,x,z⟩:=Xn 9 u a;cases o:Lib.decDigits u with
 |nil=>grind
 |cons b r=>
  have j:(b==45)=false:=by rw[aQl];intro e;simp_all
  have i:(b==43)=false:=by rw[aQl];intro e;simp_all
  grind [Lib.atoi,Lib.decNat]
theorem VH{s:Bytes}:lD s=true↔jc (yg s)=true/\Lib.itoa (yg s)=s:=by
 grind [lD]
theorem as4{s:Bytes}(h:jc n=true)(e:Lib.itoa n=s):lD s=true/\parseNum s=n:=by
 grind [nM,VH,parseNum]
theorem Fa(h:jc n=true):lD (Lib.itoa n)=true/\parseNum (Lib.itoa n)=n:=as4 h rfl
theorem xw{s:Bytes}(h:lD s=true):Lib.itoa (parseNum s)=s/\jc (parseNum s)=true:=by
 grind [parseNum,VH]
theorem Xk(s:Bytes):jc (parseNum s)=true:=by
 cases h:lD s with
 |true=>exact(xw h).2
 |false=>unfold parseNum;rw[h];rfl
theorem aCq{s:Bytes}(h:lD s=false):parseNum s=0:=by grind [parseNum]
theorem ayu{s:Bytes}(h:lD s=true):s.length<=10:=by
 have:=(nM (xw h).2).2.2.2.2
 grind [xw]
theorem aAN{s:Bytes}(h:10<s.length):lD s=false:=by
 grind [ayu]
theorem adR{s:Bytes}(h:lD s=true):∀b∈s,48<=b.toNat/\b.toNat<=57:=by
 have:=(nM (xw h).2).2.2.1
 grind [xw]
def af2(x:Bytes):Prop:=x≠[]/\∀b∈x,Lib.isSp b=false
theorem Xo:∀(x Q l:Bytes),(∀b∈x,Lib.isSp b=false)->Lib.fieldsGo Q (x++l)=Lib.fieldsGo (Q++x) l
 |[],Q,l,_=>jv
 |b::x,Q,l,h=>by rw[aRv,Lib.fieldsGo_more _ _ _ (h b aQr),Xo x _ l (λc N=>h c (aQo _ N)),aQL];rfl
theorem agK:∀(r:List Bytes)(x:Bytes),x≠[]->(∀y∈r,af2 y)->Lib.fieldsGo x (Lib.joinTail [32] r)=x::r
 |[],x,hx,_=>by
  grind [Lib.joinTail,Lib.fieldsGo]
 |y::r,x,hx,h=>by
  have F:=h y aQr;have e:Lib.joinTail [32] (y::r)=32::(y++Lib.joinTail [32] r):=by simp[Lib.joinTail]
  rw[e,Lib.fieldsGo_end x 32 _ jI hx,Xo y [] _ F.2,aRP,agK r y F.1 λz a=>h z (aQo _ a)]
theorem anG:∀a:List Bytes,(∀x∈a,af2 x)->Lib.fields (Lib.join a [32])=a
 |[],_=>rfl
 |x::r,h=>by have Z:=h x aQr;unfold Lib.fields;rw[Lib.join_cons,Xo x [] _ Z.2,aRP,agK r x Z.1 λz b=>h z (aQo _ b)]
theorem map_unit:∀w:LS,(w.map (·.1)).map (·,())=w
 |[]=>rfl
 |(_,())::r=>by rw[aQB,aQB,map_unit r]
theorem aBa(a:List Bytes)(h:∀x∈a,af2 x):wordsOf (Lib.join a [32])=a.map (·,()):=by grind [wordsOf,anG]
theorem atu(h:jc n=true):af2 (Lib.itoa n):=by
 obtain⟨_,_,K,x,_⟩:=nM h;refine⟨x,λb U=>?_⟩;unfold Lib.isSp;have a:∀c:UInt8,c.toNat<48->(b==c)=false:=λc N=>jv
 simp_all
theorem aCr{s:Bytes}(h:dU s=true):af2 s:=by
 unfold dU lower at h;refine⟨λe=>jv,λb U=>?_⟩;unfold Lib.isSp;have a:∀c:UInt8,c.toNat<97->(b==c)=false:=λc N=>jv
 simp_all
def aIP:Bytes:=[99,111,109,109,105,116]
def aKT:Bytes:=[99,114,97,115,104]
def aKU:Bytes:=[119,97,116,99,104]
def aM8:Bytes:=[112,105,110]
def aKV:Bytes:=[117,110,112,105,110]
def aG9:Bytes:=[99,111,108,108,101,99,116]
def aM9:Bytes:=[97,100,100]
def aIQ:Bytes:=[114,101,109,111,118,101]
theorem afH(x y:Bytes):Lib.join [x,y] [32]=x++32::y:=by rw[Lib.join_cons];simp[Lib.joinTail]
theorem as3(x y z:Bytes):Lib.join [x,y,z] [32]=x++32::(y++32::z):=by rw[Lib.join_cons];simp[Lib.joinTail]
theorem aIR(w:LS):VK w=
 (bif wordAt w 0==aIP then(1,numAt w 1,[],0)else bif wordAt w 0==aKT then(2,numAt w 1,[],numAt w 2)else bif wordAt w 0==aKU then(3,numAt w 1,wordAt w 2,0)else
   bif wordAt w 0==aM8 then(4,0,[],numAt w 1)else bif wordAt w 0==aKV then(5,0,[],numAt w 1)else bif wordAt w 0==aG9 then(6,0,[],0)else
   bif wordAt w 0==aM9 then(7,numAt w 1,wordAt w 2,numAt w 3)else bif wordAt w 0==aIQ then(8,numAt w 1,wordAt w 2,numAt w 3)else(0,0,[],0)):=rfl
theorem aiS(w:LS)(i:Int)(h:wordAt w i=Lib.itoa (numAt w i)):lD (wordAt w i)=true:=by rw[h];exact(Fa (Xk _)).1
theorem NR{b:UInt8}:yh b=true↔32<=b.toNat/\b.toNat<=126:=by grind [yh]
theorem aIS{p:UInt8->Bool}{s:Bytes}(h:∀i,i<s.length->p (s.getD i 0)=true):s.all p=true:=by
 grind [List.mem_iff_getElem]
theorem aAQ{p:UInt8->Bool}{s:Bytes}(h:s.all p=true){i:Nat}(D:i<s.length):p (s.getD i 0)=true:=by
 grind
theorem awd{b:UInt8}(h:yh b=true):Lib.isSp b=(b==32):=by
 have h:=NR.1 h;unfold Lib.isSp;have a:∀c:UInt8,c.toNat<32->(b==c)=false:=λc N=>jv
 simp_all
theorem JV{s:Bytes}:sJ s=true↔s.length<=600/\s.all yh=true/\(Lib.fields s).length<=24:=by
 grind [sJ]
theorem aGO{s:Bytes}(h:sJ s=true):(kD s,sJ s,())=(wordsOf s,true,()):=by grind [kD]
theorem afI{s:Bytes}(h:¬(s.length<=600/\s.all yh=true/\(Lib.fields s).length<=24)):(kD s,sJ s,())=(([]:LS),false,()):=by
 grind [JV,kD]
theorem Y8(s:Bytes):(wordsOf s).length=(Lib.fields s).length:=by grind [wordsOf]
def splitAt(s:Bytes)(n b:Nat)(out:LS):Prop:=
 b<=n/\n<=s.length+1/\out.length<=n/\(∀i,i<n->i<s.length->yh (s.getD i 0)=true)/\
 (n<=s.length->out.map (·.1)++Lib.fieldsGo ((s.take n).drop b) (s.drop n)=Lib.fields s)/\(n=s.length+1->out.map (·.1)=Lib.fields s)
theorem aAP(s:Bytes):splitAt s 0 0 []:=⟨aQp _,aQx _,aQp _,λi D=>absurd D (aRd _),λ_=>by simp[Lib.fields],λh=>fC⟩
theorem aAT{s:Bytes}{n b:Nat}{out:LS}(h:splitAt s n b out)(H:n<s.length)(z:yh (s.getD n 0)=true)(N:s.getD n 0≠32):splitAt s (n+1) b out:=by
 obtain⟨C,O,K,x,e,j⟩:=h;refine⟨fC,fC,fC,λi D a=>?_,λ_=>?_,λh=>fC⟩
 · grind
 grind [Fw.drop_cons,Lib.fieldsGo_more,awd]
theorem aAR{s:Bytes}{n b:Nat}{out:LS}(h:splitAt s n b out)(H:n<=s.length)(U:b<n)(z:n<s.length->yh (s.getD n 0)=true/\s.getD n 0=32):
 splitAt s (n+1) (n+1) (out++[((s.take n).drop b,())]):=by
 obtain⟨C,O,K,x,l,o⟩:=h;have j:(s.take n).drop b≠[]:=λe=>by
  have:=congrArg List.length e
  grind
 refine⟨aQp _,fC,ql,λi D a=>?_,λW=>?_,λW=>?_⟩
 · grind
 · grind [Fw.drop_cons,Lib.fieldsGo_end,awd]
 grind [Lib.fieldsGo]
theorem aAS{s:Bytes}{n b:Nat}{out:LS}(h:splitAt s n b out)(H:n<=s.length)(U:¬b<n)(z:n<s.length->yh (s.getD n 0)=true/\s.getD n 0=32):splitAt s (n+1) (n+1) out:=by
 obtain⟨C,O,K,x,e,j⟩:=h;refine⟨aQp _,fC,fC,λi D a=>?_,λW=>?_,λW=>?_⟩
 · grind
 · grind [Fw.drop_cons,Lib.fieldsGo_sp,awd]
 grind [Lib.fieldsGo]
theorem aCg{s:Bytes}{b:Nat}{out:LS}(h:splitAt s (s.length+1) b out):s.all yh=true/\out=wordsOf s:=by
 obtain⟨C,O,K,x,a,e⟩:=h;refine⟨aIS λi D=>x i fC D,?_⟩
 grind [wordsOf,map_unit]
def awe(s:Bytes):Prop:=∀b∈s,48<=b.toNat/\b.toNat<=57
theorem ZE:∀(k:Nat)(s:Bytes),s.length=k->awe s->0<=yg s/\yg s<(10:Int) ^ k
 |0,s,h,_=>by rw[aQ1.1 h];exact⟨aQN _,jI⟩
 |k+1,s,h,hd=>by
  have e:s=s.take k++[s[k]' fC]:=by
   grind [List.take_append_drop,List.drop_eq_getElem_cons]
  have a:awe (s.take k):=λb U=>hd b (aRa U);obtain⟨i,j⟩:=ZE k (s.take k) jv a;have U:=hd _ (aRM (by omega:k<s.length))
  grind [Xm]
theorem aCf{s:Bytes}{n:Nat}(H:n<s.length):yg (s.take (n+1))=10*yg (s.take n)+(((s.getD n 0).toNat:Int)-48):=by
 grind [List.take_add_one,Xm]
theorem aAO{s:Bytes}{n:Nat}(H:n<s.length)(W:s.length<=10)(e:∀i,i<n->48<=(s.getD i 0).toNat/\(s.getD i 0).toNat<=57):0<=yg (s.take n)/\yg (s.take n)<1000000000:=by
 have e:awe (s.take n):=by
  intro b U
  grind [List.mem_iff_getElem]
 obtain⟨C,O⟩:=ZE n (s.take n) jv e;refine⟨C,Int.lt_of_lt_of_le O ?_⟩;have:n<=9:=fC
 match n,this with
 |0,_|1,_|2,_|3,_|4,_|5,_|6,_|7,_|8,_|9,_=>decide
theorem aa8{s:Bytes}{i:Nat}(D:i<s.length)(h:¬(48<=(s.getD i 0).toNat/\(s.getD i 0).toNat<=57)):lD s=false:=by
 grind [adR]
theorem ZC{s:Bytes}(h:lD s=false):((0:Int),false,())=(parseNum s,lD s,()):=by rw[aCq h,h]
theorem aEJ{p:LS}{n:Nat}(H:n<p.length):mY (p.take (n+1))=(if n=0 then[]else mY (p.take n)++[32])++(p.getD n ([],())).1:=by
 cases p with
 |nil=>cases H
 |cons x r=>
  unfold mY;cases n with
  |zero=>simp[Lib.join_one]
  |succ n=>
   grind [Lib.join_cons,List.map_take,Lib.joinTail_take_succ]
theorem ayi:∀(p:LS)(n:Nat),(mY (p.take n)).length<=(mY p).length
 |[],n=>ni
 |x::r,0=>by simp[mY,Lib.join_nil]
 |x::r,n+1=>by
  grind [mY,Lib.join_cons,List.map_take,Lib.joinTail_take_le]
variable {w:LS}
theorem EP{i:Int}(h:i<(w.length:Int)):wordAt w i=(w.getD i.toNat ([],())).1:=by grind [wordAt]
theorem ER{i:Int}(h:i>=(w.length:Int)):wordAt w i=[]:=by grind [wordAt]
theorem aAh{s:Bytes}(h:af0 s=false):(((0:Int),(0:Int),([]:List eG),([]:Bytes),(0:Int),()),false,())=(aA9 s,af0 s,()):=by grind [aA9]
theorem JZ{b:Bool}{x y:Bytes}(C:b=true->x.length<=60)(O:y.length<=60):(bif b then x else y).length<=60:=by
 grind
theorem yH{n:Bytes}(h:dU n=true):n.length<=6:=by
 grind [dU]
theorem ayv(k u:Int)(b:Nat)(n:Bytes)(a:Int):(atm k u b n a).length<=60:=by
 have z:([]:Bytes).length<=60:=jI;have D:∀m:Int,jc m=true->(Lib.itoa m).length<=10:=λm h=>(nM h).2.2.2.2;refine JZ (λ_=>z) (JZ (λ_=>z) (JZ (λh=>?_) (JZ (λh=>?_) (JZ (λh=>?_) (JZ (λh=>?_) (JZ (λh=>?_) (JZ (λh=>?_) (JZ (λh=>?_) (JZ (λh=>?_) z)))))))))
 all_goals simp only[aQu,aQz,aQZ]
 · grind
 · grind
 · grind [yH]
 · grind
 · grind
 .omega
 · grind [yH]
 grind [yH]
theorem VL:∀(l Q:Bytes)(x:Bytes),x∈Lib.fieldsGo Q l->x.length<=Q.length+l.length
 |[],Q,x,h=>by
  grind [Lib.fieldsGo]
 |b::l,Q,x,h=>by
  rw[Lib.fieldsGo]at h;split at h
  .split at h
   .have:=VL l [] x h;grind
   .rcases aQt.1 h with rfl|h
    .simp
    .have:=VL l [] x h;grind
  .have:=VL l (Q++[b]) x h
   grind
theorem aoF{s:Bytes}:∀x∈wordsOf s,x.1.length<=s.length:=by
 intro x Z;obtain⟨y,F,rfl⟩:=aQW.1 Z;have:=VL s [] y F
 grind
theorem Me(h:∀x∈w,x.1.length<=m)(i:Int):(wordAt w i).length<=m:=by
 grind [wordAt]
theorem ayw(h:∀x∈w,x.1.length<=m):(VK w).2.2.1.length<=m:=by
 grind [aIR,wordAt]
theorem anH{m:Nat}:∀r:List Bytes,(∀x∈r,x.length<=m)->(Lib.joinTail [32] r).length<=r.length*(m+1)
 |[],_=>aQx _
 |x::r,h=>by
  have e:Lib.joinTail [32] (x::r)=[32]++(x++Lib.joinTail [32] r):=by simp[Lib.joinTail]
  have O:=anH r λy F=>h y (aQo _ F)
  grind [Nat.add_mul]
theorem az6(h:∀x∈w,x.1.length<=m):(mY w).length<=w.length*(m+1):=by
 cases w with
 |nil=>exact aQx _
 |cons x r=>
  unfold mY;rw[aQB,Lib.join_cons,aQu];have O:=anH (m:=m) (r.map (·.1)) λy F=>jv
  grind [Nat.add_mul]
theorem aCi{s:Bytes}(h:sJ s=true):kD s=wordsOf s/\(wordsOf s).length<=1000/\(mY (wordsOf s)).length<=2097152/\(VK (wordsOf s)).2.2.1.length<=1048576/\(awc (VK (wordsOf s))).length<=1048576:=by
 obtain⟨C,_,K⟩:=JV.1 h;have o:∀x∈wordsOf s,x.1.length<=600:=λx Z=>aQn (aoF x Z) C;have W:(wordsOf s).length<=24:=by grind [Y8]
 refine⟨by grind [kD],fC,?_,aQn (ayw o) fC,aQn (ayv _ _ _ _ _) fC⟩;have:=az6 o;omega
inductive QT where
 |leaf (n:aO)
 |neg (t:QT)
 |two (op:Int) (a b:QT)
def lH(op:Int):Bytes:=
 bif op==1 then[97,108,108]else bif op==2 then[104,97,115]else bif op==3 then[101,113]else bif op==4 then[108,116]else
 bif op==5 then[110,111,116]else bif op==6 then[97,110,100]else bif op==7 then[111,114]else bif op==8 then[105,110]else
 bif op==9 then[108,105,110,107,101,100]else[63]
def jk(w:Bytes):Int:=
 bif w==[97,108,108]then 1 else bif w==[104,97,115]then 2 else bif w==[101,113]then 3 else bif w==[108,116]then 4 else
 bif w==[110,111,116]then 5 else bif w==[97,110,100]then 6 else bif w==[111,114]then 7 else bif w==[105,110]then 8 else
 bif w==[108,105,110,107,101,100]then 9 else 0
def gZ(s:Bytes):ET×Bool:=
 bif lD s then(bif decide (parseNum s<=999)then((1,parseNum s,[],()),true)else((0,0,[],()),false))
 else bif s==[45]then((0,0,[],()),true)else bif dU s then((2,0,s,()),true)else((0,0,[],()),false)
def iI(v:ET):Bytes:=
 bif !gy v.1 v.2.1 v.2.2.1 then[63]else bif v.1==1 then Lib.itoa v.2.1 else bif v.1==2 then v.2.2.1 else[45]
def QT.size:QT->Nat
 |.leaf _=>1
 |.neg t=>t.size+1
 |.two _ a b=>a.size+b.size+1
def post:QT->Nat->List aO
 |.leaf n,_=>[n]
 |.neg t,b=>post t b++[(5,((b+t.size:Nat):Int)-1,0,[],0,0,[],())]
 |.two op x y,b=>post x b++(post y (b+x.size)++[(op,((b+x.size:Nat):Int)-1,((b+x.size+y.size:Nat):Int)-1,[],0,0,[],())])
def nH(n:aO):List Bytes:=
 lH n.1::(bif n.1==2||(n.1==8||n.1==9)then[n.2.2.2.1]else bif n.1==3||n.1==4 then[n.2.2.2.1,iI n.2.2.2.2]else[])
def cu:QT->List Bytes
 |.leaf n=>nH n
 |.neg t=>lH 5::cu t
 |.two op a b=>lH op::(cu a++cu b)
def ls(w:List Bytes):LS:=w.map (·,())
def DW:QT->Prop
 |.leaf n=>n.1=1\/n.1=2\/n.1=3\/n.1=4\/n.1=8\/n.1=9
 |.neg t=>DW t
 |.two op a b=>(op=6\/op=7)/\DW a/\DW b
def Ib:QT->Prop
 |.leaf n=>iM n 0=true
 |.neg t=>Ib t
 |.two _ a b=>Ib a/\Ib b
theorem jd:∀(t:QT)(b:Nat),(post t b).length=t.size
 |.leaf _,_=>rfl
 |.neg t,b=>by rw[post,aQu,jd t b];rfl
 |.two op x y,b=>by rw[post,aQu,aQu,jd x b,jd y];rw[QT.size,aQz,aQZ];omega
theorem size_pos:∀t:QT,0<t.size
 |.leaf _=>Nat.one_pos
 |.neg _=>aRO _
 |.two _ _ _=>aRO _
theorem TU(w:Bytes):jk w=0\/((jk w=1\/jk w=2\/jk w=3\/jk w=4\/jk w=5\/jk w=6\/jk w=7\/jk w=8\/jk w=9)/\lH (jk w)=w):=by
 unfold jk;cases C:w==[97,108,108]with
 |true=>right;rw[aQv.1 C];decide
 |false=>
 cases O:w==[104,97,115]with
 |true=>right;rw[aQv.1 O];decide
 |false=>
 cases K:w==[101,113]with
 |true=>right;rw[aQv.1 K];decide
 |false=>
 cases x:w==[108,116]with
 |true=>right;rw[aQv.1 x];decide
 |false=>
 cases a:w==[110,111,116]with
 |true=>right;rw[aQv.1 a];decide
 |false=>
 cases b:w==[97,110,100]with
 |true=>right;rw[aQv.1 b];decide
 |false=>
 cases e:w==[111,114]with
 |true=>right;rw[aQv.1 e];decide
 |false=>
 cases h:w==[105,110]with
 |true=>right;rw[aQv.1 h];decide
 |false=>
 cases i:w==[108,105,110,107,101,100]with
 |true=>right;rw[aQv.1 i];decide
 |false=>left;rfl
variable {op:Int}
theorem HY(h:op=1\/op=2\/op=3\/op=4\/op=5\/op=6\/op=7\/op=8\/op=9):jk (lH op)=op:=by rcases h with rfl|rfl|rfl|rfl|rfl|rfl|rfl|rfl|rfl<;>decide
theorem aIT:jk []=0:=jI
def rd:Nat->LS->List aO->Bool×LS×List aO
 |0,w,q=>(false,w,q)
 |k+1,w,q=>
  bif jk (wordAt w 0)==2||(jk (wordAt w 0)==8||jk (wordAt w 0)==9)then(true,(w.drop 1).drop 1,q++[(jk (wordAt w 0),0,0,wordAt (w.drop 1) 0,0,0,[],())])
  else bif jk (wordAt w 0)==3||jk (wordAt w 0)==4 then
   ((gZ (wordAt ((w.drop 1).drop 1) 0)).2,((w.drop 1).drop 1).drop 1,q++[(jk (wordAt w 0),0,0,wordAt (w.drop 1) 0,(gZ (wordAt ((w.drop 1).drop 1) 0)).1)])
  else bif jk (wordAt w 0)==5 then
   ((rd k (w.drop 1) q).1,(rd k (w.drop 1) q).2.1,(rd k (w.drop 1) q).2.2++[(5,((rd k (w.drop 1) q).2.2.length:Int)-1,0,[],0,0,[],())])
  else bif jk (wordAt w 0)==6||jk (wordAt w 0)==7 then
   (bif (rd k (w.drop 1) q).1 then
     ((rd k (rd k (w.drop 1) q).2.1 (rd k (w.drop 1) q).2.2).1,(rd k (rd k (w.drop 1) q).2.1 (rd k (w.drop 1) q).2.2).2.1,
       (rd k (rd k (w.drop 1) q).2.1 (rd k (w.drop 1) q).2.2).2.2++[(jk (wordAt w 0),((rd k (w.drop 1) q).2.2.length:Int)-1,((rd k (rd k (w.drop 1) q).2.1 (rd k (w.drop 1) q).2.2).2.2.length:Int)-1,[],0,0,[],())])
   else(false,(rd k (w.drop 1) q).2.1,(rd k (w.drop 1) q).2.2++[(jk (wordAt w 0),((rd k (w.drop 1) q).2.2.length:Int)-1,((rd k (w.drop 1) q).2.2.length:Int)-1,[],0,0,[],())]))
  else(!(jk (wordAt w 0)==0),w.drop 1,q++[(jk (wordAt w 0),0,0,[],0,0,[],())])
theorem af4(i:Int)(h:0<=i):wordAt [] i=[]:=ER oQ
theorem jm(x:Bytes×Unit)(w:LS):wordAt (x::w) 0=x.1:=by
 grind [EP]
theorem aDc(h:jk (wordAt w 0)≠0):∃r,w=(lH (jk (wordAt w 0)),())::r/\w.drop 1=r:=by
 cases w with
 |nil=>grind [af4,aIT]
 |cons x r=>
  grind [TU,jm]
variable {v:ET}
theorem aE0(h:gy v.1 v.2.1 v.2.2.1=true)(l:v.1≠0):(∃n,v=(1,n,[],())/\0<=n/\n<=999)\/∃s,v=(2,0,s,())/\dU s=true:=by
 grind [gy]
theorem aE1{s:Bytes}(h:dU s=true):∃b r,s=b::r/\97<=b.toNat:=by
 unfold dU at h;cases s with
 |nil=>grind
 |cons b r=>
  grind [lower]
theorem ayx{s:Bytes}(h:dU s=true):lD s=false/\(s==[45])=false:=by
 obtain⟨b,r,rfl,U⟩:=aE1 h;refine⟨?_,?_⟩
 · grind [adR]
 .rw[aQl];intro e
  simp_all
theorem anI:lD []=false:=by
 cases h:lD []with
 |false=>rfl
 |true=>obtain⟨a,b⟩:=xw h;exact((atu b).1 a).elim
theorem ab8(h:gy v.1 v.2.1 v.2.2.1=true)(l:v.1≠0):gZ (iI v)=(v,true):=by
 grind [iI,aE0,gZ,jc,Fa,ayx]
theorem anJ{s:Bytes}(h:gy (gZ s).1.1 (gZ s).1.2.1 (gZ s).1.2.2.1=true)(l:(gZ s).1.1≠0):(gZ s).2=true/\iI (gZ s).1=s:=by
 grind [iI,gZ,xw]
theorem awf{s:Bytes}(h:iw s=true):s≠[]:=by rintro rfl;exact absurd h jI
theorem aBb{s:Bytes}(h:dU s=true):s≠[]:=by rintro rfl;exact absurd h jI
theorem Fb{n:aO}{a:Int}(h:iM n a=true)(o:n.1=1\/n.1=2\/n.1=3\/n.1=4\/n.1=8\/n.1=9):
 n=(1,0,0,[],0,0,[],())\/(∃op s,n=(op,0,0,s,0,0,[],())/\(op=2\/op=8\/op=9)/\s≠[])\/
 ∃op s v,n=(op,0,0,s,v)/\(op=3\/op=4)/\s≠[]/\gy v.1 v.2.1 v.2.2.1=true/\v.1≠0:=by
 obtain⟨op,l,r,s,k,m,t,⟨⟩⟩:=n;rcases o with rfl|rfl|rfl|rfl|rfl|rfl
 .left;have h:((l==0&&r==0)&&(s==[]&&(k==0&&(m==0&&t==[]))))=true:=h
  grind
 .right;left;have h:((l==0&&r==0)&&(k==0&&(m==0&&t==[]))&&iw s)=true:=h
  grind [awf]
 .right;right;have h:((l==0&&r==0)&&iw s&&gy k m t&&!(k==0))=true:=h
  grind [awf]
 .right;right;have h:((l==0&&r==0)&&iw s&&gy k m t&&k==1)=true:=h
  grind [awf]
 .right;left;have h:((l==0&&r==0)&&(k==0&&(m==0&&t==[]))&&dU s)=true:=h
  grind [aBb]
 .right;left;have h:((l==0&&r==0)&&(k==0&&(m==0&&t==[]))&&dU s)=true:=h
  grind [aBb]
theorem VN(h:wordAt w 0≠[]):w=(wordAt w 0,())::w.drop 1:=by
 cases w with
 |nil=>grind [af4]
 |cons x r=>grind [jm]
theorem ak9:∀(k:Nat)(w:LS)(q:List aO),(rd k w q).1=true->∃t,DW t/\(rd k w q).2.2=q++post t q.length/\(Ib t->w=ls (cu t)++(rd k w q).2.1)
 |0,w,q,h=>o5
 |k+1,w,q,h=>by
  by_cases l:jk (wordAt w 0)=0
  · grind [rd]
  obtain⟨r,e,z⟩:=aDc l;rcases TU (wordAt w 0)with c|⟨c,_⟩
  .omega
  rw[rd]at h ⊢;rw[z]at h ⊢;generalize jk (wordAt w 0)=op at h c e l ⊢;have j:op=2\/op=8\/op=9->∃t,DW t/\q++[(op,0,0,wordAt r 0,0,0,[],())]=q++post t q.length/\(Ib t->w=ls (cu t)++r.drop 1):=λc=>by
   refine⟨.leaf (op,0,0,wordAt r 0,0,0,[],()),?_,rfl,λa=>?_⟩
   .show op=1\/op=2\/op=3\/op=4\/op=8\/op=9;omega
   .have hn:wordAt r 0≠[]:=by
     rcases Fb a fC with x|⟨_,s,x,_,hs⟩|⟨op',s,v,x,hop,_⟩
     · grind
     · grind
     grind
    rw[e,VN hn];have U:(op==2||(op==8||op==9))=true:=by rcases c with rfl|rfl|rfl<;>rfl
    show _=ls (lH op::(bif op==2||(op==8||op==9)then[wordAt ((wordAt r 0,())::r.drop 1) 0]else _))++_;rw[U,jm];rfl
  have o:op=3\/op=4->∃t,DW t/\q++[(op,0,0,wordAt r 0,(gZ (wordAt (r.drop 1) 0)).1)]=q++post t q.length/\(Ib t->w=ls (cu t)++(r.drop 1).drop 1):=λc=>by
   refine⟨.leaf (op,0,0,wordAt r 0,(gZ (wordAt (r.drop 1) 0)).1),?_,rfl,λa=>?_⟩
   .show op=1\/op=2\/op=3\/op=4\/op=8\/op=9;omega
   .have hn:wordAt r 0≠[]/\(gZ (wordAt (r.drop 1) 0)).2=true/\iI (gZ (wordAt (r.drop 1) 0)).1=wordAt (r.drop 1) 0:=by
     rcases Fb a fC with x|⟨op',s,x,hop,hs⟩|⟨op',s,v,x,hop,hs,hv,h1⟩
     · grind
     · grind
     grind [anJ]
    have D:wordAt (r.drop 1) 0≠[]:=λJ=>by
     have:(gZ []).2=false:=by unfold gZ;rw[anI];rfl
     grind
    have U:(op==2||(op==8||op==9))=false:=aaP;have b:(op==3||op==4)=true:=aaP;have A:r=(wordAt r 0,())::(wordAt (r.drop 1) 0,())::(r.drop 1).drop 1:=by
     grind [VN]
    show _=ls (lH op::(bif op==2||(op==8||op==9)then _ else bif op==3||op==4 then[wordAt r 0,iI (gZ (wordAt (r.drop 1) 0)).1]else _))++_;rw[U,b,hn.2.2];exact e.trans (congrArg _ A)
  have u:(op=6\/op=7)->(rd k r q).1=true->(rd k (rd k r q).2.1 (rd k r q).2.2).1=true->∃t,DW t/\(rd k (rd k r q).2.1 (rd k r q).2.2).2.2++[(op,((rd k r q).2.2.length:Int)-1,((rd k (rd k r q).2.1 (rd k r q).2.2).2.2.length:Int)-1,[],0,0,[],())]=q++post t q.length/\(Ib t->w=ls (cu t)++(rd k (rd k r q).2.1 (rd k r q).2.2).2.1):=λc B C=>by
   obtain⟨x,T,H,i⟩:=ak9 k r q B;obtain⟨y,I,L,M⟩:=ak9 k _ _ C;have F:(rd k r q).2.2.length=q.length+x.size:=ZP;have K:(rd k (rd k r q).2.1 (rd k r q).2.2).2.2.length=q.length+x.size+y.size:=ZP;refine⟨.two op x y,⟨c,T,I⟩,?_,λa=>?_⟩
   · grind [post]
   grind [Ib,ls,cu]
  rcases c with rfl|rfl|rfl|rfl|rfl|rfl|rfl|rfl|rfl
  .refine⟨.leaf (1,0,0,[],0,0,[],()),.inl rfl,rfl,λ_=>?_⟩;rw[e];rfl
  · grind
  · grind
  · grind
  .obtain⟨x,T,H,i⟩:=ak9 k r q h;have F:(rd k r q).2.2.length=q.length+x.size:=ZP;refine⟨.neg x,T,?_,λa=>?_⟩
   · grind [post]
   .rw[e];exact congrArg _ (i a)
  · grind
  · grind
  · grind
  grind
theorem aL9(k:Nat)(r:LS)(q:List aO):rd (k+1) ((lH 1,())::r) q=(true,r,q++[(1,0,0,[],0,0,[],())]):=by
 simp_all [rd,jm,HY]
theorem aKW(c:op=2\/op=8\/op=9)(k:Nat)(r:LS)(q:List aO):rd (k+1) ((lH op,())::r) q=(true,r.drop 1,q++[(op,0,0,wordAt r 0,0,0,[],())]):=by
 grind [rd,jm,HY]
theorem rd_val(c:op=3\/op=4)(k:Nat)(r:LS)(q:List aO):rd (k+1) ((lH op,())::r) q=((gZ (wordAt (r.drop 1) 0)).2,(r.drop 1).drop 1,q++[(op,0,0,wordAt r 0,(gZ (wordAt (r.drop 1) 0)).1)]):=by
 grind [rd,jm,HY]
theorem rd_not(k:Nat)(r:LS)(q:List aO):rd (k+1) ((lH 5,())::r) q=((rd k r q).1,(rd k r q).2.1,(rd k r q).2.2++[(5,((rd k r q).2.2.length:Int)-1,0,[],0,0,[],())]):=by
 grind [rd,jm,HY]
theorem aMa(c:op=6\/op=7)(k:Nat)(r:LS)(q:List aO)(h:(rd k r q).1=true):rd (k+1) ((lH op,())::r) q=
 ((rd k (rd k r q).2.1 (rd k r q).2.2).1,(rd k (rd k r q).2.1 (rd k r q).2.2).2.1,(rd k (rd k r q).2.1 (rd k r q).2.2).2.2++[(op,((rd k r q).2.2.length:Int)-1,((rd k (rd k r q).2.1 (rd k r q).2.2).2.2.length:Int)-1,[],0,0,[],())]):=by
 grind [rd,jm,HY]
theorem aBd(x:Bytes)(a b:List Bytes)(r:LS):ls (x::(a++b))++r=(x,())::(ls a++(ls b++r)):=by
 grind [ls]
theorem NS{s:Bytes}(c:op=2\/op=8\/op=9):nH (op,0,0,s,0,0,[],())=[lH op,s]:=by rcases c with rfl|rfl|rfl<;>rfl
theorem Q8{s:Bytes}(c:op=3\/op=4):nH (op,0,0,s,v)=[lH op,s,iI v]:=aaP
theorem ZH:∀(t:QT)(k:Nat)(i:LS)(q:List aO),DW t->Ib t->(ls (cu t)++i).length<k->rd k (ls (cu t)++i) q=(true,i,q++post t q.length)
 |_,0,_,_,_,_,h=>absurd h (aRd _)
 |.leaf n,k+1,i,q,hw,ho,_=>by
  rcases Fb ho hw with rfl|⟨op,s,rfl,c,Y⟩|⟨op,s,v,rfl,c,Y,e,l⟩
  .exact aL9 k i q
  .show rd (k+1) (ls (nH _)++i) q=_;rw[NS c];show rd (k+1) ((lH op,())::(s,())::i) q=_;rw[aKW c,jm];rfl
  .show rd (k+1) (ls (nH _)++i) q=_;rw[Q8 c];show rd (k+1) ((lH op,())::(s,())::(iI v,())::i) q=_;rw[rd_val c,jm];show((gZ (wordAt ((iI v,())::i) 0)).2,i,q++[(op,0,0,s,(gZ (wordAt ((iI v,())::i) 0)).1)])=_;rw[jm,ab8 e l];rfl
 |.neg t,k+1,i,q,hw,ho,h=>by
  have h:((lH 5,())::(ls (cu t)++i)).length<k+1:=h;rw[aQz]at h;show rd (k+1) ((lH 5,())::(ls (cu t)++i)) q=_;rw[rd_not,ZH t k i q hw ho fC];show(true,i,(q++post t q.length)++[(5,((q++post t q.length).length:Int)-1,0,[],0,0,[],())])=(true,i,q++(post t q.length++[_]));rw[aQu,jd,aQL]
 |.two op x y,k+1,i,q,⟨c,w1,w2⟩,⟨o1,o2⟩,h=>by show rd (k+1) (ls (lH op::(cu x++cu y))++i) q=_;have h:(ls (lH op::(cu x++cu y))++i).length<k+1:=h;rw[aBd]at h ⊢;rw[aQz]at h;have a:=ZH x k (ls (cu y)++i) q w1 o1 fC;rw[aQu]at h;have b:=ZH y k i (q++post x q.length) w2 o2 fC;rw[aMa c k _ q (by rw[a]),a,b];show(true,i,((q++post x q.length)++post y (q++post x q.length).length)++[(op,((q++post x q.length).length:Int)-1,(((q++post x q.length)++post y (q++post x q.length).length).length:Int)-1,[],0,0,[],())])=(true,i,q++(post x q.length++(post y (q.length+x.size)++[_])));rw[aQu,aQu,jd,jd,aQu,jd,aQL,aQL]
def rs:Nat->LS->List aO->List aO×Int
 |0,_,q=>(q,0)
 |d+1,w,q=>
  bif jk (wordAt w 0)==0||decide ((q.length:Int)>9)then(q,0)
  else bif jk (wordAt w 0)==2||(jk (wordAt w 0)==8||jk (wordAt w 0)==9)then(q++[(jk (wordAt w 0),0,0,wordAt w 1,0,0,[],())],2)
  else bif jk (wordAt w 0)==3||jk (wordAt w 0)==4 then(q++[(jk (wordAt w 0),0,0,wordAt w 1,(gZ (wordAt w 2)).1)],3)
  else bif jk (wordAt w 0)==5||(jk (wordAt w 0)==6||jk (wordAt w 0)==7)then
   (bif (rs d (w.drop 1) q).2==0 then((rs d (w.drop 1) q).1,0)
   else bif jk (wordAt w 0)==5 then((rs d (w.drop 1) q).1++[(5,((rs d (w.drop 1) q).1.length:Int)-1,0,[],0,0,[],())],1+(rs d (w.drop 1) q).2)
   else bif (rs d (w.drop (1+(rs d (w.drop 1) q).2).toNat) (rs d (w.drop 1) q).1).2==0 then((rs d (w.drop (1+(rs d (w.drop 1) q).2).toNat) (rs d (w.drop 1) q).1).1,0)
   else((rs d (w.drop (1+(rs d (w.drop 1) q).2).toNat) (rs d (w.drop 1) q).1).1++[(jk (wordAt w 0),((rs d (w.drop 1) q).1.length:Int)-1,((rs d (w.drop (1+(rs d (w.drop 1) q).2).toNat) (rs d (w.drop 1) q).1).1.length:Int)-1,[],0,0,[],())],
    1+(rs d (w.drop 1) q).2+(rs d (w.drop (1+(rs d (w.drop 1) q).2).toNat) (rs d (w.drop 1) q).1).2))
  else(q++[(jk (wordAt w 0),0,0,[],0,0,[],())],1)
theorem Pg(x:Bytes×Unit)(r:LS)(i:Int)(h:0<=i):wordAt (x::r) (i+1)=wordAt r i:=by
 grind [EP,ER]
theorem atv(x:Bytes×Unit)(r:LS):wordAt (x::r) 2=wordAt (r.drop 1) 0:=by
 rw[show(2:Int)=1+1 from rfl,Pg x r 1 jI];cases r with
 |nil=>grind [af4]
 |cons y r=>rw[show(1:Int)=0+1 from rfl,Pg y r 0 jI];rfl
theorem Yk(x:Bytes×Unit)(r:LS):wordAt (x::r) 1=wordAt r 0:=Pg x r 0 jI
theorem af5:∀(t:QT)(d:Nat)(i:LS)(q:List aO),DW t->Ib t->t.size<=d->q.length+t.size<=10->rs d (ls (cu t)++i) q=(q++post t q.length,((cu t).length:Int))
 |t,0,_,_,_,_,h,_=>absurd (size_pos t) fC
 |.leaf n,d+1,i,q,hw,ho,_,u=>by
  have F:q.length+1<=10:=u;have o:decide ((q.length:Int)>9)=false:=aQH fC;rcases Fb ho hw with rfl|⟨op,s,rfl,c,Y⟩|⟨op,s,v,rfl,c,Y,H,l⟩
  .show rs (d+1) ((lH 1,())::i) q=_;rw[rs,jm,HY (.inl rfl),o];rfl
  .show rs (d+1) (ls (nH _)++i) q=(_,((nH _).length:Int));rw[NS c];show rs (d+1) ((lH op,())::(s,())::i) q=_;rw[rs,Yk,jm,jm,HY fC,o];rcases c with rfl|rfl|rfl<;>rfl
  .show rs (d+1) (ls (nH _)++i) q=(_,((nH _).length:Int));rw[Q8 c];show rs (d+1) ((lH op,())::(s,())::(iI v,())::i) q=_;rw[rs,Yk,atv,jm,jm,HY fC,o];have e:wordAt (List.drop 1 ((s,())::(iI v,())::i)) 0=iI v:=jm _ _;rw[e,ab8 H l];rcases c with rfl|rfl<;>rfl
 |.neg t,d+1,i,q,hw,ho,z,u=>by
  have z:t.size+1<=d+1:=z;have u:q.length+(t.size+1)<=10:=u;have j:decide ((q.length:Int)>9)=false:=aQH fC;have e:=af5 t d i q hw ho fC fC;have W:0<(cu t).length:=by
   cases t with
   |leaf n=>exact aRO _
   |neg t=>exact aRO _
   |two op a b=>exact aRO _
  show rs (d+1) ((lH 5,())::(ls (cu t)++i)) q=_;rw[rs,jm,HY (.inr (.inr (.inr (.inr (.inl rfl))))),j];rw[show List.drop 1 ((lH 5,())::(ls (cu t)++i))=ls (cu t)++i from rfl,e];rw[show(((cu t).length:Int)==0)=false from aQl.2 fC];show((q++post t q.length)++[(5,((q++post t q.length).length:Int)-1,0,[],0,0,[],())],1+((cu t).length:Int))=(q++(post t q.length++[_]),(((cu t).length+1:Nat):Int));rw[aQu,jd,aQL,show(1+((cu t).length:Int))=(((cu t).length+1:Nat):Int)from fC]
 |.two op x y,d+1,i,q,⟨c,w1,w2⟩,⟨o1,o2⟩,z,u=>by
  have z:x.size+y.size+1<=d+1:=z;have u:q.length+(x.size+y.size+1)<=10:=u;have j:decide ((q.length:Int)>9)=false:=aQH fC;have A:∀t:QT,0<(cu t).length:=λt=>by
   cases t with
   |leaf n=>exact aRO _
   |neg t=>exact aRO _
   |two op a b=>exact aRO _
  have I:=A x;have J:=A y;have B:=af5 x d (ls (cu y)++i) q w1 o1 fC fC;have C:=af5 y d i (q++post x q.length) w2 o2 fC ZP;show rs (d+1) (ls (lH op::(cu x++cu y))++i) q=_;rw[aBd,rs,jm,HY fC,j];rw[show List.drop 1 ((lH op,())::(ls (cu x)++(ls (cu y)++i)))=ls (cu x)++(ls (cu y)++i)from rfl,B];have D:List.drop (1+((cu x).length:Int)).toNat ((lH op,())::(ls (cu x)++(ls (cu y)++i)))=ls (cu y)++i:=by
   grind [ls]
  rw[D,C];rw[show(((cu x).length:Int)==0)=false from aQl.2 fC,show(((cu y).length:Int)==0)=false from aQl.2 fC];have fin:((q++post x q.length)++post y (q++post x q.length).length++[(op,((q++post x q.length).length:Int)-1,((q++post x q.length++post y (q++post x q.length).length).length:Int)-1,[],0,0,[],())],1+((cu x).length:Int)+((cu y).length:Int))=(q++post (.two op x y) q.length,((cu (.two op x y)).length:Int)):=by
   show _=(q++(post x q.length++(post y (q.length+x.size)++[_])),((lH op::(cu x++cu y)).length:Int));rw[aQu,aQu,jd,jd,aQu,jd,aQL,aQL,aQz,aQu]
   grind
  rcases c with rfl|rfl<;>exact fin
theorem aCs{r:LS}(c:op=2\/op=8\/op=9)(a:iM (op,0,0,wordAt r 0,0,0,[],()) 0=true):
 (lH op,())::r=ls (nH (op,0,0,wordAt r 0,0,0,[],()))++r.drop 1:=by
 have H:wordAt r 0≠[]:=by
  rcases Fb a fC with x|⟨_,s,x,_,hs⟩|⟨op',s,v,x,hop,_⟩
  · grind
  · grind
  grind
 rw[NS c];exact congrArg _ (VN H)
theorem aCt{r:LS}(c:op=3\/op=4)(a:iM (op,0,0,wordAt r 0,(gZ (wordAt (r.drop 1) 0)).1) 0=true):
 (lH op,())::r=ls (nH (op,0,0,wordAt r 0,(gZ (wordAt (r.drop 1) 0)).1))++(r.drop 1).drop 1:=by
 have H:wordAt r 0≠[]/\(gZ (wordAt (r.drop 1) 0)).2=true/\iI (gZ (wordAt (r.drop 1) 0)).1=wordAt (r.drop 1) 0:=by
  rcases Fb a fC with x|⟨op',s,x,hop,hs⟩|⟨op',s,v,x,hop,hs,hv,h1⟩
  · grind
  · grind
  grind [anJ]
 have e:wordAt (r.drop 1) 0≠[]:=λh=>by
  have:(gZ []).2=false:=by unfold gZ;rw[anI];rfl
  grind
 have b:r=(wordAt r 0,())::(wordAt (r.drop 1) 0,())::(r.drop 1).drop 1:=by
  grind [VN]
 rw[Q8 c,H.2.2];exact congrArg _ b
theorem ala:∀(d:Nat)(w:LS)(q:List aO),(rs d w q).2≠0->∃t,DW t/\(rs d w q).1=q++post t q.length/\0<(rs d w q).2/\(Ib t->∃i,w=ls (cu t)++i/\(rs d w q).2=((cu t).length:Int))
 |0,w,q,h=>(h rfl).elim
 |d+1,w,q,h=>by
  by_cases l:jk (wordAt w 0)=0
  · grind [rs]
  obtain⟨r,e,C⟩:=aDc l;rcases TU (wordAt w 0)with c|⟨c,_⟩
  .omega
  have J:wordAt w 1=wordAt r 0:=by grind [Yk]
  have K:wordAt w 2=wordAt (r.drop 1) 0:=by grind [atv]
  rw[rs]at h ⊢;rw[C,J,K]at h ⊢;generalize jk (wordAt w 0)=op at h c e l ⊢;cases u:decide ((q.length:Int)>9)with
  |true=>grind
  |false=>
  rw[u,show(op==0)=false from aQl.2 l]at h;have z:op=2\/op=8\/op=9->∃t,DW t/\q++[(op,0,0,wordAt r 0,0,0,[],())]=q++post t q.length/\(0:Int)<2/\(Ib t->∃i,w=ls (cu t)++i/\(2:Int)=((cu t).length:Int)):=λc=>
   ⟨.leaf (op,0,0,wordAt r 0,0,0,[],()),(show op=1\/op=2\/op=3\/op=4\/op=8\/op=9 from fC),rfl,jI,λa=>⟨r.drop 1,e.trans (aCs c a),by show _=((nH _).length:Int);rw[NS c];rfl⟩⟩
  have A:op=3\/op=4->∃t,DW t/\q++[(op,0,0,wordAt r 0,(gZ (wordAt (r.drop 1) 0)).1)]=q++post t q.length/\(0:Int)<3/\(Ib t->∃i,w=ls (cu t)++i/\(3:Int)=((cu t).length:Int)):=λc=>
   ⟨.leaf (op,0,0,wordAt r 0,(gZ (wordAt (r.drop 1) 0)).1),(show op=1\/op=2\/op=3\/op=4\/op=8\/op=9 from fC),rfl,jI,λa=>⟨(r.drop 1).drop 1,e.trans (aCt c a),by show _=((nH _).length:Int);rw[Q8 c];rfl⟩⟩
  have B:(op=6\/op=7)->(rs d r q).2≠0->(rs d (w.drop (1+(rs d r q).2).toNat) (rs d r q).1).2≠0->
   ∃t,DW t/\(rs d (w.drop (1+(rs d r q).2).toNat) (rs d r q).1).1++[(op,((rs d r q).1.length:Int)-1,((rs d (w.drop (1+(rs d r q).2).toNat) (rs d r q).1).1.length:Int)-1,[],0,0,[],())]=q++post t q.length/\
    0<1+(rs d r q).2+(rs d (w.drop (1+(rs d r q).2).toNat) (rs d r q).1).2/\(Ib t->∃i,w=ls (cu t)++i/\1+(rs d r q).2+(rs d (w.drop (1+(rs d r q).2).toNat) (rs d r q).1).2=((cu t).length:Int)):=λc D b=>by
   obtain⟨x,T,L,M,o⟩:=ala d r q D;obtain⟨y,N,W,X,O⟩:=ala d _ _ b;have F:(rs d r q).1.length=q.length+x.size:=ZP;have Q:(rs d (w.drop (1+(rs d r q).2).toNat) (rs d r q).1).1.length=q.length+x.size+y.size:=ZP;refine⟨.two op x y,⟨c,T,N⟩,?_,fC,λa=>?_⟩
   · grind [post]
   .obtain⟨t1,t2⟩:Ib x/\Ib y:=a;obtain⟨j,s,H⟩:=o t1;obtain⟨I,S,U⟩:=O t2;have P:w.drop (1+(rs d r q).2).toNat=j:=by
     grind [ls]
    refine⟨I,?_,?_⟩
    · grind [cu,aBd]
    grind [cu]
  rcases c with rfl|rfl|rfl|rfl|rfl|rfl|rfl|rfl|rfl
  .refine⟨.leaf (1,0,0,[],0,0,[],()),.inl rfl,rfl,jv,λ_=>⟨r,e,rfl⟩⟩
  · grind
  · grind
  · grind
  .have h:(bif (rs d r q).2==0 then((rs d r q).1,0)else(_,1+(rs d r q).2):List aO×Int).2≠0:=h;cases g:(rs d r q).2==0 with
   |true=>grind
   |false=>
    obtain⟨x,T,L,M,o⟩:=ala d r q (aQl.1 g);have F:(rs d r q).1.length=q.length+x.size:=ZP;refine⟨.neg x,T,?_,?_,λa=>?_⟩
    · grind [post]
    · grind
    .obtain⟨j,s,H⟩:=o a;refine⟨j,e.trans (congrArg _ s),?_⟩
     grind [cu]
  .have h:(bif (rs d r q).2==0 then((rs d r q).1,0)else bif (rs d (w.drop (1+(rs d r q).2).toNat) (rs d r q).1).2==0 then(_,0)else(_,_):List aO×Int).2≠0:=h;cases g:(rs d r q).2==0 with
   |true=>grind
   |false=>
    rw[g]at h;cases b:(rs d (w.drop (1+(rs d r q).2).toNat) (rs d r q).1).2==0 with
    |true=>grind
    |false=>grind
  .have h:(bif (rs d r q).2==0 then((rs d r q).1,0)else bif (rs d (w.drop (1+(rs d r q).2).toNat) (rs d r q).1).2==0 then(_,0)else(_,_):List aO×Int).2≠0:=h;cases g:(rs d r q).2==0 with
   |true=>grind
   |false=>
    rw[g]at h;cases b:(rs d (w.drop (1+(rs d r q).2).toNat) (rs d r q).1).2==0 with
    |true=>grind
    |false=>grind
  · grind
  grind
def jf:Nat->List aO->Int->List Bytes
 |0,_,_=>[]
 |k+1,q,i=>
  bif (nodeAt q i.toNat).1==5 then lH (nodeAt q i.toNat).1::jf k q (nodeAt q i.toNat).2.1
  else bif (nodeAt q i.toNat).1==6||(nodeAt q i.toNat).1==7 then lH (nodeAt q i.toNat).1::(jf k q (nodeAt q i.toNat).2.1++jf k q (nodeAt q i.toNat).2.2.1)
  else nH (nodeAt q i.toNat)
def textOf(q:List aO):Bytes:=bif aN q then Lib.join (jf 9 q ((q.length:Int)-1)) [32]else[]
theorem NT(l r:List aO)(n:aO):nodeAt (l++(n::r)) l.length=n:=by
 grind [nodeAt]
theorem abg:∀(t:QT)(k:Nat)(l r:List aO),DW t->t.size<=k->jf k (l++(post t l.length++r)) (((l.length+t.size:Nat):Int)-1)=cu t
 |t,0,_,_,_,h=>absurd (size_pos t) fC
 |.leaf n,k+1,l,r,o,_=>by
  have o:n.1=1\/n.1=2\/n.1=3\/n.1=4\/n.1=8\/n.1=9:=o;show jf (k+1) (l++(n::r)) (((l.length+1:Nat):Int)-1)=nH n
  grind [jf,NT]
 |.neg t,k+1,l,r,o,j=>by
  have j:t.size+1<=k+1:=j;have s:=abg t k l ((5,((l.length+t.size:Nat):Int)-1,0,[],0,0,[],())::r) o fC;have e:l++(post (.neg t) l.length++r)=l++(post t l.length++(((5,((l.length+t.size:Nat):Int)-1,0,[],0,0,[],()):aO)::r)):=by
   grind [post]
  have a:nodeAt (l++(post (.neg t) l.length++r)) (l.length+t.size)=(5,((l.length+t.size:Nat):Int)-1,0,[],0,0,[],()):=by
   grind [jd,NT]
  rw[jf,show((((l.length+(QT.neg t).size:Nat):Int)-1).toNat)=l.length+t.size by show(((l.length+(t.size+1):Nat):Int)-1).toNat=_;omega,a,e]
  grind [cu]
 |.two op x y,k+1,l,r,⟨c,w1,w2⟩,j=>by
  have j:x.size+y.size+1<=k+1:=j;generalize H:((op,((l.length+x.size:Nat):Int)-1,((l.length+x.size+y.size:Nat):Int)-1,[],0,0,[],()):aO)=N;have e:l++(post (.two op x y) l.length++r)=l++(post x l.length++(post y (l.length+x.size)++(N::r))):=by
   grind [post]
  have i:=abg x k l (post y (l.length+x.size)++(N::r)) w1 fC;have b:=abg y k (l++post x l.length) (N::r) w2 fC;rw[aQu,jd,aQL]at b;have a:nodeAt (l++(post (.two op x y) l.length++r)) (l.length+x.size+y.size)=N:=by
   grind [jd,NT]
  rw[jf,show((((l.length+(QT.two op x y).size:Nat):Int)-1).toNat)=l.length+x.size+y.size by show(((l.length+(x.size+y.size+1):Nat):Int)-1).toNat=_;omega,a,e];subst H;rw[i,b];rcases c with rfl|rfl<;>rfl
theorem VO{n:aO}(a:Int)(o:n.1=1\/n.1=2\/n.1=3\/n.1=4\/n.1=8\/n.1=9):iM n a=iM n 0:=by obtain⟨op,l,r,s,v⟩:=n;rcases o with rfl|rfl|rfl|rfl|rfl|rfl<;>rfl
theorem atw:∀(t:QT)(b:Nat),DW t->(∀n∈post t b,∃a,iM n a=true)->Ib t
 |.leaf n,_,hw,h=>by
  obtain⟨a,e⟩:=h n aQr;show iM n 0=true;rw[← VO a hw];exact e
 |.neg t,b,hw,h=>atw t b hw λn H=>h n (aQ0 _ H)
 |.two op x y,b,⟨_,w1,w2⟩,h=>⟨atw x b w1 λn H=>h n (aQ0 _ H),atw y _ w2 λn H=>h n (aRm _ (aQ0 _ H))⟩
variable {t:QT}
theorem Yu(o:DW t)(h:aN (post t 0)=true):Ib t/\t.size<=9:=by
 refine⟨atw t 0 o λn H=>?_,by grind [jF,jd]⟩;obtain⟨i,D,e⟩:=aQQ H;have:=(nT h D).1
 grind [nodeAt]
theorem aBe:∀t:QT,∃x r,cu t=x::r/\x≠[]
 |.leaf n=>⟨_,_,rfl,aE2 _⟩
 |.neg t=>⟨_,_,rfl,aE2 _⟩
 |.two op x y=>⟨_,_,rfl,aE2 _⟩
where aE2 (op:Int):lH op≠[]:=by
       grind [lH]
theorem axt(o:DW t)(h:aN (post t 0)=true):textOf (post t 0)=Lib.join (cu t) [32]/\textOf (post t 0)≠[]:=by
 obtain⟨_,Y⟩:=Yu o h;have e:textOf (post t 0)=Lib.join (cu t) [32]:=by
  unfold textOf;rw[h,jd];have:=abg t 9 [] [] o Y
  grind
 obtain⟨x,r,a,Z⟩:=aBe t;rw[e,a,Lib.join_cons]
 simp_all
def Yl(w:LS):Bool×LS×List aO:=rd (w.length+1) w []
def uV(s:Bytes):Bool:=sJ s&&((Yl (wordsOf s)).1&&(!decide (((Yl (wordsOf s)).2.1.length:Int)>0)&&aN (Yl (wordsOf s)).2.2))
def mZ(s:Bytes):List aO:=bif uV s then(Yl (wordsOf s)).2.2 else[]
def ak6(s:Bytes):Bool:=sJ s&&((rs 10 (wordsOf s) []).2==((wordsOf s).length:Int)&&(!(textOf (rs 10 (wordsOf s) []).1==[])&&textOf (rs 10 (wordsOf s) []).1==mY (wordsOf s)))
theorem aHa(w:List Bytes):(ls w).map (·.1)=w:=by unfold ls;rw[aRX];exact List.map_id' w
theorem af6(s:Bytes):uV s=true↔sJ s=true/\∃t,DW t/\aN (post t 0)=true/\wordsOf s=ls (cu t):=by
 unfold uV;rw[aQm,aQm,aQm,aRS,aQP];refine aRG λ_=>⟨λ⟨C,O,K⟩=>?_,λ⟨t,o,u,e⟩=>?_⟩
 · grind [ak9,Yl,List.length_eq_zero_iff,Yu]
 .have e1:=ZH t ((wordsOf s).length+1) [] [] o (Yu o u).1 jv
  grind [Yl]
theorem aBf{s:Bytes}(o:DW t)(u:aN (post t 0)=true)(e:wordsOf s=ls (cu t)):Yl (wordsOf s)=(true,[],post t 0):=by have a:=ZH t ((wordsOf s).length+1) [] [] o (Yu o u).1 jv;rw[aQY,← e]at a;exact a
theorem aJQ{s:Bytes}(o:DW t)(u:aN (post t 0)=true)(e:wordsOf s=ls (cu t)):rs 10 (wordsOf s) []=(post t 0,((wordsOf s).length:Int)):=by
 obtain⟨z,Y⟩:=Yu o u;have a:=af5 t 10 [] [] o z fC jv
 grind [ls]
theorem as9(s:Bytes):ak6 s=uV s:=by
 rw[aRJ,af6];unfold ak6;rw[aQm,aQm,aQm,aRS,aQv,aQv,aQl];refine aRG λ_=>⟨λ⟨C,O,K⟩=>?_,λ⟨t,o,u,e⟩=>?_⟩
 .have u:aN (rs 10 (wordsOf s) []).1=true:=by
   grind [textOf]
  by_cases l:(rs 10 (wordsOf s) []).2=0
  .have:wordsOf s=[]:=aQ1.1 fC;rw[this]at u;exact absurd u jI
  obtain⟨t,o,e,j,h⟩:=ala _ _ _ l
  grind [Yu,ls,List.length_eq_zero_iff]
 grind [axt,aJQ,mY,aHa]
theorem afL{s:Bytes}(h:uV s=true):(rs 10 (wordsOf s) []).1=(Yl (wordsOf s)).2.2/\mZ s=(Yl (wordsOf s)).2.2/\aN (mZ s)=true:=by
 grind [af6,mZ,aJQ,aBf]
def aIU:Bytes:=[99,114,101,97,116,101]
def aIV:Bytes:=[117,112,100,97,116,101]
def aIW:Bytes:=[100,101,108,101,116,101]
def aIX:Bytes:=[100,101,102,105,110,101]
def aE3:Bytes:=[117,110,100,101,102,105,110,101]
def adS:Bytes->Bytes->LS
 |cur,[]=>[(cur,())]
 |cur,b::l=>bif b==10 then(cur,())::adS [] l else adS (cur++[b]) l
def fine(x:Bytes):Prop:=af2 x/\x.all yh=true
theorem WJ(h:jc n=true):fine (Lib.itoa n):=by
 refine⟨atu h,?_⟩
 grind [nM,NR]
theorem aDd:∀r:List Bytes,(∀x∈r,x.all yh=true)->(Lib.joinTail [32] r).all yh=true
 |[],_=>rfl
 |x::r,h=>by
  have e:Lib.joinTail [32] (x::r)=[32]++(x++Lib.joinTail [32] r):=by simp[Lib.joinTail]
  rw[e,List.all_append,List.all_append,h x aQr,aDd r λy F=>h y (aQo _ F)];decide
theorem aDe:∀a:List Bytes,(∀x∈a,x.all yh=true)->(Lib.join a [32]).all yh=true
 |[],_=>rfl
 |x::r,h=>by
  grind [Lib.join_cons,aDd]
variable {ws:List Bytes}
theorem atx(h:∀x∈ws,fine x)(W:(Lib.join ws [32]).length<=600)(N:ws.length<=24):sJ (Lib.join ws [32])=true/\wordsOf (Lib.join ws [32])=ws.map (·,()):=by have Y:∀x∈ws,af2 x:=λx Z=>(h x Z).1;refine⟨JV.2 ⟨W,aDe ws λx Z=>(h x Z).2,by grind [anG]⟩,aBa ws Y⟩
theorem ap4(h:jc n=true):(Lib.itoa n).length<=10:=(nM h).2.2.2.2
theorem Q9{l:List aH}{i:Nat}(D:i<l.length):dh l i∈l:=by
 grind [dh]
theorem alb{l:List aH}(F:y∈l):∃i,i<l.length/\dh l i=y:=by obtain⟨i,D,e⟩:=aQQ F;exact⟨i,D,by grind [dh]⟩
theorem Fe:dK d=true↔(∀x∈d,dU x.1=true/\aN x.2.1=true)/\(d.Pairwise λx y=>Op.bytesLess x.1 y.1=true)/\d.length<=5:=by
 have one:∀i,oz d i=true↔(dU (dh d i).1=true/\aN (dh d i).2.1=true)/\(0<i->Op.bytesLess (dh d (i-1)).1 (dh d i).1=true):=λi=>by
  grind [oz]
 unfold dK;rw[aQm,show(jG d.length (oz d)=true)↔∀i,i<d.length->oz d i=true from by
  grind [jG],aQF]
 constructor
 .rintro⟨h,hl⟩;refine⟨λx Z=>?_,?_,fC⟩
  · grind [alb]
  .exact ap2 (R:=λx y:aH=>Op.bytesLess x.1 y.1=true) (λa b c C O=>BI _ _ _ C O) ([],[],()) d λi D=>((one (i+1)).1 (h (i+1) D)).2 fC
 grind [dh,List.pairwise_iff_getElem]
def wX(d:List aH)(name:Bytes):List aH:=d.filter (yc name)
def removeDir(d:List aH)(name:Bytes):List aH×Bool:=bif dK d&&decide (0<=bn d name)then(wX d name,true)else(d,false)
theorem Vj:y∈wX d name↔y∈d/\y.1≠name:=by
 grind [wX,yc]
theorem anK(h:dK d=true)(name:Bytes):dK (wX d name)=true:=by obtain⟨C,O,K⟩:=Fe.1 h;exact Fe.2 ⟨λx Z=>C x (Vj.1 Z).1,aRI _ O,aQn (aQ2 _ _) K⟩
theorem anL(h:dK d=true)(F:y∈d):0<=bn d y.1/\(bn d y.1).toNat<d.length/\dh d (bn d y.1).toNat=y:=by
 obtain⟨i,D,rfl⟩:=alb F;have:=Yj h D
 grind [nameOf]
theorem Ld(h:aA d=true)(name:Bytes):aA (wX d name)=true:=by
 obtain⟨b,L,C⟩:=jH.1 h;have l:=anK b name;refine jH.2 ⟨l,λi=>L (bn d (nameOf (wX d name) i)).toNat,?_⟩;rintro⟨i,j,m⟩ he;obtain⟨D,s,O,K,x⟩:=H9.1 he;have F:=(Vj.1 (Q9 D)).1;obtain⟨_,B,J⟩:=anL b F;have M:=Pe K;have z:nameOf (wX d name) j=s:=by
  rcases yG (wX d name) s with⟨e,_⟩|⟨n,H,e,A,_⟩
  .omega
  .have:j=n:=fC;subst this;exact A
 have o:j<(wX d name).length:=fC;have I:=(Vj.1 (Q9 o)).1;obtain⟨u,_,_⟩:=anL b I;have a:(dh (wX d name) j).1=s:=z;rw[a]at u;have:=C ((bn d (nameOf (wX d name) i)).toNat,(bn d s).toNat,m) (H9.2 ⟨B,s,Vq,u,rfl⟩)
 grind
theorem aGH(z:dK d=true)
 (a:∀s,nm s=true↔Reach d (λt=>t=name) s)
 (C:gX fs d [] (λ_=>true) old) (O:gX fs (wX d name) old nm R) (K:gX fs (wX d name) [] (λ_=>true) E):R=E:=by
 have o:=anK z name;refine incr z o C O K (λi D u=>?_) λj l u=>?_
 .obtain⟨j,l,e⟩:=alb (Vj.1 (Q9 D)).1;refine⟨⟨j,l,Vq,by grind [fQ]⟩,λ_=>rfl,λb s Y=>?_⟩;rw[aRU];intro h;have x:s∈AX (fQ d j):=by unfold fQ;rw[e];exact aku Y
  have:nm (nameOf d j)=true:=(a _).2 (.step ((a s).1 h) l x)
  grind [nameOf]
 .have hne:(dh d j).1≠name:=λe=>by
   have:nm (nameOf d j)=true:=(a _).2 (.base e)
   grind
  obtain⟨i,D,e⟩:=alb (Vj.2 ⟨Q9 l,hne⟩);exact⟨i,D,Vq⟩
def qw(u:Int):Bool:=decide (0<=u)&&decide (u<=2)
def nG(x:eG):aG:=(x.2.1,x.2.2.1,x.2.2.2.1,x.2.2.2.2.1,x.2.2.2.2.2.1,())
def Xj(x:eG):Int:=x.2.2.2.2.2.2.1
def uh(x:eG):aH:=(x.2.2.2.2.2.2.2.1,x.2.2.2.2.2.2.2.2.1,())
def NQ(c:dF)(x:eG):bT:=
 bif x.1==1 then(bH (aQ c) (nG x)).1 else bif x.1==2 then(bU (aQ c) (nG x)).1 else bif x.1==3 then(dM (aQ c) (Xj x)).1 else aQ c
def MJ(c:dF)(x:eG):List aH:=bif x.1==4 then(iF (bF c) (uh x)).1 else bif x.1==5 then(removeDir (bF c) (uh x).1).1 else bF c
noncomputable def Le (c:dF) (u:Int) (x:eG):Bool:=
 bif x.1==1 then decide ((nG x).2.1=u)&&(bH (aQ c) (nG x)).2.2 else
 bif x.1==2 then(rP c u (nG x).1&&decide ((nG x).2.1=u))&&(bU (aQ c) (nG x)).2 else
 bif x.1==3 then rP c u (Xj x)&&(dM (aQ c) (Xj x)).2 else
 bif x.1==4 then(iF (bF c) (uh x)).2&&aA (iF (bF c) (uh x)).1 else
 bif x.1==5 then(removeDir (bF c) (uh x).1).2 else false
noncomputable def Zx (c:dF) (u:Int) (x:eG):Bool:=(qw u&&dn c)&&Le c u x
def applied(c:dF)(u:Int)(x:eG)(a:dF)(b:List pz)(e:Bool):Prop:=became c (NQ c x) (MJ c x) (Zx c u x) a b e
variable {u id:Int}
theorem aAM(h:rP c u id=true):(bI (aQ c) id).2=true/\(bI (aQ c) id).1.2.1=u:=by
 grind [rP,Az]
def Qa(f:aG):Int:=1+f.2.2.2.2.1.length
def pO(fs:List aG)(u:Int):Int:=((fs.filter λf=>decide (f.2.1=u)).map Qa).sum
def QJ(q:List (Int×Unit))(u:Int):Int:=bif decide (0<=u)&&decide (u<=(q.length:Int)-1)then(q.getD u.toNat (0,())).1 else 0
def wV(fs:List aG)(q:List (Int×Unit)):Bool:=decide (pO fs 0<=QJ q 0)&&(decide (pO fs 1<=QJ q 1)&&decide (pO fs 2<=QJ q 2))
def tC(x:eG):Prop:=(nG x).2.2.2.2.1.length<=400/\(uh x).2.1.length<=1000
def xZ(u:Int):dF->List eG->dF->Prop
 |c,[],c'=>c'=c
 |c,x::r,c'=>∃a b,applied c u x a b true/\xZ u a r c'
def wE(c:dF)(u:Int)(l:List eG)(q:List (Int×Unit))(a:dF)(h:List pz)(b:Bool):Prop:=
 (b=true↔dn c=true/\l.length<=6/\∃e,xZ u c l e/\wV e.2.1 q=true)/\(b=true->xZ u c l a/\h=KP (uK c) (uK a))/\(b=false->a=c/\h=[])
def WL(a:aW):Bool:=iw a.1&&(gy a.2.1 a.2.2.1 a.2.2.2.1&&!(a.2.1==0))
def MQ(f:aG):Bool:=f.2.2.2.2.1.all WL&&(jc f.1&&(jc f.2.1&&jc f.2.2.2.1))
def ng:List aW->List Bytes
 |[]=>[]
 |a::r=>a.1::iI a.2::ng r
def vO(f:aG):List Bytes:=Lib.itoa f.2.1::(bif f.2.2.1 then[115]else[111])::Lib.itoa f.2.2.2.1::ng f.2.2.2.2.1
def noF:aG:=(0,0,false,0,[],())
def aHb(q:List aO):Bool:=aN q&&decide (mZ (textOf q)=q)
def aE4(x:eG):Bool:=(uh x).1==[]&&(uh x).2.1.isEmpty
def aIY(x:eG):List Bytes:=
 bif x.1==1&&(MQ (nG x)&&((nG x).1==0&&(Xj x==0&&aE4 x)))then aIU::vO (nG x)
 else bif x.1==2&&(MQ (nG x)&&(Xj x==0&&aE4 x))then aIV::Lib.itoa (nG x).1::vO (nG x)
 else bif x.1==3&&(decide (nG x=noF)&&(jc (Xj x)&&aE4 x))then[aIW,Lib.itoa (Xj x)]
 else bif x.1==4&&(decide (nG x=noF)&&(Xj x==0&&(dU (uh x).1&&aHb (uh x).2.1)))then aIX::(uh x).1::jf 9 (uh x).2.1 (((uh x).2.1.length:Int)-1)
 else bif x.1==5&&(decide (nG x=noF)&&(Xj x==0&&(dU (uh x).1&&(uh x).2.1.isEmpty)))then[aE3,(uh x).1]
 else[]
def axu(x:eG):Bytes:=Lib.join (aIY x) [32]
theorem qy{s:Bytes}(h:iw s=true):dU s=true:=by
 grind [iw,dU]
theorem BK{s:Bytes}(h:dU s=true):fine s:=by
 refine⟨aCr h,?_⟩
 grind [dU,lower,NR]
theorem aBg(h:gy v.1 v.2.1 v.2.2.1=true)(l:v.1≠0):fine (iI v):=by
 grind [iI,aE0,WJ,jc,BK]
theorem TV{a:aW}:WL a=true↔iw a.1=true/\gy a.2.1 a.2.2.1 a.2.2.2.1=true/\a.2.1≠0:=by
 grind [WL]
theorem EZ:MQ f=true↔(∀a∈f.2.2.2.2.1,WL a=true)/\jc f.1=true/\jc f.2.1=true/\jc f.2.2.2.1=true:=by
 grind [MQ]
theorem aty:∀as:List aW,(∀a∈as,WL a=true)->∀y∈ng as,fine y
 |[],_,y,F=>by cases F
 |a::r,h,y,F=>by
  obtain⟨C,O,K⟩:=TV.1 (h a aQr);rcases aQt.1 F with rfl|F
  .exact BK (qy C)
  rcases aQt.1 F with rfl|F
  .exact aBg O K
  .exact aty r (λb U=>h b (aQo _ U)) y F
theorem aKX(b:Bool):fine (bif b then[115]else[111]):=by cases b<;>exact⟨⟨jI,jI⟩,jI⟩
theorem aHc(h:MQ f=true):∀y∈vO f,fine y:=by
 obtain⟨C,O,K,x⟩:=EZ.1 h;intro y F;rcases aQt.1 F with rfl|F
 .exact WJ K
 rcases aQt.1 F with rfl|F
 .exact aKX _
 grind [WJ,aty]
theorem aHd{n:aO}(h:iM n 0=true)(o:n.1=1\/n.1=2\/n.1=3\/n.1=4\/n.1=8\/n.1=9):n.1=1\/fine n.2.2.2.1:=by
 obtain⟨op,l,r,s,k,m,t,⟨⟩⟩:=n;rcases o with rfl|rfl|rfl|rfl|rfl|rfl
 .exact .inl rfl
 .have h:((l==0&&r==0)&&(k==0&&(m==0&&t==[]))&&iw s)=true:=h
  grind [BK,qy]
 .have h:((l==0&&r==0)&&iw s&&gy k m t&&!(k==0))=true:=h
  grind [BK,qy]
 .have h:((l==0&&r==0)&&iw s&&gy k m t&&k==1)=true:=h
  grind [BK,qy]
 .have h:((l==0&&r==0)&&(k==0&&(m==0&&t==[]))&&dU s)=true:=h
  grind [BK]
 .have h:((l==0&&r==0)&&(k==0&&(m==0&&t==[]))&&dU s)=true:=h
  grind [BK]
theorem ZI(op:Int):fine (lH op):=by unfold lH;cases op==1<;>cases op==2<;>cases op==3<;>cases op==4<;>cases op==5<;>cases op==6<;>cases op==7<;>cases op==8<;>cases op==9<;>exact⟨⟨jI,jI⟩,jI⟩
theorem Ph:∀t:QT,DW t->Ib t->∀y∈cu t,fine y
 |.leaf n,hw,ho,y,F=>by
  have e:=aHd ho hw;have F:y∈nH n:=F;rcases Fb ho hw with rfl|⟨op,s,rfl,c,Y⟩|⟨op,s,v,rfl,c,Y,h,l⟩
  .have:y=lH 1:=aQR.1 F
   grind [ZI]
  · grind [NS,ZI]
  grind [Q8,ZI,aBg]
 |.neg t,hw,ho,y,F=>by
  rcases aQt.1 (show y∈lH 5::cu t from F)with rfl|F
  .exact ZI 5
  .exact Ph t hw ho y F
 |.two op a b,⟨_,w1,w2⟩,⟨o1,o2⟩,y,F=>by
  rcases aQt.1 (show y∈lH op::(cu a++cu b)from F)with rfl|F
  .exact ZI op
  rcases aQM.1 F with F|F
  .exact Ph a w1 o1 y F
  .exact Ph b w2 o2 y F
def wP:LS->List aW
 |[]=>[]
 |[x]=>[(x.1,(gZ []).1)]
 |x::y::r=>(x.1,(gZ y.1).1)::wP r
def atz:LS->Bool
 |[]=>true
 |[_]=>true
 |_::y::r=>(gZ y.1).2&&atz r
def X4(id:Int)(r:LS):aG:=(id,numAt r 0,wordAt r 1==[115],numAt r 2,wP (r.drop 3),())
def alc(w:LS):aG×Bool:=
 bif decide ((w.length:Int)<4)||!(w.length%2==0)then(noF,false)
 else(X4 (numAt w 0) (w.drop 1),(lD (wordAt w 0)&&(lD (wordAt w 1)&&lD (wordAt w 3)))&&atz (w.drop 4))
theorem Ym:∀as:List aW,(∀a∈as,WL a=true)->wP (ls (ng as))=as/\atz (ls (ng as))=true/\(ng as).length=2*as.length
 |[],_=>⟨rfl,rfl,rfl⟩
 |a::r,h=>by
  obtain⟨C,O,K⟩:=TV.1 (h a aQr);obtain⟨i,j,l⟩:=Ym r λb U=>h b (aQo _ U);have e:=ab8 (v:=a.2) O K;refine⟨?_,?_,?_⟩
  · grind [wP,ls,ng]
  · grind [atz,ls,ng]
  grind [ng]
theorem word2(x:Bytes×Unit)(y:Bytes×Unit)(r:LS):wordAt (x::y::r) 1=y.1:=by rw[Yk,jm]
theorem aJS(x y z:Bytes×Unit)(r:LS):wordAt (x::y::z::r) 2=z.1:=by rw[show(2:Int)=1+1 from rfl,Pg _ _ 1 jI,word2]
theorem aNc(x y z u:Bytes×Unit)(r:LS):wordAt (x::y::z::u::r) 3=u.1:=by rw[show(3:Int)=2+1 from rfl,Pg _ _ 2 jI,aJS]
theorem axv(h:MQ f=true)(id:Int):X4 id (ls (vO f))=(id,f.2):=by
 obtain⟨C,O,K,x⟩:=EZ.1 h;obtain⟨a,o,s,l,as,⟨⟩⟩:=f;have b:numAt (ls (vO (a,o,s,l,as,()))) 0=o:=by
  show parseNum (wordAt ((Lib.itoa o,())::_) 0)=o
  grind [jm,Fa]
 have e:(wordAt (ls (vO (a,o,s,l,as,()))) 1==[115])=s:=by
  show(wordAt ((Lib.itoa o,())::((bif s then[115]else[111]),())::_) 1==[115])=s
  grind [word2]
 grind [numAt,ls,vO,aJS,Fa,Ym,X4]
theorem aE5(h:MQ f=true):alc ((Lib.itoa f.1,())::ls (vO f))=(f,true):=by
 obtain⟨C,O,K,x⟩:=EZ.1 h;obtain⟨_,a,b⟩:=Ym _ C;have e:wordAt ((Lib.itoa f.1,())::ls (vO f)) 0=Lib.itoa f.1:=jm _ _;have i:wordAt ((Lib.itoa f.1,())::ls (vO f)) 1=Lib.itoa f.2.1:=word2 _ _ _;have j:wordAt ((Lib.itoa f.1,())::ls (vO f)) 3=Lib.itoa f.2.2.2.1:=aNc _ _ _ _ _
 grind [ls,vO,numAt,axv,Fa,alc]
def passes(x:eG)(w:LS):Prop:=axu x≠[]/\axu x=mY w
def jO(b:UInt8):Bytes->Bytes->LS
 |cur,[]=>[(cur,())]
 |cur,x::l=>bif x==b then(cur,())::jO b [] l else jO b (cur++[x]) l
def pieces(b:UInt8)(s:Bytes):LS:=jO b [] s
theorem akv:∀(l Q:Bytes),jO 10 Q l=adS Q l
 |[],_=>rfl
 |x::l,Q=>by
  show(bif x==10 then(Q,())::jO 10 [] l else jO 10 (Q++[x]) l)=bif x==10 then(Q,())::adS [] l else adS (Q++[x]) l
  rw[akv l [],akv l (Q++[x])]
theorem ab9{b:UInt8}:∀(w Q l:Bytes),(∀x∈w,x≠b)->jO b Q (w++l)=jO b (Q++w) l
 |[],Q,l,_=>jv
 |x::w,Q,l,h=>by have Z:(x==b)=false:=aQl.2 (h x aQr);show(bif x==b then(Q,())::jO b [] (w++l)else jO b (Q++[x]) (w++l))=_;rw[Z];rw[ab9 w (Q++[x]) l λy F=>h y (aQo _ F),aQL];rfl
theorem atA{b:UInt8}{w:Bytes}(h:∀x∈w,x≠b)(l:Bytes):pieces b (w++b::l)=(w,())::pieces b l:=by
 unfold pieces;rw[ab9 w [] (b::l) h,aRP];show(bif b==b then _ else _)=_
 grind
theorem anM{b:UInt8}{w:Bytes}(h:∀x∈w,x≠b):pieces b w=[(w,())]:=by have:=ab9 w [] [] h;rw[aQY,aRP]at this;exact this
theorem BQ(x y:Bytes)(r:List Bytes):Lib.join (x::y::r) [32]=x++32::Lib.join (y::r) [32]:=by
 grind [Lib.join_cons,Lib.joinTail]
theorem anN:∀(ws:List Bytes),ws≠[]->(∀w∈ws,∀x∈w,x≠32)->pieces 32 (Lib.join ws [32])=ls ws
 |[],h,_=>(h rfl).elim
 |[w],_,h=>by
  have e:Lib.join [w] [32]=w:=by exact aQY w
  rw[e];exact anM (h w aQr)
 |w::y::r,_,h=>by rw[BQ,atA (h w aQr),anN (y::r) ni λv a=>h v (aQo _ a)];rfl
theorem akw(b:UInt8):∀(l Q:Bytes),0<(jO b Q l).length
 |[],_=>Nat.one_pos
 |x::l,Q=>by
  show 0<(bif x==b then(Q,())::jO b [] l else jO b (Q++[x]) l).length;cases x==b with
  |true=>exact aRO _
  |false=>exact akw b l _
def lg:List aW->Bytes
 |[]=>[]
 |a::r=>32::(a.1++32::(iI a.2++lg r))
theorem afU:∀as:List aW,Lib.joinTail [32] (ng as)=lg as
 |[]=>rfl
 |a::r=>by show[32]++a.1++([32]++iI a.2++Lib.joinTail [32] (ng r))=_;rw[afU r];show _=32::(a.1++32::(iI a.2++lg r));simp
theorem aGV{n:Nat}(h:n<as.length):lg (as.take (n+1))=lg (as.take n)++32::((as.getD n ([],0,0,[],())).1++32::iI (as.getD n ([],0,0,[],())).2):=by
 induction as generalizing n with
 |nil=>grind
 |cons a r ih=>
  cases n with
  |zero=>
   show 32::(a.1++32::(iI a.2++[]))=[]++32::(a.1++32::iI a.2)
   grind
  |succ n=>
   grind [lg]
theorem aGU(f:aG):Lib.join (vO f) [32]=Lib.itoa f.2.1++32::((bif f.2.2.1 then[115]else[111])++32::(Lib.itoa f.2.2.2.1++lg f.2.2.2.2.1)):=by
 grind [vO,BQ,Lib.join_cons,afU]
def MB:Bytes:=[102,105,108,101]
def lM(f:aG):Bytes:=Lib.join (MB::Lib.itoa f.1::vO f) [32]
theorem join_one(x:Bytes):Lib.join [x] [32]=x:=by exact aQY x
theorem aBh:∀(a:List Bytes)(y:Bytes)(b:List Bytes),a≠[]->Lib.join (a++y::b) [32]=Lib.join a [32]++32::Lib.join (y::b) [32]
 |[],_,_,h=>(h rfl).elim
 |[x],y,b,_=>by grind [join_one,BQ]
 |x::z::a,y,b,_=>by show Lib.join (x::z::(a++y::b)) [32]=_;rw[BQ,BQ];have:=aBh (z::a) y b ni;rw[show z::(a++y::b)=(z::a)++y::b from rfl,this,aQL];rfl
theorem aEL(x:Bytes){a:List Bytes}(h:a≠[]):Lib.join [x,Lib.join a [32]] [32]=Lib.join (x::a) [32]:=by
 cases a with
 |nil=>grind
 |cons y r=>grind [BQ,join_one]
theorem aEM(x:Bytes){a b:List Bytes}(h:a≠[])(g:b≠[]):Lib.join [x,Lib.join a [32],Lib.join b [32]] [32]=Lib.join (x::(a++b)) [32]:=by
 cases a with
 |nil=>grind
 |cons y r=>
  cases b with
  |nil=>grind
  |cons z s=>
   grind [aBh,BQ,join_one]
theorem av1(k:Nat)(q:List aO)(i:Int):jf (k+1) q i≠[]:=by
 rw[jf];cases (nodeAt q i.toNat).1==5 with
 |true=>grind
 |false=>
  cases (nodeAt q i.toNat).1==6||(nodeAt q i.toNat).1==7 with
  |true=>grind
  |false=>exact List.cons_ne_nil _ _
theorem awg{n:aO}{a:Int}(h:iM n a=true)(c:n.1=5):0<=n.2.1/\n.2.1<a:=by
 obtain⟨op,l,r,s,k,m,t,⟨⟩⟩:=n;subst c;have h:((decide (0<=l)&&decide (l<=a-1)&&decide (0<a))&&r==0&&(s==[]&&(k==0&&(m==0&&t==[]))))=true:=h
 grind
theorem awh{n:aO}{a:Int}(h:iM n a=true)(c:n.1=6\/n.1=7):(0<=n.2.1/\n.2.1<a)/\0<=n.2.2.1/\n.2.2.1<a:=by
 obtain⟨op,l,r,s,k,m,t,⟨⟩⟩:=n;have h:((decide (0<=l)&&decide (l<=a-1)&&decide (0<a))&&(decide (0<=r)&&decide (r<=a-1))&&(s==[]&&(k==0&&(m==0&&t==[]))))=true:=by
  rcases c with c|c
  .subst c;exact h
  .subst c;exact h
 grind
theorem MK{q:List aO}(h:aN q=true):∀(k j:Nat)(i:Int),0<=i->i.toNat<q.length->i.toNat<k->i.toNat<j->jf k q i=jf j q i
 |0,_,_,_,_,hk,_=>absurd hk (aRd _)
 |_+1,0,_,_,_,_,hj=>absurd hj (aRd _)
 |k+1,j+1,i,hi,hl,hk,hj=>by
  have H:=(nT h hl).1;rw[jf,jf];cases b:(nodeAt q i.toNat).1==5 with
  |true=>
   have N:=awg H (aQv.1 b);show _::jf k q _=_::jf j q _;rw[MK h k j (nodeAt q i.toNat).2.1 N.1 fC fC fC]
  |false=>
  cases a:(nodeAt q i.toNat).1==6||(nodeAt q i.toNat).1==7 with
  |true=>
   rw[aRo,aQv,aQv]at a;have N:=awh H a;rw[MK h k j (nodeAt q i.toNat).2.1 N.1.1 fC fC fC,MK h k j (nodeAt q i.toNat).2.2.1 N.2.1 fC fC fC]
  |false=>rfl
def Dt(w:List Bytes):Nat:=(w.map λx=>x.length+1).sum
theorem WM:∀w:List Bytes,(Lib.join w [32]).length<=Dt w
 |[]=>aQp _
 |[x]=>by rw[join_one];show x.length<=x.length+1+0;omega
 |x::y::r=>by have:=WM (y::r);rw[BQ,aQu,aQz];show _<=x.length+1+Dt (y::r);omega
theorem ou(x:Bytes)(r:List Bytes):Dt (x::r)=x.length+1+Dt r:=by grind [Dt]
theorem aBi(a b:List Bytes):Dt (a++b)=Dt a+Dt b:=by grind [Dt]
theorem akx(op:Int):(lH op).length<=6:=by unfold lH;cases op==1<;>cases op==2<;>cases op==3<;>cases op==4<;>cases op==5<;>cases op==6<;>cases op==7<;>cases op==8<;>cases op==9<;>decide
theorem aDf(h:gy v.1 v.2.1 v.2.2.1=true)(l:v.1≠0):(iI v).length<=10:=by
 grind [iI,aE0,ap4,jc,yH]
theorem aBj{n:aO}(h:iM n 0=true)(o:n.1=1\/n.1=2\/n.1=3\/n.1=4\/n.1=8\/n.1=9):Dt (nH n)<=25:=by
 have a:n.1=1\/n.2.2.2.1.length<=6:=by
  obtain⟨op,l,r,s,k,m,t,⟨⟩⟩:=n;rcases o with rfl|rfl|rfl|rfl|rfl|rfl
  .exact .inl rfl
  .have h:((l==0&&r==0)&&(k==0&&(m==0&&t==[]))&&iw s)=true:=h
   grind [yH,qy]
  .have h:((l==0&&r==0)&&iw s&&gy k m t&&!(k==0))=true:=h
   grind [yH,qy]
  .have h:((l==0&&r==0)&&iw s&&gy k m t&&k==1)=true:=h
   grind [yH,qy]
  .have h:((l==0&&r==0)&&(k==0&&(m==0&&t==[]))&&dU s)=true:=h
   grind [yH]
  .have h:((l==0&&r==0)&&(k==0&&(m==0&&t==[]))&&dU s)=true:=h
   grind [yH]
 rcases Fb h o with rfl|⟨op,s,rfl,c,Y⟩|⟨op,s,v,rfl,c,Y,e,b⟩
 .decide
 .have hl:s.length<=6:=a.resolve_left fC;have j:=akx op;rw[NS c,ou,ou];show _+(_+0)<=25;omega
 .have hl:s.length<=6:=a.resolve_left fC;have j:=akx op;have i:=aDf e b;rw[Q8 c,ou,ou,ou];show _+(_+(_+0))<=25;omega
theorem WN{q:List aO}(h:aN q=true):∀(k:Nat)(i:Int),0<=i->i.toNat<q.length->Dt (jf k q i)+7<=24*2 ^ k
 |0,_,_,_=>by show 0+7<=24*1;decide
 |k+1,i,hi,hl=>by
  have H:=(nT h hl).1;have j:=akx (nodeAt q i.toNat).1;rw[jf];cases b:(nodeAt q i.toNat).1==5 with
  |true=>
   have N:=awg H (aQv.1 b);have o:=WN h k (nodeAt q i.toNat).2.1 N.1 fC
   grind [ou]
  |false=>
  cases a:(nodeAt q i.toNat).1==6||(nodeAt q i.toNat).1==7 with
  |true=>
   rw[aRo,aQv,aQv]at a;have N:=awh H a;have e:=WN h k (nodeAt q i.toNat).2.1 N.1.1 fC;have l:=WN h k (nodeAt q i.toNat).2.2.1 N.2.1 fC
   grind [ou,aBi]
  |false=>
   grind [aBj,VO,Dt,nH]
theorem ati(q:List aO):(textOf q).length<=12288:=by
 unfold textOf;cases h:aN q with
 |false=>grind
 |true=>
  have W:=jF h;have:=WN h 9 ((q.length:Int)-1) fC fC
  grind [WM]
theorem MR:∀t:QT,DW t->Ib t->(cu t).length<=2*t.size+1/\Dt (cu t)<=32*t.size
 |.leaf n,hw,ho=>by
  have h:=aBj ho hw;refine⟨?_,show Dt (nH n)<=32*1 from fC⟩;show(nH n).length<=2*1+1
  grind [nH]
 |.neg t,hw,ho=>by
  obtain⟨C,O⟩:=MR t hw ho;have:=akx 5;refine⟨?_,?_⟩
  .show(cu t).length+1<=2*(t.size+1)+1;omega
  .show Dt (lH 5::cu t)<=32*(t.size+1);rw[ou];omega
 |.two op a b,⟨_,w1,w2⟩,⟨o1,o2⟩=>by
  obtain⟨C,O⟩:=MR a w1 o1;obtain⟨K,x⟩:=MR b w2 o2;have:=akx op;refine⟨?_,?_⟩
  .show(cu a++cu b).length+1<=2*(a.size+b.size+1)+1
   grind
  .show Dt (lH op::(cu a++cu b))<=32*(a.size+b.size+1);rw[ou,aBi];omega
theorem afT:∀as:List aW,(∀a∈as,WL a=true)->Dt (ng as)<=18*as.length
 |[],_=>aQp _
 |a::r,h=>by obtain⟨C,O,K⟩:=TV.1 (h a aQr);have i:=afT r λb U=>h b (aQo _ U);have e:=yH (qy C);have j:=aDf (v:=a.2) O K;show Dt (a.1::iI a.2::ng r)<=18*(r.length+1);rw[ou,ou];omega
theorem aHe(h:MQ f=true):Dt (vO f)<=24+18*f.2.2.2.2.1.length/\(vO f).length=3+2*f.2.2.2.2.1.length:=by
 obtain⟨C,O,K,x⟩:=EZ.1 h;have i:=afT _ C;have a:=ap4 K;have b:=ap4 x;refine⟨?_,?_⟩
 .show Dt (Lib.itoa f.2.1::(bif f.2.2.1 then[115]else[111])::Lib.itoa f.2.2.2.1::ng f.2.2.2.2.1)<=_
  grind [ou]
 .show(ng f.2.2.2.2.1).length+1+1+1=_
  grind [Ym]
theorem FC(w:LS)(a i:Int)(b:0<=a)(D:0<=i):wordAt (w.drop a.toNat) i=wordAt w (a+i):=by
 grind [EP,ER]
theorem aa9:∀(d:Nat)(w:LS)(q:List aO),(rs d w q).1.length<=max (10+d) q.length/\0<=(rs d w q).2/\(rs d w q).2<3*2 ^ d
 |0,w,q=>⟨Nat.le_max_right _ _,aQN _,by show(0:Int)<_;decide⟩
 |d+1,w,q=>by
  have J:1<=2 ^ d:=aSn;have e:(1:Int)<=2 ^ d:=jv;rw[rs];cases l:jk (wordAt w 0)==0||decide ((q.length:Int)>9)with
  |true=>grind
  |false=>
  rw[aRw,aQP]at l;cases jk (wordAt w 0)==2||(jk (wordAt w 0)==8||jk (wordAt w 0)==9)with
  |true=>grind
  |false=>
  cases jk (wordAt w 0)==3||jk (wordAt w 0)==4 with
  |true=>grind
  |false=>
  cases jk (wordAt w 0)==5||(jk (wordAt w 0)==6||jk (wordAt w 0)==7)with
  |false=>grind
  |true=>
  have a:=aa9 d (w.drop 1) q;generalize rs d (w.drop 1) q=x at a ⊢;obtain⟨r,k⟩:=x;have a:r.length<=max (10+d) q.length/\0<=k/\k<3*2 ^ d:=a;have b:=aa9 d (w.drop (1+k).toNat) r;cases k==0 with
  |true=>exact⟨by show r.length<=_;omega,aQN _,by show(0:Int)<_;omega⟩
  |false=>
  cases jk (wordAt w 0)==5 with
  |true=>exact⟨by show(r++[_]).length<=_;rw[aQu,aQz,aQZ];omega,by show 0<=1+k;omega,by show 1+k<_;omega⟩
  |false=>
  generalize rs d (w.drop (1+k).toNat) r=y at b ⊢;obtain⟨s,m⟩:=y;have b:s.length<=max (10+d) r.length/\0<=m/\m<3*2 ^ d:=b;cases m==0 with
  |true=>exact⟨by show s.length<=_;omega,aQN _,by show(0:Int)<_;omega⟩
  |false=>exact⟨by show(s++[_]).length<=_;rw[aQu,aQz,aQZ];omega,by show 0<=1+k+m;omega,by show 1+k+m<_;omega⟩
theorem Yh(h:(-9223372036854775808:Int)<=n/\n<=9223372036854775807):(Lib.itoa n).length<=21:=Lib.itoa_length_le n h.1 h.2
theorem aCu{v:ET}:(iI v).length<=21+v.2.2.1.length:=by
 grind [iI,gy,Yh]
theorem av4{as:List aW}{n:Nat}:(lg (as.take n)).length<=(lg as).length:=by
 induction as generalizing n with
 |nil=>grind
 |cons a r ih=>
  cases n with
  |zero=>exact aQx _
  |succ n=>
   grind [lg]
def aKY(x:eG):Prop:=(nG x).2.2.2.2.1.length<=1048576/\(lg (nG x).2.2.2.2.1).length<=1073741824/\(uh x).1.length<=1048576/\(uh x).2.1.length<=2000000
def afM(a:List aW):Bool:=decide (a.length<=9)&&a.all λx=>decide (x.1.length<=10)&&decide (x.2.2.2.1.length<=10)
theorem atB:∀(a:List aW),(a.all λx=>decide (x.1.length<=10)&&decide (x.2.2.2.1.length<=10))=true->(lg a).length<=50*a.length
 |[],_=>aQp _
 |a::r,h=>by rw[aRK,aQm,aQm,aQF,aQF]at h;have e:=atB r h.2;have b:=@aCu a.2;show(32::(a.1++32::(iI a.2++lg r))).length<=50*(r.length+1);rw[aQz,aQu,aQz,aQu];omega
def JL(x:eG):Prop:=afM (nG x).2.2.2.2.1=true/\(uh x).1.length<=10/\(uh x).2.1.length<=1000
theorem ayl{x:eG}(h:JL x):aKY x/\(nG x).2.2.2.2.1.length<=9:=by obtain⟨C,O,K⟩:=h;unfold afM at C;rw[aQm,aQF]at C;have:=atB _ C.2;exact⟨⟨fC,fC,fC,fC⟩,C.1⟩
theorem akg{n:aO}{a:Int}(H:iM n a=true):(n.1=1\/n.1=2\/n.1=3\/n.1=4\/n.1=8\/n.1=9)\/n.1=5\/n.1=6\/n.1=7:=by
 obtain⟨op,l,r,s,k,m,t,⟨⟩⟩:=n;dsimp only;by_cases b:op=1
 .omega
 by_cases e:op=2
 .omega
 by_cases h:op=3
 .omega
 by_cases i:op=4
 .omega
 by_cases j:op=5
 .omega
 by_cases o:op=6
 .omega
 by_cases x:op=7
 .omega
 by_cases z:op=8
 .omega
 by_cases A:op=9
 .omega
 unfold iM at H;dsimp only at H;rw[aQl.2 b,aQl.2 e,aQl.2 h,aQl.2 i,aQl.2 j,aQl.2 o,aQl.2 x,aQl.2 z,aQl.2 A]at H;cases H
theorem aKN{i:Int}(k:Nat)(c:(nodeAt q i.toNat).1=1\/(nodeAt q i.toNat).1=2\/(nodeAt q i.toNat).1=3\/(nodeAt q i.toNat).1=4\/(nodeAt q i.toNat).1=8\/(nodeAt q i.toNat).1=9):jf (k+1) q i=nH (nodeAt q i.toNat):=by rw[jf,aQl.2 (show(nodeAt q i.toNat).1≠5 from fC),aQl.2 (show(nodeAt q i.toNat).1≠6 from fC),aQl.2 (show(nodeAt q i.toNat).1≠7 from fC)];rfl
theorem aL0{i:Int}(h:aN q=true)(l:0<=i)(W:i<(q.length:Int))(c:(nodeAt q i.toNat).1=5):
 jf (i.toNat+1) q i=lH 5::jf ((nodeAt q i.toNat).2.1.toNat+1) q (nodeAt q i.toNat).2.1/\0<=(nodeAt q i.toNat).2.1/\(nodeAt q i.toNat).2.1<i:=by
 have H:=(nT h (show i.toNat<q.length from fC)).1;have j:=awg H c;have a:(nodeAt q i.toNat).2.1<i:=by have:=j.2;omega
 refine⟨?_,j.1,a⟩;rw[jf,aQv.2 c,c,MK h i.toNat ((nodeAt q i.toNat).2.1.toNat+1) (nodeAt q i.toNat).2.1 j.1 fC fC fC];rfl
theorem aL1{i:Int}(h:aN q=true)(l:0<=i)(W:i<(q.length:Int))(c:(nodeAt q i.toNat).1=6\/(nodeAt q i.toNat).1=7):
 jf (i.toNat+1) q i=lH (nodeAt q i.toNat).1::(jf ((nodeAt q i.toNat).2.1.toNat+1) q (nodeAt q i.toNat).2.1++jf ((nodeAt q i.toNat).2.2.1.toNat+1) q (nodeAt q i.toNat).2.2.1)/\
  (0<=(nodeAt q i.toNat).2.1/\(nodeAt q i.toNat).2.1<i)/\0<=(nodeAt q i.toNat).2.2.1/\(nodeAt q i.toNat).2.2.1<i:=by
 have H:=(nT h (show i.toNat<q.length from fC)).1;have j:=awh H c;have e:((i.toNat:Nat):Int)=i:=fC;rw[e]at j;refine⟨?_,j.1,j.2⟩;have N:((nodeAt q i.toNat).1==6||(nodeAt q i.toNat).1==7)=true:=by rcases c with c|c<;>rw[c]<;>rfl
 rw[jf,aQl.2 (show(nodeAt q i.toNat).1≠5 from fC),N,MK h i.toNat ((nodeAt q i.toNat).2.1.toNat+1) (nodeAt q i.toNat).2.1 j.1.1 fC fC fC,
  MK h i.toNat ((nodeAt q i.toNat).2.2.1.toNat+1) (nodeAt q i.toNat).2.2.1 j.2.1 fC fC fC]
 rfl
theorem aIG{i:Int}(h:aN q=true)(l:0<=i)(W:i<(q.length:Int)):(Lib.join (jf (i.toNat+1) q i) [32]).length<=12288:=by have:=(jF h).2;have o:=WN h (i.toNat+1) i l fC;have J:2 ^ (i.toNat+1)<=2 ^ 9:=aRE jI fC;refine aQn (WM _) ?_;have e:(2:Nat) ^ 9=512:=jI;omega
def adK(w:Bytes):Nat->Int
 |0=>0
 |k+1=>bif w==lH ((k:Int)+1)then(k:Int)+1 else adK w k
theorem aEN(w:Bytes):adK w 9=jk w:=by
 rcases TU w with h|⟨h,e⟩
 .have no:∀op:Int,(op=1\/op=2\/op=3\/op=4\/op=5\/op=6\/op=7\/op=8\/op=9)->(w==lH op)=false:=λop z=>aQl.2 λe=>by rw[e,HY z]at h;omega
  rw[h];simp only[adK];rw[no _ jI,no _ jI,no _ jI,no _ jI,no _ jI,no _ jI,no _ jI,no _ jI,no _ jI];rfl
 .rw[← e];rcases h with h|h|h|h|h|h|h|h|h<;>rw[h]<;>decide
theorem aEO(w:Bytes):0<=jk w/\jk w<=9:=by rcases TU w with h|⟨h,_⟩<;>omega
def WO(q:List aO):QT->Nat->Prop
 |.leaf n,i=>nodeAt q i=n/\(n.1=1\/n.1=2\/n.1=3\/n.1=4\/n.1=8\/n.1=9)
 |.neg t,i=>(nodeAt q i).1=5/\WO q t (nodeAt q i).2.1.toNat
 |.two op a b,i=>(nodeAt q i).1=op/\(op=6\/op=7)/\WO q a (nodeAt q i).2.1.toNat/\WO q b (nodeAt q i).2.2.1.toNat
theorem atC{q:List aO}:∀(t:QT)(i:Nat),WO q t i->DW t
 |.leaf _,_,h=>h.2
 |.neg t,_,h=>atC t _ h.2
 |.two _ a b,_,h=>⟨h.2.1,atC a _ h.2.2.1,atC b _ h.2.2.2⟩
theorem aKZ(h:aN q=true)(i:Nat)(D:i<q.length):∃t,WO q t i:=by
 induction i using Nat.strongRecOn with
 |_ i ih=>
  obtain⟨e,j⟩:=nS h D;rcases akg (nT h D).1 with c|c|c
  .exact⟨.leaf (nodeAt q i),rfl,c⟩
  .obtain⟨_,l⟩:=e (.inl c);obtain⟨t,s⟩:=ih _ l fC;exact⟨.neg t,c,s⟩
  .obtain⟨_,l1⟩:=e (.inr (mg.2 c));obtain⟨_,x⟩:=j (mg.2 c);obtain⟨a,o⟩:=ih _ l1 fC;obtain⟨b,U⟩:=ih _ x fC;exact⟨.two (nodeAt q i).1 a b,rfl,c,o,U⟩
theorem atD{q:List aO}(h:aN q=true):∀(t:QT)(i:Nat),i<q.length->WO q t i->Ib t
 |.leaf n,i,hi,ht=>by
  obtain⟨rfl,c⟩:=ht;show iM (nodeAt q i) 0=true
  grind [VO,nT]
 |.neg t,i,hi,ht=>atD h t _ (by have:=((nS h hi).1 (.inl ht.1)).2;omega) ht.2
 |.two op a b,i,hi,⟨e,c,ha,hb⟩=>by have c:jS (nodeAt q i)=true:=mg.2 abS;exact⟨atD h a _ (by grind [nS]) ha,atD h b _ (by grind [nS]) hb⟩
theorem af7{q:List aO}(h:aN q=true):∀(t:QT)(i k:Nat),i<q.length->i<k->WO q t i->jf k q (i:Int)=cu t
 |_,_,0,_,hk,_=>absurd hk (aRd _)
 |.leaf n,i,k+1,hi,hk,ht=>by
  obtain⟨rfl,c⟩:=ht;rw[jf,aQs,show((nodeAt q i).1==5)=false from aQl.2 fC,show((nodeAt q i).1==6)=false from aQl.2 fC,show((nodeAt q i).1==7)=false from aQl.2 fC];rfl
 |.neg t,i,k+1,hi,hk,⟨e,ht⟩=>by
  obtain⟨j,z⟩:=(nS h hi).1 (.inl e);have x:=af7 h t _ k fC fC ht;rw[aSx j]at x;rw[jf,aQs,x,e];rfl
 |.two op a b,i,k+1,hi,hk,⟨e,c,ha,hb⟩=>by have l:jS (nodeAt q i)=true:=mg.2 abS;obtain⟨j,z⟩:=(nS h hi).1 (.inr l);obtain⟨A,B⟩:=(nS h hi).2 l;have o:=af7 h a _ k fC fC ha;have s:=af7 h b _ k fC fC hb;rw[aSx j]at o;rw[aSx A]at s;rw[jf,aQs,o,s,e];rcases c with rfl|rfl<;>rfl
def vis(q:List aO):QT->Nat->List Nat
 |.leaf _,i=>[i]
 |.neg t,i=>i::vis q t (nodeAt q i).2.1.toNat
 |.two _ a b,i=>i::(vis q a (nodeAt q i).2.1.toNat++vis q b (nodeAt q i).2.2.1.toNat)
theorem ald{q:List aO}:∀(t:QT)(i:Nat),(vis q t i).length=t.size
 |.leaf _,_=>rfl
 |.neg t,_=>by rw[vis,aQz,ald t];rfl
 |.two _ a b,_=>by rw[vis,aQz,aQu,ald a,ald b];rfl
theorem adT{q:List aO}(h:aN q=true):∀(t:QT)(i:Nat),i<q.length->WO q t i->∀p∈vis q t i,p<=i
 |.leaf _,i,_,_,p,J=>by rw[aQR.1 J];omega
 |.neg t,i,hi,⟨e,ht⟩,p,J=>by
  obtain⟨_,l⟩:=(nS h hi).1 (.inl e);rcases aQt.1 J with rfl|J
  .omega
  .have:=adT h t _ fC ht p J;omega
 |.two op a b,i,hi,⟨e,c,ha,hb⟩,p,J=>by
  have j:jS (nodeAt q i)=true:=mg.2 abS;obtain⟨_,l⟩:=(nS h hi).1 (.inr j);obtain⟨_,o⟩:=(nS h hi).2 j;rcases aQt.1 J with rfl|J
  .omega
  rcases aQM.1 J with J|J
  .have:=adT h a _ fC ha p J;omega
  .have:=adT h b _ fC hb p J;omega
theorem aky{n:aO}(j:Nat)(c:n.1=1\/n.1=2\/n.1=3\/n.1=4\/n.1=8\/n.1=9):refsOf j n=0:=by
 grind [refsOf,jS]
theorem ap5{n:aO}(j:Nat)(c:n.1=5)(l:0<=n.2.1):refsOf j n=if j=n.2.1.toNat then 1 else 0:=by
 grind [refsOf,jS]
theorem ap6{n:aO}(j:Nat)(c:n.1=6\/n.1=7)(l:0<=n.2.1)(C:0<=n.2.2.1):refsOf j n=(if j=n.2.1.toNat then 1 else 0)+(if j=n.2.2.1.toNat then 1 else 0):=by
 grind [refsOf,mg]
theorem anO(j i:Nat)(l:List Nat):(i::l).count j=(if j=i then 1 else 0)+l.count j:=by
 grind
theorem af8{q:List aO}(h:aN q=true)(j:Nat):∀(t:QT)(i:Nat),i<q.length->WO q t i->(vis q t i).count j=(if j=i then 1 else 0)+((vis q t i).map λp=>refsOf j (nodeAt q p)).sum
 |.leaf n,i,_,ht=>by
  obtain⟨rfl,c⟩:=ht
  grind [vis,aky]
 |.neg t,i,hi,⟨e,ht⟩=>by
  obtain⟨l,x⟩:=(nS h hi).1 (.inl e);rw[vis,anO,af8 h j t _ fC ht,aQB,aRh,ap5 j e l]
 |.two op a b,i,hi,⟨e,c,ha,hb⟩=>by have o:(nodeAt q i).1=6\/(nodeAt q i).1=7:=abS;have s:jS (nodeAt q i)=true:=mg.2 o;obtain⟨l,x⟩:=(nS h hi).1 (.inr s);obtain⟨z,A⟩:=(nS h hi).2 s;rw[vis,anO,List.count_append,af8 h j a _ fC ha,af8 h j b _ fC hb,aQB,aRh,aRq,aSN,ap6 j o l z];omega
theorem aDg(f:Nat->Nat)(a:Nat):∀n,a<n->((List.range n).map λp=>(if p=a then 1 else 0)*f p).sum=f a
 |n+1,h=>by
  rw[List.range_succ,aRq,aSN,aQB,List.map_nil,aRh,List.sum_nil];by_cases e:n=a
  .subst e;have z:∀m,m<=n->((List.range m).map λp=>(if p=n then 1 else 0)*f p).sum=0:=by
    intro m
    induction m with
    |zero=>intro _;rfl
    |succ m ih=>
     grind [List.range_succ]
   grind
  .rw[aDg f a n fC,if_neg e];omega
theorem sum_add(f g:Nat->Nat):∀l:List Nat,(l.map λp=>f p+g p).sum=(l.map f).sum+(l.map g).sum
 |[]=>rfl
 |a::l=>by rw[aQB,aRh,sum_add f g l,aQB,aRh,aQB,aRh];omega
theorem akz(f:Nat->Nat)(n:Nat):∀l:List Nat,(∀p∈l,p<n)->(l.map f).sum=((List.range n).map λp=>l.count p*f p).sum
 |[],_=>by
  have:∀r:List Nat,(r.map λp=>([]:List Nat).count p*f p).sum=0:=by
   intro r
   induction r with
   |nil=>rfl
   |cons a r ih=>grind
  rw[this];rfl
 |a::l,h=>by
  have e:(λp=>(a::l).count p*f p)=λp=>(if p=a then 1 else 0)*f p+l.count p*f p:=by
   grind
  rw[e,sum_add,aDg f a n (h a aQr),aQB,aRh,akz f n l λp J=>h p (aQo _ J)]
theorem map_range(g:aO->Nat)(q:List aO):q.map g=(List.range q.length).map λp=>g (nodeAt q p):=by
 grind [List.ext_getElem,List.length_map,nodeAt]
theorem af9{f g:Nat->Nat}:∀l:List Nat,(∀p∈l,f p=g p)->(l.map f).sum=(l.map g).sum
 |[],_=>rfl
 |a::l,h=>by rw[aQB,aRh,aQB,aRh,h a aQr,af9 l λp J=>h p (aQo _ J)]
theorem axw(h:aN q=true){p j:Nat}(J:p<q.length)(e:p<=j):refsOf j (nodeAt q p)=0:=by
 obtain⟨a,b⟩:=nS h J;rcases akg (nT h J).1 with c|c|c
 .exact aky j c
 · grind [ap5]
 grind [mg,ap6]
theorem count_one(h:aN q=true)(b:WO q t (q.length-1)):∀(m j:Nat),j<q.length->q.length-1-j=m->(vis q t (q.length-1)).count j=1:=by
 intro m
 induction m using Nat.strongRecOn with
 |_ m ih=>
  intro j i l;rw[af8 h j t _ fC b,akz _ q.length _ λp J=>by have:=adT h t _ fC b p J;omega];have e:((List.range q.length).map λp=>(vis q t (q.length-1)).count p*refsOf j (nodeAt q p)).sum=((List.range q.length).map λp=>refsOf j (nodeAt q p)).sum:=by
   grind [af9,axw]
  rw[e];by_cases c:j=q.length-1
  .rw[if_pos c];have z:((List.range q.length).map λp=>refsOf j (nodeAt q p)).sum=((List.range q.length).map λ_=>0).sum:=af9 _ λp J=>axw h (aQ8.1 J) jv;rw[z];have:∀r:List Nat,(r.map λ_=>0).sum=0:=by
    intro r
    induction r with
    |nil=>rfl
    |cons a r ih=>grind
   rw[this]
  .have:=(nT h i).2 fC
   grind [nJ,map_range]
theorem aHf(h:aN q=true)(i:WO q t (q.length-1)):t.size=q.length:=by
 have W:=jF h;have e:=akz (λ_=>1) q.length (vis q t (q.length-1)) λp J=>by have:=adT h t _ fC i p J;omega
 have b:∀r:List Nat,(r.map λ_=>1).sum=r.length:=by
  intro r
  induction r with
  |nil=>rfl
  |cons a r ih=>grind
 rw[b,ald,af9 (g:=λ_=>1) _ λp J=>by rw[count_one h i _ p (aQ8.1 J) rfl],b,aSE]at e;exact e
theorem acd{l r:List aO}{i:Nat}(h:i<l.length):nodeAt (l++r) i=nodeAt l i:=by
 grind [nodeAt]
theorem ZJ{l r:List aO}{i:Nat}(h:l.length<=i):nodeAt (l++r) i=nodeAt r (i-l.length):=by
 grind [nodeAt]
theorem aMb{l a:Int}(b:0<=l)(C:l<=a-1):iM (5,l,0,[],0,0,[],()) a=true:=by
 grind [iM]
theorem ok_two{l r a:Int}(c:op=6\/op=7)(h:0<=l)(C:l<=a-1)(b:0<=r)(e:r<=a-1):iM (op,l,r,[],0,0,[],()) a=true:=by
 grind [iM]
theorem ale:∀(t:QT)(b i:Nat),DW t->Ib t->i<t.size->iM (nodeAt (post t b) i) ((b+i:Nat):Int)=true
 |.leaf n,b,i,hw,ho,D=>by
  have D:i<1:=D;obtain rfl:i=0:=fC;show iM n _=true;rw[VO _ hw];exact ho
 |.neg t,b,i,hw,ho,D=>by
  have D:i<t.size+1:=D;have J:=jd t b;have Y:=size_pos t;rw[post];rcases aQE i t.size with g|g
  .rw[acd fC];exact ale t b i hw ho g
  .rw[ZJ fC,J,show i-t.size=0 from fC];exact aMb fC fC
 |.two op x y,b,i,⟨c,w1,w2⟩,⟨o1,o2⟩,D=>by
  have D:i<x.size+y.size+1:=D;have J:=jd x b;have a:=jd y (b+x.size);have Y:=size_pos x;rw[post];rcases aQE i x.size with g|g
  .rw[acd fC];exact ale x b i w1 o1 g
  .rw[ZJ fC,J];rcases aQE (i-x.size) y.size with e|e
   .rw[acd fC];have:=ale y (b+x.size) (i-x.size) w2 o2 e
    rwa [show b+x.size+(i-x.size)=b+i from fC]at this
   .rw[ZJ fC,a,show i-x.size-y.size=0 from fC];exact ok_two c fC fC fC fC
theorem abh:∀(t:QT)(b j:Nat),DW t->nJ (post t b) j=if b<=j/\j+1<b+t.size then 1 else 0
 |.leaf n,b,j,hw=>by
  have:nJ (post (.leaf n) b) j=refsOf j n+0:=rfl;rw[this,aky j hw,if_neg (by show ¬(b<=j/\j+1<b+1);omega)]
 |.neg t,b,j,hw=>by
  have Y:=size_pos t;have e:nJ (post (.neg t) b) j=nJ (post t b) j+(refsOf j (5,((b+t.size:Nat):Int)-1,0,[],0,0,[],())+0):=by
   grind [nJ,post]
  rw[e,abh t b j hw,ap5 j rfl jv];have a:(((b+t.size:Nat):Int)-1).toNat=b+t.size-1:=fC;show _+((if j=(((b+t.size:Nat):Int)-1).toNat then 1 else 0)+0)=if b<=j/\j+1<b+(t.size+1)then 1 else 0
  grind
 |.two op x y,b,j,⟨c,w1,w2⟩=>by
  have Y:=size_pos x;have h:=size_pos y;have e:nJ (post (.two op x y) b) j=nJ (post x b) j+(nJ (post y (b+x.size)) j+(refsOf j (op,((b+x.size:Nat):Int)-1,((b+x.size+y.size:Nat):Int)-1,[],0,0,[],())+0)):=by
   grind [nJ,post]
  rw[e,abh x b j w1,abh y _ j w2,ap6 j c jv jv];have a:(((b+x.size:Nat):Int)-1).toNat=b+x.size-1:=fC;have i:(((b+x.size+y.size:Nat):Int)-1).toNat=b+x.size+y.size-1:=fC;show _+(_+((if j=(((b+x.size:Nat):Int)-1).toNat then 1 else 0)+(if j=(((b+x.size+y.size:Nat):Int)-1).toNat then 1 else 0)+0))=if b<=j/\j+1<b+(x.size+y.size+1)then 1 else 0
  grind
theorem aBk(o:DW t)(z:Ib t)(Y:t.size<=9):aN (post t 0)=true:=by
 grind [size_pos,aN,jd,jG,ale,pY,abh]
theorem ZK:∀(t:QT)(l r:List aO),DW t->WO (l++(post t l.length++r)) t (l.length+t.size-1)
 |.leaf n,l,r,hw=>by
  refine⟨?_,hw⟩;exact NT l r n
 |.neg t,l,r,hw=>by
  have e:l++(post (.neg t) l.length++r)=l++(post t l.length++(((5,((l.length+t.size:Nat):Int)-1,0,[],0,0,[],()):aO)::r)):=by
   grind [post]
  have a:nodeAt (l++(post (.neg t) l.length++r)) (l.length+t.size)=(5,((l.length+t.size:Nat):Int)-1,0,[],0,0,[],()):=by
   grind [jd,NT]
  have b:l.length+(QT.neg t).size-1=l.length+t.size:=by show l.length+(t.size+1)-1=_;omega
  have h:=ZK t l ((5,((l.length+t.size:Nat):Int)-1,0,[],0,0,[],())::r) hw;rw[← e]at h;rw[b];refine⟨by rw[a],?_⟩;rw[a];rw[show(((l.length+t.size:Nat):Int)-1).toNat=l.length+t.size-1 from fC];exact h
 |.two op x y,l,r,⟨c,w1,w2⟩=>by
  generalize H:((op,((l.length+x.size:Nat):Int)-1,((l.length+x.size+y.size:Nat):Int)-1,[],0,0,[],()):aO)=N;have e:l++(post (.two op x y) l.length++r)=l++(post x l.length++(post y (l.length+x.size)++(N::r))):=by
   grind [post]
  have j:=ZK x l (post y (l.length+x.size)++(N::r)) w1;have i:=ZK y (l++post x l.length) (N::r) w2;rw[aQu,jd,aQL]at i;have a:nodeAt (l++(post (.two op x y) l.length++r)) (l.length+x.size+y.size)=N:=by
   grind [jd,NT]
  have b:l.length+(QT.two op x y).size-1=l.length+x.size+y.size:=by show l.length+(x.size+y.size+1)-1=_;omega
  grind [WO]
def tD:QT->Bool->List (Bool×Bytes)
 |.leaf n,p=>bif tN n then[(p,n.2.2.2.1)]else[]
 |.neg t,_=>tD t true
 |.two _ a b,p=>tD a p++tD b p
theorem aBl{n:aO}(c:n.1=5\/n.1=6\/n.1=7):tN n=false:=by
 grind [tN]
theorem atE{q:List aO}(h:aN q=true)(x:Bool×Bytes):∀(t:QT)(i:Nat),i<q.length->WO q t i->(x∈tD t (DV q i)↔∃p∈vis q t i,tN (nodeAt q p)=true/\x=(DV q p,(nodeAt q p).2.2.2.1))
 |.leaf n,i,hi,⟨e,c⟩=>by
  subst e;rw[tD];cases H:tN (nodeAt q i)with
  |true=>exact⟨λZ=>⟨i,aQr,H,aQR.1 Z⟩,λ⟨p,J,_,e⟩=>by rw[aQR.1 J]at e;grind⟩
  |false=>exact⟨λZ=>(List.not_mem_nil Z).elim,λ⟨p,J,e,_⟩=>by rw[aQR.1 J,H]at e;cases e⟩
 |.neg t,i,hi,⟨e,ht⟩=>by
  obtain⟨A,B⟩:=(nS h hi).1 (.inl e);have z:=atE h x t _ fC ht;rw[(afY h hi).1 e]at z;rw[tD,vis,z];refine⟨λ⟨p,J,r⟩=>⟨p,aQo _ J,r⟩,λ⟨p,J,r⟩=>?_⟩;rcases aQt.1 J with rfl|J
  .rw[aBl (.inl e)]at r;cases r.1
  .exact⟨p,J,r⟩
 |.two op a b,i,hi,⟨e,c,ha,hb⟩=>by
  have l:(nodeAt q i).1=6\/(nodeAt q i).1=7:=abS;have j:jS (nodeAt q i)=true:=mg.2 l;obtain⟨A,B⟩:=(nS h hi).1 (.inr j);obtain⟨F,I⟩:=(nS h hi).2 j;obtain⟨C,D⟩:=(afY h hi).2 j;have o:=atE h x a _ fC ha;have s:=atE h x b _ fC hb;rw[C]at o;rw[D]at s;rw[tD,vis,aQM,o,s];refine⟨λZ=>?_,λ⟨p,J,r⟩=>?_⟩
  .rcases Z with⟨p,J,r⟩|⟨p,J,r⟩
   .exact⟨p,aQo _ (aQ0 _ J),r⟩
   .exact⟨p,aQo _ (aRm _ J),r⟩
  .rcases aQt.1 J with rfl|J
   .rw[aBl (.inr l)]at r;cases r.1
   rcases aQM.1 J with J|J
   .exact .inl ⟨p,J,r⟩
   .exact .inr ⟨p,J,r⟩
theorem axx(h:aN q=true)(a:WO q t (q.length-1))(s:Bytes)(b:Bool):s∈iZ q b↔(b,s)∈tD t false:=by
 have W:=jF h;have H:(negated q).length=q.length:=by grind [negated,JY]
 have j:=atE h (b,s) t (q.length-1) fC a;rw[ato h]at j;rw[j];constructor
 .intro hs;unfold iZ at hs;rw[List.mem_filterMap]at hs;obtain⟨i,D,e⟩:=hs;have D:i<q.length:=jv;cases N:tN (nodeAt q i)&&((negated q).getD i (false,())).1==b with
  |false=>grind
  |true=>rw[N]at e;rw[aQm]at N;have e:(nodeAt q i).2.2.2.1=s:=Option.some.inj e;have U:DV q i=b:=aQv.1 N.2;refine⟨i,List.count_pos_iff.1 (by rw[count_one h a _ i D rfl];decide),N.1,by rw[U,e]⟩
 .rintro⟨p,J,hd,e⟩;have J:p<q.length:=by have:=adT h t _ fC a p J;omega
  grind [aAZ]
theorem axy(h:aN q=true):∃t,WO q t (q.length-1)/\DW t/\Ib t/\t.size=q.length/\textOf q=Lib.join (cu t) [32]/\uV (textOf q)=true/\mZ (textOf q)=post t 0/\aN (post t 0)=true/\∀s b,s∈iZ (post t 0) b↔s∈iZ q b:=by
 have W:=jF h;obtain⟨t,a⟩:=aKZ h (q.length-1) fC;have o:=atC t _ a;have z:=atD h t _ fC a;have x:=aHf h a;have i:=aBk o z fC;have Z:=af7 h t (q.length-1) 9 fC fC a;have e:textOf q=Lib.join (cu t) [32]:=by
  grind [textOf]
 obtain⟨C,A⟩:=MR t o z;obtain⟨B,j⟩:=atx (Ph t o z) (aQn (aQn (WM _) A) fC) fC;have J:uV (textOf q)=true:=(af6 _).2 ⟨jv,t,o,i,by rw[e];exact j⟩;have l:mZ (textOf q)=post t 0:=by rw[(afL J).2.1,aBf o i (by rw[e];exact j)]
 refine⟨t,a,o,z,x,e,J,l,i,λs b=>?_⟩;have D:=ZK t [] [] o;rw[axx h a,axx i (t:=t) ZP]
theorem NU(h:aN q=true):∃t,DW t/\Ib t/\t.size=q.length/\textOf q=Lib.join (cu t) [32]/\uV (textOf q)=true/\mZ (textOf q)=post t 0/\aN (post t 0)=true/\∀s b,s∈iZ (post t 0) b↔s∈iZ q b:=by obtain⟨t,_,r⟩:=axy h;exact⟨t,r⟩
abbrev BJ:=Bool×List aW×Unit
def O9:BJ:=(false,[],())
def zB(l:List aW)(x:aW):Bool:=l.any λy=>y.1==x.1
def JJ(l:List aW)(x:aW):Bool:=l.any λy=>y.1==x.1&&!decide (y.2=x.2)
def JI(name:Bytes)(y:aW):Bool:=Op.bytesLess y.1 name
def TS(l:List aW)(x:aW):List aW:=l.takeWhile (JI x.1)++x::l.dropWhile (JI x.1)
def qN(a:List aW):List aW->List aW->Option (List aW)
 |acc,[]=>some acc
 |acc,x::r=>bif JJ a x then none else bif zB a x then qN a acc r else qN a (TS acc x) r
def aEG:Option (List aW)->BJ
 |some l=>(true,l,())
 |none=>O9
def CQ(a b:BJ):BJ:=bif a.1&&b.1 then aEG (qN a.2.1 a.2.1 b.2.1)else O9
def Rz(a b:BJ):BJ:=bif a.1==b.1 then O9 else bif a.1 then a else b
def iO(q:List aO)(f:aG)(X:BX)(a:Nat)(m:Bool):BJ:=
 if val q f X a=m then(true,[],())
 else if(nodeAt q a).1=5 then(if h:(nodeAt q a).2.1.toNat<a then iO q f X (nodeAt q a).2.1.toNat (!m)else O9)
 else if jS (nodeAt q a)=true then(if h:(nodeAt q a).2.1.toNat<a/\(nodeAt q a).2.2.1.toNat<a then
  (bif ((nodeAt q a).1==6)==m then CQ (iO q f X (nodeAt q a).2.1.toNat m) (iO q f X (nodeAt q a).2.2.1.toNat m)
   else Rz (iO q f X (nodeAt q a).2.1.toNat m) (iO q f X (nodeAt q a).2.2.1.toNat m))else O9)
 else if(nodeAt q a).1=3/\m=true then(true,[((nodeAt q a).2.2.2.1,(nodeAt q a).2.2.2.2.1,(nodeAt q a).2.2.2.2.2.1,(nodeAt q a).2.2.2.2.2.2.1,())],())
 else if(nodeAt q a).1=2/\m=false then(true,[((nodeAt q a).2.2.2.1,0,0,[],())],())
 else O9
termination_by a
decreasing_by all_goals omega
theorem axz(l:List aW)(x:aW):(TS l x).Perm (x::l):=by
 grind [TS,List.takeWhile_append_dropWhile]
theorem aAI(l:List aW)(x:aW):(TS l x).length=l.length+1:=by have:=(axz l x).length_eq;omega
theorem aga{a:List aW}:∀{b e l:List aW},qN a e b=some l->l.length<=e.length+b.length
 |[],e,l,h=>by cases h;simp
 |x::r,e,l,h=>by
  rw[qN]at h;cases N:JJ a x with
  |true=>grind
  |false=>
   rw[N]at h;cases j:zB a x with
   |true=>rw[j]at h;have:=aga (b:=r) h;grind
   |false=>rw[j]at h;have:=aga (b:=r) h;grind [aAI]
theorem aE6(a b:BJ):(CQ a b).2.1.length<=a.2.1.length+b.2.1.length:=by
 unfold CQ;cases a.1&&b.1 with
 |false=>exact aQx _
 |true=>
  cases h:qN a.2.1 a.2.1 b.2.1 with
  |none=>exact aQx _
  |some l=>exact aga h
theorem aDh(a b:BJ):Rz a b=O9\/Rz a b=a\/Rz a b=b:=by
 grind [Rz]
theorem asO(q:List aO)(f:aG)(X:BX):∀(a:Nat)(m:Bool),(iO q f X a m).2.1.length<=2 ^ a:=by
 intro a
 induction a using Nat.strongRecOn with
 |_ a ih=>
  intro m;have one:1<=2 ^ a:=aSn;rw[iO];split
  · grind
  split
  .split
   · grind [Nat.le_trans,Nat.pow_le_pow_right]
   .exact aQx _
  split
  .split
   .next h=>
    have C:=aQn (ih _ h.1 m) (aRE (n:=2) jI (show(nodeAt q a).2.1.toNat<=a-1 from fC));have O:=aQn (ih _ h.2 m) (aRE (n:=2) jI (show(nodeAt q a).2.2.1.toNat<=a-1 from fC));have e:2 ^ a=2 ^ (a-1)+2 ^ (a-1):=by
     obtain⟨b,rfl⟩:∃b,a=b+1:=⟨a-1,fC⟩
     grind
    cases ((nodeAt q a).1==6)==m with
    |true=>grind [aE6]
    |false=>
     show(Rz _ _).2.1.length<=_;rcases aDh (iO q f X (nodeAt q a).2.1.toNat m) (iO q f X (nodeAt q a).2.2.1.toNat m)with e|e|e
     .rw[e];exact aQx _
     .rw[e];omega
     grind
   .exact aQx _
  split
  .exact one
  split
  .exact one
  .exact aQx _
variable {l:List aW}
theorem aIZ{x:aW}(h:Dp l)(Z:zB l x=false):Dp (TS l x):=by
 unfold TS;have g:=h;unfold Dp at g;have e:=aSr (p:=JI x.1) (l:=l);rw[← e,aRF]at g;have j:∀y∈l,y.1≠x.1:=λy F o=>by
  grind [zB]
 have s:∀a∈l.takeWhile (JI x.1),Op.bytesLess a.1 x.1=true:=λa i=>(WI i).1;have D:∀a∈l.dropWhile (JI x.1),Op.bytesLess x.1 a.1=true:=by
  cases W:l.dropWhile (JI x.1)with
  |nil=>grind
  |cons y r=>
   have F:JI x.1 y=false:=by
    have:=List.head_dropWhile_not (JI x.1) (l:=l) (by rw[W];simp)
    grind
   have b:y∈l:=(List.dropWhile_sublist _).subset (by rw[W];grind);have F:Op.bytesLess x.1 y.1=true:=by have:=aA3 y.1 x.1;rw[show Op.bytesLess y.1 x.1=false from F,aQl.2 (j y b)]at this;exact this.symm
   grind [BI,List.pairwise_cons]
 grind [Dp,List.pairwise_cons]
theorem agb{a:List aW}:∀{b i l:List aW},Dp i->Dp b->(∀y∈i,zB a y=true\/∀z∈b,Op.bytesLess y.1 z.1=true)->qN a i b=some l->Dp l
 |[],i,l,h,_,_,e=>by cases e;exact h
 |x::r,i,l,h,hb,hy,e=>by
  rw[qN]at e;obtain⟨A,o⟩:=aQ5.1 hb;cases N:JJ a x with
  |true=>grind
  |false=>
   rw[N]at e;cases j:zB a x with
   |true=>rw[j]at e;exact agb h o (λy s=>(hy y s).imp_right λg z B=>g z (aQo _ B)) e
   |false=>
    rw[j]at e;have C:zB i x=false:=by
     grind [zB,JX]
    refine agb (aIZ h C) o (λy s=>?_) e
    grind [axz]
theorem aE7{a b:BJ}(e:Dp a.2.1)(U:Dp b.2.1):Dp (CQ a b).2.1:=by
 unfold CQ;cases a.1&&b.1 with
 |false=>exact List.Pairwise.nil
 |true=>
  cases h:qN a.2.1 a.2.1 b.2.1 with
  |none=>exact List.Pairwise.nil
  |some l=>exact agb e U (λy F=>.inl (aRA.2 ⟨y,F,aQv.2 rfl⟩)) h
theorem aE8(q:List aO)(f:aG)(X:BX):∀(a:Nat)(m:Bool),Dp (iO q f X a m).2.1:=by
 intro a
 induction a using Nat.strongRecOn with
 |_ a ih=>
  intro m;rw[iO];split
  .exact List.Pairwise.nil
  split
  .split
   · grind
   .exact List.Pairwise.nil
  split
  .split
   .next h=>
    cases ((nodeAt q a).1==6)==m with
    |true=>grind [aE7]
    |false=>
     rcases aDh (iO q f X (nodeAt q a).2.1.toNat m) (iO q f X (nodeAt q a).2.2.1.toNat m)with e|e|e
     .rw[e];exact List.Pairwise.nil
     · grind
     grind
   .exact List.Pairwise.nil
  split
  .exact aRg _ _
  split
  .exact aRg _ _
  .exact List.Pairwise.nil
def aE9(x:aW):ET:=bif x.2.1==0 then(0,0,[],())else x.2
def zC(a l:List aW):List aW:=l.foldl (λa x=>ku a x.1 x.2.1 x.2.2.1 x.2.2.2.1) a
def aJT(a:List aW):Prop:=Dp a/\∀x∈a,x.2.1≠0
theorem anP{x:aW}{t:Bytes}(h:x.1≠t):∀(p:List aW){q:List aW},dA (p++x::q) t=dA (p++q) t
 |[],q=>by grind [dA]
 |y::p,q=>by show dA (y::(p++x::q)) t=dA (y::(p++q)) t;rw[dA,dA,anP h p]
theorem ZL{x:aW}:∀(p:List aW){q:List aW},(∀y∈p,y.1≠x.1)->dA (p++x::q) x.1=x.2
 |[],q,_=>by grind [dA]
 |y::p,q,h=>by show dA (y::(p++x::q)) x.1=_;rw[dA,aQl.2 (h y aQr)];exact ZL p λz a=>h z (aQo _ a)
theorem ace(name t:Bytes):∀(a:List aW),dA (a.filter (nC name)) t=if t=name then(0,0,[],())else dA a t
 |[]=>by split<;>rfl
 |x::r=>by
  have b:=ace name t r;by_cases Z:x.1=name
  .rw[aSo (by unfold nC;simp[Z]),b];split
   .rfl
   .next hne=>rw[dA,aQl.2 (show x.1≠t fromλe=>hne (e.symm.trans Z))];rfl
  .rw[List.filter_cons_of_pos (by unfold nC;simp[Z]),dA,dA,b];by_cases e:x.1=t
   .rw[aQv.2 e];exact(if_neg λh=>Z (e.trans h)).symm
   .rw[aQl.2 e];rfl
theorem aI0{x:aW}(h:∀y∈l,y.1≠x.1):Yq l x=TS l x:=by
 have e:∀(l:List aW),(∀y∈l,y.1≠x.1)->l.takeWhile (lT x.1)=l.takeWhile (JI x.1)/\l.dropWhile (lT x.1)=l.dropWhile (JI x.1):=by
  intro l
  induction l with
  |nil=>simp_all
  |cons y r ih=>
   grind [lT,JI,List.takeWhile_cons,List.dropWhile_cons]
 grind [Yq,TS]
theorem axA{a:List aW}:∀y∈a.filter (nC name),y.1≠name:=λy F=>by
 grind [nC]
theorem anQ(a:List aW)(x:aW)(t:Bytes):dA (ku a x.1 x.2.1 x.2.2.1 x.2.2.2.1) t=if t=x.1 then aE9 x else dA a t:=by
 unfold ku aE9;by_cases j:x.2.1=0
 · grind [ace]
 .rw[aQH j,aQl.2 j];rw[aI0 axA];unfold TS;split
  .next e=>rw[e];exact ZL _ λy F=>axA y (WI F).2
  grind [anP,List.takeWhile_append_dropWhile,ace]
theorem akA{t:Bytes}:∀{l a:List aW},(∀x∈l,x.1≠t)->dA (zC a l) t=dA a t
 |[],_,_=>rfl
 |x::r,a,h=>by show dA (zC (ku a x.1 x.2.1 x.2.2.1 x.2.2.2.1) r) t=_;rw[akA λy F=>h y (aQo _ F),anQ,if_neg λe=>h x aQr e.symm]
theorem anR:∀{l a:List aW}{x:aW},Dp l->x∈l->dA (zC a l) x.1=aE9 x
 |y::r,a,x,h,Z=>by
  obtain⟨C,O⟩:=aQ5.1 h;rcases aQt.1 Z with rfl|Z
  .show dA (zC (ku a x.1 x.2.1 x.2.2.1 x.2.2.2.1) r) x.1=_;rw[akA λz b=>(JX (C z b)).symm,anQ,if_pos rfl]
  .exact anR (l:=r) O Z
theorem aHg{a:List aW}(h:aJT a)(x:aW):x∈a↔x.2.1≠0/\dA a x.1=x.2:=by
 constructor
 .intro hx;refine⟨h.2 x hx,?_⟩;obtain⟨p,q,rfl⟩:=List.append_of_mem hx;have:=h.1
  grind [Dp,ZL,JX]
 .rintro⟨h0,he⟩;have:∀(l:List aW),dA l x.1=x.2->x∈l:=by
   intro l
   induction l with
   |nil=>
    intro e;have e:((0,0,[],()):ET)=x.2:=e
    grind
   |cons y r ih=>
    grind [dA]
  exact this a he
theorem aBm{fs:List dm}{a:List aW}(h:jh fs a=true):aJT a:=by
 obtain⟨C,O⟩:=yV.1 h;refine⟨O,λx Z e=>?_⟩
 grind [mO]
def aJU(fs:List dm)(l:List aW):Prop:=∀x∈l,x.2.1≠0->mO fs x.1 x.2.1 x.2.2.1 x.2.2.2.1=true
theorem adU{fs:List dm}:∀{l a:List aW},jh fs a=true->aJU fs l->jh fs (zC a l)=true
 |[],_,h,_=>h
 |x::r,a,h,hf=>by
  refine adU (l:=r) (show jh fs (ku a x.1 x.2.1 x.2.2.1 x.2.2.2.1)=true from ?_) λy F=>hf y (aQo _ F);by_cases j:x.2.1=0
  .obtain⟨h1,h2⟩:=yV.1 h;unfold ku;rw[aQT j];exact yV.2 ⟨λy F=>h1 y (aQ4.1 F).1,aRI _ h2⟩
  .exact aCp h (hf x aQr j) j
theorem aK1{fs:List dm}{a:List aW}(W:Dp l)(h:jh fs (zC a l)=true):aJU fs l:=λx Z j=>by
 grind [anR,aE9,yV,aHg,aBm]
def Dq(l:List aW)(i:Nat):List aW:=l.take i++l.drop (i+1)
theorem asT(l:List aW)(i:Nat):(Dq l i).Sublist l:=by
 grind [Dq,List.take_append_drop]
def edited(f:aG)(l:List aW):aG:=(f.1,f.2.1,f.2.2.1,f.2.2.2.1,zC f.2.2.2.2.1 l,())
theorem Hq{fs:List dm}(h:fD fs f=true):jh fs f.2.2.2.2.1=true:=by
 grind [fD]
theorem ayy{fs:List dm}(h:fD fs f=true)(W:jh fs (zC f.2.2.2.2.1 l)=true):fD fs (edited f l)=true:=by unfold fD at h ⊢;rw[Hq (by grind [fD])]at h;show(jh fs (zC f.2.2.2.2.1 l)&&_&&_&&_&&_)=true;rw[W];exact h
theorem aCv{fs:List dm}(i:Nat)(X:fD fs f=true)(a:Dp l)(h:fD fs (edited f l)=true):fD fs (edited f (Dq l i))=true:=
 ayy X (adU (Hq X) λx Z=>aK1 a (Hq h) x ((asT l i).subset Z))
theorem Dk{s:bT}:aJ s=true↔(∀f∈s.2.1,fD s.1 f=true/\f.1<s.2.2.1)/\(s.2.1.Pairwise λf g=>f.1<g.1)/\fJ s.1=true/\s.2.1.length<=12/\1<=s.2.2.1/\s.2.2.1<=61:=by
 have b:∀i(D:i<s.2.1.length),fileAt s.2.1 i=s.2.1[i]:=λi D=>by grind [fileAt]
 constructor
 .intro h;obtain⟨C,O,K,x,e⟩:=nV.1 h;refine⟨λf X=>?_,?_,O,K,x,e⟩
  · grind [Yi,tV]
  .refine aRb.2 λi j D o a=>?_;have:=atp h j i a o
   grind
 grind [nV,tV,List.pairwise_iff_getElem]
theorem ayz{fs:List dm}{a:List aG}(h:fD fs f=true):fD fs (unlink a f)=true:=by
 grind [fD,unlink]
theorem Yc{s:bT}(u:Int)(h:aJ s=true):aJ (visible s u)=true:=by
 obtain⟨C,O,K,x,b⟩:=Dk.1 h;refine Dk.2 ⟨λf X=>?_,?_,K,?_,b⟩
 .obtain⟨g,hg,rfl⟩:=aQW.1 X;obtain⟨a,_⟩:=aQ4.1 hg;exact⟨ayz (C g a).1,(C g a).2⟩
 .show List.Pairwise _ ((s.2.1.filter (uT · u)).map (unlink (s.2.1.filter (uT · u))));rw[aRT];exact aRI _ O
 .show((s.2.1.filter (uT · u)).map (unlink (s.2.1.filter (uT · u)))).length<=12
  grind
open Classical in
noncomputable def vM (fs:List aG) (d:List aH):List fA:=if h:∃out,gX fs d [] (λ_=>true) out then h.choose else[]
theorem ai1(e:dK d=true)(h:gX fs d [] (λ_=>true) out):vM fs d=out:=by
 unfold vM;have Z:∃out,gX fs d [] (λ_=>true) out:=⟨out,h⟩
 grind [TM]
theorem NK(h:aA d=true):dK d=true:=by
 grind [aA]
theorem Ws{s:bT}(h:aJ s=true)(e:aA d=true):gX s.2.1 d [] (λ_=>true) (vM s.2.1 d):=by
 have:∃out,gX s.2.1 d [] (λ_=>true) out:=by obtain⟨aS,W⟩:=arb (Td (rV d) (jH.1 e).2);exact TL [] (λ_=>true) (NK e) W (vI h)
 grind [vM]
noncomputable def aC5 (s:bT) (d:List aH) (u:Int) (name:Bytes):List (Int×Unit):=gY (vM (visible s u).2.1 d) name
noncomputable def listed (s:bT) (d:List aH) (u:Int) (name:Bytes) (id:Int):Bool:=fF (aC5 s d u name) id
def Nl(s:bT)(d:List aH)(u:Int):Prop:=aJ s=true/\aA d=true/\qw u=true
def sH(d:List aH)(name:Bytes):aH×Bool:=bif decide (bn d name<0)then(([],[],()),false)else(dh d (bn d name).toNat,true)
def aMc(s:bT)(u id:Int):aG:=(bI (visible s u) id).1
def KU(q:List aO)(f:aG)(X:BX)(m:Bool):BJ:=bif aN q then iO q f X (q.length-1) m else O9
noncomputable def DU (c:dF) (u:Int) (name:Bytes) (id:Int) (b:Bool):BJ:=
 KU (sH (bF c) name).1.2.1 (aMc (aQ c) u id) (bK (vM (visible (aQ c) u).2.1 (bF c))) b
def xI(c:dF)(id:Int)(l:List aW):bT×Bool:=bU (aQ c) (edited (bI (aQ c) id).1 l)
noncomputable def needed (c:dF) (u:Int) (name:Bytes) (id:Int) (b:Bool) (l:List aW) (i:Nat):Bool:=
 (xI c id (Dq l i)).2&&!(listed (xI c id (Dq l i)).1 (bF c) u name id==b)
noncomputable def Dn (c:dF) (u:Int) (name:Bytes) (id:Int) (b:Bool) (w:BJ):Bool:=
 w.1&&((xI c id w.2.1).2&&((listed (xI c id w.2.1).1 (bF c) u name id==b)&&jG w.2.1.length (needed c u name id b w.2.1)))
noncomputable def Ox (c:dF) (u:Int) (name:Bytes) (id:Int) (b:Bool):Bool:=
 (dn c&&(rP c u id&&(sH (bF c) name).2))&&Dn c u name id b (DU c u name id b)
def written(c:dF)(u:Int)(name:Bytes)(id:Int)(b:Bool)(e:dF)(a:List aW)(h:Bool):Prop:=
 h=Ox c u name id b/\(h=true->aQ e=(xI c id (DU c u name id b).2.1).1/\bF e=bF c/\dn e=true/\a=(DU c u name id b).2.1)/\(h=false->e=c/\a=[])
theorem agE(h:rP c u id=true):qw u=true:=by
 grind [rP,Az,qw]
theorem ai2(h:dn c=true):aJ (aQ c)=true/\aA (bF c)=true/\gX c.2.1 (bF c) [] (λ_=>true) (uK c):=by
 grind [dn]
theorem aLY(X:(bI (aQ c) id).2=true)(h:(xI c id l).2=true):
 bI (xI c id l).1 id=(edited (bI (aQ c) id).1 l,true)/\aJ (xI c id l).1=true/\fD (aQ c).1 (edited (bI (aQ c) id).1 l)=true/\aJ (aQ c)=true:=by
 grind [ayt,edited,VG,mG,xI]
theorem aIF(i:Nat)(X:(bI (aQ c) id).2=true)(a:Dp l)(h:(xI c id l).2=true):(xI c id (Dq l i)).2=true:=by
 grind [VG,aCv,Dk,xI,mG,edited]
theorem aIE{b:Bool}:Dp (DU c u name id b).2.1:=by
 unfold DU KU;cases aN (sH (bF c) name).1.2.1 with
 |true=>grind [aE8]
 |false=>exact List.Pairwise.nil
theorem asQ{b:Bool}(h:Ox c u name id b=true):
 dn c=true/\rP c u id=true/\(sH (bF c) name).2=true/\(DU c u name id b).1=true/\(xI c id (DU c u name id b).2.1).2=true/\
 listed (xI c id (DU c u name id b).2.1).1 (bF c) u name id=b/\∀i,i<(DU c u name id b).2.1.length->needed c u name id b (DU c u name id b).2.1 i=true:=by
 unfold Ox Dn at h;simp only[aQm]at h;exact⟨h.1.1,h.1.2.1,h.1.2.2,h.2.1,h.2.2.1,jv,λi D=>aQA.1 h.2.2.2.2 i (aQ8.2 D)⟩
def yE:Bytes:=[102,105,101,108,100]
def Tq:Bytes:=[110,101,120,116]
def BF:Bytes:=[100,105,114]
def ak2:Bytes:=[105,110,116]
def Vm:Bytes:=[115,116,114,105,110,103]
def iP(f:dm):Bytes:=bif !iw f.1 then[]else bif f.2.1==1 then yE++32::(f.1++32::ak2)else bif f.2.1==2 then yE++32::(f.1++32::Vm)else[]
def oP(n:Int):Bytes:=Tq++32::Lib.itoa n
def qA(d:aH):Bytes:=BF++32::(d.1++32::textOf d.2.1)
def Du(x:dw):List Bytes:=x.1.map iP++(oP x.2.2.1::(x.2.1.map lM++x.2.2.2.1.map qA))
noncomputable def enc (x:dw):LS:=bif eU x then ls (Du x)else[]
def nX:dw:=([],[],0,[],())
def PU(x:dw)(w:LS):dw×Bool:=
 bif wordAt w 0==yE&&decide ((w.length:Int)=3)then((x.1++[(wordAt w 1,(bif wordAt w 2==Vm then 2 else 1),())],x.2.1,x.2.2.1,x.2.2.2.1,()),true)
 else bif wordAt w 0==Tq&&decide ((w.length:Int)=2)then((x.1,x.2.1,parseNum (wordAt w 1),x.2.2.2.1,()),lD (wordAt w 1))
 else bif wordAt w 0==MB then((x.1,x.2.1++[(alc (w.drop 1)).1],x.2.2.1,x.2.2.2.1,()),(alc (w.drop 1)).2)
 else bif wordAt w 0==BF&&decide (2<(w.length:Int))then((x.1,x.2.1,x.2.2.1,x.2.2.2.1++[(wordAt w 1,mZ (mY (w.drop 2)),())],()),uV (mY (w.drop 2)))
 else(x,false)
def H6:dw->LS->dw×Bool
 |x,[]=>(x,true)
 |x,l::r=>bif (PU x (pieces 32 l.1)).2 then H6 (PU x (pieces 32 l.1)).1 r else((PU x (pieces 32 l.1)).1,false)
def wO(x:dw)(w:LS):dw:=
 bif wordAt w 0==yE then(x.1++[(wordAt w 1,(bif wordAt w 2==ak2 then 1 else 2),())],x.2.1,x.2.2.1,x.2.2.2.1,())
 else bif wordAt w 0==Tq then(x.1,x.2.1,numAt w 1,x.2.2.2.1,())
 else bif wordAt w 0==MB then(x.1,x.2.1++[X4 (numAt w 1) (w.drop 2)],x.2.2.1,x.2.2.2.1,())
 else bif wordAt w 0==BF then(x.1,x.2.1,x.2.2.1,x.2.2.2.1++[(wordAt w 1,(bif decide (2<(w.length:Int))then mZ (mY (w.drop 2))else[]),())],())
 else x
def uJ:dw->LS->dw
 |x,[]=>x
 |x,l::r=>uJ (wO x (kD l.1)) r
noncomputable def dec (l:LS):dw×Bool:=bif eU (uJ nX l)&&decide (enc (uJ nX l)=l)then(uJ nX l,true)else(nX,false)
def nO(d:aH):aH:=(d.1,mZ (textOf d.2.1),())
def norm(x:dw):dw:=(x.1,x.2.1,x.2.2.1,x.2.2.2.1.map nO,())
theorem TW(h:∀x∈ws,fine x)(W:Dt ws<=600)(N:ws.length<=24)(i:ws≠[]):kD (Lib.join ws [32])=ls ws/\pieces 32 (Lib.join ws [32])=ls ws/\(Lib.join ws [32]).length<=600:=by have U:=aQn (WM ws) W;obtain⟨a,b⟩:=atx h U N;refine⟨by unfold kD;rw[a,b];rfl,anN ws i λw o x Z e=>?_,U⟩;have:=(h w o).1.2 x Z;rw[e]at this;exact absurd this jI
theorem aHh{s:Bytes}(h:iw s=true):fine s:=BK (qy h)
theorem apV{s:Bytes}(h:iw s=true):s.length<=1:=by
 grind [iw]
theorem akB(x y z:Bytes):x++32::(y++32::z)=Lib.join [x,y,z] [32]:=(as3 x y z).symm
theorem atF{f:dm}(C:iw f.1=true)(O:f.2.1=1\/f.2.1=2)(x:dw):
 PU x (pieces 32 (iP f))=((x.1++[f],x.2.1,x.2.2.1,x.2.2.2.1,()),true)/\wO x (kD (iP f))=(x.1++[f],x.2.1,x.2.2.1,x.2.2.2.1,())/\(iP f).length<=600/\(∃ws:List Bytes,iP f=Lib.join ws [32]/\∀w∈ws,fine w):=by
 obtain⟨nm,k,⟨⟩⟩:=f;have j:nm.length<=1:=apV C;have X:fine yE:=⟨⟨jI,jI⟩,jI⟩;have H:=aHh C;rcases O with rfl|rfl
 .have e:iP (nm,1,())=Lib.join [yE,nm,ak2] [32]:=by grind [iP,akB]
  have D:fine ak2:=⟨⟨jI,jI⟩,jI⟩;have h:∀w∈[yE,nm,ak2],fine w:=λw o=>by
   grind
  obtain⟨a,b,c⟩:=TW h (by show 5+1+(nm.length+1+(3+1+0))<=600;omega) jv ni;rw[e,a,b];exact⟨rfl,rfl,c,_,rfl,h⟩
 .have e:iP (nm,2,())=Lib.join [yE,nm,Vm] [32]:=by grind [iP,akB]
  have D:fine Vm:=⟨⟨jI,jI⟩,jI⟩;have h:∀w∈[yE,nm,Vm],fine w:=λw o=>by
   grind
  obtain⟨a,b,c⟩:=TW h (by show 5+1+(nm.length+1+(6+1+0))<=600;omega) jv ni;rw[e,a,b];exact⟨rfl,rfl,c,_,rfl,h⟩
theorem axB(h:jc n=true)(x:dw):
 PU x (pieces 32 (oP n))=((x.1,x.2.1,n,x.2.2.2.1,()),true)/\wO x (kD (oP n))=(x.1,x.2.1,n,x.2.2.2.1,())/\(oP n).length<=600/\(∃ws:List Bytes,oP n=Lib.join ws [32]/\∀w∈ws,fine w):=by
 have e:oP n=Lib.join [Tq,Lib.itoa n] [32]:=by rw[afH];rfl
 have i:∀w∈[Tq,Lib.itoa n],fine w:=λw o=>by
  rcases aQt.1 o with rfl|o
  .exact⟨⟨jI,jI⟩,jI⟩
  grind [WJ]
 have W:=(nM h).2.2.2.2;obtain⟨a,b,c⟩:=TW i (by show 4+1+((Lib.itoa n).length+1+0)<=600;omega) jv ni;obtain⟨s,j⟩:=Fa h;rw[e,a,b];refine⟨?_,?_,c,_,rfl,i⟩
 .show((x.1,x.2.1,parseNum (Lib.itoa n),x.2.2.2.1,()),lD (Lib.itoa n))=_;rw[s,j]
 .show(x.1,x.2.1,parseNum (Lib.itoa n),x.2.2.2.1,())=_;rw[j]
theorem axC(h:MQ f=true)(A:f.2.2.2.2.1.length<=5)(x:dw):
 PU x (pieces 32 (lM f))=((x.1,x.2.1++[f],x.2.2.1,x.2.2.2.1,()),true)/\wO x (kD (lM f))=(x.1,x.2.1++[f],x.2.2.1,x.2.2.2.1,())/\(lM f).length<=600/\(∃ws:List Bytes,lM f=Lib.join ws [32]/\∀w∈ws,fine w):=by
 have j:=(EZ.1 h).2.1;have W:=(nM j).2.2.2.2;obtain⟨s,z⟩:=aHe h;have i:∀w∈MB::Lib.itoa f.1::vO f,fine w:=λw o=>by
  rcases aQt.1 o with rfl|o
  .exact⟨⟨jI,jI⟩,jI⟩
  grind [WJ,aHc]
 obtain⟨a,b,c⟩:=TW i (by rw[ou,ou];show 4+1+_<=600;omega) jv ni;have e:lM f=Lib.join (MB::Lib.itoa f.1::vO f) [32]:=rfl;rw[e,a,b];refine⟨?_,?_,c,_,rfl,i⟩
 .show((x.1,x.2.1++[(alc ((Lib.itoa f.1,())::ls (vO f))).1],x.2.2.1,x.2.2.2.1,()),(alc ((Lib.itoa f.1,())::ls (vO f))).2)=_;rw[aE5 h]
 .show(x.1,x.2.1++[X4 (parseNum (Lib.itoa f.1)) (ls (vO f))],x.2.2.1,x.2.2.2.1,())=_
  grind [Fa,axv]
theorem aBn{d:aH}(C:dU d.1=true)(O:aN d.2.1=true)(x:dw):
 PU x (pieces 32 (qA d))=((x.1,x.2.1,x.2.2.1,x.2.2.2.1++[nO d],()),true)/\wO x (kD (qA d))=(x.1,x.2.1,x.2.2.1,x.2.2.2.1++[nO d],())/\(qA d).length<=600/\(∃ws:List Bytes,qA d=Lib.join ws [32]/\∀w∈ws,fine w):=by
 obtain⟨t,o,z,H,D,J,B,_,_⟩:=NU O;obtain⟨I,K⟩:=MR t o z;obtain⟨S,M,A,_⟩:=aBe t;have s:=(jF O).2;have F:=yH C;have e:qA d=Lib.join (BF::d.1::cu t) [32]:=by
  grind [qA,BQ]
 have h:∀w∈BF::d.1::cu t,fine w:=λw i=>by
  rcases aQt.1 i with rfl|i
  .exact⟨⟨jI,jI⟩,jI⟩
  grind [BK,Ph]
 obtain⟨a,b,c⟩:=TW h (by rw[ou,ou];show 3+1+_<=600;omega) jv ni;have j:mY ((ls (BF::d.1::cu t)).drop 2)=textOf d.2.1:=by
  grind [mY,ls,aHa]
 have L:2<((ls (BF::d.1::cu t)).length:Int):=by
  grind [ls]
 rw[e,a,b];refine⟨?_,?_,c,_,rfl,h⟩
 .have:PU x (ls (BF::d.1::cu t))=bif decide (2<((ls (BF::d.1::cu t)).length:Int))then((x.1,x.2.1,x.2.2.1,x.2.2.2.1++[(d.1,mZ (mY ((ls (BF::d.1::cu t)).drop 2)),())],()),uV (mY ((ls (BF::d.1::cu t)).drop 2)))else(x,false):=rfl
  rw[this,j,aQT L,J];rfl
 .have:wO x (ls (BF::d.1::cu t))=(x.1,x.2.1,x.2.2.1,x.2.2.2.1++[(d.1,(bif decide (2<((ls (BF::d.1::cu t)).length:Int))then mZ (mY ((ls (BF::d.1::cu t)).drop 2))else[]),())],()):=rfl;rw[this,j,aQT L];rfl
theorem ap7:∀(a:LS)(x:dw)(b:LS),(H6 x a).2=true->H6 x (a++b)=H6 (H6 x a).1 b
 |[],_,_,_=>rfl
 |l::r,x,b,h=>by
  rw[aRv,H6,H6];rw[H6]at h;cases hr:(PU x (pieces 32 l.1)).2 with
  |true=>rw[hr]at h;exact ap7 r _ b h
  |false=>rw[hr]at h;cases h
theorem agc:∀(a:LS)(x:dw)(b:LS),uJ x (a++b)=uJ (uJ x a) b
 |[],_,_=>rfl
 |l::r,x,b=>by exact agc r _ b
theorem aGP(a b:List Bytes):ls (a++b)=ls a++ls b:=by grind [ls]
theorem atG:∀(fs:List dm)(x:dw),(∀f∈fs,iw f.1=true/\(f.2.1=1\/f.2.1=2))->H6 x (ls (fs.map iP))=((x.1++fs,x.2.1,x.2.2.1,x.2.2.2.1,()),true)/\uJ x (ls (fs.map iP))=(x.1++fs,x.2.1,x.2.2.1,x.2.2.2.1,())
 |[],x,_=>by rw[aQY];exact⟨rfl,rfl⟩
 |f::r,x,h=>by
  obtain⟨a,b⟩:=h f aQr;obtain⟨C,O,_⟩:=atF a b x;obtain⟨i,j⟩:=atG r (x.1++[f],x.2.1,x.2.2.1,x.2.2.2.1,()) λg e=>h g (aQo _ e);refine⟨?_,?_⟩
  .show H6 x ((iP f,())::ls (r.map iP))=_;rw[H6,C];rw[i,aQL];rfl
  .show uJ x ((iP f,())::ls (r.map iP))=_;rw[uJ,O,j,aQL];rfl
theorem axD:∀(fs:List aG)(x:dw),(∀f∈fs,MQ f=true/\f.2.2.2.2.1.length<=5)->H6 x (ls (fs.map lM))=((x.1,x.2.1++fs,x.2.2.1,x.2.2.2.1,()),true)/\uJ x (ls (fs.map lM))=(x.1,x.2.1++fs,x.2.2.1,x.2.2.2.1,())
 |[],x,_=>by rw[aQY];exact⟨rfl,rfl⟩
 |f::r,x,h=>by
  obtain⟨a,b⟩:=h f aQr;obtain⟨C,O,_⟩:=axC a b x;obtain⟨i,j⟩:=axD r (x.1,x.2.1++[f],x.2.2.1,x.2.2.2.1,()) λg e=>h g (aQo _ e);refine⟨?_,?_⟩
  .show H6 x ((lM f,())::ls (r.map lM))=_;rw[H6,C];rw[i,aQL];rfl
  .show uJ x ((lM f,())::ls (r.map lM))=_;rw[uJ,O,j,aQL];rfl
theorem aBo:∀(e:List aH)(x:dw),(∀d∈e,dU d.1=true/\aN d.2.1=true)->H6 x (ls (e.map qA))=((x.1,x.2.1,x.2.2.1,x.2.2.2.1++e.map nO,()),true)/\uJ x (ls (e.map qA))=(x.1,x.2.1,x.2.2.1,x.2.2.2.1++e.map nO,())
 |[],x,_=>by rw[show([]:List aH).map nO=[]from rfl,aQY];exact⟨rfl,rfl⟩
 |d::r,x,h=>by
  obtain⟨a,b⟩:=h d aQr;obtain⟨C,O,_⟩:=aBn a b x;obtain⟨j,o⟩:=aBo r (x.1,x.2.1,x.2.2.1,x.2.2.2.1++[nO d],()) λg i=>h g (aQo _ i);refine⟨?_,?_⟩
  .show H6 x ((qA d,())::ls (r.map qA))=_;rw[H6,C];rw[j,aQL];rfl
  .show uJ x ((qA d,())::ls (r.map qA))=_;rw[uJ,O,o,aQL];rfl
variable {x:dw}
theorem Jk(h:eU x=true):(∀f∈x.1,iw f.1=true/\(f.2.1=1\/f.2.1=2))/\(∀f∈x.2.1,MQ f=true/\f.2.2.2.2.1.length<=5)/\jc x.2.2.1=true/\(∀d∈x.2.2.2.1,dU d.1=true/\aN d.2.1=true)/\x.1.length<=5/\x.2.1.length<=12/\x.2.2.2.1.length<=5:=by
 unfold eU at h;rw[aQm]at h;obtain⟨Y,e⟩:=h;obtain⟨b,_,i,J,z,A⟩:=Dk.1 Y;have b:∀f∈x.2.1,fD x.1 f=true/\f.1<x.2.2.1:=b;have i:fJ x.1=true:=i;have z:1<=x.2.2.1:=z;have A:x.2.2.1<=61:=A;obtain⟨B,_,C⟩:=Fe.1 (jH.1 e).1;obtain⟨K,H⟩:=MC.1 i;have I:∀f∈x.1,iw f.1=true/\(f.2.1=1\/f.2.1=2):=λf X=>by
  grind [List.getElem_of_mem,nK,fieldAt]
 refine⟨I,λf X=>?_,oO.2 fC,B,H,J,C⟩;obtain⟨D,_⟩:=b f X;have o:=Hq D;have W:=aeW o;refine⟨EZ.2 ⟨λa F=>?_,?_⟩,fC⟩
 .have hm:=(yV.1 o).1 a F;unfold mO at hm;simp only[aQm,aRS,aQF,aQP]at hm;have j:=afZ (fs:=x.1) (s:=a.1) fC
  grind [TV]
 grind [fD,oO]
theorem aDi(h:eU x=true):H6 nX (ls (Du x))=(norm x,true)/\uJ nX (ls (Du x))=norm x:=by
 obtain⟨H,I,J,K,_⟩:=Jk h;obtain⟨fs,a,n,j,⟨⟩⟩:=x;obtain⟨o,z⟩:=atG fs nX H;obtain⟨A,B,_⟩:=axB J (([]:List dm)++fs,[],0,[],());obtain⟨s,C⟩:=axD a (([]:List dm)++fs,[],n,[],()) I;obtain⟨D,F⟩:=aBo j (([]:List dm)++fs,([]:List aG)++a,n,[],()) K;have e:ls (Du (fs,a,n,j,()))=ls (fs.map iP)++((oP n,())::(ls (a.map lM)++ls (j.map qA))):=by
  grind [Du,ls]
 rw[e];constructor
 .rw[ap7 _ _ _ (by rw[o]),o,H6];have b:PU (([]:List dm)++fs,[],0,[],()) (pieces 32 (oP n))=_:=A;show(bif (PU (([]:List dm)++fs,[],0,[],()) (pieces 32 (oP n))).2 then H6 (PU (([]:List dm)++fs,[],0,[],()) (pieces 32 (oP n))).1 _ else _)=_;rw[b];rw[ap7 _ _ _ (by rw[s]),s];exact D
 .rw[agc,z,uJ];have i:wO (([]:List dm)++fs,[],0,[],()) (kD (oP n))=_:=B;show uJ (wO (([]:List dm)++fs,[],0,[],()) (kD (oP n))) _=_;rw[i,agc];rw[C];exact F
theorem anS(h:dK d=true):dK (d.map nO)=true:=by
 obtain⟨C,O,K⟩:=Fe.1 h;refine Fe.2 ⟨λx Z=>?_,?_,jv⟩
 .obtain⟨y,hy,rfl⟩:=aQW.1 Z;obtain⟨t,_,_,_,_,_,a,b,_⟩:=NU (C y hy).2;refine⟨(C y hy).1,?_⟩;show aN (mZ (textOf y.2.1))=true
  grind
 .rw[aRT];exact O
theorem ZM(s:Bytes):∀(d:List aH)(k:Int),Cj k (d.map nO) s=Cj k d s
 |[],_=>rfl
 |x::r,k=>by rw[aQB,Cj,Cj,ZM s r];rfl
theorem NV{i:Nat}(D:i<d.length):dh (d.map nO) i=nO (dh d i):=by
 grind [dh]
theorem atH(h:dK d=true)(e:Nat×Nat×Nat):e∈fO (d.map nO)↔e∈fO d:=by
 obtain⟨C,_,_⟩:=Fe.1 h;unfold fO;rw[aSH,aSH,aQG];refine aSL λi=>aRG λD=>?_;have D:=aQ8.1 D;obtain⟨t,_,_,_,_,_,b,o,a⟩:=NU (C _ (Q9 D)).2;have j:(dh (d.map nO) i).2.1=post t 0:=by rw[NV D];exact b
 have z:∀s,bn (d.map nO) s=bn d s:=λs=>ZM s d 0
 grind
theorem atI(h:aA d=true):aA (d.map nO)=true:=by obtain⟨C,L,O⟩:=jH.1 h;exact jH.2 ⟨anS C,L,λe a=>O e ((atH C e).1 a)⟩
theorem acf(h:eU x=true):eU (norm x)=true:=by unfold eU at h ⊢;rw[aQm]at h ⊢;exact⟨h.1,atI h.2⟩
theorem akC(h:eU x=true):Du (norm x)=Du x:=by
 obtain⟨_,_,_,a,_⟩:=Jk h;unfold Du norm
 grind [nO,qA,List.map_congr_left,NU,axt]
theorem ZG(h:eU x=true):enc x=ls (Du x):=by grind [enc]
theorem aGW(h:eU x=false):enc x=[]:=by grind [enc]
theorem aIk(h:eU x=true):enc (norm x)=enc x:=by grind [ZG,acf,akC]
theorem agd(h:eU x=true):dec (enc x)=(norm x,true):=by
 grind [dec,ZG,aDi,acf,akC]
theorem aBp{l:LS}(h:(dec l).2=true):eU (dec l).1=true/\enc (dec l).1=l/\norm (dec l).1=(dec l).1:=by
 grind [dec,aDi,ZG]
theorem aI1{l:LS}(h:(dec l).2=false):dec l=(nX,false):=by
 grind [dec]
def sumOf(s:Bytes):Int:=s.foldl (λn b=>(33*n+(b.toNat:Int)).tmod 65521) 3
def linesT(ws:List Bytes):Bytes:=(ws.map (· ++[10])).flatten
def rW(n:Int)(x:dw):Bytes:=linesT (Lib.itoa n::Du x)
noncomputable def slot (n:Int) (x:dw):Bytes:=bif eU x&&(decide (1<=n)&&decide (n<=1000000000))then rW n x++(Lib.itoa (sumOf (rW n x))++[46])else[]
def inner(l:LS):LS:=(l.take (l.length-1)).drop 1
noncomputable def dV (s:Bytes):Int×dw×Bool:=
 bif decide (2<=(pieces 10 s).length)&&((dec (inner (pieces 10 s))).2&&decide (slot (parseNum ((pieces 10 s).getD 0 ([],())).1) (dec (inner (pieces 10 s))).1=s))then(parseNum ((pieces 10 s).getD 0 ([],())).1,(dec (inner (pieces 10 s))).1,true)else(0,nX,false)
def YH(l:LS):Prop:=l.length<=100/\∀x∈l,x.1.length<=1000
def Qc(s:Bytes):LS:=(pieces 10 s).take ((pieces 10 s).length-1)
def dJ(s:Bytes):Prop:=(pieces 10 s).length<=100/\∀x∈pieces 10 s,x.1.length<=1000
theorem axo(s:Bytes):0<=sumOf s/\sumOf s<65521:=by
 have:∀(s:Bytes)(n:Int),0<=n->n<65521->0<=s.foldl (λn b=>(33*n+(b.toNat:Int)).tmod 65521) n/\s.foldl (λn b=>(33*n+(b.toNat:Int)).tmod 65521) n<65521:=by
  intro s
  induction s with
  |nil=>grind
  |cons b r ih=>
   grind
 exact this s 3 jI jI
def Aq(s:Bytes):Prop:=∀b∈s,b≠46
theorem QC(h:jc n=true):Aq (Lib.itoa n):=λb U e=>by
 have:=(nM h).2.2.1 b U
 simp_all
theorem Fg{s:Bytes}(h:dU s=true):Aq s:=λb U e=>by
 unfold dU lower at h;rw[aQm,aQm,aQA]at h;have:=h.1.1 b U
 simp_all
theorem WQ(op:Int):Aq (lH op):=by unfold lH;cases op==1<;>cases op==2<;>cases op==3<;>cases op==4<;>cases op==5<;>cases op==6<;>cases op==7<;>cases op==8<;>cases op==9<;>(intro b U;revert b;decide)
theorem awi(h:gy v.1 v.2.1 v.2.2.1=true)(a:v.1≠0):Aq (iI v):=by
 grind [aE0,iI,QC,oO,Fg]
theorem Vo:∀ws:List Bytes,(∀w∈ws,Aq w)->Aq (Lib.join ws [32])
 |[],_=>λb U=>by cases U
 |x::r,h=>by
  grind [Lib.join_cons,List.mem_cons_self,Aq,Lib.joinTail]
theorem axE:∀as:List aW,(∀a∈as,WL a=true)->∀w∈ng as,Aq w
 |[],_,w,o=>by cases o
 |a::r,h,w,o=>by
  obtain⟨e,i,j⟩:=TV.1 (h a aQr);rcases aQt.1 o with rfl|o
  .exact Fg (qy e)
  rcases aQt.1 o with rfl|o
  .exact awi i j
  .exact axE r (λb U=>h b (aQo _ U)) w o
theorem aFa{n:aO}(h:iM n 0=true)(o:n.1=1\/n.1=2\/n.1=3\/n.1=4\/n.1=8\/n.1=9):∀w∈nH n,Aq w:=by
 obtain⟨op,l,r,s,v⟩:=n;unfold iM at h;rcases o with rfl|rfl|rfl|rfl|rfl|rfl<;>simp at h<;>intro w a
 .rw[aQR.1 a];exact WQ 1
 .rcases aQt.1 a with rfl|a
  .exact WQ 2
  grind [Fg,qy]
 .rcases aQt.1 a with rfl|a
  .exact WQ 3
  grind [Fg,qy,awi]
 .rcases aQt.1 a with rfl|a
  .exact WQ 4
  grind [Fg,qy,awi]
 .rcases aQt.1 a with rfl|a
  .exact WQ 8
  grind [Fg]
 .rcases aQt.1 a with rfl|a
  .exact WQ 9
  grind [Fg]
theorem abj:∀t:QT,DW t->Ib t->∀w∈cu t,Aq w
 |.leaf n,hw,ho,w,h=>aFa ho hw w h
 |.neg t,hw,ho,w,h=>by
  rcases aQt.1 h with rfl|h
  .exact WQ 5
  .exact abj t hw ho w h
 |.two op a b,⟨_,w1,w2⟩,⟨o1,o2⟩,w,h=>by
  rcases aQt.1 h with rfl|h
  .exact WQ op
  rcases aQM.1 h with h|h
  .exact abj a w1 o1 w h
  .exact abj b w2 o2 w h
theorem Rf{s:Bytes}(h:s.all (λb=>b !=46)=true):Aq s:=λb U e=>by
 grind
def aMd(l:Bytes):Prop:=l.length<=600/\(∀b∈l,b≠10)/\Aq l
theorem ayN(h:∀w∈ws,fine w):∀b∈Lib.join ws [32],b≠10:=λb U e=>by have:=aQA.1 (aDe ws λw o=>(h w o).2) b U;rw[e]at this;exact absurd this jI
theorem WG(h:eU x=true):(∀l∈Du x,aMd l)/\(Du x).length<=23:=by
 obtain⟨A,B,C,D,I,J,K⟩:=Jk h;refine⟨λl W=>?_,?_⟩
 .rcases aQM.1 W with W|W
  .obtain⟨f,hf,rfl⟩:=aQW.1 W;obtain⟨b,i⟩:=A f hf;obtain⟨_,_,c,ws,e,o⟩:=atF b i x;refine⟨c,by grind [ayN],?_⟩;unfold iP;rw[b];have j:=Fg (qy b);rcases i with k|k<;>rw[k]
   .rw[akB];refine Vo _ λw o=>?_;rcases aQt.1 o with rfl|o
    .exact Rf rfl
    rcases aQt.1 o with rfl|o
    .exact j
    .rw[aQR.1 o];exact Rf rfl
   .show Aq (yE++32::(f.1++32::Vm));rw[akB];refine Vo _ λw o=>?_;rcases aQt.1 o with rfl|o
    .exact Rf rfl
    rcases aQt.1 o with rfl|o
    .exact j
    .rw[aQR.1 o];exact Rf rfl
  rcases aQt.1 W with rfl|W
  .obtain⟨_,_,c,ws,e,o⟩:=axB C x;refine⟨c,by grind [ayN],?_⟩;unfold oP;rw[← afH];refine Vo _ λw o=>?_;rcases aQt.1 o with rfl|o
   .exact Rf rfl
   grind [QC]
  rcases aQM.1 W with W|W
  .obtain⟨f,hf,rfl⟩:=aQW.1 W;obtain⟨b,i⟩:=B f hf;obtain⟨_,_,c,ws,e,o⟩:=axC b i x;refine⟨c,by grind [ayN],?_⟩;obtain⟨L,F,H,M⟩:=EZ.1 b;refine Vo _ λw o=>?_;rcases aQt.1 o with rfl|o
   .exact Rf rfl
   rcases aQt.1 o with rfl|o
   .exact QC F
   rcases aQt.1 o with rfl|o
   .exact QC H
   grind [Rf,QC,axE]
  .obtain⟨d,hd,rfl⟩:=aQW.1 W;obtain⟨b,i⟩:=D d hd;obtain⟨_,_,c,ws,e,o⟩:=aBn b i x;refine⟨c,by grind [ayN],?_⟩;obtain⟨t,z,s,_,a,_⟩:=NU i;unfold qA;rw[a,akB];refine Vo _ λw o=>?_;rcases aQt.1 o with rfl|o
   .exact Rf rfl
   grind [Fg,Vo,abj]
 grind [Du]
theorem agL:∀(ws:List Bytes)(t:Bytes),(∀w∈ws,∀b∈w,b≠10)->pieces 10 (linesT ws++t)=ls ws++pieces 10 t
 |[],_,_=>rfl
 |w::r,t,h=>by
  have e:linesT (w::r)++t=w++10::(linesT r++t):=by unfold linesT;simp
  rw[e,atA (h w aQr),agL r t λv a=>h v (aQo _ a)];rfl
theorem afV(s:Bytes):jc (sumOf s)=true:=by
 grind [axo,oO]
theorem Yt(h:eU x=true)(C:1<=n)(O:n<=1000000000):slot n x=rW n x++(Lib.itoa (sumOf (rW n x))++[46]):=by
 grind [slot]
theorem alf(h:slot n x≠[]):eU x=true/\1<=n/\n<=1000000000:=by
 grind [slot]
theorem slot_ne(h:eU x=true)(C:1<=n)(O:n<=1000000000):slot n x≠[]:=by
 simp_all [Yt]
theorem aDj(h:jc n=true):∀b∈Lib.itoa n,b≠10:=λb U e=>by
 have:=(nM h).2.2.1 b U
 simp_all
theorem anT(h:eU x=true)(C:1<=n)(O:n<=1000000000):pieces 10 (slot n x)=ls (Lib.itoa n::Du x)++[(Lib.itoa (sumOf (rW n x))++[46],())]:=by
 have H:jc n=true:=oO.2 fC;rw[Yt h C O];unfold rW;rw[agL _ _ λw o=>?_,anM λb U=>?_]
 · grind [aDj,afV]
 .rcases aQt.1 o with rfl|o
  .exact aDj H
  .exact((WG h).1 w o).2.1
theorem aHi(a:Bytes×Unit)(l:LS)(b:Bytes×Unit):inner (a::(l++[b]))=l:=by
 grind [inner]
theorem aHj(h:eU x=true):slot n (norm x)=slot n x:=by
 grind [slot,rW,acf,akC]
theorem aBq(h:eU x=true)(C:1<=n)(O:n<=1000000000):dV (slot n x)=(n,norm x,true):=by
 have H:jc n=true:=oO.2 fC;unfold dV;rw[anT h C O];have a:ls (Lib.itoa n::Du x)++[(Lib.itoa (sumOf (rW n x))++[46],())]=(Lib.itoa n,())::(ls (Du x)++[(Lib.itoa (sumOf (rW n x))++[46],())]):=rfl;rw[a,aHi,← ZG h,agd h]
 grind [Fa,aHj]
theorem MS{s:Bytes}(h:(dV s).2.2=false):dV s=(0,nX,false):=by
 grind [dV]
theorem MG{s:Bytes}(h:(dV s).2.2=true):eU (dV s).2.1=true/\1<=(dV s).1/\(dV s).1<=1000000000/\slot (dV s).1 (dV s).2.1=s/\norm (dV s).2.1=(dV s).2.1:=by
 unfold dV at h ⊢;cases N:decide (2<=(pieces 10 s).length)&&((dec (inner (pieces 10 s))).2&&decide (slot (parseNum ((pieces 10 s).getD 0 ([],())).1) (dec (inner (pieces 10 s))).1=s))with
 |false=>grind
 |true=>
  rw[aQm,aQm,aQF,aQF]at N;obtain⟨a,b,c⟩:=N;have Y:s≠[]:=λe=>by rw[e]at a;exact absurd a jI
  obtain⟨i,j,o⟩:=alf (n:=parseNum ((pieces 10 s).getD 0 ([],())).1) (x:=(dec (inner (pieces 10 s))).1) jv
  grind [aBp]
theorem aI2(h:eU x=true)(H:jc n=true):Aq (rW n x):=by
 intro b U;obtain⟨l,W,U⟩:=List.mem_flatten.1 U;obtain⟨w,o,rfl⟩:=aQW.1 W;rcases aQM.1 U with U|U
 .rcases aQt.1 o with rfl|o
  .exact QC H b U
  .exact((WG h).1 w o).2.2 b U
 grind
theorem aHk(j:k<(slot n x).length):(dV ((slot n x).take k)).2.2=false:=by
 cases N:(dV ((slot n x).take k)).2.2 with
 |false=>rfl
 |true=>
  obtain⟨a,b,c,d,_⟩:=MG N;generalize (dV ((slot n x).take k)).1=m at b c d;generalize (dV ((slot n x).take k)).2.1=y at a d;have s:slot n x≠[]:=λe=>jv;obtain⟨h,C,O⟩:=alf s;have H:jc n=true:=oO.2 fC;rw[Yt a b c]at d;have W:k=(rW m y++(Lib.itoa (sumOf (rW m y))++[46])).length:=jv;have z:0<k:=jv;have i:(slot n x)[k-1]? =some 46:=by
   have:((slot n x).take k)[k-1]? =some 46:=by
    rw[← d,← aQL];have A:k=(rW m y++Lib.itoa (sumOf (rW m y))).length+1:=jv
    grind
   grind
  rw[Yt h C O,← aQL]at i;rw[Yt h C O,← aQL]at j;rw[aRj jv]at i;have o:=aQU i;rcases aQM.1 o with o|o
  .exact absurd rfl (aI2 h H 46 o)
  .exact absurd rfl (QC (afV _) 46 o)
noncomputable def latest (a b:Bytes):Int×dw×Bool×Bool:=
 bif (dV b).2.2&&(!(dV a).2.2||decide ((dV a).1<(dV b).1))then((dV b).1,(dV b).2.1,true,false)else((dV a).1,(dV a).2.1,(dV a).2.2,(dV a).2.2)
theorem aBX(a b:Bytes):(bif (dV a).2.2&&(!(dV b).2.2||decide ((dV a).1>=(dV b).1))then((dV a).1,(dV a).2.1,true,true)else((dV b).1,(dV b).2.1,(dV b).2.2,false))=latest a b:=by
 unfold latest;cases e:(dV a).2.2<;>cases U:(dV b).2.2
 · grind [MS]
 .rfl
 .rfl
 grind
theorem Tj(a b:Bytes):0<=(latest a b).1/\(latest a b).1<=1000000000:=by
 grind [MS,MG,latest]
def kept(a:Int)(n:Nat):Nat:=(max 0 (min a (n:Int))).toNat
noncomputable def lq (a b:Bytes) (x:dw):Bytes:=slot ((latest a b).1+1) x
noncomputable def gq (a b:Bytes) (x:dw) (e:Int):(Bytes×Bytes×Unit)×Bool×Unit:=
 bif lq a b x==[]then((a,b,()),false,())else
 bif (latest a b).2.2.2 then((a,(lq a b x).take (kept e (lq a b x).length),()),(lq a b x).take (kept e (lq a b x).length)==lq a b x,())else
 (((lq a b x).take (kept e (lq a b x).length),b,()),(lq a b x).take (kept e (lq a b x).length)==lq a b x,())
theorem aK2{t:Bytes}(h:(t.take k==t)=false):k<t.length:=by
 grind [List.take_of_length_le]
theorem aNd{a b t:Bytes}(e:dV t=(0,nX,false))(X:(latest a b).2.2.2=true):(latest a t).1=(latest a b).1/\(latest a t).2.1=(latest a b).2.1/\(latest a t).2.2.1=(latest a b).2.2.1:=by
 grind [latest]
theorem aNe{a b t:Bytes}(e:dV t=(0,nX,false))(X:(latest a b).2.2.2=false):(latest t b).1=(latest a b).1/\(latest t b).2.1=(latest a b).2.1/\(latest t b).2.2.1=(latest a b).2.2.1:=by
 grind [latest,MS]
theorem aEk{a b:Bytes}{e:Int}(h:(gq a b x e).2.1=false):
 (latest (gq a b x e).1.1 (gq a b x e).1.2.1).1=(latest a b).1/\(latest (gq a b x e).1.1 (gq a b x e).1.2.1).2.1=(latest a b).2.1/\(latest (gq a b x e).1.1 (gq a b x e).1.2.1).2.2.1=(latest a b).2.2.1:=by
 grind [gq,lq,aNd,MS,aHk,aK2,aNe]
theorem ajl{a b:Bytes}{i:Int}(h:(gq a b x i).2.1=true):
 eU x=true/\latest (gq a b x i).1.1 (gq a b x i).1.2.1=((latest a b).1+1,norm x,true,!(latest a b).2.2.2):=by
 unfold gq at h ⊢;cases j:lq a b x==[]with
 |true=>grind
 |false=>
  obtain⟨Z,C,O⟩:=alf (aQl.1 j);have e:=aBq Z C O
  grind [latest,lq]
abbrev jy:=Int×List (Int×Unit)×List (Int×Unit)×Unit
abbrev iQ:=Int×Bytes×List (Int×Unit)×List jy×Unit
abbrev fP:=List dm×List aG×Int×List aH×List fA×Bytes×Bytes×Int×List gJ×List iQ×List (Int×Unit)×Unit
def jQ(x:fP):dF:=(x.1,x.2.1,x.2.2.1,x.2.2.2.1,x.2.2.2.2.1,())
def rX(x:fP):dw:=(x.1,x.2.1,x.2.2.1,x.2.2.2.1,())
def wQ(c:dF):dw:=(c.1,c.2.1,c.2.2.1,c.2.2.2.1,())
def jX(x:fP):Bytes:=x.2.2.2.2.2.1
def jY(x:fP):Bytes:=x.2.2.2.2.2.2.1
def rF(x:fP):Int:=x.2.2.2.2.2.2.2.1
def eu(x:fP):List gJ:=x.2.2.2.2.2.2.2.2.1
def oM(x:fP):List iQ:=x.2.2.2.2.2.2.2.2.2.1
def zk(x:fP):List (Int×Unit):=x.2.2.2.2.2.2.2.2.2.2.1
def mkS(c:dF)(a b:Bytes)(n:Int)(I:List gJ)(ws:List iQ)(q:List (Int×Unit)):fP:=
 (c.1,c.2.1,c.2.2.1,c.2.2.2.1,c.2.2.2.2.1,a,b,n,I,ws,q,())
def arC(l:List (Int×Unit))(e:jy):List (Int×Unit):=uz l e.2.1 e.2.2.1
def replay(l:List (Int×Unit))(a:List jy):List (Int×Unit):=a.foldl arC l
def kP(a:List jy):Nat:=(a.map λe=>e.2.1.length).sum
def RJ(l:List (Int×Unit))(a:List jy):Prop:=l.length+kP a<=4000000
def RN(e:jy):Prop:=e.2.1.length<=4000000/\e.2.2.1.length<=4000000
def listing(w:iQ):List (Int×Unit):=replay w.2.2.1 w.2.2.2.1
def jP(w:iQ):Prop:=RJ w.2.2.1 w.2.2.2.1/\w.2.2.2.1.length<=4000000/\∀e∈w.2.2.2.1,RN e
noncomputable def nD (s:bT) (d:List aH) (u:Int):List fA×Bool:=bif aJ s&&(aA d&&qw u)then(vM (visible s u).2.1 d,true)else([],false)
noncomputable def dI (s:bT) (d:List aH) (u:Int) (name:Bytes):List (Int×Unit):=gY (nD s d u).1 name
def told(w:iQ)(n:Int)(l:List (Int×Unit)):iQ:=
 bif decide (0<(without l (listing w)).length+(without (listing w) l).length)then(w.1,w.2.1,w.2.2.1,w.2.2.2.1++[(n,without l (listing w),without (listing w) l,())],())else w
def rise(l:List (Int×Unit)):Bool:=jG (l.length-1) λi=>decide ((l.getD i (0,())).1<(l.getD (i+1) (0,())).1)
def AO(a:List jy)(i:Nat):jy:=a.getD i (0,[],[],())
def O3(l:List (Int×Unit))(a:List jy)(i:Nat):Bool:=
 !decide ((AO a i).2.1.length+(AO a i).2.2.1.length=0)&&(rise (AO a i).2.1&&(rise (AO a i).2.2.1&&(!(decide (0<i)&&decide ((AO a (i-1)).1>=(AO a i).1))&&
   (((AO a i).2.1.all λx=>!fF (replay l (a.take i)) x.1)&&(AO a i).2.2.1.all λx=>fF (replay l (a.take i)) x.1))))
def sO(w:iQ):Bool:=(qw w.1&&rise w.2.2.1)&&jG w.2.2.2.1.length (O3 w.2.2.1 w.2.2.2.1)
def ug(w:iQ):Int:=bif decide (w.2.2.2.1.length=0)then 0 else(AO w.2.2.2.1 (w.2.2.2.1.length-1)).1
noncomputable def kL (a b:dw):Bool:=decide (enc a=enc b)
def pG(q:List (Int×Unit)):Bool:=decide (q.length=3)&&q.all λx=>decide (0<=x.1)&&decide (x.1<=999)
noncomputable def vH (s:bT) (d:List aH) (n:Int) (w:iQ):Bool:=decide (ug w<=n)&&(sO w&&decide (listing w=dI s d w.1 w.2.1))
noncomputable def lX (x:fP):Bool:=
 dn (jQ x)&&((latest (jX x) (jY x)).2.2.1&&(decide ((latest (jX x) (jY x)).1=rF x)&&(kL (latest (jX x) (jY x)).2.1 (rX x)&&
  (gQ (eu x)&&(decide (eu x≠[])&&(decide ((oM x).length<=4)&&(pG (zk x)&&
    ((decide ((dP (eu x) ((eu x).length-1)).1=rF x)&&kL (pJ (dP (eu x) ((eu x).length-1))) (rX x))&&
      (oM x).all (vH (aQ (jQ x)) (bF (jQ x)) (rF x))))))))))
def anyS(x:fP):Prop:=
 kC (jQ x)/\(dJ (jX x)/\dJ (jY x))/\(fK (eu x)/\(eu x).length<=90)/\((oM x).length<=90/\∀w∈oM x,jP w)/\(zk x).length<=1000
noncomputable def Zc (s:bT) (d:List aH) (w:iQ):Bool:=decide (listing w=dI s d w.1 w.2.1)
noncomputable def streams (x:fP):Bool:=(oM x).all (Zc (aQ (jQ x)) (bF (jQ x)))
def au7:iQ:=(0,[],[],[],())
def aJI(ws:List iQ)(i:Nat):iQ:=ws.getD i (0,[],[],[],())
def yN(x:fP)(i:Int):iQ×Bool:=bif decide (0<=i)&&decide (i<=((oM x).length:Int)-1)then(aJI (oM x) i.toNat,true)else(au7,false)
noncomputable def AB (x:fP) (i:Int):Bool:=(yN x i).2&&Zc (aQ (jQ x)) (bF (jQ x)) (yN x i).1
def F9(n:Int)(s:dw):gJ:=(n,s.1,s.2.1,s.2.2.1,s.2.2.2.1,0,())
noncomputable def toldAll (s:bT) (d:List aH) (n:Int) (ws:List iQ):List iQ:=ws.map λw=>told w n (dI s d w.1 w.2.1)
noncomputable def Gf (I:List gJ):List gJ:=bif decide (6<=I.length)then collect I else I
noncomputable def oN (a b:Bytes) (s:dw):Bytes×Bytes×Unit:=(gq a b s 1000000).1
noncomputable def commit (x:fP) (c:dF):fP×Bool:=
 bif !(lX x&&dn c)then(x,false)else
 bif kL (wQ c) (rX x)then(x,true)else
 bif decide (1000000000<=rF x)||decide (6<=(Gf (eu x)).length)then(x,false)else
 (mkS c (oN (jX x) (jY x) (wQ c)).1 (oN (jX x) (jY x) (wQ c)).2.1 (rF x+1) (Gf (eu x)++[F9 (rF x+1) (wQ c)]) (toldAll (aQ c) (bF c) (rF x+1) (oM x)) (zk x),true)
noncomputable def arI (s:dw):dF:=(s.1,s.2.1,s.2.2.1,s.2.2.2.1,vM s.2.1 s.2.2.2.1,())
noncomputable def Dl (s:bT) (d:List aH) (n:Int) (w:iQ):iQ:=bif decide (ug w<n)then told w n (dI s d w.1 w.2.1)else w
noncomputable def recover (x:fP):fP×Bool:=
 bif (latest (jX x) (jY x)).2.2.1 then
  (mkS (arI (latest (jX x) (jY x)).2.1) (jX x) (jY x) (latest (jX x) (jY x)).1 [F9 (latest (jX x) (jY x)).1 (latest (jX x) (jY x)).2.1]
    ((oM x).map (Dl (kG (latest (jX x) (jY x)).2.1) (latest (jX x) (jY x)).2.1.2.2.2.1 (latest (jX x) (jY x)).1)) (zk x),true)
 else(x,false)
def Ze(x:fP)(d:Bytes×Bytes×Unit):fP:=mkS (jQ x) d.1 d.2.1 (rF x) (eu x) (oM x) (zk x)
def FH(x:fP)(v:List gJ):fP:=mkS (jQ x) (jX x) (jY x) (rF x) v (oM x) (zk x)
def aAk(x:fP)(w:List iQ):fP:=mkS (jQ x) (jX x) (jY x) (rF x) (eu x) w (zk x)
def akI(x:fP)(u:Int)(ops:List eG)(y:fP)(b:Bool):Prop:=
 ∃c a o,wE (jQ x) u ops (zk x) c a o/\(y,b)=bif o then commit x c else(x,false)
def crashed(x:fP)(u:Int)(ops:List eG)(a:Int)(y:fP)(b:Bool):Prop:=
 bif lX x then∃c e o,wE (jQ x) u ops (zk x) c e o/\(y,b)=recover (bif o&&!kL (wQ c) (rX x)then Ze x (gq (jX x) (jY x) (wQ c) a).1 else x)else y=x/\b=false
def aoW(x:fP)(u:Int)(name:Bytes)(id:Int)(b:Bool)(y:fP)(e:Bool):Prop:=
 ∃c a o,written (jQ x) u name id b c a o/\(y,e)=bif o&&wV c.2.1 (zk x)then commit x c else(x,false)
abbrev Oq:=Int×Int×List eG×Bytes×Int×Unit
def Vz(a:Oq):Bool:=(decide (1<=a.1)&&decide (a.1<=8))&&decide (a.2.2.1.length<=6)
noncomputable def watched (x:fP) (u:Int) (name:Bytes):fP×Bool:=
 bif decide (4<=(oM x).length)||!qw u then(x,false)else(aAk x (oM x++[(u,name,dI (aQ (jQ x)) (bF (jQ x)) u name,[],())]),true)
def IJ(x:fP)(a:Oq)(y:fP)(b:Bool):Prop:=
 bif !(Vz a&&lX x)then y=x/\b=false else
 bif a.1==1 then akI x a.2.1 a.2.2.1 y b else
 bif a.1==2 then crashed x a.2.1 a.2.2.1 a.2.2.2.2.1 y b else
 bif a.1==3 then(y,b)=watched x a.2.1 a.2.2.2.1 else
 bif a.1==4 then y=FH x (kZ (eu x) a.2.2.2.2.1 1).1/\b=(kZ (eu x) a.2.2.2.2.1 1).2 else
 bif a.1==5 then y=FH x (kZ (eu x) a.2.2.2.2.1 (-1)).1/\b=(kZ (eu x) a.2.2.2.2.1 (-1)).2 else
 bif a.1==6 then y=FH x (collect (eu x))/\b=true else
 aoW x a.2.1 a.2.2.2.1 a.2.2.2.2.1 (a.1==7) y b
def zZ(a:Oq):Prop:=a.2.2.1.length<=1000/\∀c∈a.2.2.1,tC c
def since(w:iQ)(n:Int):List jy:=w.2.2.2.1.filter λe=>decide (e.1>n)
def aDo(w:iQ)(n:Int):List (Int×Unit):=replay w.2.2.1 (w.2.2.2.1.filter λe=>decide (e.1<=n))
def missed(w:iQ)(n:Int):Int:=(((since w n).map λe=>e.2.1.length+e.2.2.1.length).sum:Nat)
noncomputable def pX (x:fP) (n u:Int) (name:Bytes):List (Int×Unit)×Bool:=bif (jB (eu x) n).2 then(dI (kG (jB (eu x) n).1) (jB (eu x) n).1.2.2.2.1 u name,true)else([],false)
def zeroS:fP:=([],[],0,[],[],[],[],0,[],[],[],())
noncomputable def xU (s:List dm) (q:List (Int×Unit)):fP×Bool:=
 bif aJ (s,[],1,())&&pG q then(mkS (s,[],1,[],[],()) (oN [] [] (s,[],1,[],())).1 (oN [] [] (s,[],1,[],())).2.1 1 [F9 1 (s,[],1,[],())] [] q,true)else(zeroS,false)
def runs:fP->List Oq->fP->List (Bool×Unit)->List (Int×Unit)->Prop
 |x,[],y,t,l=>y=x/\t=[]/\l=[]
 |x,a::r,y,t,l=>∃T e h b,IJ x a T e/\runs T r y h b/\t=(e,())::h/\l=(rF T,())::b
def ran(q:List (Int×Unit))(a:List Oq)(y:fP)(t:List (Bool×Unit))(l:List (Int×Unit)):Prop:=runs (xU usual q).1 (a.take 40) y t l
def GN(w:iQ):Prop:=jP w/\∀e∈w.2.2.2.1,e.1<=1000000
def Vp(x:fP):Prop:=anyS x/\lX x=true
end Sp
namespace Go.Fw
open Go
variable {α:Type}
theorem azT{l:List α}{a:Nat}{s:List α}(h:a+s.length<=l.length):(kE l a s).length=l.length:=by
 grind [kE]
theorem awS{l:List α}{a k:Nat}{s:List α}(j:k<=a)(h:a<=l.length):(kE l a s).take k=l.take k:=by
 grind [kE]
variable {β:Type}
theorem eqL(e:α->α->Bool)(g:∀x y,e x y=false↔x=y)(d:α)(a b:List α)[Decidable (a=b)](t:β)(L:a.length<=maxLen){K:Bool×Unit->Prop}(f:K (decide (a=b),())):
 bif ((a.length:Int)) !=(b.length:Int)then K (false,())else
 ∃(I:(Int×Unit)×Unit->Prop),∃(P:(Int×Unit)×Unit->Nat),I (((0:Int),()),())/\∀(y:(Int×Unit)×Unit),I y->
  bif decide (y.fst.fst<(a.length:Int))then
   ((0:Int)<=y.fst.fst/\y.fst.fst<(a.length:Int))/\((0:Int)<=y.fst.fst/\y.fst.fst<(b.length:Int))/\
     (bif e (a.getD (Int.toNat y.fst.fst) d) (b.getD (Int.toNat y.fst.fst) d)then K (false,())
     else t=t/\I ((IntKind.i64.wrap (y.fst.fst+(1:Int)),()),())/\P ((IntKind.i64.wrap (y.fst.fst+(1:Int)),()),())<P y)
  else K (true,()):=by
 refine af (λh=>?_) λh=>?_
 .have h:(a.length:Int)≠b.length:=oQ;rw[aQH λe=>h (by rw[e])]at f;exact f
 .have h:(a.length:Int)=b.length:=oQ;exact avS e g d a b t L fC (λe=>jv) λe=>jv
theorem aGA(p:α->Bool)(d:α)(a:List α)(t:β)(L:a.length<=maxLen){K:Int×Unit->Prop}(b:K (Sp.findAt p a,())):
 ∃(I:(Int×Unit)×Unit->Prop),∃(P:(Int×Unit)×Unit->Nat),I (((0:Int),()),())/\∀(y:(Int×Unit)×Unit),I y->
  bif decide (y.fst.fst<(a.length:Int))then
   ((0:Int)<=y.fst.fst/\y.fst.fst<(a.length:Int))/\True/\
     (bif p (a.getD (Int.toNat y.fst.fst) d)then K (y.fst.fst,())
     else t=t/\I ((IntKind.i64.wrap (y.fst.fst+(1:Int)),()),())/\P ((IntKind.i64.wrap (y.fst.fst+(1:Int)),()),())<P y)
  else K ((-1:Int),()):=by
 refine iW a.length L (λn=>∀i,i<n->p (a.getD i d)=false) (λi D=>fC) (λI P n H E next=>?_) λI P E=>?_
 · grind [Sp.axp]
 .dsimp only;refine gU fC ?_;rw[Sp.anE E]at b;exact b
theorem aGv(p:α->Bool)(d:α)(a:List α)(t:β)(L:a.length<=maxLen){K:Int×Unit->Prop}(b:K (Sp.findAt p a,())):
 ∃(I:(Int×Unit)×Unit->Prop),∃(P:(Int×Unit)×Unit->Nat),I (((0:Int),()),())/\∀(y:(Int×Unit)×Unit),I y->
  bif decide (y.fst.fst<(a.length:Int))then
   ((0:Int)<=y.fst.fst/\y.fst.fst<(a.length:Int))/\
     (bif p (a.getD (Int.toNat y.fst.fst) d)then K (y.fst.fst,())
     else t=t/\I ((IntKind.i64.wrap (y.fst.fst+(1:Int)),()),())/\P ((IntKind.i64.wrap (y.fst.fst+(1:Int)),()),())<P y)
  else K ((-1:Int),()):=by
 obtain⟨I,P,l,C⟩:=aGA p d a t L b;refine⟨I,P,l,λy F=>?_⟩
 grind
theorem aKz(p:α->Bool)(d:α)(s:List α)(t:β)(L:s.length<=4611686018427387903){K:(List α×Unit)×Unit->Prop}(q:K ((s.filter λx=>!p x,()),())):
 bif Sp.findAt p s==(-1:Int)then K ((s,()),())else
 ∃(I:(Int×Int×Unit)×List α×Unit->Prop),∃(P:(Int×Int×Unit)×List α×Unit->Nat),
  I ((Sp.findAt p s,IntKind.i64.wrap (Sp.findAt p s+(1:Int)),()),s,())/\∀(y:(Int×Int×Unit)×List α×Unit),I y->
    bif decide (y.fst.snd.fst<(↑(List.length y.snd.fst):Int))then
     ((0:Int)<=y.fst.snd.fst/\y.fst.snd.fst<(↑(List.length y.snd.fst):Int))/\Int.toNat y.fst.snd.fst<List.length y.snd.fst/\True/\
       (bif !p (List.getD y.snd.fst (Int.toNat y.fst.snd.fst) d)then
         ((0:Int)<=y.fst.fst/\y.fst.fst<(↑(List.length y.snd.fst):Int))/\Int.toNat y.fst.fst<List.length y.snd.fst/\t=t/\
           I ((IntKind.i64.wrap (y.fst.fst+(1:Int)),IntKind.i64.wrap (y.fst.snd.fst+(1:Int)),()),List.set y.snd.fst (Int.toNat y.fst.fst) (List.getD y.snd.fst (Int.toNat y.fst.snd.fst) d),())/\
           P ((IntKind.i64.wrap (y.fst.fst+(1:Int)),IntKind.i64.wrap (y.fst.snd.fst+(1:Int)),()),List.set y.snd.fst (Int.toNat y.fst.fst) (List.getD y.snd.fst (Int.toNat y.fst.snd.fst) d),())<P y
       else t=t/\I ((y.fst.fst,IntKind.i64.wrap (y.fst.snd.fst+(1:Int)),()),y.snd.fst,())/\P ((y.fst.fst,IntKind.i64.wrap (y.fst.snd.fst+(1:Int)),()),y.snd.fst,())<P y)
    else
     (0:Nat)<List.length y.snd.fst/\((0:Int)<=y.fst.fst/\y.fst.fst<=(↑(List.length y.snd.fst):Int))/\
       (0:Nat)+Int.toNat y.fst.fst+(List.length y.snd.fst-Int.toNat y.fst.fst)<=List.length y.snd.fst/\
         ((0:Nat)<(kE y.snd.fst ((0:Nat)+Int.toNat y.fst.fst) (List.replicate (List.length y.snd.fst-Int.toNat y.fst.fst) d)).length/\
           List.length y.snd.fst<=(kE y.snd.fst ((0:Nat)+Int.toNat y.fst.fst) (List.replicate (List.length y.snd.fst-Int.toNat y.fst.fst) d)).length)/\
           ((0:Int)<=y.fst.fst/\y.fst.fst<=(↑(List.take (List.length y.snd.fst) (kE y.snd.fst ((0:Nat)+Int.toNat y.fst.fst) (List.replicate (List.length y.snd.fst-Int.toNat y.fst.fst) d))).length:Int))/\
             K ((List.take (Int.toNat y.fst.fst) (List.take (List.length y.snd.fst) (kE y.snd.fst ((0:Nat)+Int.toNat y.fst.fst) (List.replicate (List.length y.snd.fst-Int.toNat y.fst.fst) d))),()),()):=by
 rcases Sp.akq p d s with⟨e,o⟩|⟨n,H,e,g,m⟩
 · grind [List.filter_eq_self,List.getElem_of_mem]
 .rw[e];have f:∀k:Nat,k<=4611686018427387903->IntKind.i64.wrap ((k:Int)+1)=((k+1:Nat):Int):=λk r=>eH _ fC;rw[f n fC];refine⟨λy=>∃(i j:Nat)(l:List α),y=(((i:Int),(j:Int),()),l,())/\i<j/\j<=s.length/\l.length=s.length/\l.take i=(s.take j).filter (λx=>!p x)/\∀t,j<=t->l.getD t d=s.getD t d,
   λy=>((s.length:Int)-y.1.2.1).toNat,⟨n,n+1,s,rfl,fC,fC,rfl,?_,λ_ _=>rfl⟩,?_⟩
  .rw[Sp.take_succ' s n d H,aR4,aSK]
   grind [List.filter_eq_self,List.getElem_of_mem]
  .rintro y ⟨i,j,l,rfl,hij,hj,hl,a,hs⟩;dsimp only;refine af (λh=>?_) λh=>?_
   .have h:j<s.length:=jv;have b:=hs j (aQp _);rw[aQs,aQs,b,f i fC,f j fC];refine⟨⟨fC,fC⟩,fC,trivial,af (λO=>⟨⟨fC,fC⟩,fC,rfl,⟨i+1,j+1,_,rfl,fC,fC,jv,?_,λt a=>?_⟩,fC⟩) λO=>⟨rfl,⟨i,j+1,l,rfl,fC,fC,hl,?_,λt a=>hs t fC⟩,fC⟩⟩
    .rw[Sp.take_succ' _ i d jv,Sp.take_succ' s j d h,aR4,aSK,List.take_set_of_le (aQp _),a]
     grind
    · grind
    grind [Sp.take_succ']
   .have l1:(kE l i (List.replicate (l.length-i) d)).length=l.length:=azT jv
    grind [awS]
theorem aIm(p:α->Bool)(d:α)(a:List α)(t:β)(L:a.length<=maxLen){K:Bool×Unit->Prop}(b:K (a.any p,())):
 ∃(I:(Int×Unit)×Unit->Prop),∃(P:(Int×Unit)×Unit->Nat),I (((0:Int),()),())/\∀(y:(Int×Unit)×Unit),I y->
  bif decide (y.fst.fst<(a.length:Int))then
   ((0:Int)<=y.fst.fst/\y.fst.fst<(a.length:Int))/\
     (bif p (a.getD (Int.toNat y.fst.fst) d)then K (true,())
     else t=t/\I ((IntKind.i64.wrap (y.fst.fst+(1:Int)),()),())/\P ((IntKind.i64.wrap (y.fst.fst+(1:Int)),()),())<P y)
  else K (false,()):=by
 refine iW a.length L (λn=>∀i,i<n->p (a.getD i d)=false) (λi D=>fC) (λI P n H E next=>?_) λI P E=>?_
 · grind
 grind [List.getElem_of_mem]
theorem aAu(p:α->Bool)(s:List α):decide (Sp.findAt p s>=0)=s.any p:=by
 cases Y:s with
 |nil=>rfl
 |cons d r=>
  rcases Sp.akq p d s with⟨e,h⟩|⟨n,H,e,C,O⟩
  · grind [List.getElem_of_mem]
  grind
theorem JW(p:α->Bool)(d:α)(l:List α){n:Nat}(h:n<l.length):(l.take (n+1)).filter p=(l.take n).filter p++(bif p (l.getD n d)then[l.getD n d]else[]):=by
 grind [Sp.take_succ']
theorem apb{δ:Type}(p:α->Bool)(g:α->β)(d:α)(a:List α)(t:δ){A:Int->Prop}(b:∀n:Nat,n<a.length->A n)(L:a.length<=4000000){K:List β×Unit->Prop}(e:K ((a.filter p).map g,())):
 ∃(I:(Unit×Int×Unit)×List β×Unit->Prop),∃(P:(Unit×Int×Unit)×List β×Unit->Nat),I (((),(0:Int),()),[],())/\∀(y:(Unit×Int×Unit)×List β×Unit),I y->
  bif decide (y.1.2.1<(a.length:Int))then
   ((0:Int)<=y.1.2.1/\y.1.2.1<(a.length:Int))/\A y.1.2.1/\
     (bif p (a.getD (Int.toNat y.1.2.1) d)then List.length y.2.1+1<=big/\t=t/\I (((),IntKind.i64.wrap (y.1.2.1+(1:Int)),()),y.2.1++[g (a.getD (Int.toNat y.1.2.1) d)],())/\P (((),IntKind.i64.wrap (y.1.2.1+(1:Int)),()),y.2.1++[g (a.getD (Int.toNat y.1.2.1) d)],())<P y
     else t=t/\I (((),IntKind.i64.wrap (y.1.2.1+(1:Int)),()),y.2)/\P (((),IntKind.i64.wrap (y.1.2.1+(1:Int)),()),y.2)<P y)
  else K y.2:=by
 refine bQ (λi(x:List β)=>(((),i,()),x,())) (λy=>y.1.2.1) (λ_ _=>rfl) a.length fC (λn l=>l=((a.take n).filter p).map g) ni (λI P n l H E next=>?_) λI P l E=>?_
 .subst E;have W:(((a.take n).filter p).map g).length<=n:=by
   grind
  have step:=JW p d a H;dsimp only;refine dH fC ⟨⟨fC,fC⟩,b n H,af (λh=>⟨o6,rfl,next _ ?_⟩) λh=>⟨rfl,next _ ?_⟩⟩
  · simp_all
  grind
 grind
theorem aEp{δ:Type}(g:α->β)(d:α)(a:List α)(t:δ)(L:a.length<=4000000){K:List β×Unit->Prop}(b:K (a.map g,())):
 ∃(I:(Unit×Int×Unit)×List β×Unit->Prop),∃(P:(Unit×Int×Unit)×List β×Unit->Nat),I (((),(0:Int),()),[],())/\∀(y:(Unit×Int×Unit)×List β×Unit),I y->
  bif decide (y.1.2.1<(a.length:Int))then
   ((0:Int)<=y.1.2.1/\y.1.2.1<(a.length:Int))/\
     List.length y.2.1+1<=big/\t=t/\I (((),IntKind.i64.wrap (y.1.2.1+(1:Int)),()),y.2.1++[g (a.getD (Int.toNat y.1.2.1) d)],())/\P (((),IntKind.i64.wrap (y.1.2.1+(1:Int)),()),y.2.1++[g (a.getD (Int.toNat y.1.2.1) d)],())<P y
  else K y.2:=by
 obtain⟨I,P,l,C⟩:=apb (λ_=>true) g d a t (A:=λ_=>True) (λ_ _=>trivial) L (K:=K) (by grind [List.filter_eq_self]);refine⟨I,P,l,λy F=>?_⟩
 grind
end Go.Fw
namespace Sp
open Go
theorem atJ(s:Bytes):(gZ s).1.2.2.1.length<=s.length:=by
 grind [gZ]
theorem adV(m:Nat):∀w:LS,(∀x∈w,x.1.length<=m)->2*(wP w).length<=w.length+1/\∀a∈wP w,a.1.length<=m/\a.2.2.2.1.length<=m
 |[],_=>⟨aQx _,λa b=>by cases b⟩
 |[x],h=>⟨aQp _,λa b=>by
  grind [wP,atJ]⟩
 |x::y::r,h=>by
  obtain⟨C,O⟩:=adV m r λz d=>h z (aQo _ (aQo _ d))
  grind [wP,atJ]
theorem aFb(s:Bytes):(mZ s).length<=9:=by
 grind [jF,afL,mZ]
def aBr(m:Nat)(s:Bytes):Prop:=(pieces 10 s).length<=100/\∀x∈pieces 10 s,x.1.length<=m
variable {s:Bytes}
theorem aMe{m:Nat}(h:aBr m s)(k:m<=1000):dJ s:=⟨h.1,λx Z=>aQn (h.2 x Z) k⟩
theorem atK(b:UInt8):∀(l Q:Bytes),∃x∈jO b Q l,Q.length<=x.1.length
 |[],Q=>⟨(Q,()),aQr,aQp _⟩
 |c::r,Q=>by
  rw[jO];cases c==b with
  |true=>simp_all
  |false=>
   obtain⟨x,Z,W⟩:=atK b r (Q++[c])
   grind
theorem Xp(b:UInt8)(m:Nat):∀(l Q:Bytes)(k:Nat),(∀x∈jO b Q l,x.1.length<=m)->(jO b Q (l.take k)).length<=(jO b Q l).length/\∀x∈jO b Q (l.take k),x.1.length<=m
 |l,Q,0,h=>by
  have J:=akw b l Q;obtain⟨y,F,W⟩:=atK b l Q;refine⟨J,λx Z=>?_⟩;have Z:x=(Q,()):=aQR.1 Z
  grind
 |[],Q,k+1,h=>⟨aQp _,h⟩
 |c::r,Q,k+1,h=>by
  rw[List.take_succ_cons];rw[jO]at h ⊢;rw[jO];cases N:c==b with
  |true=>
   rw[N]at h;obtain⟨a,d⟩:=Xp b m r [] k λx Z=>h x (aQo _ Z)
   grind [List.mem_cons_self]
  |false=>rw[N]at h;exact Xp b m r _ k h
theorem ZN(b:UInt8):∀(l Q:Bytes),((jO b Q l).map λx=>x.1.length+1).sum=Q.length+l.length+1
 |[],Q=>by show Q.length+1+0=Q.length+0+1;omega
 |c::r,Q=>by
  rw[jO];cases c==b with
  |true=>
   show(((Q,())::jO b [] r).map λx=>x.1.length+1).sum=_;rw[aQB,aRh,ZN b r [],aQZ,aQz];show Q.length+1+_=_;omega
  |false=>show((jO b (Q++[c]) r).map λx=>x.1.length+1).sum=_;rw[ZN b r,aQu,aQz,aQz,aQZ];omega
theorem axF(m:Nat):∀l:LS,(∀x∈l,x.1.length<=m)->(l.map λx=>x.1.length+1).sum<=l.length*(m+1)
 |[],_=>aQx _
 |a::r,h=>by
  have O:=axF m r λx Z=>h x (aQo _ Z)
  grind [Nat.add_mul]
theorem auX(h:dJ s):s.length<=100100:=by
 have C:=ZN 10 s [];have O:=axF 1000 _ h.2;have K:(pieces 10 s).length*(1000+1)<=100*(1000+1):=aQy _ h.1
 grind [pieces]
theorem aI3{m:Nat}(h:aBr m s)(k:Nat):aBr m (s.take k):=by obtain⟨a,b⟩:=Xp 10 m s [] k h.2;exact⟨aQn a h.1,b⟩
theorem aw7(h:dJ s)(k:Nat):dJ (s.take k):=aI3 (m:=1000) h k
theorem aGY(l:List Bytes):(ls l).length=l.length:=by grind [ls]
theorem aHl(n:Int)(x:dw):aBr 700 (slot n x):=by
 by_cases h:slot n x=[]
 .rw[h];refine⟨jI,λy F=>?_⟩;have F:y∈[(([]:Bytes),())]:=F
  grind
 .obtain⟨h0,h1,h2⟩:=alf h;obtain⟨a,d⟩:=WG h0;have H:=(nM (oO.2 (show 0<=n/\n<=1000000000 from fC))).2.2.2.2;have Y:=(nM (afV (rW n x))).2.2.2.2;unfold aBr;rw[anT h0 h1 h2];refine⟨by grind [aGY],λy F=>?_⟩;rcases aQM.1 F with F|F
  .obtain⟨w,o,rfl⟩:=aQW.1 F;rcases aQt.1 o with rfl|o
   · grind
   .have:=(a w o).1
    grind
  grind
theorem aBs(n:Int)(x:dw):dJ (slot n x):=aMe (aHl n x) jI
variable {x:dw}
theorem afb(h:eU x=true):fB x:=by obtain⟨k,a,l,b,g,i,j⟩:=Jk h;refine⟨⟨aQn g jI,aQn i jI,λf X=>aQn (a f X).2 jI⟩,aQn j jI,λd e=>aQn (jF (b d e).2).2 jI⟩
theorem atL:fB nX:=⟨⟨jI,jI,λf X=>ahT⟩,jI,λd e=>y5⟩
theorem aF5(l:LS):fB (dec l).1:=by
 grind [aI1,atL,afb,aBp]
theorem ax3(s:Bytes):fB (dV s).2.1:=by
 grind [MS,atL,afb,MG]
theorem aaU{a b:Bytes}{k:Int}(r:dJ a)(U:dJ b):dJ (gq a b x k).1.1/\dJ (gq a b x k).1.2.1:=by
 grind [gq,lq,aw7,aBs]
theorem aER(a:List Bytes)(h:∀w∈a,w.length<=600):(linesT a).length<=a.length*601:=by
 induction a with
 |nil=>exact aQx _
 |cons w r ih=>
  grind [linesT]
theorem aCk(a:List Bytes)(w:Bytes):linesT (a++[w])=linesT a++(w++[10]):=by grind [linesT]
def szX(n:Nat)(x:dw):Prop:=x.1.length<=n/\x.2.1.length<=n/\(∀f∈x.2.1,f.2.2.2.2.1.length<=1000)/\x.2.2.2.1.length<=n/\∀d∈x.2.2.2.1,d.2.1.length<=1000
variable {n:Nat}
theorem aF3(h:szX n x)(H:n<=1000):fB x:=⟨⟨aQn h.1 H,aQn h.2.1 H,h.2.2.1⟩,aQn h.2.2.2.1 H,h.2.2.2.2⟩
theorem aHm{id:Int}{r:LS}(h:r.length<=1001)(Z:∀x∈r,x.1.length<=1000):(X4 id r).2.2.2.2.1.length<=1000:=by have:=(adV 1000 (r.drop 3) λx k=>Z x (aSd k)).1;rw[aSe]at this;show(wP (r.drop 3)).length<=1000;omega
theorem U7{α:Type}{p:α->Prop}{l:List α}{a:α}(h:∀x∈l,p x)(r:p a):∀x∈l++[a],p x:=λx Z=>by
 grind
theorem adh{α:Type}{l:List α}{a:α}(h:l.length<=n):(l++[a]).length<=n+1:=jv
theorem aF2{w:LS}(h:szX n x)(o:w.length<=1001)(Z:∀y∈w,y.1.length<=1000):szX (n+1) (wO x w):=by
 obtain⟨C,O,K,a,b⟩:=h;unfold wO;cases wordAt w 0==yE with
 |true=>exact⟨adh C,aQ7 O,K,aQ7 a,b⟩
 |false=>
 cases wordAt w 0==Tq with
 |true=>exact⟨aQ7 C,aQ7 O,K,aQ7 a,b⟩
 |false=>
 cases wordAt w 0==MB with
 |true=>exact⟨aQ7 C,adh O,U7 K (aHm jv λy F=>Z y (aSd F)),aQ7 a,b⟩
 |false=>
 cases wordAt w 0==BF with
 |true=>
  refine⟨aQ7 C,aQ7 O,K,adh a,U7 b ?_⟩
  grind [aFb]
 |false=>exact⟨aQ7 C,aQ7 O,K,aQ7 a,b⟩
theorem aHY:szX 0 nX:=⟨aQp _,aQp _,λf X=>ahT,aQp _,λd e=>y5⟩
theorem aF1{l:LS}(H:n<l.length):uJ nX (l.take (n+1))=wO (uJ nX (l.take n)) (kD (l.getD n ([],())).1):=by
 have e:l.take (n+1)=l.take n++[l.getD n ([],())]:=by
  simp_all
 rw[e,agc];rfl
theorem aB2{a b:Bytes}{k:Int}(h:lq a b x≠[])(j:100100<=k):(gq a b x k).2.1=true:=by have W:(lq a b x).length<=100100:=auX (aBs _ _);have e:(lq a b x).take (kept k (lq a b x).length)=lq a b x:=aRi (by unfold kept;omega);unfold gq;rw[aQl.2 h,e];cases (latest a b).2.2.2<;>exact beq_self_eq_true _
theorem aEm:latest [] []=(0,nX,false,false):=by have h:dV []=(0,nX,false):=rfl;unfold latest;rw[h];rfl
def evT(f:aG)(X:BX):QT->Bool
 |.leaf n=>mQ n f X
 |.neg t=>!evT f X t
 |.two op a b=>bif op==6 then evT f X a&&evT f X b else evT f X a||evT f X b
theorem ZO{q:List aO}(h:aN q=true)(f:aG)(X:BX):∀(t:QT)(i:Nat),i<q.length->WO q t i->val q f X i=evT f X t
 |.leaf n,i,hi,ht=>by
  obtain⟨rfl,c⟩:=ht;rw[O7,if_neg fC,if_neg fC,if_neg fC];rfl
 |.neg t,i,hi,ht=>by
  have k:=((nS h hi).1 (.inl ht.1)).2;rw[O7,if_pos ht.1,dif_pos fC,ZO h f X t _ fC ht.2];rfl
 |.two op a b,i,hi,⟨e,c,ha,hb⟩=>by
  have d:jS (nodeAt q i)=true:=mg.2 abS;have l:=((nS h hi).1 (.inr d)).2;have m:=((nS h hi).2 d).2;have g:=ZO h f X a _ fC ha;have j:=ZO h f X b _ fC hb;rw[O7,if_neg fC];rcases c with rfl|rfl
  .rw[if_pos e,dif_pos fC,g,j];rfl
  .rw[if_neg fC,if_pos e,dif_pos fC,g,j];rfl
theorem aBt{q:List aO}(h:aN q=true)(f:aG)(X:BX):kz (mZ (textOf q)) f X=kz q f X:=by obtain⟨t,a,o,z,d,_,_,b,u,_⟩:=axy h;have D:=ZK t [] [] o;rw[aQY,aRP,aQZ,aRl]at D;have W:=(jd t 0);have Y:=size_pos t;unfold kz;rw[b,u,h,ZO u f X t _ fC (by rw[W];exact D),ZO h f X t _ fC a]
theorem aBu{fs:List aG}{q:List aO}(h:aN q=true)(X:BX):sel fs (mZ (textOf q)) X=sel fs q X:=by unfold sel;rw[show(λf=>kz (mZ (textOf q)) f X)=λf=>kz q f X from funext λf=>aBt h f X]
variable {d:List aH}
theorem abk{i:Nat}(D:i<d.length):nameOf (d.map nO) i=nameOf d i:=by unfold nameOf;rw[NV D];rfl
theorem aI4{e α:Type}{a b:Sys e α}(C:a.T=b.T)(O:a.pos=b.pos)(K:a.neg=b.neg):a=b:=by obtain⟨_,_,_,_⟩:=a;obtain⟨_,_,_,_⟩:=b;cases C;cases O;cases K;rfl
theorem aI5(fs:List aG)(h:dK d=true):VI fs (d.map nO)=VI fs d:=by
 have q:=(Fe.1 h).1;have a:∀s t b,(∃i,i<(d.map nO).length/\(dh (d.map nO) i).1=s/\t∈iZ (dh (d.map nO) i).2.1 b)↔∃i,i<d.length/\(dh d i).1=s/\t∈iZ (dh d i).2.1 b:=λs t b=>by
  rw[aQG];refine aSL λi=>aRG λD=>?_;obtain⟨u,_,_,_,_,_,f,_,e⟩:=NU (q _ (Q9 D)).2;have g:(dh (d.map nO) i).2.1=post u 0:=by rw[NV D];exact f
  rw[g,e,NV D];rfl
 refine aI4 ?_ ?_ ?_
 · funext s X x
   refine propext ?_;show(∃i,i<(d.map nO).length/\_)↔∃i,i<d.length/\_;rw[aQG];refine aSL λi=>aRG λD=>?_;rw[NV D];show(dh d i).1=s/\(x,())∈sel fs (mZ (textOf (dh d i).2.1)) X↔_;rw[aBu (q _ (Q9 D)).2]
 · funext s t;exact propext (a s t false)
 · funext s t;exact propext (a s t true)
theorem aFc{fs:List aG}{r out:List fA}{b:Bytes->Bool}(h:dK d=true)(e:gX fs d r b out):gX fs (d.map nO) r b out:=by
 have q:=(Fe.1 h).1;have f:due (d.map nO) b=due d b:=by
  funext s
  refine propext (aRG λ_=>?_);rw[aQG];exact aSL λi=>aRG λD=>by rw[abk D]
 have j:∀a,Vk (d.map nO) a=Vk d a:=λa=>by
  funext s
  unfold Vk bn;rw[ZM]
 obtain⟨a,W,g⟩:=e.aS;refine⟨⟨by rw[aQG];exact e.order.1,λi D=>?_⟩,λi D H=>?_,λi D H=>?_,a,?_,?_⟩
 .rw[aQG]at D;rw[abk D];exact e.order.2 i D
 .rw[aQG]at D;rw[abk D]at H ⊢;exact e.kept i D H
 .rw[aQG]at D;rw[abk D]at H;rw[e.fix i D H,show fQ (d.map nO) i=mZ (textOf (fQ d i)) by unfold fQ;rw[NV D];rfl];exact(aBu (q _ (Q9 D)).2 _).symm
 .have pf:∀M,kN (fO (d.map nO)) M↔kN (fO d) M:=λM=>forall_congr' λx=>imp_congr_left (atH h x);unfold nU;rw[aQG,pf];exact⟨W.1,W.2.1,W.2.2.1,λM k=>W.2.2.2 M ((pf M).1 k)⟩
 .rw[f,j,aI5 fs h];exact g
theorem aCw{s:bT}(h:aJ s=true)(e:aA d=true):vM s.2.1 (d.map nO)=vM s.2.1 d:=
 ai1 (anS (NK e)) (aFc (NK e) (Ws h e))
theorem akD{s:bT}(e:aA d=true)(u:Int)(name:Bytes):dI s (d.map nO) u name=dI s d u name:=by
 unfold dI nD;rw[atI e,e];cases h:aJ s with
 |false=>rfl
 |true=>
  cases a:qw u with
  |false=>rfl
  |true=>show gY (vM (visible s u).2.1 (d.map nO)) name=gY (vM (visible s u).2.1 d) name;rw[aCw (Yc u h) e]
theorem aHn{a b:dw}(r:eU a=true)(U:eU b=true)(h:kL a b=true):norm a=norm b:=by have e:enc a=enc b:=aQ6 h;have C:=agd r;rw[e,agd U]at C;exact(congrArg Prod.fst C).symm
theorem afd{a:dw}(h:eU a=true):aJ (kG a)=true/\aA a.2.2.2.1=true:=by unfold eU at h;rw[aQm]at h;exact h
theorem ann{a b:dw}(r:eU a=true)(U:eU b=true)(h:kL a b=true)(u:Int)(name:Bytes):dI (kG a) a.2.2.2.1 u name=dI (kG b) b.2.2.2.1 u name:=by
 have e:=aHn r U h;rw[← akD (afd r).2,← akD (afd U).2];have w:kG a=kG b:=by have:=congrArg kG e;exact this
 have f:a.2.2.2.1.map nO=b.2.2.2.1.map nO:=congrArg (λx:dw=>x.2.2.2.1) e;rw[w,f]
theorem BO(s:bT)(d:List aH)(u:Int)(name:Bytes):zu (dI s d u name)/\(dI s d u name).length<=12:=by
 unfold dI nD;cases h:aJ s&&(aA d&&qw u)with
 |false=>exact⟨List.Pairwise.nil,aQx _⟩
 |true=>
  simp only[aQm]at h;have R:=Yc u h.1;have e:=Ws R h.2.1;have a:=NK h.2.1;show zu (gY (vM (visible s u).2.1 d) name)/\_;by_cases H:∃i,i<d.length/\nameOf d i=name
  .obtain⟨i,D,rfl⟩:=H;show zu (gY (vM (visible s u).2.1 d) (nameOf d i))/\(gY (vM (visible s u).2.1 d) (nameOf d i)).length<=12;rw[yI a e.order D,e.fix i D rfl];refine⟨aKS R _ _,?_⟩;unfold sel;rw[aQG];exact aQn (aQ2 _ _) (Dk.1 R).2.2.2.1
  .have:=WH e.order (s:=name) λi D e=>H ⟨i,D,e⟩;show zu (gY (vM (visible s u).2.1 d) name)/\(gY (vM (visible s u).2.1 d) name).length<=12;rw[this];exact⟨List.Pairwise.nil,aQx _⟩
theorem ao6{l:List (Int×Unit)}(h:zu l):rise l=true:=by unfold rise jG;rw[aQA];intro i D;have D:=aQ8.1 D;have:=aRb.1 h i (i+1) fC fC fC;rw[aQJ,aQJ,aQD (by omega:i<l.length),aQD (by omega:i+1<l.length)];exact aQT this
theorem anU{a:List (Int×Unit)}(h:zu a)(b:List (Int×Unit)):zu (without a b):=aRI _ h
theorem aKv{w:iQ}{n m:Int}{l:List (Int×Unit)}(h:sO w=true)(t:zu (listing w))(W:zu l)(R:ug w<=m)(k:m<n):
 sO (told w n l)=true/\listing (told w n l)=l/\ug (told w n l)<=n:=by
 unfold told;cases N:decide (0<(without l (listing w)).length+(without (listing w) l).length)with
 |false=>
  have N:=aSm N;show sO w=true/\listing w=l/\ug w<=n;exact⟨h,aCX t W fC,fC⟩
 |true=>
  have N:=aQ6 N;obtain⟨u,y,b,a,⟨⟩⟩:=w;have t:zu (replay b a):=t;have N:0<(without l (replay b a)).length+(without (replay b a) l).length:=N;show sO (u,y,b,a++[(n,without l (replay b a),without (replay b a) l,())],())=true/\replay b (a++[(n,without l (replay b a),without (replay b a) l,())])=l/\ug (u,y,b,a++[(n,without l (replay b a),without (replay b a) l,())],())<=n;have o:∀(p q:List (Int×Unit)) z,z∈without p q->z∈p/\fF q z.1=false:=λp q z e=>by unfold without at e;rw[aQ4]at e;exact⟨e.1,by simpa using e.2⟩
  have f:AO (a++[(n,without l (replay b a),without (replay b a) l,())]) a.length=(n,without l (replay b a),without (replay b a) l,()):=by unfold AO;rw[aQJ,aRR (aQp _),Nat.sub_self];rfl
  refine⟨?_,?_,?_⟩
  .unfold sO jG at h ⊢;rw[aQm]at h ⊢;refine⟨h.1,?_⟩;rw[aQA];have O:=aQA.1 h.2;intro i D;have D:i<(a++[(n,without l (replay b a),without (replay b a) l,())]).length:=aQ8.1 D;rw[aQu,List.length_singleton]at D;rcases aQE i a.length with g|B
   .have h3:=O i (aQ8.2 g);have r:∀j,j<a.length->AO (a++[(n,without l (replay b a),without (replay b a) l,())]) j=AO a j:=λj C=>by unfold AO;rw[aQJ,aQJ,aRj C]
    show O3 b (a++[_]) i=true;unfold O3 at h3 ⊢;rw[r i g,r (i-1) fC,List.take_append_of_le_length fC];exact h3
   .have D:i=a.length:=fC;subst D;show O3 b (a++[_]) a.length=true;unfold O3;rw[f,aSQ];dsimp only;rw[ao6 (anU W _),ao6 (anU t _),aQH fC];simp only[Bool.not_false,aRz,aQm,aQA];refine⟨?_,λz e=>by rw[(o _ _ z e).2];rfl,λz e=>E5.2 (o _ _ z e).1⟩;rcases aRB a.length with A|A
    .rw[A];rfl
    .have hlv:ug (u,y,b,a,())=(AO a (a.length-1)).1:=by unfold ug;rw[aQH (by show ¬a.length=0;omega)];rfl
     rw[hlv]at R;have:AO (a++[(n,without l (replay b a),without (replay b a) l,())]) (a.length-1)=AO a (a.length-1):=by unfold AO;rw[aQJ,aQJ,aRj fC]
     rw[this,aQH (show ¬(AO a (a.length-1)).1>=n from fC),aR8];rfl
  .show(a++[_]).foldl arC b=l;rw[List.foldl_append];exact agD W
  .unfold ug;dsimp only;rw[aQH (by rw[aQu];simp),show(a++[(n,without l (replay b a),without (replay b a) l,())]).length-1=a.length by rw[aQu];simp,f];exact aQN _
end Sp
