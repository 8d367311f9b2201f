import Derived.Test.YtncbcelpbmlgdaaGreatDoorFwA
import Derived.Lib.ItoaNum
import Derived.Lib.ItoaLen
import Derived.Lib.Join
import Derived.Test.YtncbcelpbmlgdaaGreatDoorFwC
import Derived.Lib.Fields
import Derived.Lib.Atoi
import Derived.Lib.SplitLaws
namespace Sp
open Go
abbrev Bytes:=List UInt8
abbrev LI:=List (Int×Unit)
abbrev LS:=List (Bytes×Unit)
theorem take_succ'{α:Type}(a:List α)(n:Nat)(d:α)(h:n<a.length):a.take (n+1)=a.take n++[a.getD n d]:=by rw[avD h,auF,auJ h];rfl
def acP(l:LI):Prop:=∀x∈l,-9223372036854775808<=x.1/\x.1<=9223372036854775807
theorem acP.take{a:LI}(h:acP a)(n:Nat):acP (a.take n):=λx hx=>h x (awd hx)
theorem acP.get{a:LI}(h:acP a){n:Nat}(hn:n<a.length)(d:Int×Unit):(Lib.itoa (a.getD n d).1).length<=21:=by
 have:a.getD n d∈a:=by rw[auF,auJ hn,aw3];exact av3 hn
 exact Lib.itoa_length_le _ (h _ this).1 (h _ this).2
theorem aeg(c:Nat):Lib.decDigits c=(if c / 10=0 then[]else Lib.decDigits (c / 10))++[UInt8.ofNat (48+c%10)]:=by
 conv=>lhs;rw[Lib.decDigits]
 by_cases h:c<10
 .rw[dif_pos h,if_pos aaV,axQ h];rfl
 .rw[dif_neg h,if_neg aaV]
end Sp
namespace Sp
open Go
set_option synthInstance.maxSize 100000
set_option synthInstance.maxHeartbeats 1000000
abbrev DX:=Int×Int×Bytes×Unit
abbrev aY:=Bytes×Int×Int×Bytes×Unit
abbrev ak:=Int×Int×Int×Bytes×Int×Int×Bytes×Unit
abbrev aQ:=Int×Int×Bool×Int×List aY×Unit
abbrev bf:=Bytes×List ak×Unit
abbrev AL:=Int×Int×Int×Bool×Int×List aY×Int×Bytes×List ak×Unit
instance:DecidableEq DX:=inferInstance
instance:DecidableEq aY:=inferInstance
instance:DecidableEq ak:=inferInstance
instance:DecidableEq aQ:=inferInstance
instance:DecidableEq bf:=inferInstance
instance:DecidableEq (Int×bf):=inferInstance
instance:DecidableEq (List aY×Int×bf):=inferInstance
instance:DecidableEq (Bool×Int×List aY×Int×bf):=inferInstance
instance atf:DecidableEq AL:=(inferInstance:DecidableEq (Int×Int×Int×Bool×Int×List aY×Int×bf))
instance:DecidableEq (List AL):=inferInstance
instance:DecidableEq (List AL×Bytes×Int×Unit):=inferInstance
def lower(s:Bytes):Bool:=s.all λc=>decide (97<=c.toNat)&&decide (c.toNat<=122)
def aS(s:Bytes):Bool:=lower s&&decide (1<=(s.length:Int))&&decide ((s.length:Int)<=6)
def dX(n:Int):Bool:=decide (0<=n)&&decide (n<=1000000000)
def idxFrom:Int->LI->Int
 |_,[]=>-1
 |k,x::r=>if dX x.1 then idxFrom (k+1) r else k
def idxOf(l:LI):Int:=idxFrom 0 l
def aoa(k:Int)(nc:Nat):Bool:=decide (1<=k)&&decide (k<=8)&&decide ((nc:Int)<=6)
def Tj(k u:Int)(nc:Nat)(n:Bytes)(a:Int):Bytes:=
 bif !(aoa k nc)then[]else
 bif (decide ((nc:Int)>0)&&decide (k>2))then[]else
 bif (k==1&&(dX u&&(a==0&&n==[])))then[99,111,109,109,105,116,32]++Lib.itoa u else
 bif (k==2&&(dX u&&(dX a&&n==[])))then[99,114,97,115,104,32]++Lib.itoa u++[32]++Lib.itoa a else
 bif (k==3&&(dX u&&(aS n&&a==0)))then[119,97,116,99,104,32]++Lib.itoa u++[32]++n else
 bif (k==4&&(u==0&&(dX a&&n==[])))then[112,105,110,32]++Lib.itoa a else
 bif (k==5&&(u==0&&(dX a&&n==[])))then[117,110,112,105,110,32]++Lib.itoa a else
 bif (k==6&&(u==0&&(a==0&&n==[])))then[99,111,108,108,101,99,116]else
 bif (k==7&&(dX u&&(dX a&&aS n)))then[97,100,100,32]++Lib.itoa u++[32]++n++[32]++Lib.itoa a else
 bif (k==8&&(dX u&&(dX a&&aS n)))then[114,101,109,111,118,101,32]++Lib.itoa u++[32]++n++[32]++Lib.itoa a else[]
end Sp
namespace Sp
open Go
abbrev dP:=Bytes×Int×Unit
abbrev dU:=List dP×List aQ×Int×Unit
instance:DecidableEq dP:=inferInstance
instance:DecidableEq (List dP):=inferInstance
instance:DecidableEq (List aQ):=inferInstance
instance:DecidableEq (List aQ×Int×Unit):=inferInstance
instance atM:DecidableEq dU:=(inferInstance:DecidableEq (List dP×List aQ×Int×Unit))
def usual:List dP:=[([97],1,()),([98],1,()),([110],2,()),([116],2,())]
def vX(f:aQ):Prop:=f.2.2.2.2.1.length<=1000
def mY(s:dU):Prop:=s.1.length<=1000/\s.2.1.length<=1000/\∀f∈s.2.1,vX f
def jd(n:Nat)(f:Nat->Bool):Bool:=(List.range n).all f
def dm(s:Bytes):Bool:=lower s&&decide (1<=(s.length:Int))&&decide ((s.length:Int)<=1)
def bI(k n:Int)(s:Bytes):Bool:=
 bif decide (k=0)then decide (n=0)&&decide (s=[])
 else bif decide (k=1)then decide (0<=n)&&decide (n<=999)&&decide (s=[])
 else bif decide (k=2)then aS s&&decide (n=0)
 else false
def kindOf:List dP->Bytes->Int
 |[],_=>0
 |f::r,s=>bif decide (f.1=s)then f.2.1 else kindOf r s
def fieldAt(fs:List dP)(i:Nat):dP:=fs.getD i ([],0,())
def jC(fs:List dP)(i:Nat):Bool:=
 dm (fieldAt fs i).1&&(decide (1<=(fieldAt fs i).2.1)&&decide ((fieldAt fs i).2.1<=2))&&!(decide (0<i)&&!Op.bytesLess (fieldAt fs (i-1)).1 (fieldAt fs i).1)
def dY(fs:List dP):Bool:=jd fs.length (jC fs)&&decide ((fs.length:Int)<=5)
def iV(fs:List dP)(name:Bytes)(k n:Int)(s:Bytes):Bool:=bI k n s&&!decide (k=0)&&decide (k=kindOf fs name)
def bP(as:List aY)(i:Nat):aY:=as.getD i ([],0,0,[],())
def jI(fs:List dP)(as:List aY)(i:Nat):Bool:=
 iV fs (bP as i).1 (bP as i).2.1 (bP as i).2.2.1 (bP as i).2.2.2.1&&!(decide (0<i)&&!Op.bytesLess (bP as (i-1)).1 (bP as i).1)
def kC(fs:List dP)(as:List aY):Bool:=jd as.length (jI fs as)
def dB(fs:List dP)(f:aQ):Bool:=
 kC fs f.2.2.2.2.1&&dY fs&&(decide (1<=f.1)&&decide (f.1<=60))&&(decide (0<=f.2.1)&&decide (f.2.1<=2))&&(decide (0<=f.2.2.2.1)&&decide (f.2.2.2.1<=60))
def fileAt(fs:List aQ)(i:Nat):aQ:=fs.getD i (0,0,false,0,[],())
def lF(s:dU)(i:Nat):Bool:=
 dB s.1 (fileAt s.2.1 i)&&decide ((fileAt s.2.1 i).1<s.2.2.1)&&!(decide (0<i)&&!decide ((fileAt s.2.1 (i-1)).1<(fileAt s.2.1 i).1))
def bT(s:dU):Bool:=
 jd s.2.1.length (lF s)&&dY s.1&&decide ((s.2.1.length:Int)<=12)&&(decide (1<=s.2.2.1)&&decide (s.2.2.1<=61))
def zC:Int->List aQ->Int->Int
 |_,[],_=>-1
 |k,f::r,id=>bif decide (f.1=id)then k else zC (k+1) r id
def place(fs:List aQ)(id:Int):Int:=zC 0 fs id
def apD(f:aQ)(u:Int):Bool:=(decide (0<=u)&&decide (u<=2))&&(decide (f.2.1=u)||f.2.2.1)
def aob(f:aQ)(u:Int):Bool:=(decide (0<=u)&&decide (u<=2))&&decide (f.2.1=u)
def unlink(fs:List aQ)(f:aQ):aQ:=(f.1,f.2.1,f.2.2.1,(bif decide (place fs f.2.2.2.1<0)then 0 else f.2.2.2.1),f.2.2.2.2.1,())
def visible(s:dU)(u:Int):dU:=
 let fs:=s.2.1.filter (apD · u)
 (s.1,fs.map (unlink fs),s.2.2.1,())
def aqy:aQ:=(0,0,false,0,[],())
def Tm(s:dU)(id:Int):aQ×Bool:=
 bif decide (place s.2.1 id<0)then(aqy,false)else(fileAt s.2.1 (place s.2.1 id).toNat,true)
def oW(name:Bytes)(b:aY):Bool:=!(b.1==name)
def qo(name:Bytes)(b:aY):Bool:=Op.bytesLess b.1 name||b.1==name
def XJ(as:List aY)(a:aY):List aY:=as.takeWhile (qo a.1)++a::as.dropWhile (qo a.1)
def jR(as:List aY)(name:Bytes)(k n:Int)(s:Bytes):List aY:=
 bif decide (k=0)then as.filter (oW name)else XJ (as.filter (oW name)) (name,k,n,s,())
def bQ(s:dU)(f:aQ):dU×Int×Bool:=
 let g:aQ:=(s.2.2.1,f.2)
 bif bT s&&decide ((s.2.1.length:Int)<12)&&dB s.1 g then((s.1,s.2.1++[g],s.2.2.1+1,()),s.2.2.1,true)else(s,0,false)
def ajj(s:dU)(f:aQ):dU×Bool:=
 bif bT s&&!decide (place s.2.1 f.1<0)&&dB s.1 f then((s.1,s.2.1.set (place s.2.1 f.1).toNat f,s.2.2.1,()),true)else(s,false)
def eU(s:dU)(id:Int):dU×Bool:=
 bif bT s&&!decide (place s.2.1 id<0)then((s.1,s.2.1.eraseIdx (place s.2.1 id).toNat,s.2.2.1,()),true)else(s,false)
def ail{α:Type}(p:α->Bool):Int->List α->Int
 |_,[]=>-1
 |k,f::r=>bif p f then k else ail p (k+1) r
def findAt{α:Type}(p:α->Bool)(l:List α):Int:=ail p 0 l
def fieldPlace(l:List dP)(name:Bytes):Int:=findAt (λf=>f.1==name) l
end Sp
namespace Sp
theorem aim:∀(n m:Nat)(L:Nat->Nat),(∀k,k<m->∃j,j<n/\L j=k)->m<=n
 |0,m,L,h=>by
  rcases av9 m with h0|h0
  .omega
  .obtain⟨j,hj,_⟩:=h 0 h0;omega
 |n+1,m,L,h=>by
  by_cases hv:L n<m
  .have:=aim n (m-1) (λj=>if L n<L j then L j-1 else L j) λk hk=>by
    by_cases h1:k<L n
    .obtain⟨j,hj,e⟩:=h k aaV;have:j≠n:=λe2=>by subst e2;omega
     exact⟨j,aaV,by show(if _ then _ else _)=_;rw[if_neg aaV];exact e⟩
    .obtain⟨j,hj,e⟩:=h (k+1) aaV;have:j≠n:=λe2=>by subst e2;omega
     exact⟨j,aaV,by show(if _ then _ else _)=_;rw[if_pos aaV];omega⟩
   omega
  .have:=aim n m L λk hk=>by
    obtain⟨j,hj,e⟩:=h k hk;have:j≠n:=λe2=>by subst e2;omega
    exact⟨j,aaV,e⟩
   omega
abbrev Tn:=List (Nat×Nat×Nat)
def iQ(E:Tn)(L:Nat->Nat):Prop:=∀e∈E,L e.2.1+e.2.2<=L e.1
def aew(E:Tn)(n:Nat):Prop:=∀e∈E,e.1<n/\e.2.1<n/\e.2.2<=1
def sumTo(n:Nat)(L:Nat->Nat):Nat:=match n with|0=>0|n+1=>sumTo n L+L n
theorem sumTo_le{L M:Nat->Nat}:∀n,(∀i,i<n->L i<=M i)->sumTo n L<=sumTo n M
 |0,_=>auH _
 |n+1,h=>Nat.add_le_add (sumTo_le n λi hi=>h i aaV) (h n aaV)
theorem ain{L M:Nat->Nat}:∀n,(∀i,i<n->L i<=M i)->(∃i,i<n/\L i<M i)->sumTo n L<sumTo n M
 |0,_,⟨i,hi,_⟩=>aaV
 |n+1,h,⟨i,hi,hl⟩=>by
  have h1:=sumTo_le n λj hj=>h j (awW hj);show sumTo n L+L n<sumTo n M+M n;by_cases e:i=n
  .subst e;omega
  .have:=ain n (λj hj=>h j (awW hj)) ⟨i,aaV,hl⟩;have:=h n aaV;omega
theorem Qr{E:Tn}{n:Nat}(hE:aew E n):∀(s:Nat)(L:Nat->Nat),sumTo n L<=s->iQ E L->∃M,iQ E M/\∀i,i<n->M i<n
 |s,L,hs,hL=>by
  by_cases hall:∀i,i<n->L i<n
  .exact⟨L,hL,hall⟩
  .obtain⟨i,hi⟩:=Classical.not_forall.1 hall;have hi1:i<n/\n<=L i:=by
    by_cases h1:i<n
    .exact⟨h1,axV λh2=>hi λ_=>h2⟩
    .exact(hi λh2=>(h1 h2).elim).elim
   have as7:∃k,k<n/\∀j,j<n->L j≠k:=by
    refine avS λhno=>?_;have:=aim n (n+1) (λj=>min (L j) n) λk hk=>by
     by_cases h1:k<n
     .refine avS λh2=>hno ⟨k,h1,λj hj e=>h2 ⟨j,hj,?_⟩⟩;show min (L j) n=k;omega
     .exact⟨i,hi1.1,by show min (L i) n=k;omega⟩
    omega
   obtain⟨k,hk,hno⟩:=as7;have hlt:sumTo n (λj=>if k<L j then L j-1 else L j)<sumTo n L:=by
    refine ain n (λj _=>?_) ⟨i,hi1.1,?_⟩
    .show(if _ then _ else _)<=_;split
     .exact Nat.sub_le _ _
     .exact auH _
    .show(if _ then _ else _)<_;rw[if_pos aaV];omega
   match s,hs with
   |0,hs=>omega
   |s+1,hs=>refine Qr hE s (λj=>if k<L j then L j-1 else L j) aaV λe he=>?_;have h1:=hL e he;obtain⟨h2,h3,h4⟩:=hE e he;have n1:=hno e.1 h2;have n2:=hno e.2.1 h3;show(if k<L e.2.1 then L e.2.1-1 else L e.2.1)+e.2.2<=(if k<L e.1 then L e.1-1 else L e.1);split<;>split<;>omega
theorem Le{E:Tn}{n:Nat}(hE:aew E n)(h:∃L,iQ E L):∃M,iQ E M/\∀i,i<n->M i<n:=by obtain⟨L,hL⟩:=h;exact Qr hE (sumTo n L) L (auH _) hL
structure Raises(E:Tn)(n:Nat)(R:(Nat->Nat)->Nat->Nat):Prop where
 up:∀L i,L i<=R L i
 fix:∀L,(∀i,i<n->R L i=L i)->iQ E L
 below:∀L M,iQ E M->(∀i,i<n->L i<=M i)->∀i,i<n->R L i<=M i
 same:∀L L',(∀i,i<n->L i=L' i)->∀i,i<n->R L i=R L' i
end Sp
namespace Sp
open Go
abbrev aV:=List dP×List aQ×Int×List bf×Unit
abbrev aqz:=Int×List dP×List aQ×Int×List bf×Int×Unit
instance:DecidableEq (List ak):=inferInstance
instance:DecidableEq bf:=inferInstance
instance:DecidableEq (List bf):=inferInstance
instance:DecidableEq (List bf×Unit):=inferInstance
instance:DecidableEq (Int×List bf×Unit):=inferInstance
instance:DecidableEq (List aQ×Int×List bf×Unit):=inferInstance
instance atW:DecidableEq aV:=(inferInstance:DecidableEq (List dP×List aQ×Int×List bf×Unit))
instance:DecidableEq (List bf×Int×Unit):=inferInstance
instance:DecidableEq (Int×List bf×Int×Unit):=inferInstance
instance:DecidableEq (List aQ×Int×List bf×Int×Unit):=inferInstance
instance:DecidableEq (List dP×List aQ×Int×List bf×Int×Unit):=inferInstance
instance auh:DecidableEq aqz:=(inferInstance:DecidableEq (Int×List dP×List aQ×Int×List bf×Int×Unit))
instance:DecidableEq (List aqz):=inferInstance
def nodeAt(q:List ak)(i:Nat):ak:=q.getD i (0,0,0,[],0,0,[],())
def iT(n:ak):Bool:=n.1==6||n.1==7
def o5(n:ak):Bool:=n.1==8||n.1==9
def dM(n:ak)(a:Int):Bool:=
 let kids:=decide (0<=n.2.1)&&decide (n.2.1<=a-1)&&decide (0<a)
 let two:=decide (0<=n.2.2.1)&&decide (n.2.2.1<=a-1)
 let bare:=n.2.2.2.1==[]&&(n.2.2.2.2.1==0&&(n.2.2.2.2.2.1==0&&n.2.2.2.2.2.2.1==[]))
 let flat:=n.2.1==0&&n.2.2.1==0
 let valued:=bI n.2.2.2.2.1 n.2.2.2.2.2.1 n.2.2.2.2.2.2.1
 let void:=n.2.2.2.2.1==0&&(n.2.2.2.2.2.1==0&&n.2.2.2.2.2.2.1==[])
 bif n.1==1 then flat&&bare else bif n.1==2 then flat&&void&&dm n.2.2.2.1 else
 bif n.1==3 then flat&&dm n.2.2.2.1&&valued&&!(n.2.2.2.2.1==0)else bif n.1==4 then flat&&dm n.2.2.2.1&&valued&&n.2.2.2.2.1==1 else
 bif n.1==5 then kids&&n.2.2.1==0&&bare else bif n.1==6||n.1==7 then kids&&two&&bare else
 bif n.1==8||n.1==9 then flat&&void&&aS n.2.2.2.1 else false
def refsOf(a:Int)(n:ak):Nat:=(bif (iT n||n.1==5)&&n.2.1==a then 1 else 0)+(bif iT n&&n.2.2.1==a then 1 else 0)
def gU(q:List ak)(a:Int):Nat:=(q.map (refsOf a)).sum
def kR(q:List ak)(i:Nat):Bool:=dM (nodeAt q i) i&&!(decide ((i:Int)<(q.length:Int)-1)&&!(gU q i==1))
def ax(q:List ak):Bool:=jd q.length (kR q)&&(decide (1<=(q.length:Int))&&decide ((q.length:Int)<=9))
def bZ(d:List bf)(i:Nat):bf:=d.getD i ([],[],())
def kF(d:List bf)(i:Nat):Bool:=aS (bZ d i).1&&ax (bZ d i).2.1&&!(decide (0<i)&&!Op.bytesLess (bZ d (i-1)).1 (bZ d i).1)
def mZ(d:List bf):Bool:=jd d.length (kF d)&&decide ((d.length:Int)<=5)
def jS(q:List ak)(i:Nat)(out:List (Bool×Unit)):List (Bool×Unit):=
 let n:=nodeAt q i
 bif n.1==5 then out.set n.2.1.toNat (true,())else bif iT n then(out.set n.2.1.toNat ((out.getD i (false,())).1,())).set n.2.2.1.toNat ((out.getD i (false,())).1,())else out
def iF(q:List ak):Nat->List (Bool×Unit)->List (Bool×Unit)
 |0,out=>out
 |n+1,out=>iF q n (jS q n out)
def negated(q:List ak):List (Bool×Unit):=bif ax q then iF q q.length (List.replicate q.length (false,()))else[]
def dO(q:List ak)(neg:Bool):List Bytes:=(List.range (negated q).length).filterMap λi=>bif o5 (nodeAt q i)&&((negated q).getD i (false,())).1==neg then some (nodeAt q i).2.2.2.1 else none
def tZ:Int->List bf->Bytes->Int
 |_,[],_=>-1
 |k,x::r,s=>bif x.1==s then k else tZ (k+1) r s
def aA(d:List bf)(s:Bytes):Int:=tZ 0 d s
def cZ(d:List bf):Tn:=
 (List.range d.length).flatMap λi=>
   ((dO (bZ d i).2.1 false).filterMap λs=>bif decide (0<=aA d s)then some (i,(aA d s).toNat,0)else none)++
   ((dO (bZ d i).2.1 true).filterMap λs=>bif decide (0<=aA d s)then some (i,(aA d s).toNat,1)else none)
open Classical in
noncomputable def dI (d:List bf):Bool:=mZ d&&decide (∃L,iQ (cZ d) L)
def BO(x:aV):dU:=(x.1,x.2.1,x.2.2.1,())
noncomputable def bM (x:aV):Bool:=bT (BO x)&&dI x.2.2.2.1
def jc(r:LS)(l:List Bytes):Prop:=r.length<=1000/\∀s,(s,())∈r↔s∈l
def wG(d:List bf)(aI:List (Int×Unit))(more:Int):LS->Int
 |[]=>0
 |x::r=>max (bif decide (0<=aA d x.1)then(aI.getD (aA d x.1).toNat (0,())).1+more else 0) (wG d aI more r)
def N8(l:LS)(s:Bytes):LS:=
 let n:=(l.takeWhile λx=>Op.bytesLess x.1 s).length
 bif decide (n<l.length)&&(l.getD n ([],())).1==s then l else l.take n++[(s,())]++l.drop n
def raised(d:List bf)(aI r:List (Int×Unit)):Prop:=
 r.length=d.length/\(∀i,i<d.length->(aI.getD i (0,())).1<=(r.getD i (0,())).1)/\(∀B:Int,(∀i,i<d.length->(aI.getD i (0,())).1<=B)->∀i,i<d.length->(r.getD i (0,())).1<=B+5000)/\
 ((∀i,i<d.length->(r.getD i (0,())).1=(aI.getD i (0,())).1)->iQ (cZ d) λi=>(aI.getD i (0,())).1.toNat)/\
 ∀M,iQ (cZ d) M->(∀i,i<d.length->(aI.getD i (0,())).1<=M i)->∀i,i<d.length->(r.getD i (0,())).1<=M i
def eu(d:List bf):Prop:=d.length<=1000/\∀x∈d,x.2.1.length<=1000
def fH(x:aV):Prop:=mY (BO x)/\eu x.2.2.2.1
end Sp
namespace Sp
open Go
end Sp
namespace Sp
open Go
theorem Xg(s:Bytes):∀(d:List bf)(k:Int),(tZ k d s=-1/\∀x∈d,x.1≠s)\/∃n,n<d.length/\tZ k d s=k+n/\(bZ d n).1=s/\∀i,i<n->(bZ d i).1≠s
 |[],k=>.inl ⟨rfl,λx hx=>aeZ⟩
 |x::r,k=>by
  by_cases h:x.1=s
  .right;refine⟨0,abZ,?_,h,λi hi=>aaV⟩;rw[tZ,au5.2 h];simp
  .rcases Xg s r (k+1)with⟨h1,h2⟩|⟨n,h1,h2,h3,h4⟩
   .left;refine⟨by rw[tZ,auD.2 h];exact h1,λy hy=>?_⟩;rcases auQ.1 hy with rfl|hy
    .exact h
    .exact h2 y hy
   .right;refine⟨n+1,aeV,by rw[tZ,auD.2 h];show tZ (k+1) r s=_;omega,h3,λi hi=>?_⟩;cases i with
    |zero=>exact h
    |succ i=>exact h4 i aaV
theorem Hy(d:List bf)(s:Bytes):(aA d s=-1/\∀x∈d,x.1≠s)\/∃n,n<d.length/\aA d s=n/\(bZ d n).1=s/\∀i,i<n->(bZ d i).1≠s:=by
 rcases Xg s d 0 with h|⟨n,h1,h2,h3⟩
 .exact .inl h
 .exact .inr ⟨n,h1,by show tZ 0 d s=_;omega,h3⟩
theorem Ig{d:List bf}{s:Bytes}(h:0<=aA d s):aA d s<d.length:=by rcases Hy d s with⟨h1,_⟩|⟨n,h1,h2,_⟩<;>omega
theorem EX{d:List bf}{i j m:Nat}:(i,j,m)∈cZ d↔i<d.length/\∃s,((m=0/\s∈dO (bZ d i).2.1 false)\/(m=1/\s∈dO (bZ d i).2.1 true))/\0<=aA d s/\j=(aA d s).toNat:=by
 unfold cZ;rw[axq];constructor
 .rintro⟨k,hk,h⟩;rw[avq]at hk;rcases au4.1 h with h|h
  all_goals
   obtain⟨s,hs,e⟩:=awq.1 h;rw[cond_eq_ite]at e;split at e
   .next hp=>have hp:0<=aA d s:=avZ hp;cases e;exact⟨hk,s,by first|exact .inl ⟨rfl,hs⟩|exact .inr ⟨rfl,hs⟩,hp,rfl⟩
   .cases e
 .rintro⟨hi,s,h|h,hp,rfl⟩
  .obtain⟨rfl,hs⟩:=h;refine⟨i,avq.2 hi,au4.2 (.inl (awq.2 ⟨s,hs,?_⟩))⟩;rw[auS hp];rfl
  .obtain⟨rfl,hs⟩:=h;refine⟨i,avq.2 hi,au4.2 (.inr (awq.2 ⟨s,hs,?_⟩))⟩;rw[auS hp];rfl
theorem kQ(d:List bf):aew (cZ d) d.length:=by
 rintro⟨i,j,m⟩ he;obtain⟨h1,s,h2,h3,h4⟩:=EX.1 he;have:=Ig h3;refine⟨h1,?_,?_⟩
 .show j<_;omega
 .show m<=1;rcases h2 with⟨h,_⟩|⟨h,_⟩<;>omega
def lv(l:List (Int×Unit))(i:Nat):Int:=(l.getD i (0,())).1
theorem ahI{l:List (Int×Unit)}{i:Nat}(hi:i<l.length)(x:Int)(k:Nat):lv (l.set i (x,())) k=if k=i then x else lv l k:=by
 unfold lv;rw[auF,auF];by_cases h:k=i
 .subst h;rw[avT hi,if_pos rfl];rfl
 .rw[avy (λe=>h e.symm),if_neg h]
theorem aie{l:List (Int×Unit)}{i:Nat}(hi:i<l.length):(lv l i,())∈l:=by unfold lv;rw[auF,auJ hi];exact av3 hi
theorem amu{l:List (Int×Unit)}{p:Int->Prop}(h:∀i,i<l.length->p (lv l i)):∀x∈l,p x.1:=by intro x hx;obtain⟨i,hi,e⟩:=avY hx;have:=h i hi;unfold lv at this;rw[auF,auJ hi]at this;rw[← e];exact this
theorem aqf{a b:List (Int×Unit)}(hl:a.length=b.length)(h:∀i,i<a.length->lv a i=lv b i):a=b:=by refine aw1 hl λi h1 h2=>?_;have:=h i h1;unfold lv at this;rw[auF,auF,auJ h1,auJ h2]at this;exact axU this rfl
structure G6(d:List bf)(aI cur:List (Int×Unit))(g:Int)(P:Nat×Nat×Nat->Prop):Prop where
 len:cur.length=d.length
 up:∀i,i<d.length->lv aI i<=lv cur i
 grow:∀B,(∀i,i<d.length->lv aI i<=B)->∀i,i<d.length->lv cur i<=B+g
 fix:(∀i,i<d.length->lv cur i=lv aI i)->∀e,P e->lv aI e.2.1+e.2.2<=lv aI e.1
 below:∀M,iQ (cZ d) M->(∀i,i<d.length->lv aI i<=M i)->∀i,i<d.length->lv cur i<=M i
theorem G6.start{d:List bf}{aI:List (Int×Unit)}(h:aI.length=d.length):G6 d aI aI 0 λ_=>False:=
 ⟨h,λ_ _=>avt _,λB hB i hi=>by have:=hB i hi;omega,λ_ e he=>he.elim,λ_ _ h=>h⟩
theorem G6.weaken{d:List bf}{aI cur:List (Int×Unit)}{g g':Int}{P P':Nat×Nat×Nat->Prop}(h:G6 d aI cur g P)(hg:g<=g')(hP:∀e,P' e->P e):G6 d aI cur g' P':=
 ⟨h.len,h.up,λB hB i hi=>by have:=h.grow B hB i hi;omega,λhx e he=>h.fix hx e (hP e he),h.below⟩
theorem G6.still{d:List bf}{aI cur:List (Int×Unit)}{g:Int}{P:Nat×Nat×Nat->Prop}(h:G6 d aI cur g P){i j m:Nat}(he:(i,j,m)∈cZ d)(hle:lv cur j+m<=lv cur i):G6 d aI cur g λe=>P e\/e=(i,j,m):=by
 obtain⟨h1,h2,_⟩:=kQ d _ he;refine⟨h.len,h.up,h.grow,λhx e hp=>?_,h.below⟩;rcases hp with hp|rfl
 .exact h.fix hx e hp
 .have a:=hx i h1;have b:=hx j h2;show lv aI j+m<=lv aI i;omega
theorem G6.set{d:List bf}{aI cur:List (Int×Unit)}{g:Int}{P:Nat×Nat×Nat->Prop}(h:G6 d aI cur g P){i j m:Nat}(he:(i,j,m)∈cZ d)(hlt:lv cur i<lv cur j+m):G6 d aI (cur.set i (lv cur j+m,())) (g+m) λe=>P e\/e=(i,j,m):=by
 obtain⟨h1,h2,_⟩:=kQ d _ he;have h1:i<d.length:=h1;have h2:j<d.length:=h2;have hl:=h.len;have hs:=λk=>ahI (l:=cur) (i:=i) aaV (lv cur j+m) k;refine⟨aeV,λk hk=>?_,λB hB k hk=>?_,λhx e hp=>?_,λM hM hb k hk=>?_⟩
 .rw[hs];have a:=h.up k hk;split
  .next e=>subst e;omega
  .exact a
 .rw[hs];have a:=h.grow B hB k hk;have b:=h.grow B hB j h2;split<;>omega
 .have:=hx i h1;rw[hs,if_pos rfl]at this;have:=h.up i h1;omega
 .rw[hs];split
  .next e=>subst e;have a:=h.below M hM hb j h2;have b:=hM _ he;have b:M j+m<=M k:=b;omega
  .exact h.below M hM hb k hk
theorem G6.raised{d:List bf}{aI cur:List (Int×Unit)}{g:Int}{P:Nat×Nat×Nat->Prop}(h:G6 d aI cur g P)(hg:g<=5000)(hP:∀e∈cZ d,P e)(h0:∀i,i<d.length->0<=lv aI i):raised d aI cur:=by refine⟨h.len,h.up,λB hB i hi=>by have:=h.grow B hB i hi;show lv cur i<=_;omega,λhx e he=>?_,h.below⟩;have a:=h.fix hx e (hP e he);obtain⟨h1,h2,_⟩:=kQ d _ he;have b:=h0 _ h1;have c:=h0 _ h2;show(lv aI e.2.1).toNat+e.2.2<=(lv aI e.1).toNat;omega
theorem acQ(d:List bf)(aI:List (Int×Unit))(hl:aI.length=d.length):∀(E:Tn),(∀e∈E,e∈cZ d)->∃cur:List (Int×Unit),cur.length=d.length/\(∀i,i<d.length->lv aI i<=lv cur i/\(lv cur i=lv aI i\/∃e∈E,e.1=i/\lv cur i=lv aI e.2.1+e.2.2))/\∀e∈E,lv aI e.2.1+e.2.2<=lv cur e.1
 |[],_=>⟨aI,hl,λi hi=>⟨avt _,.inl rfl⟩,λe he=>by cases he⟩
 |e::E,hE=>by
  obtain⟨cur,h1,h2,h3⟩:=acQ d aI hl E λx hx=>hE x (auM _ hx);obtain⟨g1,g2,_⟩:=kQ d e (hE e auO);by_cases h:lv cur e.1<lv aI e.2.1+e.2.2
  .have hs:=λk=>ahI (l:=cur) (i:=e.1) aaV (lv aI e.2.1+e.2.2) k;refine⟨cur.set e.1 (lv aI e.2.1+e.2.2,()),aeV,λi hi=>?_,λx hx=>?_⟩
   .rw[hs];have:=h2 i hi;split
    .next hi'=>exact⟨by rw[hi']at this ⊢;omega,.inr ⟨e,auO,hi'.symm,rfl⟩⟩
    .refine⟨this.1,this.2.imp_right λ⟨x,hx,hy⟩=>⟨x,auM _ hx,hy⟩⟩
   .rw[hs];rcases auQ.1 hx with rfl|hx
    .rw[if_pos rfl];omega
    .have:=h3 x hx;split
     .next he=>rw[he]at this;omega
     .exact this
  .refine⟨cur,h1,λi hi=>?_,λx hx=>?_⟩
   .have:=h2 i hi;exact⟨this.1,this.2.imp_right λ⟨x,hx,hy⟩=>⟨x,auM _ hx,hy⟩⟩
   .rcases auQ.1 hx with rfl|hx
    .omega
    .exact h3 x hx
theorem ajh(d:List bf)(aI:List (Int×Unit))(hl:aI.length=d.length)(h0:∀i,i<d.length->0<=lv aI i):∃cur,raised d aI cur:=by
 obtain⟨cur,h1,h2,h3⟩:=acQ d aI hl (cZ d) λ_ h=>h;refine⟨cur,h1,λi hi=>(h2 i hi).1,λB hB i hi=>?_,λhx e he=>?_,λM hM hb i hi=>?_⟩
 .show lv cur i<=_;rcases(h2 i hi).2 with h|⟨e,he,rfl,h⟩
  .rw[h];have:=hB i hi;show(aI.getD i (0,())).1<=_;omega
  .obtain⟨_,g2,g3⟩:=kQ d e he;have:lv aI e.2.1<=B:=hB _ g2;omega
 .obtain⟨g1,g2,_⟩:=kQ d e he;have a:=h3 e he;have b:=h0 _ g1;have c:=h0 _ g2;have x:lv cur e.1=lv aI e.1:=hx _ g1;show(lv aI e.2.1).toNat+e.2.2<=(lv aI e.1).toNat;omega
 .show lv cur i<=_;rcases(h2 i hi).2 with h|⟨e,he,rfl,h⟩
  .rw[h];exact hb i hi
  .obtain⟨_,g2,_⟩:=kQ d e he;have a:lv aI e.2.1<=M e.2.1:=hb _ g2;have b:=hM e he;omega
theorem EW{d:List bf}{aI:List (Int×Unit)}{more:Int}:∀(r:LS)(B:Int),wG d aI more r<=B↔0<=B/\∀x∈r,0<=aA d x.1->lv aI (aA d x.1).toNat+more<=B
 |[],B=>by simp[wG]
 |x::r,B=>by
  have ih:=EW (d:=d) (aI:=aI) (more:=more) r B;rw[wG];have e:∀a b:Int,max a b<=B↔a<=B/\b<=B:=λa b=>aaV;rw[e,ih];simp only[auQ,forall_eq_or_imp];by_cases h:0<=aA d x.1
  .rw[auS h];show lv aI _+more<=B/\_↔_;constructor
   .exactλ⟨a,b,c⟩=>⟨b,λ_=>a,c⟩
   .exactλ⟨a,b,c⟩=>⟨b h,a,c⟩
  .rw[auU h];show(0:Int)<=B/\_↔_;constructor
   .exactλ⟨a,b,c⟩=>⟨b,λh'=>(h h').elim,c⟩
   .exactλ⟨a,b,c⟩=>⟨a,a,c⟩
def wV(l:List (Int×Unit)):Nat->Int
 |0=>0
 |n+1=>wV l n+lv l n
theorem aai{a b:List (Int×Unit)}:∀n,(∀i,i<n->lv a i<=lv b i)->wV a n<=wV b n
 |0,_=>avt _
 |n+1,h=>Int.add_le_add (aai n λi hi=>h i aaV) (h n aaV)
theorem aah{a b:List (Int×Unit)}:∀n,(∀i,i<n->lv a i<=lv b i)->(∃i,i<n/\lv a i<lv b i)->wV a n<wV b n
 |0,_,⟨i,hi,_⟩=>aaV
 |n+1,h,⟨i,hi,hl⟩=>by
  have h1:=aai n λj hj=>h j (awW hj);show wV a n+lv a n<wV b n+lv b n;by_cases e:i=n
  .subst e;omega
  .have:=aah n (λj hj=>h j (awW hj)) ⟨i,aaV,hl⟩;have:=h n aaV;omega
theorem Oo{a:List (Int×Unit)}{b:Nat}:∀n:Nat,(∀i,i<n->lv a i<=b)->wV a n<=(n*b:Nat)
 |0,_=>by simp[wV]
 |n+1,h=>by have h1:=Oo n λi hi=>h i (awW hi);have h2:=h n aaV;show wV a n+lv a n<=((n+1)*b:Nat);rw[Nat.succ_mul];omega
theorem Wj{a:List (Int×Unit)}:∀n:Nat,(∀i,i<n->0<=lv a i)->0<=wV a n
 |0,_=>avt _
 |n+1,h=>Int.add_nonneg (Wj n λi hi=>h i aaV) (h n aaV)
theorem lV{d:List bf}:dI d=true↔mZ d=true/\∃L,iQ (cZ d) L:=by unfold dI;simp
theorem abU{d:List bf}(h:mZ d=true):d.length<=5:=by unfold mZ at h;simp only[auC,auP]at h;omega
end Sp
namespace Sp
abbrev Ext(ι α:Type):=ι->α->Bool
structure Sys(ι α:Type) where
 T:ι->Ext ι α->α->Prop
 pos:ι->ι->Prop
 neg:ι->ι->Prop
 mono:∀i X Y,(∀j,pos i j->∀x,X j x=true->Y j x=true)->(∀j,neg i j->∀x,X j x=Y j x)->∀x,T i X x->T i Y x
def arG{ι α:Type}(S:Sys ι α)(N:ι->Prop)(aI:ι->Nat):Prop:=∀i j,N i->N j->(S.pos i j->aI j<=aI i)/\(S.neg i j->aI j<aI i)
structure Eval{ι α:Type}(S:Sys ι α)(N:ι->Prop)(aI:ι->Nat)(X:Ext ι α):Prop where
 fix:∀i,N i->∀x,X i x=true↔S.T i X x
 least:∀k(Y:Ext ι α),(∀i,¬(N i/\aI i=k)->∀x,Y i x=X i x)->(∀i,N i->aI i=k->∀x,S.T i Y x->Y i x=true)->∀i,N i->aI i=k->∀x,X i x=true->Y i x=true
open Classical in
theorem atg{ι α:Type}{P:ι->Prop}{A B:Ext ι α}:∃Y:Ext ι α,(∀i x,Y i x=true↔A i x=true/\(P i->B i x=true))/\∀i,¬P i->∀x,Y i x=A i x:=by have h:∀i x,decide (A i x=true/\(P i->B i x=true))=true↔A i x=true/\(P i->B i x=true):=λi x=>decide_eq_true_iff;refine⟨λi x=>decide (A i x=true/\(P i->B i x=true)),h,λi hi x=>?_⟩;rw[ave,h];exact⟨λh=>h.1,λh=>⟨h,λh'=>(hi h').elim⟩⟩
end Sp
namespace Sp
open Go
abbrev xP:=Bytes×List (Int×Unit)×Unit
abbrev BX:=Ext Bytes Int
def Hz:List aY->Bytes->DX
 |[],_=>(0,0,[],())
 |a::r,s=>bif a.1==s then(a.2.1,a.2.2.1,a.2.2.2.1,())else Hz r s
def Xh:List xP->Bytes->List (Int×Unit)
 |[],_=>[]
 |x::r,s=>bif x.1==s then x.2.1 else Xh r s
def agA(l:List (Int×Unit))(x:Int):Bool:=l.any λy=>y.1==x
def Tq(r:List xP):BX:=λs x=>agA (Xh r s) x
def ED(n:ak)(f:aQ)(X:BX):Bool:=
 bif n.1==2 then !((Hz f.2.2.2.2.1 n.2.2.2.1).1==0)else
 bif n.1==3 then decide (Hz f.2.2.2.2.1 n.2.2.2.1=(n.2.2.2.2.1,n.2.2.2.2.2.1,n.2.2.2.2.2.2.1,()))else
 bif n.1==4 then(Hz f.2.2.2.2.1 n.2.2.2.1).1==1&&decide ((Hz f.2.2.2.2.1 n.2.2.2.1).2.1<n.2.2.2.2.2.1)else
 bif n.1==8 then X n.2.2.2.1 f.1 else
 bif n.1==9 then !(f.2.2.2.1==0)&&X n.2.2.2.1 f.2.2.2.1 else true
def val(q:List ak)(f:aQ)(X:BX)(a:Nat):Bool:=
 if(nodeAt q a).1=5 then(if h:(nodeAt q a).2.1.toNat<a then !val q f X (nodeAt q a).2.1.toNat else true)
 else if(nodeAt q a).1=6 then(if h:(nodeAt q a).2.1.toNat<a/\(nodeAt q a).2.2.1.toNat<a then val q f X (nodeAt q a).2.1.toNat&&val q f X (nodeAt q a).2.2.1.toNat else true)
 else if(nodeAt q a).1=7 then(if h:(nodeAt q a).2.1.toNat<a/\(nodeAt q a).2.2.1.toNat<a then val q f X (nodeAt q a).2.1.toNat||val q f X (nodeAt q a).2.2.1.toNat else true)
 else ED (nodeAt q a) f X
termination_by a
decreasing_by all_goals omega
theorem amY(q:List ak)(f:aQ)(X:BX)(a:Nat):val q f X a=
 if(nodeAt q a).1=5 then(if h:(nodeAt q a).2.1.toNat<a then !val q f X (nodeAt q a).2.1.toNat else true)
 else if(nodeAt q a).1=6 then(if h:(nodeAt q a).2.1.toNat<a/\(nodeAt q a).2.2.1.toNat<a then val q f X (nodeAt q a).2.1.toNat&&val q f X (nodeAt q a).2.2.1.toNat else true)
 else if(nodeAt q a).1=7 then(if h:(nodeAt q a).2.1.toNat<a/\(nodeAt q a).2.2.1.toNat<a then val q f X (nodeAt q a).2.1.toNat||val q f X (nodeAt q a).2.2.1.toNat else true)
 else ED (nodeAt q a) f X:=by rw[val]
def LM(q:List ak)(f:aQ)(X:BX):Bool:=ax q&&val q f X (q.length-1)
def sel(fs:List aQ)(q:List ak)(X:BX):List (Int×Unit):=(fs.filter λf=>LM q f X).map λf=>(f.1,())
def sZ(q:List ak)(i:Nat):Bool:=((negated q).getD i (false,())).1
theorem jJ{q:List ak}(h:ax q=true){i:Nat}(hi:i<q.length):dM (nodeAt q i) i=true/\((i:Int)<(q.length:Int)-1->gU q i=1):=by
 unfold ax at h;rw[auC]at h;have h1:kR q i=true:=by have:=h.1;unfold jd at this;exact auY.1 this i (avq.2 hi)
 unfold kR at h1;rw[auC]at h1;refine⟨h1.1,λhl=>?_⟩;have h2:=h1.2;rw[auS hl]at h2;simpa using h2
theorem gQ{q:List ak}(h:ax q=true):1<=q.length/\q.length<=9:=by unfold ax at h;simp only[auC,auP]at h;omega
theorem Y8{n:ak}{a:Nat}(h:dM n a=true)(hn:n.1=5\/n.1=6\/n.1=7):0<=n.2.1/\n.2.1.toNat<a:=by unfold dM at h;rcases hn with e|e|e<;>simp[e]at h<;>omega
theorem JS{n:ak}{a:Nat}(h:dM n a=true)(hn:n.1=6\/n.1=7):0<=n.2.2.1/\n.2.2.1.toNat<a:=by unfold dM at h;rcases hn with e|e<;>simp[e]at h<;>omega
theorem aj1{α:Type}(g:α->Nat):∀(l:List α),(l.map g).sum=1->∀i j,i<l.length->j<l.length->i≠j->∀d,1<=g (l.getD i d)->g (l.getD j d)=0
 |[],_,i,_,hi,_,_,_,_=>arP
 |x::r,h,i,j,hi,hj,hne,d,hg=>by
  rw[auX,avC]at h;have mem:∀(l:List α) k,k<l.length->g (l.getD k d)<=(l.map g).sum:=by
   intro l
   induction l with
   |nil=>intro k hk;simp at hk
   |cons y t ih=>
    intro k hk;rw[auX,avC];cases k with
    |zero=>exact Nat.le_add_right _ _
    |succ k=>exact auK (ih k (by simpa using hk)) (Nat.le_add_left _ _)
  cases i with
  |zero=>
   cases j with
   |zero=>exact(hne rfl).elim
   |succ j=>
    have h1:1<=g x:=hg;have:=mem r j amH;show g (r.getD j d)=0;omega
  |succ i=>
   have h1:1<=g (r.getD i d):=hg;have h2:=mem r i ah7;cases j with
   |zero=>show g x=0;omega
   |succ j=>exact aj1 g r aaV i j ah7 amH aaV d hg
theorem Gt{q:List ak}{p:Nat}:∀(n:Nat)(out:List (Bool×Unit)),(∀i,i<n->((nodeAt q i).1=5\/iT (nodeAt q i)=true->(nodeAt q i).2.1.toNat≠p)/\(iT (nodeAt q i)=true->(nodeAt q i).2.2.1.toNat≠p))->
 (iF q n out).getD p (false,())=out.getD p (false,())
 |0,_,_=>rfl
 |n+1,out,h=>by
  have ih:=Gt n (jS q n out) λi hi=>h i aaV;show(iF q n (jS q n out)).getD p (false,())=_;rw[ih];have hs:∀(l:List (Bool×Unit)) k x,k≠p->(l.set k x).getD p (false,())=l.getD p (false,()):=λl k x hk=>by rw[auF,avy hk,← auF]
  obtain⟨h1,h2⟩:=h n aaV;unfold jS;dsimp only;cases e5:((nodeAt q n).1==5)with
  |true=>exact hs _ _ _ (h1 (.inl (au5.1 e5)))
  |false=>
   cases e2:iT (nodeAt q n)with
   |true=>exact(hs _ _ _ (h2 e2)).trans (hs _ _ _ (h1 (.inr e2)))
   |false=>rfl
theorem AB(q:List ak):∀(n:Nat)(out:List (Bool×Unit)),(iF q n out).length=out.length
 |0,_=>rfl
 |n+1,out=>by show(iF q n (jS q n out)).length=_;rw[AB q n];unfold jS;dsimp only;cases (nodeAt q n).1==5<;>cases iT (nodeAt q n)<;>simp
theorem lG{n:ak}:iT n=true↔n.1=6\/n.1=7:=by unfold iT;simp
theorem Uk(q:List ak):∀(k m:Nat)(out:List (Bool×Unit)),∃mid:List (Bool×Unit),mid.length=out.length/\iF q (m+k) out=iF q m mid
 |0,_,out=>⟨out,rfl,rfl⟩
 |k+1,m,out=>by
  obtain⟨mid,h1,h2⟩:=Uk q k m (jS q (m+k) out);have hl:(jS q (m+k) out).length=out.length:=by unfold jS;dsimp only;cases (nodeAt q (m+k)).1==5<;>cases iT (nodeAt q (m+k))<;>simp
  exact⟨mid,h1.trans hl,h2⟩
theorem lY{q:List ak}(h:ax q=true){i:Nat}(hi:i<q.length):((nodeAt q i).1=5\/iT (nodeAt q i)=true->0<=(nodeAt q i).2.1/\(nodeAt q i).2.1.toNat<i)/\(iT (nodeAt q i)=true->0<=(nodeAt q i).2.2.1/\(nodeAt q i).2.2.1.toNat<i):=by
 have h1:=(jJ h hi).1;refine⟨λh2=>?_,λh2=>JS h1 (lG.1 h2)⟩;rcases h2 with h2|h2
 .exact Y8 h1 (.inl h2)
 .exact Y8 h1 (.inr (lG.1 h2))
theorem alo{q:List ak}(h:ax q=true){i j p:Nat}(hi:i<q.length)(hj:j<q.length)(hne:i≠j)(hp:p<i)(hr:1<=refsOf p (nodeAt q i)):refsOf p (nodeAt q j)=0:=
 aj1 (refsOf p) q ((jJ h aaV).2 aaV) i j hi hj hne _ hr
theorem ajk{p:Nat}{n:ak}(h:refsOf p n=0)(h0:((n.1=5\/iT n=true)->0<=n.2.1)/\(iT n=true->0<=n.2.2.1)):(n.1=5\/iT n=true->n.2.1.toNat≠p)/\(iT n=true->n.2.2.1.toNat≠p):=by
 unfold refsOf at h;refine⟨λh1 h2=>?_,λh1 h2=>?_⟩
 .have h3:=h0.1 h1;have h4:((iT n||n.1==5)&&n.2.1==(p:Int))=true:=by
   have:(iT n||n.1==5)=true:=by rcases h1 with h1|h1<;>simp[h1]
   rw[this];simp;omega
  rw[h4]at h;simp at h
 .have h3:=h0.2 h1;have h4:(iT n&&n.2.2.1==(p:Int))=true:=by rw[h1];simp;omega
  rw[h4]at h;simp at h
theorem Y9{p:Nat}{n:ak}(h:n.1=5\/iT n=true)(h0:0<=n.2.1)(e:n.2.1.toNat=p):1<=refsOf p n:=by
 unfold refsOf;have h4:((iT n||n.1==5)&&n.2.1==(p:Int))=true:=by
  have:(iT n||n.1==5)=true:=by rcases h with h1|h1<;>simp[h1]
  rw[this];simp;omega
 rw[h4];simp
theorem aio{p:Nat}{n:ak}(h:iT n=true)(h0:0<=n.2.2.1)(e:n.2.2.1.toNat=p):1<=refsOf p n:=by
 unfold refsOf;have h4:(iT n&&n.2.2.1==(p:Int))=true:=by rw[h];simp;omega
 rw[h4];simp
theorem Tt{l:List (Bool×Unit)}{k p:Nat}{x:Bool×Unit}(hk:k<l.length):(l.set k x).getD p (false,())=if k=p then x else l.getD p (false,()):=by
 rw[auF,List.getElem?_set];by_cases h:k=p
 .subst h;simp[hk]
 .simp[h]
theorem Tv{q:List ak}(h:ax q=true){i:Nat}(hi:i<q.length):
 ((nodeAt q i).1=5->sZ q (nodeAt q i).2.1.toNat=true)/\(iT (nodeAt q i)=true->sZ q (nodeAt q i).2.1.toNat=sZ q i/\sZ q (nodeAt q i).2.2.1.toNat=sZ q i):=by
 have hn:negated q=iF q q.length (List.replicate q.length (false,())):=by unfold negated;rw[h];rfl
 obtain⟨mid,hm1,hm2⟩:=Uk q (q.length-(i+1)) (i+1) (List.replicate q.length (false,()));rw[show i+1+(q.length-(i+1))=q.length from aaV,← hn]at hm2;have hml:mid.length=q.length:=by rw[hm1];simp
 have hm3:negated q=iF q i (jS q i mid):=hm2;obtain⟨k1,k2⟩:=lY h hi;have keep:∀p,p<i->1<=refsOf p (nodeAt q i)->sZ q p=((jS q i mid).getD p (false,())).1:=λp hp hr=>by unfold sZ;rw[hm3,Gt i];intro j hj;have hjl:j<q.length:=aaV;obtain⟨g1,g2⟩:=lY h hjl;exact ajk (alo h hi hjl aaV hp hr) ⟨λz=>(g1 z).1,λz=>(g2 z).1⟩
 have self:sZ q i=(mid.getD i (false,())).1:=by unfold sZ;rw[hm2,Gt (i+1)];intro j hj;obtain⟨g1,g2⟩:=lY h (show j<q.length from aaV);exact⟨λz=>by have:=(g1 z).2;omega,λz=>by have:=(g2 z).2;omega⟩
 refine⟨λh5=>?_,λh2=>?_⟩
 .obtain⟨a,b⟩:=k1 (.inl h5);rw[keep _ b (Y9 (.inl h5) a rfl)];unfold jS;dsimp only;rw[au5.2 h5];show((mid.set _ (true,())).getD _ (false,())).1=true;rw[Tt aaV,if_pos rfl]
 .obtain⟨a,b⟩:=k1 (.inr h2);obtain⟨a',b'⟩:=k2 h2;have h5:((nodeAt q i).1==5)=false:=by rcases lG.1 h2 with e|e<;>rw[e]<;>rfl
  rw[keep _ b (Y9 (.inr h2) a rfl),keep _ b' (aio h2 a' rfl),self];unfold jS;dsimp only;rw[h5,h2];show(((mid.set _ ((mid.getD i (false,())).1,())).set _ ((mid.getD i (false,())).1,())).getD _ (false,())).1=_/\(((mid.set _ ((mid.getD i (false,())).1,())).set _ ((mid.getD i (false,())).1,())).getD _ (false,())).1=_;rw[Tt (by rw[avb];omega),Tt aaV,Tt (by rw[avb];omega),if_pos rfl,if_pos rfl];exact⟨by split<;>rfl,rfl⟩
theorem acR{q:List ak}(h:ax q=true):sZ q (q.length-1)=false:=by
 have hn:negated q=iF q q.length (List.replicate q.length (false,())):=by unfold negated;rw[h];rfl
 have hl:=gQ h;unfold sZ;rw[hn,Gt q.length]
 .rw[auF,awR];split<;>rfl
 .intro j hj;obtain⟨g1,g2⟩:=lY h hj;exact⟨λz=>by have:=(g1 z).2;omega,λz=>by have:=(g2 z).2;omega⟩
theorem aaK{q:List ak}(h:ax q=true){i:Nat}(hi:i<q.length)(hd:o5 (nodeAt q i)=true):(nodeAt q i).2.2.2.1∈dO q (sZ q i):=by
 have hl:(negated q).length=q.length:=by unfold negated;rw[h];show(iF _ _ _).length=_;rw[AB];simp
 unfold dO;rw[awq];refine⟨i,avq.2 aaV,?_⟩;unfold sZ;rw[hd];simp
theorem aoc{q:List ak}{f:aQ}{X Y:BX}(h:ax q=true)(hp:∀s∈dO q false,∀x,X s x=true->Y s x=true)(hn:∀s∈dO q true,∀x,X s x=Y s x):
 ∀a,a<q.length->(sZ q a=false->val q f X a=true->val q f Y a=true)/\(sZ q a=true->val q f X a=val q f Y a):=by
 intro a
 induction a using Nat.strongRecOn with
 |_ a ih=>
  intro ha;obtain⟨k1,k2⟩:=lY h ha;obtain⟨n1,n2⟩:=Tv h ha;rw[amY q f X a,amY q f Y a];by_cases h5:(nodeAt q a).1=5
  .have hk:=k1 (.inl h5);have i1:=(ih _ hk.2 aaV).2 (n1 h5);rw[if_pos h5,if_pos h5,dif_pos hk.2,dif_pos hk.2,i1];exact⟨λ_=>id,λ_=>rfl⟩
  rw[if_neg h5,if_neg h5];by_cases h6:(nodeAt q a).1=6
  .have h2:iT (nodeAt q a)=true:=lG.2 (.inl h6);have hk:=k1 (.inr h2);have hk':=k2 h2;have i1:=ih _ hk.2 aaV;have i2:=ih _ hk'.2 aaV;rw[(n2 h2).1]at i1;rw[(n2 h2).2]at i2;rw[if_pos h6,if_pos h6,dif_pos ⟨hk.2,hk'.2⟩,dif_pos ⟨hk.2,hk'.2⟩];refine⟨λhf hv=>?_,λht=>by rw[i1.2 ht,i2.2 ht]⟩;rw[auC]at hv ⊢;exact⟨i1.1 hf hv.1,i2.1 hf hv.2⟩
  rw[if_neg h6,if_neg h6];by_cases h7:(nodeAt q a).1=7
  .have h2:iT (nodeAt q a)=true:=lG.2 (.inr h7);have hk:=k1 (.inr h2);have hk':=k2 h2;have i1:=ih _ hk.2 aaV;have i2:=ih _ hk'.2 aaV;rw[(n2 h2).1]at i1;rw[(n2 h2).2]at i2;rw[if_pos h7,if_pos h7,dif_pos ⟨hk.2,hk'.2⟩,dif_pos ⟨hk.2,hk'.2⟩];refine⟨λhf hv=>?_,λht=>by rw[i1.2 ht,i2.2 ht]⟩;rw[avK]at hv ⊢;exact hv.imp (i1.1 hf) (i2.1 hf)
  rw[if_neg h7,if_neg h7];by_cases h8:(nodeAt q a).1=8
  .have hm:=aaK h ha (by unfold o5;simp[h8]);unfold ED;simp only[h8];refine⟨λhf hv=>?_,λht=>?_⟩
   .rw[hf]at hm;exact hp _ hm _ hv
   .rw[ht]at hm;exact hn _ hm _
  by_cases h9:(nodeAt q a).1=9
  .have hm:=aaK h ha (by unfold o5;simp[h9]);unfold ED;simp only[h9];refine⟨λhf hv=>?_,λht=>?_⟩
   .rw[hf]at hm;have hv:(!((f.2.2.2.1==0))&&X (nodeAt q a).2.2.2.1 f.2.2.2.1)=true:=hv;rw[auC]at hv;show(!((f.2.2.2.1==0))&&Y (nodeAt q a).2.2.2.1 f.2.2.2.1)=true;rw[auC];exact⟨hv.1,hp _ hm _ hv.2⟩
   .rw[ht]at hm;show(!((f.2.2.2.1==0))&&X (nodeAt q a).2.2.2.1 f.2.2.2.1)=(!((f.2.2.2.1==0))&&Y (nodeAt q a).2.2.2.1 f.2.2.2.1);rw[hn _ hm]
  .have:ED (nodeAt q a) f X=ED (nodeAt q a) f Y:=by unfold ED;rw[auD.2 h8,auD.2 h9];rfl
   rw[this];exact⟨λ_=>id,λ_=>rfl⟩
theorem aip{q:List ak}{f:aQ}{X Y:BX}(hp:∀s∈dO q false,∀x,X s x=true->Y s x=true)(hn:∀s∈dO q true,∀x,X s x=Y s x)(hm:LM q f X=true):LM q f Y=true:=by unfold LM at hm ⊢;rw[auC]at hm ⊢;have hl:=gQ hm.1;exact⟨hm.1,(aoc hm.1 hp hn _ aaV).1 (acR hm.1) hm.2⟩
theorem aj2{fs:List aQ}{q:List ak}{X:BX}{x:Int}:(x,())∈sel fs q X↔∃f∈fs,f.1=x/\LM q f X=true:=by
 unfold sel;rw[avO];constructor
 .rintro⟨f,hf,e⟩;rw[axc]at hf;exact⟨f,hf.1,congrArg Prod.fst e,hf.2⟩
 .rintro⟨f,hf,rfl,hm⟩;exact⟨f,axc.2 ⟨hf,hm⟩,rfl⟩
def alp(fs:List aQ)(d:List bf):Sys Bytes Int where
 T:=λs X x=>∃i,i<d.length/\(bZ d i).1=s/\(x,())∈sel fs (bZ d i).2.1 X
 pos:=λs t=>∃i,i<d.length/\(bZ d i).1=s/\t∈dO (bZ d i).2.1 false
 neg:=λs t=>∃i,i<d.length/\(bZ d i).1=s/\t∈dO (bZ d i).2.1 true
 mono:=λs X Y hp hn x⟨i,hi,e,hx⟩=>⟨i,hi,e,by obtain⟨f,hf,e2,hm⟩:=aj2.1 hx;exact aj2.2 ⟨f,hf,e2,aip (λt ht=>hp t ⟨i,hi,e,ht⟩) (λt ht=>hn t ⟨i,hi,e,ht⟩) hm⟩⟩
end Sp
namespace Go.Fw
open Go
end Go.Fw
namespace Go.Fw
open Go
theorem eX{p:Prop}[Decidable p]{A B:Prop}(h:p)(a:A):cond (decide p) A B:=by rw[auS h];exact a
theorem eG{p:Prop}[Decidable p]{A B:Prop}(h:¬p)(b:B):cond (decide p) A B:=by rw[auU h];exact b
theorem kW{B:((Int×Unit)×Unit->Prop)->((Int×Unit)×Unit->Nat)->(Int×Unit)×Unit->Prop}(len:Nat)(hlen:len<=9223372036854775807)(J:Nat->Prop)(h0:J 0)
 (hstep:∀I μ(n:Nat),n<len->J n->(J (n+1)->I ((IntKind.i64.wrap ((n:Int)+1),()),())/\μ ((IntKind.i64.wrap ((n:Int)+1),()),())<μ (((n:Int),()),()))->B I μ (((n:Int),()),()))
 (hend:∀I μ,J len->B I μ (((len:Int),()),())):∃I,∃μ,I (((0:Int),()),())/\∀y,I y->B I μ y:=by
 refine⟨λy=>∃n:Nat,y.1.1=n/\n<=len/\J n,λy=>((len:Int)-y.1.1).toNat,⟨0,rfl,auZ _,h0⟩,?_⟩;rintro⟨⟨_,⟨⟩⟩,⟨⟩⟩ ⟨n,rfl,hn,hJ⟩;rcases au2 n len with h|h
 .refine hstep _ _ n h hJ λhJ'=>?_;have e:IntKind.i64.wrap ((n:Int)+1)=((n+1:Nat):Int):=eF _ aaV;rw[e];exact⟨⟨n+1,rfl,h,hJ'⟩,by show((len:Int)-(n+1:Nat)).toNat<((len:Int)-n).toNat;omega⟩
 .have:n=len:=aaV;subst this;exact hend _ _ hJ
theorem fZ{Y S:Type}(mk:Int->S->Y)(idx:Y->Int)(hidx:∀i s,idx (mk i s)=i){B:(Y->Prop)->(Y->Nat)->Y->Prop}(len:Nat)(hlen:len<=9223372036854775807)(J:Nat->S->Prop){s0:S}(h0:J 0 s0)
 (hstep:∀I μ(n:Nat)(s:S),n<len->J n s->(∀s',J (n+1) s'->I (mk (IntKind.i64.wrap ((n:Int)+1)) s')/\μ (mk (IntKind.i64.wrap ((n:Int)+1)) s')<μ (mk n s))->B I μ (mk n s))
 (hend:∀I μ s,J len s->B I μ (mk len s)):∃I,∃μ,I (mk 0 s0)/\∀y,I y->B I μ y:=by
 refine⟨λy=>∃(n:Nat)(s:S),y=mk n s/\n<=len/\J n s,λy=>((len:Int)-idx y).toNat,⟨0,s0,rfl,auZ _,h0⟩,?_⟩;rintro _ ⟨n,s,rfl,hn,hJ⟩;rcases au2 n len with h|h
 .refine hstep _ _ n s h hJ λs' hJ'=>?_;have e:IntKind.i64.wrap ((n:Int)+1)=((n+1:Nat):Int):=eF _ aaV;rw[e];refine⟨⟨n+1,s',rfl,h,hJ'⟩,?_⟩;show((len:Int)-idx (mk (n+1:Nat) s')).toNat<((len:Int)-idx (mk n s)).toNat;rw[hidx,hidx];omega
 .have:n=len:=aaV;subst this;exact hend _ _ s hJ
theorem Am{len:Nat}{f:Nat->Bool}{n:Nat}(hn:n<len)(h:f n=false):Sp.jd len f=false:=by unfold Sp.jd;rw[List.all_eq_false];exact⟨n,avq.2 hn,by rw[h];simp⟩
theorem ni{len:Nat}{f:Nat->Bool}(h:∀i,i<len->f i=true):Sp.jd len f=true:=by unfold Sp.jd;rw[auY];exactλi hi=>h i (avq.1 hi)
theorem OC{len:Nat}{f:Nat->Bool}:Sp.jd len f=true↔∀i,i<len->f i=true:=by unfold Sp.jd;rw[auY];exact⟨λh i hi=>h i (avq.2 hi),λh i hi=>h i (avq.1 hi)⟩
theorem dR{n:Nat}{f:Nat->Bool}(h:∀i,i<n->f i=true)(hn:f n=true):∀i,i<n+1->f i=true:=λi hi=>by
 rcases au2 i n with h'|h'
 .exact h i h'
 .have:i=n:=aaV;rw[this];exact hn
theorem iZ{b:Bool}(h:(!b)=true):b=false:=by cases b<;>first|rfl|cases h
theorem fB{b:Bool}(h:(!b)=false):b=true:=by cases b<;>first|rfl|cases h
theorem fE{p:Prop}[Decidable p](h:decide p=true):p:=avZ h
theorem fV{p:Prop}[Decidable p](h:decide p=false):¬p:=of_decide_eq_false h
theorem zi{n:Nat}(h:0<n)(hn:n<=9223372036854775807):IntKind.i64.wrap ((n:Int)-1)=((n-1:Nat):Int):=by rw[eF _ aaV];omega
theorem Xi{α:Type}{d:α}{a b:List α}(hl:a.length=b.length)(h:∀i,i<a.length->a.getD i d=b.getD i d):a=b:=by refine aw1 hl λi h1 h2=>?_;have:=h i h1;rw[auF,auF,auJ h1,auJ h2]at this;simpa using this
theorem Hq{α β:Type}(e:α->α->Bool)(he:∀x y,e x y=false↔x=y)(d:α)(a b:List α)(t:β)(hlen:a.length<=9223372036854775807)(hl:a.length=b.length){K:Bool×Unit->Prop}(hF:a≠b->K (false,()))(hT:a=b->K (true,())):
 ∃(I:(Int×Unit)×Unit->Prop),∃(μ:(Int×Unit)×Unit->Nat),I (((0:Int),()),())/\∀(y:(Int×Unit)×Unit),I y->
  bif decide (y.fst.fst<(a.length:Int))then
   ((0:Int)<=y.fst.fst/\y.fst.fst<(a.length:Int))/\((0:Int)<=y.fst.fst/\y.fst.fst<(b.length:Int))/\
     (bif e (a.getD (Int.toNat y.fst.fst) d) (b.getD (Int.toNat y.fst.fst) d)then K (false,())
     else t=t/\I ((IntKind.i64.wrap (y.fst.fst+(1:Int)),()),())/\μ ((IntKind.i64.wrap (y.fst.fst+(1:Int)),()),())<μ y)
  else K (true,()):=by
 refine kW a.length hlen (λn=>∀i,i<n->a.getD i d=b.getD i d) (λi hi=>aaV) (λI μ n hn hJ next=>?_) λI μ hJ=>(by dsimp only;exact eG aaV (hT (Xi hl hJ)));dsimp only;refine eX aaV ⟨⟨aaV,aaV⟩,⟨aaV,aaV⟩,af (λh=>hF λh'=>?_) λh=>⟨rfl,next λi hi=>?_⟩⟩
 .subst h';have:=(he (a.getD n d) (a.getD n d)).2 rfl;have h:e (a.getD n d) (a.getD n d)=true:=h;rw[this]at h;cases h
 .rcases au2 i n with h'|h'
  .exact hJ i h'
  .have:i=n:=aaV;rw[this];exact(he _ _).1 h
theorem ahA{α β:Type}(e:α->α->Bool)(he:∀x y,e x y=false↔x=y)(d:α)(a b:List α)(t:β)(hlen:a.length<=9223372036854775807)(hl:a.length=b.length){K:Bool×Unit->Prop}(hF:a≠b->K (false,()))(hT:a=b->K (true,())):
 ∃(I:(Int×Unit)×Unit->Prop),∃(μ:(Int×Unit)×Unit->Nat),I (((0:Int),()),())/\∀(y:(Int×Unit)×Unit),I y->
  bif decide (y.fst.fst<(a.length:Int))then
   ((0:Int)<=y.fst.fst/\y.fst.fst<(a.length:Int))/\((0:Int)<=y.fst.fst/\y.fst.fst<(b.length:Int))/\True/\
     (bif e (a.getD (Int.toNat y.fst.fst) d) (b.getD (Int.toNat y.fst.fst) d)then K (false,())
     else t=t/\I ((IntKind.i64.wrap (y.fst.fst+(1:Int)),()),())/\μ ((IntKind.i64.wrap (y.fst.fst+(1:Int)),()),())<μ y)
  else K (true,()):=by
 refine kW a.length hlen (λn=>∀i,i<n->a.getD i d=b.getD i d) (λi hi=>aaV) (λI μ n hn hJ next=>?_) λI μ hJ=>(by dsimp only;exact eG aaV (hT (Xi hl hJ)));dsimp only;refine eX aaV ⟨⟨aaV,aaV⟩,⟨aaV,aaV⟩,trivial,af (λh=>hF λh'=>?_) λh=>⟨rfl,next λi hi=>?_⟩⟩
 .subst h';have:=(he (a.getD n d) (a.getD n d)).2 rfl;have h:e (a.getD n d) (a.getD n d)=true:=h;rw[this]at h;cases h
 .rcases au2 i n with h'|h'
  .exact hJ i h'
  .have:i=n:=aaV;rw[this];exact(he _ _).1 h
end Go.Fw
namespace Sp
open Go Go.Fw
theorem VZ{name:Bytes}:∀(s:List dP)(n:Nat),n<s.length->(∀i,i<n->(s.getD i ([],0,())).1≠name)->(s.getD n ([],0,())).1=name->kindOf s name=(s.getD n ([],0,())).2.1
 |[],n,h,_,_=>amd
 |f::r,0,_,_,he=>by
  have he:f.1=name:=he;show(bif decide (f.1=name)then f.2.1 else kindOf r name)=f.2.1;rw[auS he];rfl
 |f::r,n+1,h,hne,he=>by have h0:f.1≠name:=hne 0 aaV;show(bif decide (f.1=name)then f.2.1 else kindOf r name)=_;rw[auU h0];exact VZ r n acs (λi hi=>hne (i+1) aaV) he
theorem Om{name:Bytes}:∀(s:List dP),(∀i,i<s.length->(s.getD i ([],0,())).1≠name)->kindOf s name=0
 |[],_=>rfl
 |f::r,hne=>by have h0:f.1≠name:=hne 0 abZ;show(bif decide (f.1=name)then f.2.1 else kindOf r name)=_;rw[auU h0];exact Om r λi hi=>hne (i+1) aeV
theorem Xj{id:Int}:∀(s:List aQ)(k:Int)(n:Nat),n<s.length->(∀i,i<n->(fileAt s i).1≠id)->(fileAt s n).1=id->zC k s id=k+n
 |[],_,n,h,_,_=>amd
 |f::r,k,0,_,_,he=>by
  have he:f.1=id:=he;show(bif decide (f.1=id)then k else zC (k+1) r id)=_;rw[auS he];simp
 |f::r,k,n+1,h,hne,he=>by have h0:f.1≠id:=hne 0 aaV;show(bif decide (f.1=id)then k else zC (k+1) r id)=_;rw[auU h0];show zC (k+1) r id=_;rw[Xj r (k+1) n acs (λi hi=>hne (i+1) aaV) he];omega
theorem Qs{id:Int}:∀(s:List aQ)(k:Int),(∀i,i<s.length->(fileAt s i).1≠id)->zC k s id=-1
 |[],_,_=>rfl
 |f::r,k,hne=>by have h0:f.1≠id:=hne 0 abZ;show(bif decide (f.1=id)then k else zC (k+1) r id)=_;rw[auU h0];exact Qs r (k+1) λi hi=>hne (i+1) aeV
theorem KZ{id:Int}{s:List aQ}{n:Nat}(h:n<s.length)(hne:∀i,i<n->(fileAt s i).1≠id)(he:(fileAt s n).1=id):place s id=n:=by unfold place;rw[Xj s 0 n h hne he];omega
theorem abH{id:Int}{s:List aQ}(hne:∀i,i<s.length->(fileAt s i).1≠id):place s id=-1:=Qs s 0 hne
theorem ajl(s:List aQ)(id:Int):(place s id=-1/\∀i,i<s.length->(fileAt s i).1≠id)\/∃n,n<s.length/\place s id=n/\(fileAt s n).1=id/\∀i,i<n->(fileAt s i).1≠id:=by
 by_cases h:∃n,n<s.length/\(fileAt s n).1=id
 .obtain⟨n,h1,h2,h3⟩:=(least s.length (p:=λn=>(fileAt s n).1=id) h);exact .inr ⟨n,h1,KZ h1 (λi hi=>h3 i hi) h2,h2,λi hi=>h3 i hi⟩
 .have hne:∀i,i<s.length->(fileAt s i).1≠id:=λi hi e=>h ⟨i,hi,e⟩;exact .inl ⟨abH hne,hne⟩
theorem Y0{s:List dP}{n:Nat}(h:n<s.length)(hn:jC s n=false):dY s=false:=by unfold dY;rw[Am h hn];rfl
theorem alq{fs:List dP}{s:List aY}{n:Nat}(h:n<s.length)(hn:jI fs s n=false):kC fs s=false:=Am h hn
theorem afa{fs:List dP}{f:aQ}{n:Nat}(h:n<f.2.2.2.2.1.length)(hn:jI fs f.2.2.2.2.1 n=false):dB fs f=false:=by unfold dB;rw[alq h hn];rfl
theorem abD{s:dU}{n:Nat}(h:n<s.2.1.length)(hn:lF s n=false):bT s=false:=by unfold bT;rw[Am h hn];rfl
theorem nD{s:dU}{i:Nat}:lF s i=true↔dB s.1 (fileAt s.2.1 i)=true/\(fileAt s.2.1 i).1<s.2.2.1/\(0<i->(fileAt s.2.1 (i-1)).1<(fileAt s.2.1 i).1):=by
 unfold lF;rw[auC,auC,auP,and_assoc];refine awh λ_=>awh λ_=>?_;by_cases h:0<i
 .simp[h]
 .simp[h]
theorem oG{s:dU}:bT s=true↔(∀i,i<s.2.1.length->lF s i=true)/\dY s.1=true/\s.2.1.length<=12/\1<=s.2.2.1/\s.2.2.1<=61:=by
 unfold bT;rw[auC,auC,auC,auC,auP,auP,auP,OC];constructor
 .rintro⟨⟨⟨h1,h2⟩,h3⟩,h4,h5⟩;exact⟨h1,h2,aaV,h4,h5⟩
 .rintro⟨h1,h2,h3,h4,h5⟩;exact⟨⟨⟨h1,h2⟩,aaV⟩,h4,h5⟩
theorem amZ{fs:List dP}{f:aQ}(h:dB fs f=true):1<=f.1/\f.1<=60:=by unfold dB at h;simp only[auC,auP]at h;exact h.1.1.2
theorem OQ{fs:List aQ}{g:aQ}{i:Nat}(h:i<fs.length):fileAt (fs++[g]) i=fileAt fs i:=by unfold fileAt;rw[auF,avn h,← auF]
theorem ajm{fs:List aQ}{g:aQ}:fileAt (fs++[g]) fs.length=g:=by unfold fileAt;rw[auF,avc (auH _)];simp
theorem aiq{s:dU}{g:aQ}(h:bT s=true)(hl:s.2.1.length<12)(hg:dB s.1 g=true)(hid:g.1=s.2.2.1):bT (s.1,s.2.1++[g],s.2.2.1+1,())=true:=by
 obtain⟨h1,h2,h3,h4,h5⟩:=oG.1 h;have hg1:=amZ hg;refine oG.2 ⟨λi hi=>?_,h2,by show(s.2.1++[g]).length<=12;simp;omega,by show 1<=s.2.2.1+1;omega,by show s.2.2.1+1<=61;omega⟩;have hi:i<(s.2.1++[g]).length:=hi;rw[auB,auE,auI]at hi;refine nD.2 ?_;show dB s.1 (fileAt (s.2.1++[g]) i)=true/\(fileAt (s.2.1++[g]) i).1<s.2.2.1+1/\(0<i->(fileAt (s.2.1++[g]) (i-1)).1<(fileAt (s.2.1++[g]) i).1);rcases au2 i s.2.1.length with hlt|hge
 .obtain⟨k1,k2,k3⟩:=nD.1 (h1 i hlt);rw[OQ hlt];refine⟨k1,aaV,λh0=>?_⟩;rw[OQ aaV];exact k3 h0
 .have e:i=s.2.1.length:=aaV;subst e;rw[ajm];refine⟨hg,aaV,λh0=>?_⟩;rw[OQ aaV];have:=(nD.1 (h1 (s.2.1.length-1) aaV)).2.1;omega
theorem nS(s:dU)(f:aQ):(bQ s f=(s,0,false)/\¬(bT s=true/\s.2.1.length<12/\dB s.1 (s.2.2.1,f.2)=true))\/
 (bT s=true/\s.2.1.length<12/\dB s.1 (s.2.2.1,f.2)=true/\bQ s f=((s.1,s.2.1++[(s.2.2.1,f.2)],s.2.2.1+1,()),s.2.2.1,true)):=by
 by_cases h:bT s=true/\s.2.1.length<12/\dB s.1 (s.2.2.1,f.2)=true
 .right;refine⟨h.1,h.2.1,h.2.2,?_⟩;unfold bQ;dsimp only;rw[h.1,h.2.2,auS aaV];rfl
 .left;refine⟨?_,h⟩;have:(bT s&&decide ((s.2.1.length:Int)<12)&&dB s.1 (s.2.2.1,f.2))=false:=by
   cases hb:(bT s&&decide ((s.2.1.length:Int)<12)&&dB s.1 (s.2.2.1,f.2))with
   |false=>rfl
   |true=>simp only[auC,auP]at hb;exact(h ⟨hb.1.1,aaV,hb.2⟩).elim
  unfold bQ;dsimp only;rw[this];rfl
theorem adT{s:dU}(f:aQ)(h:bT s=true):bT (bQ s f).1=true:=by
 rcases nS s f with⟨e,_⟩|⟨h1,h2,h3,e⟩
 .rw[e];exact h
 .rw[e];exact aiq h1 h2 h3 rfl
theorem afZ{s:dU}{f:aQ}(h:mY s)(hf:vX f):mY (bQ s f).1:=by
 rcases nS s f with⟨e,_⟩|⟨h1,h2,h3,e⟩
 .rw[e];exact h
 .rw[e];refine⟨h.1,by show(s.2.1++[(s.2.2.1,f.2)]).length<=1000;simp;omega,λg hg=>?_⟩;have hg:g∈s.2.1++[(s.2.2.1,f.2)]:=hg;rcases au4.1 hg with hg|hg
  .exact h.2.2 g hg
  .have:g=(s.2.2.1,f.2):=by simpa using hg
   subst this;exact hf
theorem uG(s:dU)(id:Int):(eU s id=(s,false)/\¬(bT s=true/\0<=place s.2.1 id))\/
 ∃n,n<s.2.1.length/\place s.2.1 id=n/\bT s=true/\eU s id=((s.1,s.2.1.eraseIdx n,s.2.2.1,()),true):=by
 rcases ajl s.2.1 id with⟨h,_⟩|⟨n,hn,h,_,_⟩
 .left;refine⟨?_,λh'=>aaV⟩;unfold eU;rw[h];simp
 .cases ho:bT s with
  |false=>
   left;refine⟨?_,λh'=>by cases h'.1⟩;unfold eU;rw[ho];rfl
  |true=>right;refine⟨n,hn,h,rfl,?_⟩;unfold eU;rw[ho,h,auU aaV,auW];rfl
theorem Xk{fs:List aQ}{n i:Nat}:fileAt (fs.eraseIdx n) i=if i<n then fileAt fs i else fileAt fs (i+1):=by unfold fileAt;rw[auF,List.getElem?_eraseIdx];split<;>rw[auF]
theorem agf{s:dU}{n:Nat}(h:bT s=true)(hn:n<s.2.1.length):bT (s.1,s.2.1.eraseIdx n,s.2.2.1,())=true:=by
 obtain⟨h1,h2,h3,h4,h5⟩:=oG.1 h;have hlen:(s.2.1.eraseIdx n).length=s.2.1.length-1:=aw4 hn;refine oG.2 ⟨λi hi=>?_,h2,by show(s.2.1.eraseIdx n).length<=12;omega,h4,h5⟩;have hi:i<(s.2.1.eraseIdx n).length:=hi;refine nD.2 ?_;show dB s.1 (fileAt (s.2.1.eraseIdx n) i)=true/\(fileAt (s.2.1.eraseIdx n) i).1<s.2.2.1/\(0<i->(fileAt (s.2.1.eraseIdx n) (i-1)).1<(fileAt (s.2.1.eraseIdx n) i).1);rw[Xk,Xk];rcases au2 i n with hlt|hge
 .rw[if_pos hlt];obtain⟨k1,k2,k3⟩:=nD.1 (h1 i aaV);refine⟨k1,k2,λh0=>?_⟩;rw[if_pos aaV];exact k3 h0
 .rw[if_neg aaV];obtain⟨k1,k2,k3⟩:=nD.1 (h1 (i+1) aaV);refine⟨k1,k2,λh0=>?_⟩;have k3:=k3 aaV;rw[axg]at k3;split
  .have:=(nD.1 (h1 i aaV)).2.2 h0;omega
  .rw[show i-1+1=i from aaV];exact k3
theorem adU{s:dU}(id:Int)(h:bT s=true):bT (eU s id).1=true:=by
 rcases uG s id with⟨e,_⟩|⟨n,hn,_,ho,e⟩
 .rw[e];exact h
 .rw[e];exact agf ho hn
theorem af0{s:dU}(id:Int)(h:mY s):mY (eU s id).1:=by
 rcases uG s id with⟨e,_⟩|⟨n,hn,_,ho,e⟩
 .rw[e];exact h
 .rw[e];refine⟨h.1,?_,λg hg=>h.2.2 g (List.mem_of_mem_eraseIdx hg)⟩;show(s.2.1.eraseIdx n).length<=1000;have:=h.2.1;rw[aw4 hn];omega
theorem alr{s:List aQ}{f:aQ}(h:f∈s):∃i,i<s.length/\fileAt s i=f:=by obtain⟨i,hi,rfl⟩:=avY h;refine⟨i,hi,?_⟩;unfold fileAt;rw[auF,auJ hi];rfl
theorem acS{s:List aQ}{i:Nat}(h:i<s.length):fileAt s i∈s:=getD_mem h
theorem am0{s:dU}(h:bT s=true):∀(j i:Nat),i<j->j<s.2.1.length->(fileAt s.2.1 i).1<(fileAt s.2.1 j).1
 |0,i,hi,_=>aaV
 |j+1,i,hi,hj=>by
  have h1:=(nD.1 ((oG.1 h).1 (j+1) hj)).2.2 aaV;rw[axg]at h1;rcases au2 i j with h2|h2
  .have:=am0 h j i h2 aaV;omega
  .have:i=j:=aaV;rw[this];exact h1
theorem Lc{α:Type}{p:α->Bool}{d:α}:∀(l:List α)(n:Nat),n<=l.length->(∀i,i<n->p (l.getD i d)=true)->(n<l.length->p (l.getD n d)=false)->l.takeWhile p=l.take n/\l.dropWhile p=l.drop n
 |[],n,h,_,_=>abZ
 |x::r,0,_,_,h=>by
  have h:p x=false:=h abZ;constructor<;>simp[h]
 |x::r,n+1,hn,h1,h2=>by have h0:p x=true:=h1 0 aaV;have:=Lc r n (by simpa using hn) (λi hi=>h1 (i+1) aaV) λhlt=>h2 (by simpa using hlt);constructor<;>simp[h0,this.1,this.2]
end Sp
namespace Sp
open Go Go.Fw
theorem Za:∀a:Bytes,Op.bytesLess a a=false
 |[]=>rfl
 |x::a=>by show(decide (x<x)||(x==x&&Op.bytesLess a a))=false;rw[Za a,auU (UInt8.lt_irrefl x),avP];rfl
theorem am1{x y:UInt8}{a b:Bytes}:Op.bytesLess (x::a) (y::b)=true↔x.toNat<y.toNat\/(x=y/\Op.bytesLess a b=true):=by show(decide (x<y)||(x==y&&Op.bytesLess a b))=true↔_;rw[avK,auP,auC,au5,UInt8.lt_iff_toNat_lt]
theorem Tz:∀a b c:Bytes,Op.bytesLess a b=true->Op.bytesLess b c=true->Op.bytesLess a c=true
 |_,[],_,h,_=>by cases h':(‹Bytes›:Bytes)<;>simp_all [Op.bytesLess]
 |_,_::_,[],_,h=>afH
 |[],_::_,_::_,_,_=>rfl
 |x::a,y::b,z::c,h1,h2=>by
  rw[am1]at h1 h2 ⊢;rcases h1 with h1|⟨rfl,h1⟩
  .rcases h2 with h2|⟨rfl,h2⟩
   .exact .inl aaV
   .exact .inl h1
  .rcases h2 with h2|⟨rfl,h2⟩
   .exact .inl h2
   .exact .inr ⟨rfl,Tz a b c h1 h2⟩
theorem apE{a b:Bytes}(h:Op.bytesLess a b=true):a≠b:=λe=>by rw[e,Za]at h;cases h
theorem Wx{s:List dP}:dY s=true↔(∀i,i<s.length->jC s i=true)/\s.length<=5:=by unfold dY;rw[auC,OC,auP];exact awh λ_=>aaV
end Sp
namespace Sp
open Go
def nameOf(d:List bf)(i:Nat):Bytes:=(bZ d i).1
def J7(d:List bf)(i:Nat):List ak:=(bZ d i).2.1
def aoT(r:List xP)(i:Nat):xP:=r.getD i ([],[],())
def TA(r:List xP)(i:Nat):List (Int×Unit):=(aoT r i).2.1
def MO(d:List bf)(aI:List (Int×Unit)):Prop:=
 aI.length=d.length/\(∀i,i<d.length->0<=lv aI i/\lv aI i<=d.length)/\(iQ (cZ d) λi=>(lv aI i).toNat)/\∀M,iQ (cZ d) M->∀i,i<d.length->lv aI i<=M i
theorem ak5{d:List bf}(h:∃M,iQ (cZ d) M/\∀i,i<d.length->M i<d.length):∃s,MO d s:=by
 have hE:=kQ d;have hmin:∀i,∃m,(∃M,iQ (cZ d) M/\M i=m)/\∀M,iQ (cZ d) M->m<=M i:=λi=>by
  obtain⟨M0,h0,_⟩:=h;have:∀n,(∃M,iQ (cZ d) M/\M i=n)->∃m,(∃M,iQ (cZ d) M/\M i=m)/\∀M,iQ (cZ d) M->m<=M i:=by
   intro n
   induction n using Nat.strongRecOn with
   |_ n ih=>
    intro hn;by_cases hl:∃M,iQ (cZ d) M/\M i<n
    .obtain⟨M,h1,h2⟩:=hl;exact ih _ h2 ⟨M,h1,rfl⟩
    .exact⟨n,hn,λM hM=>axV λhlt=>hl ⟨M,hM,hlt⟩⟩
  exact this (M0 i) ⟨M0,h0,rfl⟩
 obtain⟨L,hL⟩:=Classical.axiomOfChoice hmin;have hfix:iQ (cZ d) L:=λe he=>by obtain⟨⟨M,h1,h2⟩,_⟩:=hL e.1;have a:=(hL e.2.1).2 M h1;have b:=h1 e he;rw[← h2];omega
 have hlv:∀i,i<d.length->lv ((List.range d.length).map λi=>((L i:Int),())) i=L i:=λi hi=>by unfold lv;rw[auF,avw,List.getElem?_range hi];rfl
 refine⟨(List.range d.length).map λi=>((L i:Int),()),abZ,λi hi=>?_,λe he=>?_,λM hM i hi=>?_⟩
 .rw[hlv i hi];obtain⟨M,h1,h2⟩:=h;have:=(hL i).2 M h1;have:=h2 i hi;omega
 .obtain⟨h1,h2,_⟩:=hE e he;have:=hfix e he;dsimp only;rw[hlv _ h1,hlv _ h2];omega
 .rw[hlv i hi];have:=(hL i).2 M hM;omega
def aod(d:List bf)(aI:List (Int×Unit))(s:Bytes):Nat:=(lv aI (aA d s).toNat).toNat
def due(d:List bf)(nm:Bytes->Bool)(s:Bytes):Prop:=nm s=true/\∃i,i<d.length/\nameOf d i=s
def afq(d:List bf)(out:List xP):Prop:=out.length=d.length/\∀i,i<d.length->(aoT out i).1=nameOf d i
structure aoU(fs:List aQ)(d:List bf)(r:List xP)(nm:Bytes->Bool)(out:List xP):Prop where
 order:afq d out
 kept:∀i,i<d.length->nm (nameOf d i)=false->TA out i=Xh r (nameOf d i)
 fix:∀i,i<d.length->nm (nameOf d i)=true->TA out i=sel fs (J7 d i) (Tq out)
 aI:∃aI,MO d aI/\Eval (alp fs d) (due d nm) (aod d aI) (Tq out)
def XR{ι α:Type}(S:Sys ι α)(N:ι->Prop)(aI:ι->Nat)(k:Nat)(X:Ext ι α):Prop:=
 ∀Y:Ext ι α,(∀i,¬(N i/\aI i=k)->∀x,Y i x=X i x)->(∀i,N i->aI i=k->∀x,S.T i Y x->Y i x=true)->∀i,N i->aI i=k->∀x,X i x=true->Y i x=true
open Classical in
theorem apF{ι α:Type}{S:Sys ι α}{N:ι->Prop}{aI:ι->Nat}(hs:arG S N aI){m:Nat}{X X':Ext ι α}(h:∀i,¬(N i/\m<aI i)->∀x,X i x=X' i x)(hX:XR S N aI m X):XR S N aI m X':=by
 intro Y hY hp i hi hl x hx;have key:=hX (λi x=>if N i/\m<aI i then X i x else Y i x) (λj hj y=>?_) (λj hj hlj y hy=>?_) i hi hl x (by rw[h i aaV];exact hx)
 .rw[if_neg aaV]at key;exact key
 .by_cases hc:N j/\m<aI j
  .rw[if_pos hc]
  .rw[if_neg hc,hY j hj,h j hc]
 .rw[if_neg aaV];have same:∀t,(S.pos j t\/S.neg j t)->¬(N t/\m<aI t):=λt ht hc=>by
   rcases ht with ht|ht
   .have:=(hs j t hj hc.1).1 ht;omega
   .have:=(hs j t hj hc.1).2 ht;omega
  refine hp j hj hlj y (S.mono j _ Y (λt ht z hz=>?_) (λt ht z=>?_) y hy)
  .rw[if_neg (same t (.inl ht))]at hz;exact hz
  .rw[if_neg (same t (.inr ht))]
def canon(fs:List aQ)(l:List (Int×Unit)):Prop:=l=(fs.filter λf=>agA l f.1).map λf=>(f.1,())
structure ath(fs:List aQ)(d:List bf)(r:List xP)(nm:Bytes->Bool)(aI:List (Int×Unit))(k:Nat)(out:List xP):Prop where
 order:afq d out
 kept:∀i,i<d.length->nm (nameOf d i)=false->TA out i=Xh r (nameOf d i)
 later:∀i,i<d.length->nm (nameOf d i)=true->(k:Int)<lv aI i->TA out i=[]
 done:∀i,i<d.length->nm (nameOf d i)=true->lv aI i<k->TA out i=sel fs (J7 d i) (Tq out)
 atN:∀m,m<k->XR (alp fs d) (due d nm) (aod d aI) m (Tq out)
 aui:∀i,i<d.length->nm (nameOf d i)=true->lv aI i=k->∀x,agA (TA out i) x=true->(x,())∈sel fs (J7 d i) (Tq out)
 least:XR (alp fs d) (due d nm) (aod d aI) k (Tq out)
 canon:∀i,i<d.length->nm (nameOf d i)=true->canon fs (TA out i)
def room(n:Nat)(out:List xP):Nat:=(out.map λx=>n-x.2.1.length).sum
end Sp
namespace Sp
open Go
abbrev HY:=List dP×List aQ×Int×List bf×List xP×Unit
instance:DecidableEq (List (Int×Unit)):=inferInstance
instance:DecidableEq xP:=inferInstance
instance:DecidableEq (List xP):=inferInstance
instance:DecidableEq (List xP×Unit):=inferInstance
instance:DecidableEq (List bf×List xP×Unit):=inferInstance
instance:DecidableEq (Int×List bf×List xP×Unit):=inferInstance
instance:DecidableEq (List aQ×Int×List bf×List xP×Unit):=inferInstance
instance auj:DecidableEq HY:=(inferInstance:DecidableEq (List dP×List aQ×Int×List bf×List xP×Unit))
def IW(c:HY):dU:=(c.1,c.2.1,c.2.2.1,())
def JV(c:HY):List bf:=c.2.2.2.1
def as8(c:HY):List xP:=c.2.2.2.2.1
open Classical in
noncomputable def aoV (c:HY):Bool:=dI (JV c)&&bT (IW c)&&decide (aoU c.2.1 (JV c) [] (λ_=>true) (as8 c))
def aoe(f g:aQ):List Bytes:=((f.2.2.2.2.1++g.2.2.2.2.1).map λa=>a.1).filter λs=>!decide (Hz f.2.2.2.2.1 s=Hz g.2.2.2.2.1 s)
def apG(q:List ak):List Bytes:=(q.filter λn=>n.1==2||(n.1==3||n.1==4)).map λn=>n.2.2.2.1
def aqA(q:List ak):List Bytes:=(q.filter o5).map λn=>n.2.2.2.1
def linked(q:List ak):Bool:=q.any λn=>n.1==9
inductive Reach(d:List bf)(P:Bytes->Prop):Bytes->Prop where
 |base {s}:P s->Reach d P s
 |step {s i}:Reach d P s->i<d.length->s∈aqA (J7 d i)->Reach d P (nameOf d i)
def aof(d:List bf)(f g:aQ)(s:Bytes):Prop:=
 ∃i,i<d.length/\nameOf d i=s/\(f.1≠g.1\/(∃t,t∈apG (J7 d i)/\t∈aoe f g)\/(linked (J7 d i)=true/\f.2.2.2.1≠g.2.2.2.1))
def Aff(d:List bf)(f g:aQ):Bytes->Prop:=Reach d (aof d f g)
open Classical in
noncomputable def auk (d:List bf) (f g:aQ) (s:Bytes):Bool:=decide (Aff d f g s)
end Sp
namespace Sp
open Go
end Sp
namespace Sp
open Go
def as9(as:List aY):Prop:=as.Pairwise λx y=>Op.bytesLess x.1 y.1=true
theorem aaL{α:Type}{R:α->α->Prop}(ht:∀a b c,R a b->R b c->R a c)(d:α):∀(l:List α),(∀i,i+1<l.length->R (l.getD i d) (l.getD (i+1) d))->l.Pairwise R
 |[],_=>List.Pairwise.nil
 |[x],_=>List.pairwise_singleton _ _
 |x::y::r,h=>by
  have ih:=aaL ht d (y::r) λi hi=>h (i+1) ah7;have h0:R x y:=h 0 abZ;refine awo.2 ⟨λz hz=>?_,ih⟩;rcases auQ.1 hz with rfl|hz
  .exact h0
  .exact ht _ _ _ h0 ((awo.1 ih).1 z hz)
theorem Zb{fs:List dP}{as:List aY}:kC fs as=true↔(∀a∈as,iV fs a.1 a.2.1 a.2.2.1 a.2.2.2.1=true)/\as9 as:=by
 have at_:∀i(hi:i<as.length),bP as i=as[i]:=λi hi=>by unfold bP;rw[auF,auJ hi];rfl
 unfold kC;rw[show(jd as.length (jI fs as)=true)↔∀i,i<as.length->jI fs as i=true from by unfold jd;rw[auY];exact⟨λh i hi=>h i (avq.2 hi),λh i hi=>h i (avq.1 hi)⟩];have one:∀i,jI fs as i=true↔iV fs (bP as i).1 (bP as i).2.1 (bP as i).2.2.1 (bP as i).2.2.2.1=true/\(0<i->Op.bytesLess (bP as (i-1)).1 (bP as i).1=true):=λi=>by
  unfold jI;rw[auC];refine awh λ_=>?_;by_cases h0:0<i
  .rw[auS h0];simp[h0]
  .rw[auU h0];simp[h0]
 constructor
 .intro h;refine⟨λa ha=>?_,?_⟩
  .obtain⟨i,hi,rfl⟩:=avY ha;have:=((one i).1 (h i hi)).1;rw[at_ i hi]at this;exact this
  .refine aaL (R:=λx y:aY=>Op.bytesLess x.1 y.1=true) (λa b c h1 h2=>Tz _ _ _ h1 h2) ([],0,0,[],()) as λi hi=>?_;exact((one (i+1)).1 (h (i+1) hi)).2 aaV
 .rintro⟨h1,h2⟩ i hi;refine(one i).2 ⟨?_,λh0=>?_⟩
  .rw[at_ i hi];exact h1 _ (av3 hi)
  .rw[at_ i hi,at_ (i-1) aaV];exact awL.1 h2 (i-1) i aaV hi aaV
theorem air{α:Type}[BEq α][LawfulBEq α]:∀(a b:List α),a.Nodup->(∀x∈a,x∈b)->a.length<=b.length
 |[],_,_,_=>auZ _
 |x::r,b,hn,h=>by
  rw[List.nodup_cons]at hn;have hx:=h x auO;have ih:=air r (b.erase x) hn.2 λy hy=>by
   have hne:y≠x:=λe=>by subst e;exact hn.1 hy
   rw[List.mem_erase_of_ne hne];exact h y (auM _ hy)
  rw[List.length_erase_of_mem hx]at ih;have:0<b.length:=List.length_pos_of_mem hx;rw[auE];omega
theorem TB:∀{fs:List dP}{s:Bytes},kindOf fs s≠0->s∈fs.map λf=>f.1
 |[],_,h=>(h rfl).elim
 |f::r,s,h=>by
  rw[kindOf]at h;by_cases e:f.1=s
  .rw[auX,e];exact auO
  .rw[auU e]at h;rw[auX];exact auM _ (TB h)
theorem ahW{fs:List dP}{as:List aY}(h:kC fs as=true):as.length<=fs.length:=by
 obtain⟨h1,h2⟩:=Zb.1 h;have:=air (as.map λa=>a.1) (fs.map λf=>f.1) ?_ λs hs=>?_
 .rw[auV,auV]at this;exact this
 .unfold List.Nodup;rw[axL];exact h2.imp λ{a b} hab=>apE hab
 .obtain⟨a,ha,rfl⟩:=avO.1 hs;have hm:=h1 a ha;unfold iV at hm;simp only[auC,auP,awg,avi]at hm;exact TB (by rw[← hm.2];exact hm.1.2)
end Sp
namespace Sp
open Go
def named(f:aQ)(w:Bytes):aQ:=(f.1,f.2.1,f.2.2.1,f.2.2.2.1,jR f.2.2.2.2.1 [110] 2 0 w,())
def aog(c:HY)(u id:Int):Bool:=(Tm (IW c) id).2&&aob (Tm (IW c) id).1 u
end Sp
namespace Sp
open Go
def lX(b:UInt8):Bool:=decide (32<=b.toNat)&&decide (b.toNat<=126)
def U8(s:Bytes):Bool:=s.all λb=>decide (b.toNat<128)
def wordsOf(s:Bytes):LS:=(Lib.fields s).map (·,())
def jv(s:Bytes):Bool:=decide ((s.length:Int)<=600)&&s.all lX&&decide (((Lib.fields s).length:Int)<=24)
def gG(s:Bytes):LS:=bif jv s then wordsOf s else[]
def jQ(s:Bytes):Int:=s.foldl (λn b=>10*n+((b.toNat:Int)-48)) 0
def aW(s:Bytes):Bool:=dX (jQ s)&&(Lib.itoa (jQ s)==s)
def parseNum(s:Bytes):Int:=bif aW s then jQ s else 0
def wordAt(w:LS)(i:Int):Bytes:=bif decide (i>=(w.length:Int))then[]else(w.getD i.toNat ([],())).1
def gm(w:LS):Bytes:=Lib.join (w.map (·.1)) [32]
def numAt(w:LS)(i:Int):Int:=parseNum (wordAt w i)
def agB(w:LS):Int×Int×Bytes×Int:=
 bif wordAt w 0==[99,111,109,109,105,116]then(1,numAt w 1,[],0)else
 bif wordAt w 0==[99,114,97,115,104]then(2,numAt w 1,[],numAt w 2)else
 bif wordAt w 0==[119,97,116,99,104]then(3,numAt w 1,wordAt w 2,0)else
 bif wordAt w 0==[112,105,110]then(4,0,[],numAt w 1)else
 bif wordAt w 0==[117,110,112,105,110]then(5,0,[],numAt w 1)else
 bif wordAt w 0==[99,111,108,108,101,99,116]then(6,0,[],0)else
 bif wordAt w 0==[97,100,100]then(7,numAt w 1,wordAt w 2,numAt w 3)else
 bif wordAt w 0==[114,101,109,111,118,101]then(8,numAt w 1,wordAt w 2,numAt w 3)else(0,0,[],0)
def apH(x:Int×Int×Bytes×Int):Bytes:=Tj x.1 x.2.1 0 x.2.2.1 x.2.2.2
end Sp
namespace Sp
open Go
theorem aoh(u:Nat):Lib.itoa (u:Int)=Lib.decDigits u:=by unfold Lib.itoa;rw[if_neg aaV];simp
theorem Ej(s:Bytes)(d:UInt8):jQ (s++[d])=10*jQ s+((d.toNat:Int)-48):=by simp[jQ,List.foldl_append]
theorem byte_of(d:Nat)(h:d<10):(UInt8.ofNat (48+d)).toNat=48+d:=by rw[UInt8.toNat_ofNat'];omega
theorem Qu(s:List UInt8):∀(acc:Nat)(n:Nat),Lib.decFrom acc s=some n->∀d,d<10->Lib.decFrom acc (s++[UInt8.ofNat (48+d)])=some (n*10+d):=by
 intro acc n h d hd
 induction s generalizing acc with
 |nil=>
  simp only[Lib.decFrom,Option.some.injEq]at h;subst h;have:∀d:Fin 10,Lib.digitVal (UInt8.ofNat (48+d.val))=some d.val:=abV;have h2:=this ⟨d,hd⟩;simp only[avx,Lib.decFrom];rw[h2]
 |cons a r ih=>
  simp only[avH,Lib.decFrom]at h ⊢;cases hv:Lib.digitVal a with
  |none=>rw[hv]at h;simp at h
  |some x=>rw[hv]at h;simp only at h ⊢;exact ih _ h
theorem Jf:∀(k u:Nat),u<10 ^ (k+1)->jQ (Lib.decDigits u)=u/\Lib.decFrom 0 (Lib.decDigits u)=some u/\(∀b∈Lib.decDigits u,48<=b.toNat/\b.toNat<=57)/\Lib.decDigits u≠[]/\(Lib.decDigits u).length<=k+1
 |0,u,h=>by
  have h:u<10:=acs;rw[Lib.decDigits_one h];have hb:=byte_of u h;have:=Qu [] 0 0 rfl u h;refine⟨?_,?_,λb hm=>?_,axs _ _,auH _⟩
  .have:=Ej [] (UInt8.ofNat (48+u));rw[avx]at this;rw[this,hb];show 10*0+_=_;omega
  .rw[avx,awN,au8]at this;exact this
  .rw[au0]at hm;subst hm;omega
 |k+1,u,h=>by
  by_cases h1:u<10
  .have:=Jf 0 u apQ;exact⟨this.1,this.2.1,this.2.2.1,this.2.2.2.1,aaV⟩
  .have hd:u / 10<10 ^ (k+1):=by rw[Nat.pow_succ]at h;omega
   obtain⟨i1,i2,i3,i4,i5⟩:=Jf k (u / 10) hd;have e:Lib.decDigits u=Lib.decDigits (u / 10)++[UInt8.ofNat (48+u%10)]:=by
    conv=>lhs;rw[Lib.decDigits,dif_neg h1]
   have hm:u%10<10:=axx _ abV;have hb:=byte_of (u%10) hm;rw[e];refine⟨by rw[Ej,i1,hb];omega,?_,λb hb2=>?_,abZ,aeV⟩
   .rw[Qu _ _ _ i2 _ hm];congr 1;omega
   .rcases au4.1 hb2 with h2|h2
    .exact i3 b h2
    .rw[au0]at h2;subst h2;omega
theorem gX{n:Int}:dX n=true↔0<=n/\n<=1000000000:=by unfold dX;rw[auC,auP,auP]
theorem iq{n:Int}(h:dX n=true):jQ (Lib.itoa n)=n/\Lib.atoi (Lib.itoa n)=some n/\(∀b∈Lib.itoa n,48<=b.toNat/\b.toNat<=57)/\Lib.itoa n≠[]/\(Lib.itoa n).length<=10:=by
 obtain⟨h0,h1⟩:=gX.1 h;obtain⟨u,rfl⟩:=Int.eq_ofNat_of_zero_le h0;have hu:u<10 ^ (9+1):=aaV;rw[aoh];obtain⟨i1,i2,i3,i4,i5⟩:=Jf 9 u hu;refine⟨i1,?_,i3,i4,i5⟩;cases hd:Lib.decDigits u with
 |nil=>exact absurd hd i4
 |cons b r=>
  have hb:=i3 b (by rw[hd];simp);rw[hd]at i2;have n45:(b==45)=false:=by rw[auD];intro e;subst e;revert hb;decide
  have n43:(b==43)=false:=by rw[auD];intro e;subst e;revert hb;decide
  simp only[Lib.atoi,n45,n43,Lib.decNat,av7,awY,List.isEmpty_cons,i2,avz]
theorem DT{s:Bytes}:aW s=true↔dX (jQ s)=true/\Lib.itoa (jQ s)=s:=by unfold aW;rw[auC,au5]
theorem Rn{s:Bytes}{n:Int}(h:dX n=true)(e:Lib.itoa n=s):aW s=true/\parseNum s=n:=by
 have hv:jQ s=n:=by rw[← e];exact(iq h).1
 have:aW s=true:=DT.2 ⟨by rw[hv];exact h,by rw[hv];exact e⟩;exact⟨this,by unfold parseNum;rw[this];exact hv⟩
theorem o6{n:Int}(h:dX n=true):aW (Lib.itoa n)=true/\parseNum (Lib.itoa n)=n:=Rn h rfl
theorem jE{s:Bytes}(h:aW s=true):Lib.itoa (parseNum s)=s/\dX (parseNum s)=true:=by
 have e:parseNum s=jQ s:=by unfold parseNum;rw[h];rfl
 rw[e];exact⟨(DT.1 h).2,(DT.1 h).1⟩
theorem Aj(s:Bytes):dX (parseNum s)=true:=by
 cases h:aW s with
 |true=>exact(jE h).2
 |false=>unfold parseNum;rw[h];rfl
theorem AA{s:Bytes}(h:aW s=false):parseNum s=0:=by unfold parseNum;rw[h];rfl
theorem agh{s:Bytes}(h:aW s=true):s.length<=10:=by
 have:=(iq (jE h).2).2.2.2.2
 rwa [(jE h).1]at this
theorem VS{s:Bytes}(h:10<s.length):aW s=false:=by
 cases hp:aW s with
 |false=>rfl
 |true=>have:=agh hp;omega
theorem Qv{s:Bytes}(h:aW s=true):∀b∈s,48<=b.toNat/\b.toNat<=57:=by
 have:=(iq (jE h).2).2.2.1
 rwa [(jE h).1]at this
end Sp
namespace Sp
open Go
def TD(x:Bytes):Prop:=x≠[]/\∀b∈x,Lib.isSp b=false
theorem Jg:∀(x cur l:Bytes),(∀b∈x,Lib.isSp b=false)->Lib.fieldsGo cur (x++l)=Lib.fieldsGo (cur++x) l
 |[],cur,l,_=>by rw[au7,avx]
 |b::x,cur,l,h=>by rw[avH,Lib.fieldsGo_more _ _ _ (h b auO),Jg x _ l (λc hc=>h c (auM _ hc)),auR];rfl
theorem Ul:∀(r:List Bytes)(x:Bytes),x≠[]->(∀y∈r,TD y)->Lib.fieldsGo x (Lib.joinTail [32] r)=x::r
 |[],x,hx,_=>by
  cases x with
  |nil=>exact absurd rfl hx
  |cons _ _=>simp[Lib.joinTail,Lib.fieldsGo]
 |y::r,x,hx,h=>by
  have hy:=h y auO;have e:Lib.joinTail [32] (y::r)=32::(y++Lib.joinTail [32] r):=by simp[Lib.joinTail]
  rw[e,Lib.fieldsGo_end x 32 _ abV hx,Jg y [] _ hy.2,avx,Ul r y hy.1 λz hz=>h z (auM _ hz)]
theorem Zc:∀ws:List Bytes,(∀x∈ws,TD x)->Lib.fields (Lib.join ws [32])=ws
 |[],_=>rfl
 |x::r,h=>by have hx:=h x auO;unfold Lib.fields;rw[Lib.join_cons,Jg x [] _ hx.2,avx,Ul r x hx.1 λz hz=>h z (auM _ hz)]
theorem map_unit:∀w:LS,(w.map (·.1)).map (·,())=w
 |[]=>rfl
 |(_,())::r=>by rw[auX,auX,map_unit r]
theorem ais(ws:List Bytes)(h:∀x∈ws,TD x):wordsOf (Lib.join ws [32])=ws.map (·,()):=by unfold wordsOf;rw[Zc ws h]
theorem acT{n:Int}(h:dX n=true):TD (Lib.itoa n):=by obtain⟨_,_,h3,h4,_⟩:=iq h;refine⟨h4,λb hb=>?_⟩;have:=h3 b hb;unfold Lib.isSp;have ne:∀c:UInt8,c.toNat<48->(b==c)=false:=λc hc=>arO;rw[ne 9 abV,ne 10 abV,ne 11 abV,ne 12 abV,ne 13 abV,ne 32 abV];rfl
theorem ajn{s:Bytes}(h:aS s=true):TD s:=by unfold aS lower at h;rw[auC,auC,auY,auP,auP]at h;refine⟨λe=>by subst e;simp at h,λb hb=>?_⟩;have:=h.1.1 b hb;rw[auC,auP,auP]at this;unfold Lib.isSp;have ne:∀c:UInt8,c.toNat<97->(b==c)=false:=λc hc=>arO;rw[ne 9 abV,ne 10 abV,ne 11 abV,ne 12 abV,ne 13 abV,ne 32 abV];rfl
def ait:Bytes:=[99,111,109,109,105,116]
def aj3:Bytes:=[99,114,97,115,104]
def aj6:Bytes:=[119,97,116,99,104]
def aoW:Bytes:=[112,105,110]
def aj7:Bytes:=[117,110,112,105,110]
def afr:Bytes:=[99,111,108,108,101,99,116]
def aoX:Bytes:=[97,100,100]
def aiu:Bytes:=[114,101,109,111,118,101]
theorem SC(x y:Bytes):Lib.join [x,y] [32]=x++32::y:=by rw[Lib.join_cons];simp[Lib.joinTail]
theorem acj(x y z:Bytes):Lib.join [x,y,z] [32]=x++32::(y++32::z):=by rw[Lib.join_cons];simp[Lib.joinTail]
end Sp
namespace Sp
open Go
theorem aoi(w:LS):agB w=
 (bif wordAt w 0==ait then(1,numAt w 1,[],0)else bif wordAt w 0==aj3 then(2,numAt w 1,[],numAt w 2)else bif wordAt w 0==aj6 then(3,numAt w 1,wordAt w 2,0)else
   bif wordAt w 0==aoW then(4,0,[],numAt w 1)else bif wordAt w 0==aj7 then(5,0,[],numAt w 1)else bif wordAt w 0==afr then(6,0,[],0)else
   bif wordAt w 0==aoX then(7,numAt w 1,wordAt w 2,numAt w 3)else bif wordAt w 0==aiu then(8,numAt w 1,wordAt w 2,numAt w 3)else(0,0,[],0)):=rfl
theorem Qe(w:LS)(i:Int)(h:wordAt w i=Lib.itoa (numAt w i)):aW (wordAt w i)=true:=by rw[h];exact(o6 (Aj _)).1
end Sp
namespace Sp
open Go
theorem ald(b:UInt8):(decide ((32:Int)<=IntKind.i64.wrap (b.toNat:Int))&&decide (IntKind.i64.wrap (b.toNat:Int)<=126))=lX b:=by
 have e:IntKind.i64.wrap (b.toNat:Int)=b.toNat:=by rw[IntKind.wrap_i64];have:=b.toNat_lt;omega
 rw[e];unfold lX;congr 1
 .exact decide_eq_decide.2 aaV
 .exact decide_eq_decide.2 aaV
theorem zZ{b:UInt8}:lX b=true↔32<=b.toNat/\b.toNat<=126:=by unfold lX;rw[auC,auP,auP]
theorem ah2{p:UInt8->Bool}{s:Bytes}(h:∀i,i<s.length->p (s.getD i 0)=true):s.all p=true:=by
 rw[auY];intro x hx;obtain⟨i,hi,rfl⟩:=aws.1 hx;have:=h i hi
 rwa [auF,auJ hi]at this
theorem aaw{p:UInt8->Bool}{s:Bytes}(h:s.all p=true){i:Nat}(hi:i<s.length):p (s.getD i 0)=true:=by rw[auF,auJ hi];exact auY.1 h _ (av3 hi)
theorem aex{b:UInt8}(h:lX b=true):Lib.isSp b=(b==32):=by have h:=zZ.1 h;unfold Lib.isSp;have ne:∀c:UInt8,c.toNat<32->(b==c)=false:=λc hc=>arO;rw[ne 9 abV,ne 10 abV,ne 11 abV,ne 12 abV,ne 13 abV];rfl
theorem an1{s:Bytes}(h:s.all lX=true):U8 s=true:=by unfold U8;rw[auY]at h ⊢;intro b hb;have:=zZ.1 (h b hb);rw[auP];omega
theorem qG{s:Bytes}:jv s=true↔s.length<=600/\s.all lX=true/\(Lib.fields s).length<=24:=by
 unfold jv;rw[auC,auC,auP,auP];constructor
 .rintro⟨⟨h1,h2⟩,h3⟩;exact⟨aaV,h2,aaV⟩
 .rintro⟨h1,h2,h3⟩;exact⟨⟨aaV,h2⟩,aaV⟩
theorem afj{s:Bytes}(h:jv s=true):(gG s,jv s,())=(wordsOf s,true,()):=by unfold gG;rw[h];rfl
theorem Ez{s:Bytes}(h:¬(s.length<=600/\s.all lX=true/\(Lib.fields s).length<=24)):(gG s,jv s,())=(([]:LS),false,()):=by
 have:jv s=false:=by
  cases hs:jv s with
  |false=>rfl
  |true=>exact(h (qG.1 hs)).elim
 unfold gG;rw[this];rfl
theorem uI(s:Bytes):(wordsOf s).length=(Lib.fields s).length:=by unfold wordsOf;rw[auV]
def splitAt(s:Bytes)(n b:Nat)(out:LS):Prop:=
 b<=n/\n<=s.length+1/\out.length<=n/\(∀i,i<n->i<s.length->lX (s.getD i 0)=true)/\
 (n<=s.length->out.map (·.1)++Lib.fieldsGo ((s.take n).drop b) (s.drop n)=Lib.fields s)/\(n=s.length+1->out.map (·.1)=Lib.fields s)
theorem ahY(s:Bytes):splitAt s 0 0 []:=⟨auH _,auZ _,auH _,λi hi=>absurd hi (avE _),λ_=>by simp[Lib.fields],λh=>aaV⟩
theorem ah1{s:Bytes}{n b:Nat}{out:LS}(h:splitAt s n b out)(hn:n<s.length)(ho:lX (s.getD n 0)=true)(hc:s.getD n 0≠32):splitAt s (n+1) b out:=by
 obtain⟨h1,h2,h3,h4,h5,h6⟩:=h;refine⟨aaV,aaV,aaV,λi hi hi2=>?_,λ_=>?_,λh=>aaV⟩
 .rcases au2 i n with h|h
  .exact h4 i h hi2
  · rwa [show i=n from aaV]
 .rw[← h5 aaV,Fw.drop_cons s n 0 hn,Lib.fieldsGo_more _ _ _ (by rw[aex ho];exact auD.2 hc)];congr 2;rw[List.take_add_one,auJ hn,auF,auJ hn,aw3];show List.drop b (List.take n s++[s[n]])=_;rw[avW ah8]
theorem ahZ{s:Bytes}{n b:Nat}{out:LS}(h:splitAt s n b out)(hn:n<=s.length)(hb:b<n)(ho:n<s.length->lX (s.getD n 0)=true/\s.getD n 0=32):
 splitAt s (n+1) (n+1) (out++[((s.take n).drop b,())]):=by
 obtain⟨h1,h2,h3,h4,h5,h6⟩:=h;have hne:(s.take n).drop b≠[]:=λe=>by have:=congrArg List.length e;simp at this;omega
 refine⟨auH _,aaV,aeV,λi hi hi2=>?_,λhl=>?_,λhl=>?_⟩
 .rcases au2 i n with h|h
  .exact h4 i h hi2
  .rw[show i=n from aaV];exact(ho aaV).1
 .have hn2:n<s.length:=aaV;obtain⟨o1,o2⟩:=ho hn2;rw[← h5 hn,Fw.drop_cons s n 0 hn2,Lib.fieldsGo_end _ _ _ (by rw[aex o1,o2];rfl) hne,(avU ah8 :(s.take (n+1)).drop (n+1)=[]),avA,auR];rfl
 .have hn2:n=s.length:=aaV;rw[← h5 hn,avU (by omega:s.length<=n),avA];cases hcur:(s.take n).drop b with
  |nil=>exact absurd hcur hne
  |cons _ _=>simp[Lib.fieldsGo]
theorem ah0{s:Bytes}{n b:Nat}{out:LS}(h:splitAt s n b out)(hn:n<=s.length)(hb:¬b<n)(ho:n<s.length->lX (s.getD n 0)=true/\s.getD n 0=32):splitAt s (n+1) (n+1) out:=by
 obtain⟨h1,h2,h3,h4,h5,h6⟩:=h;have he:(s.take n).drop b=[]:=avU ah8;refine⟨auH _,aaV,aaV,λi hi hi2=>?_,λhl=>?_,λhl=>?_⟩
 .rcases au2 i n with h|h
  .exact h4 i h hi2
  .rw[show i=n from aaV];exact(ho aaV).1
 .have hn2:n<s.length:=aaV;obtain⟨o1,o2⟩:=ho hn2;rw[← h5 hn,he,Fw.drop_cons s n 0 hn2,Lib.fieldsGo_sp _ _ (by rw[aex o1,o2];rfl),avU ah8]
 .rw[← h5 hn,he,avU (by omega:s.length<=n)];simp[Lib.fieldsGo]
theorem ajf{s:Bytes}{b:Nat}{out:LS}(h:splitAt s (s.length+1) b out):s.all lX=true/\out=wordsOf s:=by obtain⟨h1,h2,h3,h4,h5,h6⟩:=h;refine⟨ah2 λi hi=>h4 i aaV hi,?_⟩;unfold wordsOf;rw[← h6 rfl,map_unit]
def aey(s:Bytes):Prop:=∀b∈s,48<=b.toNat/\b.toNat<=57
theorem Ls:∀(k:Nat)(s:Bytes),s.length=k->aey s->0<=jQ s/\jQ s<(10:Int) ^ k
 |0,s,h,_=>by rw[avv.1 h];exact⟨avt _,abV⟩
 |k+1,s,h,hd=>by
  have hne:s≠[]:=λe=>by rw[e]at h;cases h
  have e:s=s.take k++[s[k]' aaV]:=by
   conv=>lhs;rw[← awm k s,av6 (by omega:k<s.length),avU (by omega:s.length<=k+1)]
  have hd1:aey (s.take k):=λb hb=>hd b (awd hb);obtain⟨i1,i2⟩:=Ls k (s.take k) ah8 hd1;have hb:=hd _ (av3 (by omega:k<s.length));rw[e,Ej,Int.pow_succ];omega
theorem aje{s:Bytes}{n:Nat}(hn:n<s.length):jQ (s.take (n+1))=10*jQ (s.take n)+(((s.getD n 0).toNat:Int)-48):=by rw[List.take_add_one,auJ hn,auF,auJ hn];exact Ej _ _
theorem ahX{s:Bytes}{n:Nat}(hn:n<s.length)(hl:s.length<=10)(hd:∀i,i<n->48<=(s.getD i 0).toNat/\(s.getD i 0).toNat<=57):0<=jQ (s.take n)/\jQ (s.take n)<1000000000:=by
 have hd:aey (s.take n):=by
  intro b hb;obtain⟨i,hi,rfl⟩:=aws.1 hb;have hi2:i<n:=by rw[auN]at hi;omega
  have:=hd i hi2;rw[auF,auJ aaV]at this;simpa using this
 obtain⟨h1,h2⟩:=Ls n (s.take n) ah8 hd;refine⟨h1,Int.lt_of_lt_of_le h2 ?_⟩;have:n<=9:=aaV
 match n,this with
 |0,_|1,_|2,_|3,_|4,_|5,_|6,_|7,_|8,_|9,_=>decide
theorem NM{s:Bytes}{i:Nat}(hi:i<s.length)(h:¬(48<=(s.getD i 0).toNat/\(s.getD i 0).toNat<=57)):aW s=false:=by
 cases hp:aW s with
 |false=>rfl
 |true=>refine(h (Qv hp _ ?_)).elim;rw[auF,auJ hi];exact av3 hi
theorem Lr{s:Bytes}(h:aW s=false):((0:Int),false,())=(parseNum s,aW s,()):=by rw[AA h,h]
theorem alc{p:LS}{n:Nat}(hn:n<p.length):gm (p.take (n+1))=(if n=0 then[]else gm (p.take n)++[32])++(p.getD n ([],())).1:=by
 cases p with
 |nil=>cases hn
 |cons x r=>
  unfold gm;cases n with
  |zero=>simp[Lib.join_one]
  |succ n=>
   have hr:n<r.length:=by simpa using hn
   have e:(r.map (·.1))[n]? =some r[n].1:=by rw[avw,auJ hr];rfl
   rw[if_neg aaV,avV,avV,auX,auX,Lib.join_cons,Lib.join_cons,List.map_take,List.map_take,Lib.joinTail_take_succ _ _ _ _ e];rw[auF,List.getElem?_cons_succ,auJ hr];simp[auR]
theorem af8:∀(p:LS)(n:Nat),(gm (p.take n)).length<=(gm p).length
 |[],n=>abZ
 |x::r,0=>by simp[gm,Lib.join_nil]
 |x::r,n+1=>by unfold gm;rw[avV,auX,auX,Lib.join_cons,Lib.join_cons,List.map_take,auB,auB];have:=Lib.joinTail_take_le [32] (r.map (·.1)) n;omega
theorem pK{w:LS}{i:Int}(h:i<(w.length:Int)):wordAt w i=(w.getD i.toNat ([],())).1:=by unfold wordAt;rw[auU aaV];rfl
theorem pO{w:LS}{i:Int}(h:i>=(w.length:Int)):wordAt w i=[]:=by unfold wordAt;rw[auS h];rfl
theorem AO{b:Bool}{x y:Bytes}(h1:b=true->x.length<=60)(h2:y.length<=60):(bif b then x else y).length<=60:=by
 cases b with
 |true=>exact h1 rfl
 |false=>exact h2
theorem qy{n:Bytes}(h:aS n=true):n.length<=6:=by unfold aS at h;rw[auC,auP]at h;omega
theorem agi(k u:Int)(nc:Nat)(n:Bytes)(a:Int):(Tj k u nc n a).length<=60:=by
 have z:([]:Bytes).length<=60:=abV;have hi:∀m:Int,dX m=true->(Lib.itoa m).length<=10:=λm h=>(iq h).2.2.2.2;unfold Tj;refine AO (λ_=>z) (AO (λ_=>z) (AO (λh=>?_) (AO (λh=>?_) (AO (λh=>?_) (AO (λh=>?_) (AO (λh=>?_) (AO (λh=>?_) (AO (λh=>?_) (AO (λh=>?_) z)))))))))
 all_goals simp only[auC]at h
 all_goals simp only[auB,auE,auI]
 .have:=hi u h.2.1;omega
 .have:=hi u h.2.1;have:=hi a h.2.2.1;omega
 .have:=hi u h.2.1;have:=qy h.2.2.1;omega
 .have:=hi a h.2.2.1;omega
 .have:=hi a h.2.2.1;omega
 .omega
 .have:=hi u h.2.1;have:=hi a h.2.2.1;have:=qy h.2.2.2;omega
 .have:=hi u h.2.1;have:=hi a h.2.2.1;have:=qy h.2.2.2;omega
theorem Ii:∀(l cur:Bytes)(x:Bytes),x∈Lib.fieldsGo cur l->x.length<=cur.length+l.length
 |[],cur,x,h=>by
  rw[Lib.fieldsGo]at h;split at h
  .cases h
  .simp at h;subst h;simp
 |b::l,cur,x,h=>by
  rw[Lib.fieldsGo]at h;split at h
  .split at h
   .have:=Ii l [] x h;simp at this ⊢;omega
   .rcases auQ.1 h with rfl|h
    .simp
    .have:=Ii l [] x h;simp at this ⊢;omega
  .have:=Ii l (cur++[b]) x h;simp at this ⊢;omega
theorem RS{s:Bytes}:∀x∈wordsOf s,x.1.length<=s.length:=by intro x hx;obtain⟨y,hy,rfl⟩:=avO.1 hx;have:=Ii s [] y hy;simpa using this
theorem tH{w:LS}{m:Nat}(h:∀x∈w,x.1.length<=m)(i:Int):(wordAt w i).length<=m:=by
 unfold wordAt;cases decide (i>=(w.length:Int))with
 |true=>exact auZ _
 |false=>
  show(w.getD i.toNat ([],())).1.length<=m;rw[auF];cases hg:w[i.toNat]? with
  |none=>exact auZ _
  |some x=>exact h x (avk hg)
theorem agj{w:LS}{m:Nat}(h:∀x∈w,x.1.length<=m):(agB w).2.2.1.length<=m:=by
 rw[aoi];cases wordAt w 0==ait with
 |true=>exact auZ _
 |false=>
 cases wordAt w 0==aj3 with
 |true=>exact auZ _
 |false=>
 cases wordAt w 0==aj6 with
 |true=>exact tH h 2
 |false=>
 cases wordAt w 0==aoW with
 |true=>exact auZ _
 |false=>
 cases wordAt w 0==aj7 with
 |true=>exact auZ _
 |false=>
 cases wordAt w 0==afr with
 |true=>exact auZ _
 |false=>
 cases wordAt w 0==aoX with
 |true=>exact tH h 2
 |false=>
 cases wordAt w 0==aiu with
 |true=>exact tH h 2
 |false=>exact auZ _
theorem Zd{m:Nat}:∀r:List Bytes,(∀x∈r,x.length<=m)->(Lib.joinTail [32] r).length<=r.length*(m+1)
 |[],_=>auZ _
 |x::r,h=>by
  have e:Lib.joinTail [32] (x::r)=[32]++(x++Lib.joinTail [32] r):=by simp[Lib.joinTail]
  have h1:=h x auO;have h2:=Zd r λy hy=>h y (auM _ hy);have h3:(x::r).length*(m+1)=r.length*(m+1)+(m+1):=by rw[auE,avj,axn]
  rw[e,auB,auB,h3];show 1+_<=_;omega
theorem aan{m:Nat}{w:LS}(h:∀x∈w,x.1.length<=m):(gm w).length<=w.length*(m+1):=by
 cases w with
 |nil=>exact auZ _
 |cons x r=>
  unfold gm;rw[auX,Lib.join_cons,auB];have h1:=h x auO;have h2:=Zd (m:=m) (r.map (·.1)) λy hy=>by obtain⟨z,hz,rfl⟩:=avO.1 hy;exact h z (auM _ hz)
  rw[auV]at h2;rw[auE,avj,axn];omega
theorem Y6{s:Bytes}(h:jv s=true):gG s=wordsOf s/\(wordsOf s).length<=1000/\(gm (wordsOf s)).length<=2097152/\(agB (wordsOf s)).2.2.1.length<=1048576/\(apH (agB (wordsOf s))).length<=1048576:=by
 obtain⟨h1,_,h3⟩:=qG.1 h;have hw:∀x∈wordsOf s,x.1.length<=600:=λx hx=>auK (RS x hx) h1;have hl:(wordsOf s).length<=24:=by rw[uI];exact h3
 refine⟨by unfold gG;rw[h];rfl,aaV,?_,auK (agj hw) aaV,auK (agi _ _ _ _ _) aaV⟩;have:=aan hw;have h24:(wordsOf s).length*(600+1)<=24*(600+1):=au1 _ hl;omega
end Sp
namespace Sp
open Go
inductive QT where
 |leaf (n:ak)
 |neg (t:QT)
 |two (op:Int) (a b:QT)
def fP(op:Int):Bytes:=
 bif op==1 then[97,108,108]else bif op==2 then[104,97,115]else bif op==3 then[101,113]else bif op==4 then[108,116]else
 bif op==5 then[110,111,116]else bif op==6 then[97,110,100]else bif op==7 then[111,114]else bif op==8 then[105,110]else
 bif op==9 then[108,105,110,107,101,100]else[63]
def dw(w:Bytes):Int:=
 bif w==[97,108,108]then 1 else bif w==[104,97,115]then 2 else bif w==[101,113]then 3 else bif w==[108,116]then 4 else
 bif w==[110,111,116]then 5 else bif w==[97,110,100]then 6 else bif w==[111,114]then 7 else bif w==[105,110]then 8 else
 bif w==[108,105,110,107,101,100]then 9 else 0
def aU(s:Bytes):DX×Bool:=
 bif aW s then(bif decide (parseNum s<=999)then((1,parseNum s,[],()),true)else((0,0,[],()),false))
 else bif s==[45]then((0,0,[],()),true)else bif aS s then((2,0,s,()),true)else((0,0,[],()),false)
def bg(v:DX):Bytes:=
 bif !bI v.1 v.2.1 v.2.2.1 then[63]else bif v.1==1 then Lib.itoa v.2.1 else bif v.1==2 then v.2.2.1 else[45]
def QT.size:QT->Nat
 |.leaf _=>1
 |.neg t=>t.size+1
 |.two _ a b=>a.size+b.size+1
def post:QT->Nat->List ak
 |.leaf n,_=>[n]
 |.neg t,b=>post t b++[(5,((b+t.size:Nat):Int)-1,0,[],0,0,[],())]
 |.two op x y,b=>post x b++(post y (b+x.size)++[(op,((b+x.size:Nat):Int)-1,((b+x.size+y.size:Nat):Int)-1,[],0,0,[],())])
def jB(n:ak):List Bytes:=
 fP n.1::(bif n.1==2||(n.1==8||n.1==9)then[n.2.2.2.1]else bif n.1==3||n.1==4 then[n.2.2.2.1,bg n.2.2.2.2]else[])
def aF:QT->List Bytes
 |.leaf n=>jB n
 |.neg t=>fP 5::aF t
 |.two op a b=>fP op::(aF a++aF b)
def ls(w:List Bytes):LS:=w.map (·,())
def xu:QT->Prop
 |.leaf n=>n.1=1\/n.1=2\/n.1=3\/n.1=4\/n.1=8\/n.1=9
 |.neg t=>xu t
 |.two op a b=>(op=6\/op=7)/\xu a/\xu b
def zq:QT->Prop
 |.leaf n=>dM n 0=true
 |.neg t=>zq t
 |.two _ a b=>zq a/\zq b
theorem dZ:∀(t:QT)(b:Nat),(post t b).length=t.size
 |.leaf _,_=>rfl
 |.neg t,b=>by rw[post,auB,dZ t b];rfl
 |.two op x y,b=>by rw[post,auB,auB,dZ x b,dZ y];rw[QT.size,auE,auI];omega
theorem size_pos:∀t:QT,0<t.size
 |.leaf _=>Nat.one_pos
 |.neg _=>av5 _
 |.two _ _ _=>av5 _
theorem Aa(w:Bytes):dw w=0\/((dw w=1\/dw w=2\/dw w=3\/dw w=4\/dw w=5\/dw w=6\/dw w=7\/dw w=8\/dw w=9)/\fP (dw w)=w):=by
 unfold dw;cases h1:w==[97,108,108]with
 |true=>right;rw[au5.1 h1];decide
 |false=>
 cases h2:w==[104,97,115]with
 |true=>right;rw[au5.1 h2];decide
 |false=>
 cases h3:w==[101,113]with
 |true=>right;rw[au5.1 h3];decide
 |false=>
 cases h4:w==[108,116]with
 |true=>right;rw[au5.1 h4];decide
 |false=>
 cases h5:w==[110,111,116]with
 |true=>right;rw[au5.1 h5];decide
 |false=>
 cases h6:w==[97,110,100]with
 |true=>right;rw[au5.1 h6];decide
 |false=>
 cases h7:w==[111,114]with
 |true=>right;rw[au5.1 h7];decide
 |false=>
 cases h8:w==[105,110]with
 |true=>right;rw[au5.1 h8];decide
 |false=>
 cases h9:w==[108,105,110,107,101,100]with
 |true=>right;rw[au5.1 h9];decide
 |false=>left;rfl
theorem zu{op:Int}(h:op=1\/op=2\/op=3\/op=4\/op=5\/op=6\/op=7\/op=8\/op=9):dw (fP op)=op:=by rcases h with rfl|rfl|rfl|rfl|rfl|rfl|rfl|rfl|rfl<;>decide
theorem aoj:dw []=0:=abV
def rd:Nat->LS->List ak->Bool×LS×List ak
 |0,w,q=>(false,w,q)
 |k+1,w,q=>
  bif dw (wordAt w 0)==2||(dw (wordAt w 0)==8||dw (wordAt w 0)==9)then(true,(w.drop 1).drop 1,q++[(dw (wordAt w 0),0,0,wordAt (w.drop 1) 0,0,0,[],())])
  else bif dw (wordAt w 0)==3||dw (wordAt w 0)==4 then
   ((aU (wordAt ((w.drop 1).drop 1) 0)).2,((w.drop 1).drop 1).drop 1,q++[(dw (wordAt w 0),0,0,wordAt (w.drop 1) 0,(aU (wordAt ((w.drop 1).drop 1) 0)).1)])
  else bif dw (wordAt w 0)==5 then
   ((rd k (w.drop 1) q).1,(rd k (w.drop 1) q).2.1,(rd k (w.drop 1) q).2.2++[(5,((rd k (w.drop 1) q).2.2.length:Int)-1,0,[],0,0,[],())])
  else bif dw (wordAt w 0)==6||dw (wordAt w 0)==7 then
   (bif (rd k (w.drop 1) q).1 then
     ((rd k (rd k (w.drop 1) q).2.1 (rd k (w.drop 1) q).2.2).1,(rd k (rd k (w.drop 1) q).2.1 (rd k (w.drop 1) q).2.2).2.1,
       (rd k (rd k (w.drop 1) q).2.1 (rd k (w.drop 1) q).2.2).2.2++[(dw (wordAt w 0),((rd k (w.drop 1) q).2.2.length:Int)-1,((rd k (rd k (w.drop 1) q).2.1 (rd k (w.drop 1) q).2.2).2.2.length:Int)-1,[],0,0,[],())])
   else(false,(rd k (w.drop 1) q).2.1,(rd k (w.drop 1) q).2.2++[(dw (wordAt w 0),((rd k (w.drop 1) q).2.2.length:Int)-1,((rd k (w.drop 1) q).2.2.length:Int)-1,[],0,0,[],())]))
  else(!(dw (wordAt w 0)==0),w.drop 1,q++[(dw (wordAt w 0),0,0,[],0,0,[],())])
theorem JW(i:Int)(h:0<=i):wordAt [] i=[]:=pO acs
theorem eH(x:Bytes×Unit)(w:LS):wordAt (x::w) 0=x.1:=by rw[pK abZ];rfl
theorem XP{w:LS}(h:dw (wordAt w 0)≠0):∃r,w=(fP (dw (wordAt w 0)),())::r/\w.drop 1=r:=by
 cases w with
 |nil=>exact(h (by rw[JW 0 (avt _)];exact aoj)).elim
 |cons x r=>
  obtain⟨x,⟨⟩⟩:=x;rcases Aa (wordAt ((x,())::r) 0)with e|⟨_,e⟩
  .exact(h e).elim
  .refine⟨r,?_,rfl⟩;rw[e,eH]
theorem LD:∀(k:Nat)(w:LS)(q:List ak),(rd k w q).2.1.length<=w.length
 |0,w,q=>auH _
 |k+1,w,q=>by
  have h1:=LD k (w.drop 1) q;have h2:=LD k (rd k (w.drop 1) q).2.1 (rd k (w.drop 1) q).2.2;have h3:(w.drop 1).length<=w.length:=amr;rw[rd];cases dw (wordAt w 0)==2||(dw (wordAt w 0)==8||dw (wordAt w 0)==9)with
  |true=>show((w.drop 1).drop 1).length<=_;rw[au9];omega
  |false=>
  cases dw (wordAt w 0)==3||dw (wordAt w 0)==4 with
  |true=>show(((w.drop 1).drop 1).drop 1).length<=_;rw[au9,au9];omega
  |false=>
  cases dw (wordAt w 0)==5 with
  |true=>exact auK h1 h3
  |false=>
  cases dw (wordAt w 0)==6||dw (wordAt w 0)==7 with
  |true=>
   show(bif (rd k (w.drop 1) q).1 then _ else _:Bool×LS×List ak).2.1.length<=_;cases (rd k (w.drop 1) q).1 with
   |true=>exact auK h2 (auK h1 h3)
   |false=>exact auK h1 h3
  |false=>exact h3
end Sp
namespace Sp
open Go
theorem arH{n:Int}{s:Bytes}(h:bI 1 n s=true):0<=n/\n<=999/\s=[]:=by unfold bI at h;simp at h;exact⟨h.1.1,h.1.2,h.2⟩
theorem arI{n:Int}{s:Bytes}(h:bI 2 n s=true):aS s=true/\n=0:=by unfold bI at h;simp at h;exact h
theorem als{v:DX}(h:bI v.1 v.2.1 v.2.2.1=true)(h0:v.1≠0):(∃n,v=(1,n,[],())/\0<=n/\n<=999)\/∃s,v=(2,0,s,())/\aS s=true:=by
 obtain⟨k,n,s,⟨⟩⟩:=v;by_cases h1:k=1
 .subst h1;obtain⟨a,b,c⟩:=arH h;have c:s=[]:=c;subst c;exact .inl ⟨n,rfl,a,b⟩
 by_cases h2:k=2
 .subst h2;obtain⟨a,b⟩:=arI h;have b:n=0:=b;subst b;exact .inr ⟨s,rfl,a⟩
 .unfold bI at h;dsimp only at h h0;rw[auU h0,auU h1,auU h2]at h;cases h
theorem alu{s:Bytes}(h:aS s=true):∃b r,s=b::r/\97<=b.toNat:=by
 unfold aS at h;rw[auC,auC,auP]at h;cases s with
 |nil=>exact absurd h.1.2 abV
 |cons b r=>refine⟨b,r,rfl,?_⟩;have h1:=h.1.1;unfold lower at h1;rw[avM,auC,auC,auP]at h1;exact h1.1.1
theorem agk{s:Bytes}(h:aS s=true):aW s=false/\(s==[45])=false:=by
 obtain⟨b,r,rfl,hb⟩:=alu h;refine⟨?_,?_⟩
 .cases hp:aW (b::r)with
  |false=>rfl
  |true=>have:=Qv hp b auO;omega
 .rw[auD];intro e;have:b=45:=(List.cons.inj e).1;rw[this]at hb;exact absurd hb abV
theorem Ze:aW []=false:=by
 cases h:aW []with
 |false=>rfl
 |true=>obtain⟨a,b⟩:=jE h;exact((acT b).1 a).elim
theorem OT{v:DX}(h:bI v.1 v.2.1 v.2.2.1=true)(h0:v.1≠0):aU (bg v)=(v,true):=by
 unfold bg;rw[h];rcases als h h0 with⟨n,rfl,a,b⟩|⟨s,rfl,a⟩
 .show aU (Lib.itoa n)=_;have hu:dX n=true:=by unfold dX;rw[auS a,auS (show n<=1000000000 from aaV)];rfl
  obtain⟨q1,q2⟩:=o6 hu;unfold aU;rw[q1,q2,auS b];rfl
 .show aU s=_;obtain⟨q1,q2⟩:=agk a;unfold aU;rw[q1,q2,a];rfl
theorem Zf{s:Bytes}(h:bI (aU s).1.1 (aU s).1.2.1 (aU s).1.2.2.1=true)(h0:(aU s).1.1≠0):(aU s).2=true/\bg (aU s).1=s:=by
 unfold bg;rw[h];revert h0;unfold aU;cases h1:aW s with
 |true=>
  cases h2:decide (parseNum s<=999)with
  |true=>exactλ_=>⟨rfl,(jE h1).1⟩
  |false=>exactλh0=>(h0 rfl).elim
 |false=>
  cases h2:s==[45]with
  |true=>exactλh0=>(h0 rfl).elim
  |false=>
   cases h3:aS s with
   |true=>exactλ_=>⟨rfl,rfl⟩
   |false=>exactλh0=>(h0 rfl).elim
theorem aez{s:Bytes}(h:dm s=true):s≠[]:=by rintro rfl;exact absurd h abV
theorem aiv{s:Bytes}(h:aS s=true):s≠[]:=by rintro rfl;exact absurd h abV
theorem xw{n:ak}{a:Int}(h:dM n a=true)(hw:n.1=1\/n.1=2\/n.1=3\/n.1=4\/n.1=8\/n.1=9):
 n=(1,0,0,[],0,0,[],())\/(∃op s,n=(op,0,0,s,0,0,[],())/\(op=2\/op=8\/op=9)/\s≠[])\/
 ∃op s v,n=(op,0,0,s,v)/\(op=3\/op=4)/\s≠[]/\bI v.1 v.2.1 v.2.2.1=true/\v.1≠0:=by
 obtain⟨op,l,r,s,k,m,t,⟨⟩⟩:=n;dsimp only at hw;rcases hw with rfl|rfl|rfl|rfl|rfl|rfl
 .left;have h:((l==0&&r==0)&&(s==[]&&(k==0&&(m==0&&t==[]))))=true:=h;simp only[auC,au5]at h;rw[h.1.1,h.1.2,h.2.1,h.2.2.1,h.2.2.2.1,h.2.2.2.2]
 .right;left;have h:((l==0&&r==0)&&(k==0&&(m==0&&t==[]))&&dm s)=true:=h;simp only[auC,au5]at h;refine⟨2,s,?_,.inl rfl,aez h.2⟩;rw[h.1.1.1,h.1.1.2,h.1.2.1,h.1.2.2.1,h.1.2.2.2]
 .right;right;have h:((l==0&&r==0)&&dm s&&bI k m t&&!(k==0))=true:=h;simp only[auC,au5,awg,auD]at h;refine⟨3,s,(k,m,t,()),?_,.inl rfl,aez h.1.1.2,h.1.2,h.2⟩;rw[h.1.1.1.1,h.1.1.1.2]
 .right;right;have h:((l==0&&r==0)&&dm s&&bI k m t&&k==1)=true:=h;simp only[auC,au5]at h;refine⟨4,s,(k,m,t,()),?_,.inr rfl,aez h.1.1.2,h.1.2,afb⟩;rw[h.1.1.1.1,h.1.1.1.2]
 .right;left;have h:((l==0&&r==0)&&(k==0&&(m==0&&t==[]))&&aS s)=true:=h;simp only[auC,au5]at h;refine⟨8,s,?_,.inr (.inl rfl),aiv h.2⟩;rw[h.1.1.1,h.1.1.2,h.1.2.1,h.1.2.2.1,h.1.2.2.2]
 .right;left;have h:((l==0&&r==0)&&(k==0&&(m==0&&t==[]))&&aS s)=true:=h;simp only[auC,au5]at h;refine⟨9,s,?_,.inr (.inr rfl),aiv h.2⟩;rw[h.1.1.1,h.1.1.2,h.1.2.1,h.1.2.2.1,h.1.2.2.2]
theorem AP{w:LS}(h:wordAt w 0≠[]):w=(wordAt w 0,())::w.drop 1:=by
 cases w with
 |nil=>exact(h (JW 0 (avt _))).elim
 |cons x r=>obtain⟨x,⟨⟩⟩:=x;rw[eH];rfl
theorem XT:∀(k:Nat)(w:LS)(q:List ak),(rd k w q).1=true->∃t,xu t/\(rd k w q).2.2=q++post t q.length/\(zq t->w=ls (aF t)++(rd k w q).2.1)
 |0,w,q,h=>afH
 |k+1,w,q,h=>by
  by_cases h0:dw (wordAt w 0)=0
  .rw[rd,h0]at h;cases h
  obtain⟨r,e,e2⟩:=XP h0;rcases Aa (wordAt w 0)with c|⟨c,_⟩
  .exact(h0 c).elim
  rw[rd]at h ⊢;rw[e2]at h ⊢;generalize dw (wordAt w 0)=op at h c e h0 ⊢;have TF:op=2\/op=8\/op=9->∃t,xu t/\q++[(op,0,0,wordAt r 0,0,0,[],())]=q++post t q.length/\(zq t->w=ls (aF t)++r.drop 1):=λc=>by
   refine⟨.leaf (op,0,0,wordAt r 0,0,0,[],()),?_,rfl,λht=>?_⟩
   .show op=1\/op=2\/op=3\/op=4\/op=8\/op=9;omega
   .have ht:dM (op,0,0,wordAt r 0,0,0,[],()) 0=true:=ht;have hn:wordAt r 0≠[]:=by
     rcases xw ht afb with x|⟨_,s,x,_,hs⟩|⟨op',s,v,x,hop,_⟩
     .have:=congrArg (·.1) x;dsimp only at this;omega
     .have:=congrArg (λn:ak=>n.2.2.2.1) x;dsimp only at this;rw[this];exact hs
     .have:=congrArg (·.1) x;dsimp only at this;omega
    rw[e,AP hn];have hb:(op==2||(op==8||op==9))=true:=by rcases c with rfl|rfl|rfl<;>rfl
    show _=ls (fP op::(bif op==2||(op==8||op==9)then[wordAt ((wordAt r 0,())::r.drop 1) 0]else _))++_;rw[hb,eH];rfl
  have acU:op=3\/op=4->∃t,xu t/\q++[(op,0,0,wordAt r 0,(aU (wordAt (r.drop 1) 0)).1)]=q++post t q.length/\(zq t->w=ls (aF t)++(r.drop 1).drop 1):=λc=>by
   refine⟨.leaf (op,0,0,wordAt r 0,(aU (wordAt (r.drop 1) 0)).1),?_,rfl,λht=>?_⟩
   .show op=1\/op=2\/op=3\/op=4\/op=8\/op=9;omega
   .have ht:dM (op,0,0,wordAt r 0,(aU (wordAt (r.drop 1) 0)).1) 0=true:=ht;have hn:wordAt r 0≠[]/\(aU (wordAt (r.drop 1) 0)).2=true/\bg (aU (wordAt (r.drop 1) 0)).1=wordAt (r.drop 1) 0:=by
     rcases xw ht afb with x|⟨op',s,x,hop,hs⟩|⟨op',s,v,x,hop,hs,hv,h1⟩
     .have:=congrArg (·.1) x;dsimp only at this;omega
     .have:=congrArg (·.1) x;dsimp only at this;omega
     .have x1:=congrArg (λn:ak=>n.2.2.2.1) x;have x2:=congrArg (λn:ak=>n.2.2.2.2) x;dsimp only at x1 x2;refine⟨by rw[x1];exact hs,Zf (by rw[x2];exact hv) (by rw[x2];exact h1)⟩
    have hw2:wordAt (r.drop 1) 0≠[]:=λe0=>by
     rw[e0]at hn;have:(aU []).2=false:=by unfold aU;rw[Ze];rfl
     rw[this]at hn;cases hn.2.1
    have hb:(op==2||(op==8||op==9))=false:=arS;have hb2:(op==3||op==4)=true:=arS;have e3:r=(wordAt r 0,())::(wordAt (r.drop 1) 0,())::(r.drop 1).drop 1:=by rw[← AP hw2];exact AP hn.1
    show _=ls (fP op::(bif op==2||(op==8||op==9)then _ else bif op==3||op==4 then[wordAt r 0,bg (aU (wordAt (r.drop 1) 0)).1]else _))++_;rw[hb,hb2,hn.2.2];exact e.trans (congrArg _ e3)
  have aiw:(op=6\/op=7)->(rd k r q).1=true->(rd k (rd k r q).2.1 (rd k r q).2.2).1=true->∃t,xu t/\(rd k (rd k r q).2.1 (rd k r q).2.2).2.2++[(op,((rd k r q).2.2.length:Int)-1,((rd k (rd k r q).2.1 (rd k r q).2.2).2.2.length:Int)-1,[],0,0,[],())]=q++post t q.length/\(zq t->w=ls (aF t)++(rd k (rd k r q).2.1 (rd k r q).2.2).2.1):=λc g1 g2=>by
   obtain⟨x,x1,x2,x3⟩:=XT k r q g1;obtain⟨y,y1,y2,y3⟩:=XT k _ _ g2;have lx:(rd k r q).2.2.length=q.length+x.size:=by rw[x2,auB,dZ]
   have ly:(rd k (rd k r q).2.1 (rd k r q).2.2).2.2.length=q.length+x.size+y.size:=by rw[y2,auB,dZ,lx]
   refine⟨.two op x y,⟨c,x1,y1⟩,?_,λht=>?_⟩
   .rw[ly,lx,y2,lx,x2];show _=q++(post x q.length++(post y (q.length+x.size)++[_]));rw[auR,auR]
   .obtain⟨t1,t2⟩:zq x/\zq y:=ht;rw[e];show _=ls (fP op::(aF x++aF y))++_;unfold ls;rw[auX,avA,avH,auR];exact congrArg _ ((x3 t1).trans (congrArg _ (y3 t2)))
  rcases c with rfl|rfl|rfl|rfl|rfl|rfl|rfl|rfl|rfl
  .refine⟨.leaf (1,0,0,[],0,0,[],()),.inl rfl,rfl,λ_=>?_⟩;rw[e];rfl
  .exact TF (.inl rfl)
  .exact acU (.inl rfl)
  .exact acU (.inr rfl)
  .have h:(rd k r q).1=true:=h;obtain⟨x,x1,x2,x3⟩:=XT k r q h;have lx:(rd k r q).2.2.length=q.length+x.size:=by rw[x2,auB,dZ]
   refine⟨.neg x,x1,?_,λht=>?_⟩
   .show(rd k r q).2.2++[(5,((rd k r q).2.2.length:Int)-1,0,[],0,0,[],())]=q++(post x q.length++[_]);rw[lx,x2,auR]
   .rw[e];show _=ls (fP 5::aF x)++(rd k r q).2.1;exact congrArg _ (x3 ht)
  .have h:(bif (rd k r q).1 then _ else _:Bool×LS×List ak).1=true:=h;cases g:(rd k r q).1 with
   |false=>rw[g]at h;cases h
   |true=>rw[g]at h;exact aiw (.inl rfl) g h
  .have h:(bif (rd k r q).1 then _ else _:Bool×LS×List ak).1=true:=h;cases g:(rd k r q).1 with
   |false=>rw[g]at h;cases h
   |true=>rw[g]at h;exact aiw (.inr rfl) g h
  .exact TF (.inr (.inl rfl))
  .exact TF (.inr (.inr rfl))
end Sp
namespace Sp
open Go
theorem aqB(k:Nat)(r:LS)(q:List ak):rd (k+1) ((fP 1,())::r) q=(true,r,q++[(1,0,0,[],0,0,[],())]):=by rw[rd,eH,zu (.inl rfl)];rfl
theorem apI{op:Int}(c:op=2\/op=8\/op=9)(k:Nat)(r:LS)(q:List ak):rd (k+1) ((fP op,())::r) q=(true,r.drop 1,q++[(op,0,0,wordAt r 0,0,0,[],())]):=by rw[rd,eH,zu aaV];rcases c with rfl|rfl|rfl<;>rfl
theorem rd_val{op:Int}(c:op=3\/op=4)(k:Nat)(r:LS)(q:List ak):rd (k+1) ((fP op,())::r) q=((aU (wordAt (r.drop 1) 0)).2,(r.drop 1).drop 1,q++[(op,0,0,wordAt r 0,(aU (wordAt (r.drop 1) 0)).1)]):=by rw[rd,eH,zu aaV];rcases c with rfl|rfl<;>rfl
theorem rd_not(k:Nat)(r:LS)(q:List ak):rd (k+1) ((fP 5,())::r) q=((rd k r q).1,(rd k r q).2.1,(rd k r q).2.2++[(5,((rd k r q).2.2.length:Int)-1,0,[],0,0,[],())]):=by rw[rd,eH,zu (.inr (.inr (.inr (.inr (.inl rfl)))))];rfl
theorem aqC{op:Int}(c:op=6\/op=7)(k:Nat)(r:LS)(q:List ak)(h:(rd k r q).1=true):rd (k+1) ((fP op,())::r) q=
 ((rd k (rd k r q).2.1 (rd k r q).2.2).1,(rd k (rd k r q).2.1 (rd k r q).2.2).2.1,(rd k (rd k r q).2.1 (rd k r q).2.2).2.2++[(op,((rd k r q).2.2.length:Int)-1,((rd k (rd k r q).2.1 (rd k r q).2.2).2.2.length:Int)-1,[],0,0,[],())]):=by
 rw[rd,eH,zu aaV];rcases c with rfl|rfl
 .show(bif (rd k r q).1 then _ else _:Bool×LS×List ak)=_;rw[h];rfl
 .show(bif (rd k r q).1 then _ else _:Bool×LS×List ak)=_;rw[h];rfl
theorem aix(x:Bytes)(a b:List Bytes)(r:LS):ls (x::(a++b))++r=(x,())::(ls a++(ls b++r)):=by unfold ls;rw[auX,avA,avH,auR]
theorem CS{op:Int}{s:Bytes}(c:op=2\/op=8\/op=9):jB (op,0,0,s,0,0,[],())=[fP op,s]:=by rcases c with rfl|rfl|rfl<;>rfl
theorem Fa{op:Int}{s:Bytes}{v:DX}(c:op=3\/op=4):jB (op,0,0,s,v)=[fP op,s,bg v]:=arS
theorem LQ:∀(t:QT)(k:Nat)(rest:LS)(q:List ak),xu t->zq t->(ls (aF t)++rest).length<k->rd k (ls (aF t)++rest) q=(true,rest,q++post t q.length)
 |_,0,_,_,_,_,h=>absurd h (avE _)
 |.leaf n,k+1,rest,q,hw,ho,_=>by
  have hw:n.1=1\/n.1=2\/n.1=3\/n.1=4\/n.1=8\/n.1=9:=hw;rcases xw ho hw with rfl|⟨op,s,rfl,c,hs⟩|⟨op,s,v,rfl,c,hs,hv,h0⟩
  .exact aqB k rest q
  .show rd (k+1) (ls (jB _)++rest) q=_;rw[CS c];show rd (k+1) ((fP op,())::(s,())::rest) q=_;rw[apI c,eH];rfl
  .show rd (k+1) (ls (jB _)++rest) q=_;rw[Fa c];show rd (k+1) ((fP op,())::(s,())::(bg v,())::rest) q=_;rw[rd_val c,eH];show((aU (wordAt ((bg v,())::rest) 0)).2,rest,q++[(op,0,0,s,(aU (wordAt ((bg v,())::rest) 0)).1)])=_;rw[eH,OT hv h0];rfl
 |.neg t,k+1,rest,q,hw,ho,h=>by
  have h:((fP 5,())::(ls (aF t)++rest)).length<k+1:=h;rw[auE]at h;show rd (k+1) ((fP 5,())::(ls (aF t)++rest)) q=_;rw[rd_not,LQ t k rest q hw ho aaV];show(true,rest,(q++post t q.length)++[(5,((q++post t q.length).length:Int)-1,0,[],0,0,[],())])=(true,rest,q++(post t q.length++[_]));rw[auB,dZ,auR]
 |.two op x y,k+1,rest,q,⟨c,w1,w2⟩,⟨o1,o2⟩,h=>by show rd (k+1) (ls (fP op::(aF x++aF y))++rest) q=_;have h:(ls (fP op::(aF x++aF y))++rest).length<k+1:=h;rw[aix]at h ⊢;rw[auE]at h;have e1:=LQ x k (ls (aF y)++rest) q w1 o1 aaV;rw[auB]at h;have e2:=LQ y k rest (q++post x q.length) w2 o2 aaV;rw[aqC c k _ q (by rw[e1]),e1,e2];show(true,rest,((q++post x q.length)++post y (q++post x q.length).length)++[(op,((q++post x q.length).length:Int)-1,(((q++post x q.length)++post y (q++post x q.length).length).length:Int)-1,[],0,0,[],())])=(true,rest,q++(post x q.length++(post y (q.length+x.size)++[_])));rw[auB,auB,dZ,dZ,auB,dZ,auR,auR]
def rs:Nat->LS->List ak->List ak×Int
 |0,_,q=>(q,0)
 |d+1,w,q=>
  bif dw (wordAt w 0)==0||decide ((q.length:Int)>9)then(q,0)
  else bif dw (wordAt w 0)==2||(dw (wordAt w 0)==8||dw (wordAt w 0)==9)then(q++[(dw (wordAt w 0),0,0,wordAt w 1,0,0,[],())],2)
  else bif dw (wordAt w 0)==3||dw (wordAt w 0)==4 then(q++[(dw (wordAt w 0),0,0,wordAt w 1,(aU (wordAt w 2)).1)],3)
  else bif dw (wordAt w 0)==5||(dw (wordAt w 0)==6||dw (wordAt w 0)==7)then
   (bif (rs d (w.drop 1) q).2==0 then((rs d (w.drop 1) q).1,0)
   else bif dw (wordAt w 0)==5 then((rs d (w.drop 1) q).1++[(5,((rs d (w.drop 1) q).1.length:Int)-1,0,[],0,0,[],())],1+(rs d (w.drop 1) q).2)
   else bif (rs d (w.drop (1+(rs d (w.drop 1) q).2).toNat) (rs d (w.drop 1) q).1).2==0 then((rs d (w.drop (1+(rs d (w.drop 1) q).2).toNat) (rs d (w.drop 1) q).1).1,0)
   else((rs d (w.drop (1+(rs d (w.drop 1) q).2).toNat) (rs d (w.drop 1) q).1).1++[(dw (wordAt w 0),((rs d (w.drop 1) q).1.length:Int)-1,((rs d (w.drop (1+(rs d (w.drop 1) q).2).toNat) (rs d (w.drop 1) q).1).1.length:Int)-1,[],0,0,[],())],
    1+(rs d (w.drop 1) q).2+(rs d (w.drop (1+(rs d (w.drop 1) q).2).toNat) (rs d (w.drop 1) q).1).2))
  else(q++[(dw (wordAt w 0),0,0,[],0,0,[],())],1)
theorem DY(x:Bytes×Unit)(r:LS)(i:Int)(h:0<=i):wordAt (x::r) (i+1)=wordAt r i:=by
 by_cases hi:i<(r.length:Int)
 .rw[pK hi,pK (by rw[auE];omega),show(i+1).toNat=i.toNat+1 from aaV];rfl
 .rw[pO (show i>=(r.length:Int)from aaV),pO (by rw[auE];omega)]
theorem acV(x:Bytes×Unit)(r:LS):wordAt (x::r) 2=wordAt (r.drop 1) 0:=by
 rw[show(2:Int)=1+1 from rfl,DY x r 1 abV];cases r with
 |nil=>rw[JW 1 abV];exact(JW 0 abV).symm
 |cons y r=>rw[show(1:Int)=0+1 from rfl,DY y r 0 abV];rfl
theorem JX(x:Bytes×Unit)(r:LS):wordAt (x::r) 1=wordAt r 0:=DY x r 0 abV
theorem TG:∀(t:QT)(d:Nat)(rest:LS)(q:List ak),xu t->zq t->t.size<=d->q.length+t.size<=10->rs d (ls (aF t)++rest) q=(q++post t q.length,((aF t).length:Int))
 |t,0,_,_,_,_,h,_=>absurd (size_pos t) aaV
 |.leaf n,d+1,rest,q,hw,ho,_,hq=>by
  have hq1:q.length+1<=10:=hq;have hq2:decide ((q.length:Int)>9)=false:=auU aaV;have hw:n.1=1\/n.1=2\/n.1=3\/n.1=4\/n.1=8\/n.1=9:=hw;rcases xw ho hw with rfl|⟨op,s,rfl,c,hs⟩|⟨op,s,v,rfl,c,hs,hv,h0⟩
  .show rs (d+1) ((fP 1,())::rest) q=_;rw[rs,eH,zu (.inl rfl),hq2];rfl
  .show rs (d+1) (ls (jB _)++rest) q=(_,((jB _).length:Int));rw[CS c];show rs (d+1) ((fP op,())::(s,())::rest) q=_;rw[rs,JX,eH,eH,zu aaV,hq2];rcases c with rfl|rfl|rfl<;>rfl
  .show rs (d+1) (ls (jB _)++rest) q=(_,((jB _).length:Int));rw[Fa c];show rs (d+1) ((fP op,())::(s,())::(bg v,())::rest) q=_;rw[rs,JX,acV,eH,eH,zu aaV,hq2];have e:wordAt (List.drop 1 ((s,())::(bg v,())::rest)) 0=bg v:=eH _ _;rw[e,OT hv h0];rcases c with rfl|rfl<;>rfl
 |.neg t,d+1,rest,q,hw,ho,hd,hq=>by
  have hd:t.size+1<=d+1:=hd;have hq:q.length+(t.size+1)<=10:=hq;have hq':decide ((q.length:Int)>9)=false:=auU aaV;have e:=TG t d rest q hw ho aaV aaV;have hl:0<(aF t).length:=by
   cases t with
   |leaf n=>exact av5 _
   |neg t=>exact av5 _
   |two op a b=>exact av5 _
  show rs (d+1) ((fP 5,())::(ls (aF t)++rest)) q=_;rw[rs,eH,zu (.inr (.inr (.inr (.inr (.inl rfl))))),hq'];show(bif (rs d (ls (aF t)++rest) q).2==0 then _ else(_,1+(rs d (ls (aF t)++rest) q).2):List ak×Int)=_;rw[show List.drop 1 ((fP 5,())::(ls (aF t)++rest))=ls (aF t)++rest from rfl,e];rw[show(((aF t).length:Int)==0)=false from auD.2 aaV];show((q++post t q.length)++[(5,((q++post t q.length).length:Int)-1,0,[],0,0,[],())],1+((aF t).length:Int))=(q++(post t q.length++[_]),(((aF t).length+1:Nat):Int));rw[auB,dZ,auR,show(1+((aF t).length:Int))=(((aF t).length+1:Nat):Int)from aaV]
 |.two op x y,d+1,rest,q,⟨c,w1,w2⟩,⟨o1,o2⟩,hd,hq=>by
  have hd:x.size+y.size+1<=d+1:=hd;have hq:q.length+(x.size+y.size+1)<=10:=hq;have sx:=size_pos x;have sy:=size_pos y;have hq':decide ((q.length:Int)>9)=false:=auU aaV;have wl:∀t:QT,0<(aF t).length:=λt=>by
   cases t with
   |leaf n=>exact av5 _
   |neg t=>exact av5 _
   |two op a b=>exact av5 _
  have l1:=wl x;have l2:=wl y;have e1:=TG x d (ls (aF y)++rest) q w1 o1 aaV aaV;have e2:=TG y d rest (q++post x q.length) w2 o2 aaV (by rw[auB,dZ];omega);show rs (d+1) (ls (fP op::(aF x++aF y))++rest) q=_;rw[aix,rs,eH,zu aaV,hq'];rw[show List.drop 1 ((fP op,())::(ls (aF x)++(ls (aF y)++rest)))=ls (aF x)++(ls (aF y)++rest)from rfl,e1];have ed:List.drop (1+((aF x).length:Int)).toNat ((fP op,())::(ls (aF x)++(ls (aF y)++rest)))=ls (aF y)++rest:=by rw[show(1+((aF x).length:Int)).toNat=(aF x).length+1 from aaV,axD];exact List.drop_left' ar6
  dsimp only;rw[ed,e2];rw[show(((aF x).length:Int)==0)=false from auD.2 aaV,show(((aF y).length:Int)==0)=false from auD.2 aaV];have fin:((q++post x q.length)++post y (q++post x q.length).length++[(op,((q++post x q.length).length:Int)-1,((q++post x q.length++post y (q++post x q.length).length).length:Int)-1,[],0,0,[],())],1+((aF x).length:Int)+((aF y).length:Int))=(q++post (.two op x y) q.length,((aF (.two op x y)).length:Int)):=by show _=(q++(post x q.length++(post y (q.length+x.size)++[_])),((fP op::(aF x++aF y)).length:Int));rw[auB,auB,dZ,dZ,auB,dZ,auR,auR,auE,auB];rw[show(1+((aF x).length:Int)+((aF y).length:Int))=(((aF x).length+(aF y).length+1:Nat):Int)from aaV]
  rcases c with rfl|rfl<;>exact fin
end Sp
namespace Sp
open Go
theorem ajo{op:Int}{r:LS}(c:op=2\/op=8\/op=9)(ht:dM (op,0,0,wordAt r 0,0,0,[],()) 0=true):
 (fP op,())::r=ls (jB (op,0,0,wordAt r 0,0,0,[],()))++r.drop 1:=by
 have hn:wordAt r 0≠[]:=by
  rcases xw ht afb with x|⟨_,s,x,_,hs⟩|⟨op',s,v,x,hop,_⟩
  .have:=congrArg (·.1) x;dsimp only at this;omega
  .have:=congrArg (λn:ak=>n.2.2.2.1) x;dsimp only at this;rw[this];exact hs
  .have:=congrArg (·.1) x;dsimp only at this;omega
 rw[CS c];exact congrArg _ (AP hn)
theorem ajp{op:Int}{r:LS}(c:op=3\/op=4)(ht:dM (op,0,0,wordAt r 0,(aU (wordAt (r.drop 1) 0)).1) 0=true):
 (fP op,())::r=ls (jB (op,0,0,wordAt r 0,(aU (wordAt (r.drop 1) 0)).1))++(r.drop 1).drop 1:=by
 have hn:wordAt r 0≠[]/\(aU (wordAt (r.drop 1) 0)).2=true/\bg (aU (wordAt (r.drop 1) 0)).1=wordAt (r.drop 1) 0:=by
  rcases xw ht afb with x|⟨op',s,x,hop,hs⟩|⟨op',s,v,x,hop,hs,hv,h1⟩
  .have:=congrArg (·.1) x;dsimp only at this;omega
  .have:=congrArg (·.1) x;dsimp only at this;omega
  .have x1:=congrArg (λn:ak=>n.2.2.2.1) x;have x2:=congrArg (λn:ak=>n.2.2.2.2) x;dsimp only at x1 x2;refine⟨by rw[x1];exact hs,Zf (by rw[x2];exact hv) (by rw[x2];exact h1)⟩
 have hw2:wordAt (r.drop 1) 0≠[]:=λe0=>by
  rw[e0]at hn;have:(aU []).2=false:=by unfold aU;rw[Ze];rfl
  rw[this]at hn;cases hn.2.1
 have e3:r=(wordAt r 0,())::(wordAt (r.drop 1) 0,())::(r.drop 1).drop 1:=by rw[← AP hw2];exact AP hn.1
 rw[Fa c,hn.2.2];exact congrArg _ e3
theorem XU:∀(d:Nat)(w:LS)(q:List ak),(rs d w q).2≠0->∃t,xu t/\(rs d w q).1=q++post t q.length/\0<(rs d w q).2/\(zq t->∃rest,w=ls (aF t)++rest/\(rs d w q).2=((aF t).length:Int))
 |0,w,q,h=>(h rfl).elim
 |d+1,w,q,h=>by
  by_cases h0:dw (wordAt w 0)=0
  .rw[rs,h0]at h;exact(h rfl).elim
  obtain⟨r,e,e2⟩:=XP h0;rcases Aa (wordAt w 0)with c|⟨c,_⟩
  .exact(h0 c).elim
  have w1:wordAt w 1=wordAt r 0:=by rw[e];exact JX _ _
  have w2:wordAt w 2=wordAt (r.drop 1) 0:=by rw[e];exact acV _ _
  have wd:∀n:Nat,w.drop (1+(n:Int)).toNat=r.drop n:=λn=>by rw[e,show(1+(n:Int)).toNat=n+1 from aaV,axD]
  rw[rs]at h ⊢;rw[e2,w1,w2]at h ⊢;generalize dw (wordAt w 0)=op at h c e h0 ⊢;cases hq:decide ((q.length:Int)>9)with
  |true=>rw[hq,Bool.or_true]at h;exact(h rfl).elim
  |false=>
  rw[hq,show(op==0)=false from auD.2 h0]at h;rw[show(op==0)=false from auD.2 h0];have TF:op=2\/op=8\/op=9->∃t,xu t/\q++[(op,0,0,wordAt r 0,0,0,[],())]=q++post t q.length/\(0:Int)<2/\(zq t->∃rest,w=ls (aF t)++rest/\(2:Int)=((aF t).length:Int)):=λc=>
   ⟨.leaf (op,0,0,wordAt r 0,0,0,[],()),(show op=1\/op=2\/op=3\/op=4\/op=8\/op=9 from aaV),rfl,abV,λht=>⟨r.drop 1,e.trans (ajo c ht),by show _=((jB _).length:Int);rw[CS c];rfl⟩⟩
  have acU:op=3\/op=4->∃t,xu t/\q++[(op,0,0,wordAt r 0,(aU (wordAt (r.drop 1) 0)).1)]=q++post t q.length/\(0:Int)<3/\(zq t->∃rest,w=ls (aF t)++rest/\(3:Int)=((aF t).length:Int)):=λc=>
   ⟨.leaf (op,0,0,wordAt r 0,(aU (wordAt (r.drop 1) 0)).1),(show op=1\/op=2\/op=3\/op=4\/op=8\/op=9 from aaV),rfl,abV,λht=>⟨(r.drop 1).drop 1,e.trans (ajp c ht),by show _=((jB _).length:Int);rw[Fa c];rfl⟩⟩
  have aiw:(op=6\/op=7)->(rs d r q).2≠0->(rs d (w.drop (1+(rs d r q).2).toNat) (rs d r q).1).2≠0->
   ∃t,xu t/\(rs d (w.drop (1+(rs d r q).2).toNat) (rs d r q).1).1++[(op,((rs d r q).1.length:Int)-1,((rs d (w.drop (1+(rs d r q).2).toNat) (rs d r q).1).1.length:Int)-1,[],0,0,[],())]=q++post t q.length/\
    0<1+(rs d r q).2+(rs d (w.drop (1+(rs d r q).2).toNat) (rs d r q).1).2/\(zq t->∃rest,w=ls (aF t)++rest/\1+(rs d r q).2+(rs d (w.drop (1+(rs d r q).2).toNat) (rs d r q).1).2=((aF t).length:Int)):=λc g1 g2=>by
   obtain⟨x,x1,x2,x3,x4⟩:=XU d r q g1;obtain⟨y,y1,y2,y3,y4⟩:=XU d _ _ g2;have lx:(rs d r q).1.length=q.length+x.size:=by rw[x2,auB,dZ]
   have ly:(rs d (w.drop (1+(rs d r q).2).toNat) (rs d r q).1).1.length=q.length+x.size+y.size:=by rw[y2,auB,dZ,lx]
   refine⟨.two op x y,⟨c,x1,y1⟩,?_,aaV,λht=>?_⟩
   .rw[ly,lx,y2,lx,x2];show _=q++(post x q.length++(post y (q.length+x.size)++[_]));rw[auR,auR]
   .obtain⟨t1,t2⟩:zq x/\zq y:=ht;obtain⟨r1,q1,q2⟩:=x4 t1;obtain⟨r2,q3,q4⟩:=y4 t2;have e4:w.drop (1+(rs d r q).2).toNat=r1:=by rw[q2,wd,q1];exact List.drop_left' ar6
    refine⟨r2,?_,?_⟩
    .rw[e];show _=ls (fP op::(aF x++aF y))++_;rw[aix];refine congrArg _ (q1.trans (congrArg _ ?_));rw[← q3];exact e4.symm
    .rw[q4,q2];show _=(((fP op::(aF x++aF y)).length:Nat):Int);rw[auE,auB];omega
  rcases c with rfl|rfl|rfl|rfl|rfl|rfl|rfl|rfl|rfl
  .refine⟨.leaf (1,0,0,[],0,0,[],()),.inl rfl,rfl,(by show(0:Int)<1;decide),λ_=>⟨r,e,rfl⟩⟩
  .exact TF (.inl rfl)
  .exact acU (.inl rfl)
  .exact acU (.inr rfl)
  .have h:(bif (rs d r q).2==0 then((rs d r q).1,0)else(_,1+(rs d r q).2):List ak×Int).2≠0:=h;cases g:(rs d r q).2==0 with
   |true=>rw[g]at h;exact(h rfl).elim
   |false=>
    obtain⟨x,x1,x2,x3,x4⟩:=XU d r q (auD.1 g);have lx:(rs d r q).1.length=q.length+x.size:=by rw[x2,auB,dZ]
    refine⟨.neg x,x1,?_,?_,λht=>?_⟩
    .show(rs d r q).1++[(5,((rs d r q).1.length:Int)-1,0,[],0,0,[],())]=q++(post x q.length++[_]);rw[lx,x2,auR]
    .show 0<1+(rs d r q).2;omega
    .obtain⟨r1,q1,q2⟩:=x4 ht;refine⟨r1,e.trans (congrArg _ q1),?_⟩;show 1+(rs d r q).2=((fP 5::aF x).length:Int);rw[q2,auE];omega
  .have h:(bif (rs d r q).2==0 then((rs d r q).1,0)else bif (rs d (w.drop (1+(rs d r q).2).toNat) (rs d r q).1).2==0 then(_,0)else(_,_):List ak×Int).2≠0:=h;cases g:(rs d r q).2==0 with
   |true=>rw[g]at h;exact(h rfl).elim
   |false=>
    rw[g]at h;cases g2:(rs d (w.drop (1+(rs d r q).2).toNat) (rs d r q).1).2==0 with
    |true=>rw[g2]at h;exact(h rfl).elim
    |false=>exact aiw (.inl rfl) (auD.1 g) (auD.1 g2)
  .have h:(bif (rs d r q).2==0 then((rs d r q).1,0)else bif (rs d (w.drop (1+(rs d r q).2).toNat) (rs d r q).1).2==0 then(_,0)else(_,_):List ak×Int).2≠0:=h;cases g:(rs d r q).2==0 with
   |true=>rw[g]at h;exact(h rfl).elim
   |false=>
    rw[g]at h;cases g2:(rs d (w.drop (1+(rs d r q).2).toNat) (rs d r q).1).2==0 with
    |true=>rw[g2]at h;exact(h rfl).elim
    |false=>exact aiw (.inr rfl) (auD.1 g) (auD.1 g2)
  .exact TF (.inr (.inl rfl))
  .exact TF (.inr (.inr rfl))
end Sp
namespace Sp
open Go
def bV:Nat->List ak->Int->List Bytes
 |0,_,_=>[]
 |k+1,q,i=>
  bif (nodeAt q i.toNat).1==5 then fP (nodeAt q i.toNat).1::bV k q (nodeAt q i.toNat).2.1
  else bif (nodeAt q i.toNat).1==6||(nodeAt q i.toNat).1==7 then fP (nodeAt q i.toNat).1::(bV k q (nodeAt q i.toNat).2.1++bV k q (nodeAt q i.toNat).2.2.1)
  else jB (nodeAt q i.toNat)
def textOf(q:List ak):Bytes:=bif ax q then Lib.join (bV 9 q ((q.length:Int)-1)) [32]else[]
theorem CU(l r:List ak)(n:ak):nodeAt (l++(n::r)) l.length=n:=by unfold nodeAt;rw[auF,avc (auH _),awX];rfl
theorem NY:∀(t:QT)(k:Nat)(l r:List ak),xu t->t.size<=k->bV k (l++(post t l.length++r)) (((l.length+t.size:Nat):Int)-1)=aF t
 |t,0,_,_,_,h=>absurd (size_pos t) aaV
 |.leaf n,k+1,l,r,hw,_=>by
  have hw:n.1=1\/n.1=2\/n.1=3\/n.1=4\/n.1=8\/n.1=9:=hw;show bV (k+1) (l++(n::r)) (((l.length+1:Nat):Int)-1)=jB n;rw[bV,show((((l.length+1:Nat):Int)-1).toNat)=l.length from aaV,CU];rw[show(n.1==5)=false from auD.2 aaV,show(n.1==6)=false from auD.2 aaV,show(n.1==7)=false from auD.2 aaV];rfl
 |.neg t,k+1,l,r,hw,hk=>by
  have hk:t.size+1<=k+1:=hk;have ih:=NY t k l ((5,((l.length+t.size:Nat):Int)-1,0,[],0,0,[],())::r) hw aaV;have e:l++(post (.neg t) l.length++r)=l++(post t l.length++(((5,((l.length+t.size:Nat):Int)-1,0,[],0,0,[],()):ak)::r)):=by show l++((post t l.length++[_])++r)=_;rw[auR];rfl
  have en:nodeAt (l++(post (.neg t) l.length++r)) (l.length+t.size)=(5,((l.length+t.size:Nat):Int)-1,0,[],0,0,[],()):=by rw[e,← auR,show l.length+t.size=(l++post t l.length).length by rw[auB,dZ]];exact CU _ _ _
  rw[bV,show((((l.length+(QT.neg t).size:Nat):Int)-1).toNat)=l.length+t.size by show(((l.length+(t.size+1):Nat):Int)-1).toNat=_;omega,en,e];show fP 5::bV k _ _=fP 5::aF t;rw[ih]
 |.two op x y,k+1,l,r,⟨c,w1,w2⟩,hk=>by
  have hk:x.size+y.size+1<=k+1:=hk;generalize hn:((op,((l.length+x.size:Nat):Int)-1,((l.length+x.size+y.size:Nat):Int)-1,[],0,0,[],()):ak)=N;have e:l++(post (.two op x y) l.length++r)=l++(post x l.length++(post y (l.length+x.size)++(N::r))):=by show l++((post x l.length++(post y (l.length+x.size)++[_]))++r)=_;rw[hn,auR,auR];rfl
  have i1:=NY x k l (post y (l.length+x.size)++(N::r)) w1 aaV;have i2:=NY y k (l++post x l.length) (N::r) w2 aaV;rw[auB,dZ,auR]at i2;have en:nodeAt (l++(post (.two op x y) l.length++r)) (l.length+x.size+y.size)=N:=by rw[e,← auR,← auR,show l.length+x.size+y.size=((l++post x l.length)++post y (l.length+x.size)).length by rw[auB,auB,dZ,dZ]];exact CU _ _ _
  rw[bV,show((((l.length+(QT.two op x y).size:Nat):Int)-1).toNat)=l.length+x.size+y.size by show(((l.length+(x.size+y.size+1):Nat):Int)-1).toNat=_;omega,en,e];subst hn;dsimp only;rw[i1,i2];rcases c with rfl|rfl<;>rfl
theorem Ij{n:ak}(a:Int)(hw:n.1=1\/n.1=2\/n.1=3\/n.1=4\/n.1=8\/n.1=9):dM n a=dM n 0:=by obtain⟨op,l,r,s,v⟩:=n;dsimp only at hw;rcases hw with rfl|rfl|rfl|rfl|rfl|rfl<;>rfl
theorem acW:∀(t:QT)(b:Nat),xu t->(∀n∈post t b,∃a,dM n a=true)->zq t
 |.leaf n,_,hw,h=>by
  obtain⟨a,ha⟩:=h n auO;show dM n 0=true;rw[← Ij a hw];exact ha
 |.neg t,b,hw,h=>acW t b hw λn hn=>h n (avp _ hn)
 |.two op x y,b,⟨_,w1,w2⟩,h=>⟨acW x b w1 λn hn=>h n (avp _ hn),acW y _ w2 λn hn=>h n (avJ _ (avp _ hn))⟩
theorem J8{t:QT}(hw:xu t)(h:ax (post t 0)=true):zq t/\t.size<=9:=by refine⟨acW t 0 hw λn hn=>?_,by have:=(gQ h).2;rwa [dZ]at this⟩;obtain⟨i,hi,e⟩:=avY hn;refine⟨i,?_⟩;have:=(jJ h hi).1;unfold nodeAt at this;rw[auF,auJ hi,e]at this;exact this
theorem aiy:∀t:QT,∃x r,aF t=x::r/\x≠[]
 |.leaf n=>⟨_,_,rfl,alv _⟩
 |.neg t=>⟨_,_,rfl,alv _⟩
 |.two op x y=>⟨_,_,rfl,alv _⟩
where alv (op:Int):fP op≠[]:=by unfold fP;cases op==1<;>cases op==2<;>cases op==3<;>cases op==4<;>cases op==5<;>cases op==6<;>cases op==7<;>cases op==8<;>cases op==9<;>intro h<;>cases h
theorem afs{t:QT}(hw:xu t)(h:ax (post t 0)=true):textOf (post t 0)=Lib.join (aF t) [32]/\textOf (post t 0)≠[]:=by
 obtain⟨_,hs⟩:=J8 hw h;have e:textOf (post t 0)=Lib.join (aF t) [32]:=by unfold textOf;rw[h,dZ];have:=NY t 9 [] [] hw hs;rw[au7,avx,auI,au8]at this;show Lib.join (bV 9 (post t 0) ((t.size:Int)-1)) [32]=_;rw[this]
 refine⟨e,?_⟩;obtain⟨x,r,ew,hx⟩:=aiy t;rw[e,ew,Lib.join_cons];intro h0;exact hx (avs.1 h0).1
def wY(w:LS):Bool×LS×List ak:=rd (w.length+1) w []
def gq(s:Bytes):Bool:=jv s&&((wY (wordsOf s)).1&&(!decide (((wY (wordsOf s)).2.1.length:Int)>0)&&ax (wY (wordsOf s)).2.2))
def fJ(s:Bytes):List ak:=bif gq s then(wY (wordsOf s)).2.2 else[]
def XQ(s:Bytes):Bool:=jv s&&((rs 10 (wordsOf s) []).2==((wordsOf s).length:Int)&&(!(textOf (rs 10 (wordsOf s) []).1==[])&&textOf (rs 10 (wordsOf s) []).1==gm (wordsOf s)))
theorem aib(w:List Bytes):(ls w).map (·.1)=w:=by unfold ls;rw[av4];exact List.map_id' w
theorem TJ(s:Bytes):gq s=true↔jv s=true/\∃t,xu t/\ax (post t 0)=true/\wordsOf s=ls (aF t):=by
 unfold gq;rw[auC,auC,auC,awg,avi];refine awh λ_=>⟨λ⟨h1,h2,h3⟩=>?_,λ⟨t,hw,hq,e⟩=>?_⟩
 .obtain⟨t,hw,e,h⟩:=XT _ _ _ h1;have e:(wY (wordsOf s)).2.2=post t 0:=e;rw[e]at h3;have hr:(wY (wordsOf s)).2.1=[]:=avv.1 aaV;have h:zq t->wordsOf s=ls (aF t)++(wY (wordsOf s)).2.1:=h;exact⟨t,hw,h3,by rw[h (J8 hw h3).1,hr,au7]⟩
 .have e1:=LQ t ((wordsOf s).length+1) [] [] hw (J8 hw hq).1 (by rw[au7,← e];exact awl _);rw[au7,← e]at e1;have e1:wY (wordsOf s)=(true,[],post t 0):=e1;rw[e1];exact⟨rfl,(by show ¬((0:Nat):Int)>0;decide),hq⟩
theorem aiz{s:Bytes}{t:QT}(hw:xu t)(hq:ax (post t 0)=true)(e:wordsOf s=ls (aF t)):wY (wordsOf s)=(true,[],post t 0):=by have e1:=LQ t ((wordsOf s).length+1) [] [] hw (J8 hw hq).1 (by rw[au7,← e];exact awl _);rw[au7,← e]at e1;exact e1
theorem aoY{s:Bytes}{t:QT}(hw:xu t)(hq:ax (post t 0)=true)(e:wordsOf s=ls (aF t)):rs 10 (wordsOf s) []=(post t 0,((wordsOf s).length:Int)):=by obtain⟨ho,hs⟩:=J8 hw hq;have e1:=TG t 10 [] [] hw ho aaV (by rw[auI];omega);rw[au7,← e]at e1;rw[e1,e];unfold ls;rw[auV];rfl
theorem acB(s:Bytes):XQ s=gq s:=by
 rw[ave,TJ];unfold XQ;rw[auC,auC,auC,awg,au5,au5,auD];refine awh λ_=>⟨λ⟨h1,h2,h3⟩=>?_,λ⟨t,hw,hq,e⟩=>?_⟩
 .have hq:ax (rs 10 (wordsOf s) []).1=true:=by
   cases h:ax (rs 10 (wordsOf s) []).1 with
   |true=>rfl
   |false=>unfold textOf at h2;rw[h]at h2;exact(h2 rfl).elim
  by_cases h0:(rs 10 (wordsOf s) []).2=0
  .have:wordsOf s=[]:=avv.1 aaV;rw[this]at hq;exact absurd hq abV
  obtain⟨t,hw,e,hk,h⟩:=XU _ _ _ h0;have e:(rs 10 (wordsOf s) []).1=post t 0:=e;rw[e]at hq;obtain⟨rest,q1,q2⟩:=h (J8 hw hq).1;refine⟨t,hw,hq,?_⟩;rw[h1]at q2;have hl:=congrArg List.length q1;rw[auB]at hl;have h3:(ls (aF t)).length=(aF t).length:=ar6;have hr:rest=[]:=avv.1 aaV;rw[q1,hr,au7]
 .obtain⟨q1,q2⟩:=afs hw hq;rw[aoY hw hq e];refine⟨rfl,q2,q1.trans ?_⟩;unfold gm;rw[e,aib]
theorem SK{s:Bytes}(h:gq s=true):(rs 10 (wordsOf s) []).1=(wY (wordsOf s)).2.2/\fJ s=(wY (wordsOf s)).2.2/\ax (fJ s)=true:=by
 obtain⟨_,t,hw,hq,e⟩:=(TJ s).1 h;have e2:fJ s=(wY (wordsOf s)).2.2:=by unfold fJ;rw[h];rfl
 rw[aoY hw hq e,e2,aiz hw hq e];exact⟨rfl,rfl,hq⟩
end Sp
namespace Sp
open Go
def aok:Bytes:=[99,114,101,97,116,101]
def aol:Bytes:=[117,112,100,97,116,101]
def aom:Bytes:=[100,101,108,101,116,101]
def aon:Bytes:=[100,101,102,105,110,101]
def alx:Bytes:=[117,110,100,101,102,105,110,101]
def Qw:Bytes->Bytes->LS
 |cur,[]=>[(cur,())]
 |cur,b::l=>bif b==10 then(cur,())::Qw [] l else Qw (cur++[b]) l
end Sp
namespace Sp
open Go
def fine(x:Bytes):Prop:=TD x/\x.all lX=true
theorem IX{n:Int}(h:dX n=true):fine (Lib.itoa n):=by refine⟨acT h,?_⟩;rw[auY];intro b hb;have:=(iq h).2.2.1 b hb;exact zZ.2 aaV
theorem aj8:∀r:List Bytes,(∀x∈r,x.all lX=true)->(Lib.joinTail [32] r).all lX=true
 |[],_=>rfl
 |x::r,h=>by
  have e:Lib.joinTail [32] (x::r)=[32]++(x++Lib.joinTail [32] r):=by simp[Lib.joinTail]
  rw[e,axd,axd,h x auO,aj8 r λy hy=>h y (auM _ hy)];decide
theorem aj9:∀ws:List Bytes,(∀x∈ws,x.all lX=true)->(Lib.join ws [32]).all lX=true
 |[],_=>rfl
 |x::r,h=>by rw[Lib.join_cons,axd,h x auO,aj8 r λy hy=>h y (auM _ hy)];rfl
theorem acX{ws:List Bytes}(h:∀x∈ws,fine x)(hl:(Lib.join ws [32]).length<=600)(hc:ws.length<=24):jv (Lib.join ws [32])=true/\wordsOf (Lib.join ws [32])=ws.map (·,()):=by have hs:∀x∈ws,TD x:=λx hx=>(h x hx).1;refine⟨qG.2 ⟨hl,aj9 ws λx hx=>(h x hx).2,by rw[Zc ws hs];exact hc⟩,ais ws hs⟩
theorem aaM{n:Int}(h:dX n=true):(Lib.itoa n).length<=10:=(iq h).2.2.2.2
end Sp
namespace Sp
open Go
theorem akb{l:List bf}{i:Nat}(hi:i<l.length):bZ l i∈l:=by unfold bZ;rw[auF,auJ hi];exact av3 hi
theorem apJ{l:List bf}{y:bf}(hy:y∈l):∃i,i<l.length/\bZ l i=y:=by obtain⟨i,hi,e⟩:=avY hy;exact⟨i,hi,by unfold bZ;rw[auF,auJ hi];exact e⟩
theorem JY{d:List bf}:mZ d=true↔(∀x∈d,aS x.1=true/\ax x.2.1=true)/\(d.Pairwise λx y=>Op.bytesLess x.1 y.1=true)/\d.length<=5:=by
 have one:∀i,kF d i=true↔(aS (bZ d i).1=true/\ax (bZ d i).2.1=true)/\(0<i->Op.bytesLess (bZ d (i-1)).1 (bZ d i).1=true):=λi=>by
  unfold kF;rw[auC,auC];refine awh λ_=>?_;by_cases h0:0<i
  .rw[auS h0];simp[h0]
  .rw[auU h0];simp[h0]
 unfold mZ;rw[auC,show(jd d.length (kF d)=true)↔∀i,i<d.length->kF d i=true from by unfold jd;rw[auY];exact⟨λh i hi=>h i (avq.2 hi),λh i hi=>h i (avq.1 hi)⟩,auP];constructor
 .rintro⟨h,hl⟩;refine⟨λx hx=>?_,?_,aaV⟩
  .obtain⟨i,hi,rfl⟩:=apJ hx;exact((one i).1 (h i hi)).1
  .exact aaL (R:=λx y:bf=>Op.bytesLess x.1 y.1=true) (λa b c h1 h2=>Tz _ _ _ h1 h2) ([],[],()) d λi hi=>((one (i+1)).1 (h (i+1) hi)).2 aaV
 .rintro⟨h1,h2,hl⟩;refine⟨λi hi=>(one i).2 ⟨h1 _ (akb hi),λh0=>?_⟩,aaV⟩;have e:∀k(hk:k<d.length),bZ d k=d[k]:=λk hk=>by unfold bZ;rw[auF,auJ hk];rfl
  rw[e i hi,e (i-1) aaV];exact awL.1 h2 (i-1) i aaV hi aaV
def Gu(x:AL):aQ:=(x.2.1,x.2.2.1,x.2.2.2.1,x.2.2.2.2.1,x.2.2.2.2.2.1,())
def aeA(x:AL):Int:=x.2.2.2.2.2.2.1
def Ik(x:AL):bf:=(x.2.2.2.2.2.2.2.1,x.2.2.2.2.2.2.2.2.1,())
end Sp
namespace Sp
open Go
def IY(a:aY):Bool:=dm a.1&&(bI a.2.1 a.2.2.1 a.2.2.2.1&&!(a.2.1==0))
def BV(f:aQ):Bool:=f.2.2.2.2.1.all IY&&(dX f.1&&(dX f.2.1&&dX f.2.2.2.1))
def dQ:List aY->List Bytes
 |[]=>[]
 |a::r=>a.1::bg a.2::dQ r
def jy(f:aQ):List Bytes:=Lib.itoa f.2.1::(bif f.2.2.1 then[115]else[111])::Lib.itoa f.2.2.2.1::dQ f.2.2.2.2.1
def noF:aQ:=(0,0,false,0,[],())
def am2(q:List ak):Bool:=ax q&&decide (fJ (textOf q)=q)
def aly(x:AL):Bool:=(Ik x).1==[]&&(Ik x).2.1.isEmpty
def aoo(x:AL):List Bytes:=
 bif x.1==1&&(BV (Gu x)&&((Gu x).1==0&&(aeA x==0&&aly x)))then aok::jy (Gu x)
 else bif x.1==2&&(BV (Gu x)&&(aeA x==0&&aly x))then aol::Lib.itoa (Gu x).1::jy (Gu x)
 else bif x.1==3&&(decide (Gu x=noF)&&(dX (aeA x)&&aly x))then[aom,Lib.itoa (aeA x)]
 else bif x.1==4&&(decide (Gu x=noF)&&(aeA x==0&&(aS (Ik x).1&&am2 (Ik x).2.1)))then aon::(Ik x).1::bV 9 (Ik x).2.1 (((Ik x).2.1.length:Int)-1)
 else bif x.1==5&&(decide (Gu x=noF)&&(aeA x==0&&(aS (Ik x).1&&(Ik x).2.1.isEmpty)))then[alx,(Ik x).1]
 else[]
def aft(x:AL):Bytes:=Lib.join (aoo x) [32]
theorem kU{s:Bytes}(h:dm s=true):aS s=true:=by unfold dm at h;unfold aS;rw[auC,auC,auP,auP]at h ⊢;exact⟨h.1,aaV⟩
theorem tq{s:Bytes}(h:aS s=true):fine s:=by refine⟨ajn h,?_⟩;unfold aS lower at h;rw[auC,auC,auY]at h;rw[auY];intro b hb;have:=h.1.1 b hb;rw[auC,auP,auP]at this;rw[zZ];omega
theorem aiA{v:DX}(h:bI v.1 v.2.1 v.2.2.1=true)(h0:v.1≠0):fine (bg v):=by
 unfold bg;rw[h];rcases als h h0 with⟨n,rfl,a,b⟩|⟨s,rfl,a⟩
 .exact IX (by unfold dX;rw[auS a,auS (show n<=1000000000 from aaV)];rfl)
 .exact tq a
theorem Gv{a:aY}:IY a=true↔dm a.1=true/\bI a.2.1 a.2.2.1 a.2.2.2.1=true/\a.2.1≠0:=by unfold IY;rw[auC,auC,awg,auD]
theorem xq{f:aQ}:BV f=true↔(∀a∈f.2.2.2.2.1,IY a=true)/\dX f.1=true/\dX f.2.1=true/\dX f.2.2.2.1=true:=by unfold BV;rw[auC,auC,auC,auY]
theorem acY:∀as:List aY,(∀a∈as,IY a=true)->∀y∈dQ as,fine y
 |[],_,y,hy=>arZ
 |a::r,h,y,hy=>by
  obtain⟨h1,h2,h3⟩:=Gv.1 (h a auO);rcases auQ.1 hy with rfl|hy
  .exact tq (kU h1)
  rcases auQ.1 hy with rfl|hy
  .exact aiA h2 h3
  .exact acY r (λb hb=>h b (auM _ hb)) y hy
theorem apK(b:Bool):fine (bif b then[115]else[111]):=by cases b<;>exact⟨⟨abV,abV⟩,abV⟩
theorem am3{f:aQ}(h:BV f=true):∀y∈jy f,fine y:=by
 obtain⟨h1,h2,h3,h4⟩:=xq.1 h;intro y hy;rcases auQ.1 hy with rfl|hy
 .exact IX h3
 rcases auQ.1 hy with rfl|hy
 .exact apK _
 rcases auQ.1 hy with rfl|hy
 .exact IX h4
 .exact acY _ h1 y hy
theorem am4{n:ak}(h:dM n 0=true)(hw:n.1=1\/n.1=2\/n.1=3\/n.1=4\/n.1=8\/n.1=9):n.1=1\/fine n.2.2.2.1:=by
 obtain⟨op,l,r,s,k,m,t,⟨⟩⟩:=n;dsimp only at hw ⊢;rcases hw with rfl|rfl|rfl|rfl|rfl|rfl
 .exact .inl rfl
 .have h:((l==0&&r==0)&&(k==0&&(m==0&&t==[]))&&dm s)=true:=h;rw[auC]at h;exact .inr (tq (kU h.2))
 .have h:((l==0&&r==0)&&dm s&&bI k m t&&!(k==0))=true:=h;rw[auC,auC,auC]at h;exact .inr (tq (kU h.1.1.2))
 .have h:((l==0&&r==0)&&dm s&&bI k m t&&k==1)=true:=h;rw[auC,auC,auC]at h;exact .inr (tq (kU h.1.1.2))
 .have h:((l==0&&r==0)&&(k==0&&(m==0&&t==[]))&&aS s)=true:=h;rw[auC]at h;exact .inr (tq h.2)
 .have h:((l==0&&r==0)&&(k==0&&(m==0&&t==[]))&&aS s)=true:=h;rw[auC]at h;exact .inr (tq h.2)
theorem LU(op:Int):fine (fP op):=by unfold fP;cases op==1<;>cases op==2<;>cases op==3<;>cases op==4<;>cases op==5<;>cases op==6<;>cases op==7<;>cases op==8<;>cases op==9<;>exact⟨⟨abV,abV⟩,abV⟩
theorem DZ:∀t:QT,xu t->zq t->∀y∈aF t,fine y
 |.leaf n,hw,ho,y,hy=>by
  have hg:=am4 ho hw;have hy:y∈jB n:=hy;rcases xw ho hw with rfl|⟨op,s,rfl,c,hs⟩|⟨op,s,v,rfl,c,hs,hv,h0⟩
  .have:y=fP 1:=au0.1 hy;rw[this];exact LU 1
  .rw[CS c]at hy;rcases auQ.1 hy with rfl|hy
   .exact LU op
   .rw[au0.1 hy];exact hg.resolve_left afb
  .rw[Fa c]at hy;rcases auQ.1 hy with rfl|hy
   .exact LU op
   rcases auQ.1 hy with rfl|hy
   .exact hg.resolve_left afb
   .rw[au0.1 hy];exact aiA hv h0
 |.neg t,hw,ho,y,hy=>by
  rcases auQ.1 (show y∈fP 5::aF t from hy)with rfl|hy
  .exact LU 5
  .exact DZ t hw ho y hy
 |.two op a b,⟨_,w1,w2⟩,⟨o1,o2⟩,y,hy=>by
  rcases auQ.1 (show y∈fP op::(aF a++aF b)from hy)with rfl|hy
  .exact LU op
  rcases au4.1 hy with hy|hy
  .exact DZ a w1 o1 y hy
  .exact DZ b w2 o2 y hy
end Sp
namespace Sp
open Go
def iI:LS->List aY
 |[]=>[]
 |[x]=>[(x.1,(aU []).1)]
 |x::y::r=>(x.1,(aU y.1).1)::iI r
def uM:LS->Bool
 |[]=>true
 |[_]=>true
 |_::y::r=>(aU y.1).2&&uM r
def CP(id:Int)(r:LS):aQ:=(id,numAt r 0,wordAt r 1==[115],numAt r 2,iI (r.drop 3),())
def jw(w:LS):aQ×Bool:=
 bif decide ((w.length:Int)<4)||!(w.length%2==0)then(noF,false)
 else(CP (numAt w 0) (w.drop 1),(aW (wordAt w 0)&&(aW (wordAt w 1)&&aW (wordAt w 3)))&&uM (w.drop 4))
theorem JZ:∀as:List aY,(∀a∈as,IY a=true)->iI (ls (dQ as))=as/\uM (ls (dQ as))=true/\(dQ as).length=2*as.length
 |[],_=>⟨rfl,rfl,rfl⟩
 |a::r,h=>by
  obtain⟨h1,h2,h3⟩:=Gv.1 (h a auO);obtain⟨i1,i2,i3⟩:=JZ r λb hb=>h b (auM _ hb);have e:=OT (v:=a.2) h2 h3;refine⟨?_,?_,?_⟩
  .show(a.1,(aU (bg a.2)).1)::iI (ls (dQ r))=_;rw[e,i1]
  .show((aU (bg a.2)).2&&uM (ls (dQ r)))=true;rw[e,i2];rfl
  .show(dQ r).length+1+1=2*(r.length+1);omega
theorem word2(x:Bytes×Unit)(y:Bytes×Unit)(r:LS):wordAt (x::y::r) 1=y.1:=by rw[JX,eH]
theorem ao0(x y z:Bytes×Unit)(r:LS):wordAt (x::y::z::r) 2=z.1:=by rw[show(2:Int)=1+1 from rfl,DY _ _ 1 abV,word2]
theorem arJ(x y z u:Bytes×Unit)(r:LS):wordAt (x::y::z::u::r) 3=u.1:=by rw[show(3:Int)=2+1 from rfl,DY _ _ 2 abV,ao0]
theorem afu{f:aQ}(h:BV f=true)(id:Int):CP id (ls (jy f))=(id,f.2):=by
 obtain⟨h1,h2,h3,h4⟩:=xq.1 h;obtain⟨i0,o,s,l,as,⟨⟩⟩:=f;have e0:numAt (ls (jy (i0,o,s,l,as,()))) 0=o:=by show parseNum (wordAt ((Lib.itoa o,())::_) 0)=o;rw[eH];exact(o6 h3).2
 have e1:(wordAt (ls (jy (i0,o,s,l,as,()))) 1==[115])=s:=by show(wordAt ((Lib.itoa o,())::((bif s then[115]else[111]),())::_) 1==[115])=s;rw[word2];cases s<;>rfl
 have e2:numAt (ls (jy (i0,o,s,l,as,()))) 2=l:=by show parseNum (wordAt ((Lib.itoa o,())::((bif s then[115]else[111]),())::(Lib.itoa l,())::_) 2)=l;rw[ao0];exact(o6 h4).2
 have e3:iI ((ls (jy (i0,o,s,l,as,()))).drop 3)=as:=(JZ as h1).1;unfold CP;rw[e0,e1,e2,e3]
theorem alz{f:aQ}(h:BV f=true):jw ((Lib.itoa f.1,())::ls (jy f))=(f,true):=by
 obtain⟨h1,h2,h3,h4⟩:=xq.1 h;obtain⟨_,a2,a3⟩:=JZ _ h1;have hl:((Lib.itoa f.1,())::ls (jy f)).length=4+2*f.2.2.2.2.1.length:=by show((Lib.itoa f.1,())::((Lib.itoa f.2.1,())::((bif f.2.2.1 then[115]else[111]),())::(Lib.itoa f.2.2.2.1,())::ls (dQ f.2.2.2.2.1))).length=_;rw[auE,auE,auE,auE];unfold ls;rw[auV];omega
 have e0:wordAt ((Lib.itoa f.1,())::ls (jy f)) 0=Lib.itoa f.1:=eH _ _;have e1:wordAt ((Lib.itoa f.1,())::ls (jy f)) 1=Lib.itoa f.2.1:=word2 _ _ _;have e3:wordAt ((Lib.itoa f.1,())::ls (jy f)) 3=Lib.itoa f.2.2.2.1:=arJ _ _ _ _ _;have ev:uM (((Lib.itoa f.1,())::ls (jy f)).drop 4)=true:=a2;have ef:CP (numAt ((Lib.itoa f.1,())::ls (jy f)) 0) (((Lib.itoa f.1,())::ls (jy f)).drop 1)=f:=by show CP (numAt _ 0) (ls (jy f))=f;rw[afu h];unfold numAt;rw[e0,(o6 h2).2]
 unfold jw;rw[hl,e0,e1,e3,ev,ef,(o6 h2).1,(o6 h3).1,(o6 h4).1,auU aaV,show((4+2*f.2.2.2.2.1.length)%2==0)=true from au5.2 aaV];rfl
def passes(x:AL)(w:LS):Prop:=aft x≠[]/\aft x=gm w
end Sp
namespace Sp
open Go
def bC(b:UInt8):Bytes->Bytes->LS
 |cur,[]=>[(cur,())]
 |cur,x::l=>bif x==b then(cur,())::bC b [] l else bC b (cur++[x]) l
def pieces(b:UInt8)(s:Bytes):LS:=bC b [] s
theorem Xl:∀(l cur:Bytes),bC 10 cur l=Qw cur l
 |[],_=>rfl
 |x::l,cur=>by
  show(bif x==10 then(cur,())::bC 10 [] l else bC 10 (cur++[x]) l)=bif x==10 then(cur,())::Qw [] l else Qw (cur++[x]) l
  rw[Xl l [],Xl l (cur++[x])]
theorem OU{b:UInt8}:∀(w cur l:Bytes),(∀x∈w,x≠b)->bC b cur (w++l)=bC b (cur++w) l
 |[],cur,l,_=>by rw[au7];rfl
 |x::w,cur,l,h=>by have hx:(x==b)=false:=auD.2 (h x auO);show(bif x==b then(cur,())::bC b [] (w++l)else bC b (cur++[x]) (w++l))=_;rw[hx];show bC b (cur++[x]) (w++l)=_;rw[OU w (cur++[x]) l λy hy=>h y (auM _ hy),auR];rfl
theorem acZ{b:UInt8}{w:Bytes}(h:∀x∈w,x≠b)(l:Bytes):pieces b (w++b::l)=(w,())::pieces b l:=by unfold pieces;rw[OU w [] (b::l) h,avx];show(bif b==b then _ else _)=_;rw[awk];rfl
theorem Zg{b:UInt8}{w:Bytes}(h:∀x∈w,x≠b):pieces b w=[(w,())]:=by have:=OU w [] [] h;rw[au7,avx]at this;exact this
theorem jD(x y:Bytes)(r:List Bytes):Lib.join (x::y::r) [32]=x++32::Lib.join (y::r) [32]:=by rw[Lib.join_cons,Lib.join_cons];show x++([32]++y++Lib.joinTail [32] r)=_;rw[auR];rfl
theorem Zh:∀(ws:List Bytes),ws≠[]->(∀w∈ws,∀x∈w,x≠32)->pieces 32 (Lib.join ws [32])=ls ws
 |[],h,_=>(h rfl).elim
 |[w],_,h=>by
  have e:Lib.join [w] [32]=w:=by rw[Lib.join_cons];exact au7 w
  rw[e];exact Zg (h w auO)
 |w::y::r,_,h=>by rw[jD,acZ (h w auO),Zh (y::r) abZ λv hv=>h v (auM _ hv)];rfl
theorem LK(b:UInt8):∀(l cur:Bytes),0<(bC b cur l).length
 |[],_=>Nat.one_pos
 |x::l,cur=>by
  show 0<(bif x==b then(cur,())::bC b [] l else bC b (cur++[x]) l).length;cases x==b with
  |true=>exact av5 _
  |false=>exact LK b l _
def fK:List aY->Bytes
 |[]=>[]
 |a::r=>32::(a.1++32::(bg a.2++fK r))
theorem Tc:∀as:List aY,Lib.joinTail [32] (dQ as)=fK as
 |[]=>rfl
 |a::r=>by show[32]++a.1++([32]++bg a.2++Lib.joinTail [32] (dQ r))=_;rw[Tc r];show _=32::(a.1++32::(bg a.2++fK r));simp
theorem amR{as:List aY}{n:Nat}(h:n<as.length):fK (as.take (n+1))=fK (as.take n)++32::((as.getD n ([],0,0,[],())).1++32::bg (as.getD n ([],0,0,[],())).2):=by
 induction as generalizing n with
 |nil=>exact absurd h (avE _)
 |cons a r ih=>
  cases n with
  |zero=>
   show 32::(a.1++32::(bg a.2++[]))=[]++32::(a.1++32::bg a.2);rw[au7];rfl
  |succ n=>
   have h:n<r.length:=by rw[auE]at h;omega
   show 32::(a.1++32::(bg a.2++fK (r.take (n+1))))=(32::(a.1++32::(bg a.2++fK (r.take n))))++_;rw[ih h];show _=32::(a.1++32::(bg a.2++fK (r.take n)))++32::((r.getD n ([],0,0,[],())).1++32::bg (r.getD n ([],0,0,[],())).2);simp
theorem afn(f:aQ):Lib.join (jy f) [32]=Lib.itoa f.2.1++32::((bif f.2.2.1 then[115]else[111])++32::(Lib.itoa f.2.2.2.1++fK f.2.2.2.2.1)):=by unfold jy;rw[jD,jD,Lib.join_cons,Tc]
def jY:Bytes:=[102,105,108,101]
def fU(f:aQ):Bytes:=Lib.join (jY::Lib.itoa f.1::jy f) [32]
end Sp
namespace Sp
open Go
theorem join_one(x:Bytes):Lib.join [x] [32]=x:=by rw[Lib.join_cons];exact au7 x
theorem aiB:∀(a:List Bytes)(y:Bytes)(b:List Bytes),a≠[]->Lib.join (a++y::b) [32]=Lib.join a [32]++32::Lib.join (y::b) [32]
 |[],_,_,h=>(h rfl).elim
 |[x],y,b,_=>by rw[join_one];exact jD x y b
 |x::z::a,y,b,_=>by show Lib.join (x::z::(a++y::b)) [32]=_;rw[jD,jD];have:=aiB (z::a) y b abZ;rw[show z::(a++y::b)=(z::a)++y::b from rfl,this,auR];rfl
theorem aco(x:Bytes){a:List Bytes}(h:a≠[]):Lib.join [x,Lib.join a [32]] [32]=Lib.join (x::a) [32]:=by
 cases a with
 |nil=>exact(h rfl).elim
 |cons y r=>rw[jD,join_one,jD]
theorem acp(x:Bytes){a b:List Bytes}(h:a≠[])(g:b≠[]):Lib.join [x,Lib.join a [32],Lib.join b [32]] [32]=Lib.join (x::(a++b)) [32]:=by
 cases a with
 |nil=>exact(h rfl).elim
 |cons y r=>
  cases b with
  |nil=>exact(g rfl).elim
  |cons z s=>have:=aiB (y::r) z s abZ;rw[jD,jD,join_one];show _=Lib.join (x::y::(r++z::s)) [32];rw[jD];show _=x++32::Lib.join ((y::r)++z::s) [32];rw[this]
theorem J5(k:Nat)(q:List ak)(i:Int):bV (k+1) q i≠[]:=by
 rw[bV];cases (nodeAt q i.toNat).1==5 with
 |true=>exact axs _ _
 |false=>
  cases (nodeAt q i.toNat).1==6||(nodeAt q i.toNat).1==7 with
  |true=>exact axs _ _
  |false=>exact axs _ _
theorem aeB{n:ak}{a:Int}(h:dM n a=true)(c:n.1=5):0<=n.2.1/\n.2.1<a:=by obtain⟨op,l,r,s,k,m,t,⟨⟩⟩:=n;have c:op=5:=c;subst c;have h:((decide (0<=l)&&decide (l<=a-1)&&decide (0<a))&&r==0&&(s==[]&&(k==0&&(m==0&&t==[]))))=true:=h;rw[auC,auC,auC,auC,auP,auP]at h;have h1:=h.1.1.1;dsimp only;omega
theorem aeC{n:ak}{a:Int}(h:dM n a=true)(c:n.1=6\/n.1=7):(0<=n.2.1/\n.2.1<a)/\0<=n.2.2.1/\n.2.2.1<a:=by
 obtain⟨op,l,r,s,k,m,t,⟨⟩⟩:=n;have h:((decide (0<=l)&&decide (l<=a-1)&&decide (0<a))&&(decide (0<=r)&&decide (r<=a-1))&&(s==[]&&(k==0&&(m==0&&t==[]))))=true:=by
  rcases c with c|c
  .have c:op=6:=c;subst c;exact h
  .have c:op=7:=c;subst c;exact h
 simp only[auC,auP]at h;have h1:=h.1.1.1;have h2:=h.1.2;dsimp only;omega
theorem BQ{q:List ak}(h:ax q=true):∀(k j:Nat)(i:Int),0<=i->i.toNat<q.length->i.toNat<k->i.toNat<j->bV k q i=bV j q i
 |0,_,_,_,_,hk,_=>absurd hk (avE _)
 |_+1,0,_,_,_,_,hj=>absurd hj (avE _)
 |k+1,j+1,i,hi,hl,hk,hj=>by
  have hn:=(jJ h hl).1;rw[bV,bV];cases c5:(nodeAt q i.toNat).1==5 with
  |true=>
   have hc:=aeB hn (au5.1 c5);show _::bV k q _=_::bV j q _;rw[BQ h k j (nodeAt q i.toNat).2.1 hc.1 aaV aaV aaV]
  |false=>
  cases c6:(nodeAt q i.toNat).1==6||(nodeAt q i.toNat).1==7 with
  |true=>
   rw[avK,au5,au5]at c6;have hc:=aeC hn c6;show _::(bV k q _++bV k q _)=_::(bV j q _++bV j q _);rw[BQ h k j (nodeAt q i.toNat).2.1 hc.1.1 aaV aaV aaV,BQ h k j (nodeAt q i.toNat).2.2.1 hc.2.1 aaV aaV aaV]
  |false=>rfl
def qR(w:List Bytes):Nat:=(w.map λx=>x.length+1).sum
theorem IZ:∀w:List Bytes,(Lib.join w [32]).length<=qR w
 |[]=>auH _
 |[x]=>by rw[join_one];show x.length<=x.length+1+0;omega
 |x::y::r=>by have:=IZ (y::r);rw[jD,auB,auE];show _<=x.length+1+qR (y::r);omega
theorem fM(x:Bytes)(r:List Bytes):qR (x::r)=x.length+1+qR r:=by unfold qR;rw[auX,avC]
theorem aiC(a b:List Bytes):qR (a++b)=qR a+qR b:=by unfold qR;rw[avA,awt]
theorem Xm(op:Int):(fP op).length<=6:=by unfold fP;cases op==1<;>cases op==2<;>cases op==3<;>cases op==4<;>cases op==5<;>cases op==6<;>cases op==7<;>cases op==8<;>cases op==9<;>decide
theorem akc{v:DX}(h:bI v.1 v.2.1 v.2.2.1=true)(h0:v.1≠0):(bg v).length<=10:=by
 unfold bg;rw[h];rcases als h h0 with⟨n,rfl,a,b⟩|⟨s,rfl,a⟩
 .exact aaM (by unfold dX;rw[auS a,auS (show n<=1000000000 from aaV)];rfl)
 .exact auK (qy a) abV
theorem aiD{n:ak}(h:dM n 0=true)(hw:n.1=1\/n.1=2\/n.1=3\/n.1=4\/n.1=8\/n.1=9):qR (jB n)<=25:=by
 have hg:n.1=1\/n.2.2.2.1.length<=6:=by
  obtain⟨op,l,r,s,k,m,t,⟨⟩⟩:=n;dsimp only at hw ⊢;rcases hw with rfl|rfl|rfl|rfl|rfl|rfl
  .exact .inl rfl
  .have h:((l==0&&r==0)&&(k==0&&(m==0&&t==[]))&&dm s)=true:=h;rw[auC]at h;exact .inr (qy (kU h.2))
  .have h:((l==0&&r==0)&&dm s&&bI k m t&&!(k==0))=true:=h;rw[auC,auC,auC]at h;exact .inr (qy (kU h.1.1.2))
  .have h:((l==0&&r==0)&&dm s&&bI k m t&&k==1)=true:=h;rw[auC,auC,auC]at h;exact .inr (qy (kU h.1.1.2))
  .have h:((l==0&&r==0)&&(k==0&&(m==0&&t==[]))&&aS s)=true:=h;rw[auC]at h;exact .inr (qy h.2)
  .have h:((l==0&&r==0)&&(k==0&&(m==0&&t==[]))&&aS s)=true:=h;rw[auC]at h;exact .inr (qy h.2)
 rcases xw h hw with rfl|⟨op,s,rfl,c,hs⟩|⟨op,s,v,rfl,c,hs,hv,h0⟩
 .decide
 .have hl:s.length<=6:=hg.resolve_left afb;have hk:=Xm op;rw[CS c,fM,fM];show _+(_+0)<=25;omega
 .have hl:s.length<=6:=hg.resolve_left afb;have hk:=Xm op;have hq:=akc hv h0;rw[Fa c,fM,fM,fM];show _+(_+(_+0))<=25;omega
theorem I4{q:List ak}(h:ax q=true):∀(k:Nat)(i:Int),0<=i->i.toNat<q.length->qR (bV k q i)+7<=24*2 ^ k
 |0,_,_,_=>by show 0+7<=24*1;decide
 |k+1,i,hi,hl=>by
  have hn:=(jJ h hl).1;have hk:=Xm (nodeAt q i.toNat).1;have hp:1<=2 ^ k:=axh;have e2:2 ^ (k+1)=2*2 ^ k:=by rw[Nat.pow_succ,axf]
  rw[bV];cases c5:(nodeAt q i.toNat).1==5 with
  |true=>
   have hc:=aeB hn (au5.1 c5);have ih:=I4 h k (nodeAt q i.toNat).2.1 hc.1 aaV;show qR (_::_)+7<=_;rw[fM];omega
  |false=>
  cases c6:(nodeAt q i.toNat).1==6||(nodeAt q i.toNat).1==7 with
  |true=>
   rw[avK,au5,au5]at c6;have hc:=aeC hn c6;have i1:=I4 h k (nodeAt q i.toNat).2.1 hc.1.1 aaV;have i2:=I4 h k (nodeAt q i.toNat).2.2.1 hc.2.1 aaV;show qR (_::(_++_))+7<=_;rw[fM,aiC];omega
  |false=>
   rw[avR,auD,auD]at c6;have c5:=auD.1 c5;have hw:(nodeAt q i.toNat).1=1\/(nodeAt q i.toNat).1=2\/(nodeAt q i.toNat).1=3\/(nodeAt q i.toNat).1=4\/(nodeAt q i.toNat).1=8\/(nodeAt q i.toNat).1=9:=by
    generalize nodeAt q i.toNat=n at hn c5 c6;obtain⟨op,l,r,s,k,m,t,⟨⟩⟩:=n;dsimp only at c5 c6 ⊢;by_cases a1:op=1
    .exact .inl a1
    by_cases a2:op=2
    .exact .inr (.inl a2)
    by_cases a3:op=3
    .exact .inr (.inr (.inl a3))
    by_cases a4:op=4
    .exact .inr (.inr (.inr (.inl a4)))
    by_cases a8:op=8
    .exact .inr (.inr (.inr (.inr (.inl a8))))
    by_cases a9:op=9
    .exact .inr (.inr (.inr (.inr (.inr a9))))
    unfold dM at hn;dsimp only at hn;rw[auD.2 a1,auD.2 a2,auD.2 a3,auD.2 a4,auD.2 c5,auD.2 c6.1,auD.2 c6.2,auD.2 a8,auD.2 a9]at hn;cases hn
   have:=aiD (by rw[← Ij _ hw];exact hn) hw;show qR (jB _)+7<=_;omega
theorem acK(q:List ak):(textOf q).length<=12288:=by
 unfold textOf;cases h:ax q with
 |false=>exact auZ _
 |true=>have hl:=gQ h;have:=I4 h 9 ((q.length:Int)-1) aaV aaV;exact auK (IZ _) (by show qR (bV 9 q _)<=12288;omega)
end Sp
namespace Sp
open Go
end Sp
namespace Sp
open Go
theorem BZ:∀t:QT,xu t->zq t->(aF t).length<=2*t.size+1/\qR (aF t)<=32*t.size
 |.leaf n,hw,ho=>by
  have h:=aiD ho hw;refine⟨?_,show qR (jB n)<=32*1 from aaV⟩;show(jB n).length<=2*1+1;unfold jB;cases n.1==2||(n.1==8||n.1==9)with
  |true=>show 2<=3;decide
  |false=>
   cases n.1==3||n.1==4 with
   |true=>show 3<=3;decide
   |false=>show 1<=3;decide
 |.neg t,hw,ho=>by
  obtain⟨h1,h2⟩:=BZ t hw ho;have:=Xm 5;refine⟨?_,?_⟩
  .show(aF t).length+1<=2*(t.size+1)+1;omega
  .show qR (fP 5::aF t)<=32*(t.size+1);rw[fM];omega
 |.two op a b,⟨_,w1,w2⟩,⟨o1,o2⟩=>by
  obtain⟨h1,h2⟩:=BZ a w1 o1;obtain⟨h3,h4⟩:=BZ b w2 o2;have:=Xm op;refine⟨?_,?_⟩
  .show(aF a++aF b).length+1<=2*(a.size+b.size+1)+1;rw[auB];omega
  .show qR (fP op::(aF a++aF b))<=32*(a.size+b.size+1);rw[fM,aiC];omega
theorem S9:∀as:List aY,(∀a∈as,IY a=true)->qR (dQ as)<=18*as.length
 |[],_=>auH _
 |a::r,h=>by obtain⟨h1,h2,h3⟩:=Gv.1 (h a auO);have i:=S9 r λb hb=>h b (auM _ hb);have l1:=qy (kU h1);have l2:=akc (v:=a.2) h2 h3;show qR (a.1::bg a.2::dQ r)<=18*(r.length+1);rw[fM,fM];omega
theorem am5{f:aQ}(h:BV f=true):qR (jy f)<=24+18*f.2.2.2.2.1.length/\(jy f).length=3+2*f.2.2.2.2.1.length:=by
 obtain⟨h1,h2,h3,h4⟩:=xq.1 h;have i:=S9 _ h1;have l1:=aaM h3;have l2:=aaM h4;have l3:(bif f.2.2.1 then[115]else[111]:Bytes).length=1:=by cases f.2.2.1<;>rfl
 refine⟨?_,?_⟩
 .show qR (Lib.itoa f.2.1::(bif f.2.2.1 then[115]else[111])::Lib.itoa f.2.2.2.1::dQ f.2.2.2.2.1)<=_;rw[fM,fM,fM];omega
 .show(dQ f.2.2.2.2.1).length+1+1+1=_;rw[(JZ _ h1).2.2];omega
end Sp
namespace Sp
open Go
end Sp
namespace Sp
open Go
end Sp
namespace Sp
open Go
theorem tJ(w:LS)(a i:Int)(ha:0<=a)(hi:0<=i):wordAt (w.drop a.toNat) i=wordAt w (a+i):=by
 by_cases h:a+i<(w.length:Int)
 .rw[pK h,pK amr,auF,avg,auF,show a.toNat+i.toNat=(a+i).toNat from aaV]
 .rw[pO (show a+i>=(w.length:Int)from aaV),pO amr]
theorem NS:∀(d:Nat)(w:LS)(q:List ak),(rs d w q).1.length<=max (10+d) q.length/\0<=(rs d w q).2/\(rs d w q).2<3*2 ^ d
 |0,w,q=>⟨Nat.le_max_right _ _,avt _,by show(0:Int)<_;decide⟩
 |d+1,w,q=>by
  have hp:1<=2 ^ d:=axh;have e2:(3:Int)*2 ^ (d+1)=2*(3*2 ^ d):=by rw[Int.pow_succ];omega
  have e3:(1:Int)<=2 ^ d:=by exact_mod_cast hp
  rw[rs];cases h0:dw (wordAt w 0)==0||decide ((q.length:Int)>9)with
  |true=>exact⟨Nat.le_max_right _ _,avt _,by show(0:Int)<_;omega⟩
  |false=>
  rw[avR,avi]at h0;have hq:q.length<=9:=aaV;have one:∀(x:ak)(k:Int),0<=k->k<=3->(q++[x],k).1.length<=max (10+(d+1)) q.length/\0<=(q++[x],k).2/\(q++[x],k).2<3*2 ^ (d+1):=λx k h1 h2=>
   ⟨by rw[auB,auE,auI];omega,h1,by show k<_;omega⟩
  cases dw (wordAt w 0)==2||(dw (wordAt w 0)==8||dw (wordAt w 0)==9)with
  |true=>exact one _ _ abV abV
  |false=>
  cases dw (wordAt w 0)==3||dw (wordAt w 0)==4 with
  |true=>exact one _ _ abV abV
  |false=>
  cases dw (wordAt w 0)==5||(dw (wordAt w 0)==6||dw (wordAt w 0)==7)with
  |false=>exact one _ _ abV abV
  |true=>
  have i1:=NS d (w.drop 1) q;show(bif (rs d (w.drop 1) q).2==0 then _ else _:List ak×Int).1.length<=_/\0<=(bif (rs d (w.drop 1) q).2==0 then _ else _:List ak×Int).2/\(bif (rs d (w.drop 1) q).2==0 then _ else _:List ak×Int).2<_;generalize rs d (w.drop 1) q=x at i1 ⊢;obtain⟨r,k⟩:=x;have i1:r.length<=max (10+d) q.length/\0<=k/\k<3*2 ^ d:=i1;have i2:=NS d (w.drop (1+k).toNat) r;cases k==0 with
  |true=>exact⟨by show r.length<=_;omega,avt _,by show(0:Int)<_;omega⟩
  |false=>
  cases dw (wordAt w 0)==5 with
  |true=>exact⟨by show(r++[_]).length<=_;rw[auB,auE,auI];omega,by show 0<=1+k;omega,by show 1+k<_;omega⟩
  |false=>
  show(bif (rs d (w.drop (1+k).toNat) r).2==0 then _ else _:List ak×Int).1.length<=_/\0<=(bif (rs d (w.drop (1+k).toNat) r).2==0 then _ else _:List ak×Int).2/\(bif (rs d (w.drop (1+k).toNat) r).2==0 then _ else _:List ak×Int).2<_;generalize rs d (w.drop (1+k).toNat) r=y at i2 ⊢;obtain⟨s,m⟩:=y;have i2:s.length<=max (10+d) r.length/\0<=m/\m<3*2 ^ d:=i2;cases m==0 with
  |true=>exact⟨by show s.length<=_;omega,avt _,by show(0:Int)<_;omega⟩
  |false=>exact⟨by show(s++[_]).length<=_;rw[auB,auE,auI];omega,by show 0<=1+k+m;omega,by show 1+k+m<_;omega⟩
theorem CQ{n:Int}(h:(-9223372036854775808:Int)<=n/\n<=9223372036854775807):(Lib.itoa n).length<=21:=Lib.itoa_length_le n h.1 h.2
theorem aes{as:List aY}{n:Nat}:(fK (as.take n)).length<=(fK as).length:=by
 induction as generalizing n with
 |nil=>rw[List.take_nil];exact auH _
 |cons a r ih=>
  cases n with
  |zero=>exact auZ _
  |succ n=>show(32::(a.1++32::(bg a.2++fK (r.take n)))).length<=(32::(a.1++32::(bg a.2++fK r))).length;have:=@ih n;simp only[auE,auB];omega
theorem aia{f:aQ}(h1:(-9223372036854775808:Int)<=f.1/\f.1<=9223372036854775807)(h2:(-9223372036854775808:Int)<=f.2.1/\f.2.1<=9223372036854775807)(h3:(-9223372036854775808:Int)<=f.2.2.2.1/\f.2.2.2.1<=9223372036854775807):
 (fU f).length<=80+(fK f.2.2.2.2.1).length/\(Lib.join (jy f) [32]).length<=47+(fK f.2.2.2.2.1).length:=by
 have q1:=CQ h1;have q2:=CQ h2;have q3:=CQ h3;have e0:(bif f.2.2.1 then[115]else[111]:Bytes).length=1:=by cases f.2.2.1<;>rfl
 have hb:(Lib.join (jy f) [32]).length<=47+(fK f.2.2.2.2.1).length:=by rw[afn];simp only[auE,auB,e0];omega
 refine⟨?_,hb⟩;have e:fU f=jY++32::(Lib.itoa f.1++32::Lib.join (jy f) [32]):=by unfold fU;rw[jD];unfold jy;rw[jD]
 rw[e];simp only[auE,auB,show jY.length=4 from rfl];omega
end Sp
namespace Sp
open Go
theorem Zi:∀(sep:List UInt8)(k:Nat)(s:List UInt8),∃h t,Lib.splitK sep 0 k s=h::t
 |_,0,s=>⟨s,[],rfl⟩
 |sep,k+1,s=>by
  unfold Lib.splitK;split
  .exact⟨_,_,rfl⟩
  .exact⟨_,_,rfl⟩
theorem aop(b c:UInt8)(l h:List UInt8)(t:List (List UInt8))(hb:b≠c)(e:Lib.splitK [c] 0 (Lib.count l [c]) l=h::t):Lib.splitK [c] 0 (Lib.count (b::l) [c]) (b::l)=(b::h)::t:=by
 rw[Lib.count_cons_ne b c l hb];have hp:([c]:List UInt8).isPrefixOf (b::l)=false:=by simp[List.isPrefixOf,aww hb]
 have hix:Lib.index (b::l) [c]=if Lib.index l [c]==-1 then -1 else Lib.index l [c]+1:=by rw[Lib.index,hp];simp
 cases hk:Lib.count l [c]with
 |zero=>rw[hk]at e;simp only[Lib.splitK,List.cons.injEq]at e ⊢;exact⟨⟨trivial,e.1⟩,e.2⟩
 |succ k=>
  rw[hk]at e;by_cases hm:Lib.index l [c]=-1
  .rw[Lib.count_miss hm]at hk;cases hk
  .have hge:=Lib.index_ge l [c];obtain⟨j,hj⟩:∃j:Nat,Lib.index l [c]=j:=⟨(Lib.index l [c]).toNat,aaV⟩;have hix':Lib.index (b::l) [c]=((j+1:Nat):Int):=by rw[hix,if_neg (λe=>hm (au5.1 e)),hj];omega
   simp only[Lib.splitK]at e ⊢;rw[hj,if_neg (λh=>by have:=au5.1 h;omega)]at e;rw[hix',if_neg (λh=>by have:=au5.1 h;omega)];simp only[List.cons.injEq,auW]at e ⊢;refine⟨?_,?_⟩
   .rw[← e.1];rfl
   .rw[← e.2];rfl
theorem aoq(c:UInt8)(l:List UInt8):Lib.splitK [c] 0 (Lib.count (c::l) [c]) (c::l)=[]::Lib.splitK [c] 0 (Lib.count l [c]) l:=by
 rw[Lib.count_cons_eq,axy];have hix:Lib.index (c::l) [c]=((0:Nat):Int):=by rw[Lib.index];simp[List.isPrefixOf]
 simp only[Lib.splitK];rw[hix,if_neg abZ];rfl
end Sp
namespace Sp
open Go
theorem H6(c:UInt8):∀(l cur h:Bytes)(t:List Bytes),Lib.splitK [c] 0 (Lib.count l [c]) l=h::t->(bC c cur l).map (·.1)=(cur++h)::t
 |[],cur,h,t,e=>by
  have h0:Lib.count [] [c]=0:=Lib.count_one c [];rw[h0]at e;simp only[Lib.splitK,List.cons.injEq]at e;rw[← e.1,← e.2,au7];rfl
 |b::l,cur,h,t,e=>by
  obtain⟨h',t',e'⟩:=Zi [c] (Lib.count l [c]) l;by_cases hb:b=c
  .obtain rfl:b=c:=hb;rw[aoq,List.cons.injEq]at e;have hl:bC b cur (b::l)=(cur,())::bC b [] l:=by rw[bC,awk];rfl
   rw[hl,auX,H6 b l [] h' t' e',← e.1,← e.2,e',au7,avx]
  .rw[aop b c l h' t' hb e',List.cons.injEq]at e;have hl:bC c cur (b::l)=bC c (cur++[b]) l:=by rw[bC,auD.2 hb];rfl
   rw[hl,H6 c l (cur++[b]) h' t' e',← e.1,← e.2,auR];rfl
theorem ahy(c:UInt8)(s:Bytes):(pieces c s).map (·.1)=Lib.split s [c]:=by obtain⟨h,t,e⟩:=Zi [c] (Lib.count s [c]) s;unfold pieces Lib.split;rw[H6 c s [] h t e,e,avx]
theorem OV(c:UInt8):∀(l cur:Bytes)(x:Bytes×Unit),x∈bC c cur l->x.1.length<=cur.length+l.length
 |[],cur,x,h=>by
  simp only[bC,au0]at h;subst h;simp
 |b::l,cur,x,h=>by
  rw[bC]at h;cases hb:b==c with
  |true=>
   rw[hb]at h;rcases auQ.1 h with rfl|h
   .simp
   .have:=OV c l [] x h;simp at this ⊢;omega
  |false=>rw[hb]at h;have:=OV c l (cur++[b]) x h;simp at this ⊢;omega
theorem BM{c:UInt8}{s:Bytes}:∀x∈pieces c s,x.1.length<=s.length:=λx hx=>by have:=OV c s [] x hx;simpa using this
theorem LV(c:UInt8):∀(l cur:Bytes),(bC c cur l).length<=l.length+1
 |[],cur=>auH _
 |b::l,cur=>by
  rw[bC];cases b==c with
  |true=>have:=LV c l [];show _+1<=_;simp;omega
  |false=>have:=LV c l (cur++[b]);show(bC c (cur++[b]) l).length<=_;simp;omega
theorem pieces_len(c:UInt8)(s:Bytes):(pieces c s).length<=s.length+1:=LV c s []
end Sp
namespace Sp
open Go
theorem NQ{n:ak}{a:Int}(hn:dM n a=true):(n.1=1\/n.1=2\/n.1=3\/n.1=4\/n.1=8\/n.1=9)\/n.1=5\/n.1=6\/n.1=7:=by
 obtain⟨op,l,r,s,k,m,t,⟨⟩⟩:=n;dsimp only;by_cases a1:op=1
 .omega
 by_cases a2:op=2
 .omega
 by_cases a3:op=3
 .omega
 by_cases a4:op=4
 .omega
 by_cases a5:op=5
 .omega
 by_cases a6:op=6
 .omega
 by_cases a7:op=7
 .omega
 by_cases a8:op=8
 .omega
 by_cases a9:op=9
 .omega
 unfold dM at hn;dsimp only at hn;rw[auD.2 a1,auD.2 a2,auD.2 a3,auD.2 a4,auD.2 a5,auD.2 a6,auD.2 a7,auD.2 a8,auD.2 a9]at hn;cases hn
theorem ajU{q:List ak}{i:Int}(k:Nat)(c:(nodeAt q i.toNat).1=1\/(nodeAt q i.toNat).1=2\/(nodeAt q i.toNat).1=3\/(nodeAt q i.toNat).1=4\/(nodeAt q i.toNat).1=8\/(nodeAt q i.toNat).1=9):bV (k+1) q i=jB (nodeAt q i.toNat):=by rw[bV,auD.2 (show(nodeAt q i.toNat).1≠5 from aaV),auD.2 (show(nodeAt q i.toNat).1≠6 from aaV),auD.2 (show(nodeAt q i.toNat).1≠7 from aaV)];rfl
theorem amL{q:List ak}{i:Int}(h:ax q=true)(h0:0<=i)(hl:i<(q.length:Int))(c:(nodeAt q i.toNat).1=5):
 bV (i.toNat+1) q i=fP 5::bV ((nodeAt q i.toNat).2.1.toNat+1) q (nodeAt q i.toNat).2.1/\0<=(nodeAt q i.toNat).2.1/\(nodeAt q i.toNat).2.1<i:=by
 have hn:=(jJ h (show i.toNat<q.length from aaV)).1;have hk:=aeB hn c;have hk2:(nodeAt q i.toNat).2.1<i:=by have:=hk.2;omega
 refine⟨?_,hk.1,hk2⟩;rw[bV,au5.2 c,c,BQ h i.toNat ((nodeAt q i.toNat).2.1.toNat+1) (nodeAt q i.toNat).2.1 hk.1 aaV aaV aaV];rfl
theorem amM{q:List ak}{i:Int}(h:ax q=true)(h0:0<=i)(hl:i<(q.length:Int))(c:(nodeAt q i.toNat).1=6\/(nodeAt q i.toNat).1=7):
 bV (i.toNat+1) q i=fP (nodeAt q i.toNat).1::(bV ((nodeAt q i.toNat).2.1.toNat+1) q (nodeAt q i.toNat).2.1++bV ((nodeAt q i.toNat).2.2.1.toNat+1) q (nodeAt q i.toNat).2.2.1)/\
  (0<=(nodeAt q i.toNat).2.1/\(nodeAt q i.toNat).2.1<i)/\0<=(nodeAt q i.toNat).2.2.1/\(nodeAt q i.toNat).2.2.1<i:=by
 have hn:=(jJ h (show i.toNat<q.length from aaV)).1;have hk:=aeC hn c;have e:((i.toNat:Nat):Int)=i:=aaV;rw[e]at hk;refine⟨?_,hk.1,hk.2⟩;have hc:((nodeAt q i.toNat).1==6||(nodeAt q i.toNat).1==7)=true:=by rcases c with c|c<;>rw[c]<;>rfl
 rw[bV,auD.2 (show(nodeAt q i.toNat).1≠5 from aaV),hc,BQ h i.toNat ((nodeAt q i.toNat).2.1.toNat+1) (nodeAt q i.toNat).2.1 hk.1.1 aaV aaV aaV,
  BQ h i.toNat ((nodeAt q i.toNat).2.2.1.toNat+1) (nodeAt q i.toNat).2.2.1 hk.2.1 aaV aaV aaV]
 rfl
theorem ah3{q:List ak}{i:Int}(h:ax q=true)(h0:0<=i)(hl:i<(q.length:Int)):(Lib.join (bV (i.toNat+1) q i) [32]).length<=12288:=by have:=(gQ h).2;have hw:=I4 h (i.toNat+1) i h0 aaV;have hp:2 ^ (i.toNat+1)<=2 ^ 9:=Nat.pow_le_pow_right abV aaV;refine auK (IZ _) ?_;have e:(2:Nat) ^ 9=512:=abV;omega
def Gn(w:Bytes):Nat->Int
 |0=>0
 |k+1=>bif w==fP ((k:Int)+1)then(k:Int)+1 else Gn w k
theorem acv(w:Bytes):Gn w 9=dw w:=by
 rcases Aa w with h|⟨h,e⟩
 .have no:∀op:Int,(op=1\/op=2\/op=3\/op=4\/op=5\/op=6\/op=7\/op=8\/op=9)->(w==fP op)=false:=λop ho=>auD.2 λe=>by rw[e,zu ho]at h;omega
  rw[h];simp only[Gn];rw[no _ abV,no _ abV,no _ abV,no _ abV,no _ abV,no _ abV,no _ abV,no _ abV,no _ abV];rfl
 .rw[← e];rcases h with h|h|h|h|h|h|h|h|h<;>rw[h]<;>decide
theorem acw(w:Bytes):0<=dw w/\dw w<=9:=by rcases Aa w with h|⟨h,_⟩<;>omega
theorem acC{as:List aY}{n:Nat}(h:n<as.length):dQ (as.take (n+1))=dQ (as.take n)++[(as.getD n ([],0,0,[],())).1,bg (as.getD n ([],0,0,[],())).2]:=by
 induction as generalizing n with
 |nil=>exact absurd h (avE _)
 |cons a r ih=>
  cases n with
  |zero=>rfl
  |succ n=>
   have h:n<r.length:=by rw[auE]at h;omega
   show a.1::bg a.2::dQ (r.take (n+1))=a.1::bg a.2::(dQ (r.take n)++_);rw[ih h];rfl
theorem Hw:∀as:List aY,(dQ as).length=2*as.length
 |[]=>rfl
 |a::r=>by show(dQ r).length+1+1=2*(r.length+1);rw[Hw r];omega
end Sp
namespace Sp
open Go
def I5(q:List ak):QT->Nat->Prop
 |.leaf n,i=>nodeAt q i=n/\(n.1=1\/n.1=2\/n.1=3\/n.1=4\/n.1=8\/n.1=9)
 |.neg t,i=>(nodeAt q i).1=5/\I5 q t (nodeAt q i).2.1.toNat
 |.two op a b,i=>(nodeAt q i).1=op/\(op=6\/op=7)/\I5 q a (nodeAt q i).2.1.toNat/\I5 q b (nodeAt q i).2.2.1.toNat
theorem ac0{q:List ak}:∀(t:QT)(i:Nat),I5 q t i->xu t
 |.leaf _,_,h=>h.2
 |.neg t,_,h=>ac0 t _ h.2
 |.two _ a b,_,h=>⟨h.2.1,ac0 a _ h.2.2.1,ac0 b _ h.2.2.2⟩
theorem apL{q:List ak}(h:ax q=true)(i:Nat)(hi:i<q.length):∃t,I5 q t i:=by
 induction i using Nat.strongRecOn with
 |_ i ih=>
  obtain⟨g1,g2⟩:=lY h hi;rcases NQ (jJ h hi).1 with c|c|c
  .exact⟨.leaf (nodeAt q i),rfl,c⟩
  .obtain⟨_,l⟩:=g1 (.inl c);obtain⟨t,ht⟩:=ih _ l aaV;exact⟨.neg t,c,ht⟩
  .obtain⟨_,l1⟩:=g1 (.inr (lG.2 c));obtain⟨_,l2⟩:=g2 (lG.2 c);obtain⟨a,ha⟩:=ih _ l1 aaV;obtain⟨b,hb⟩:=ih _ l2 aaV;exact⟨.two (nodeAt q i).1 a b,rfl,c,ha,hb⟩
theorem ac1{q:List ak}(h:ax q=true):∀(t:QT)(i:Nat),i<q.length->I5 q t i->zq t
 |.leaf n,i,hi,ht=>by
  obtain⟨rfl,c⟩:=ht;show dM (nodeAt q i) 0=true;rw[← Ij (i:Int) c];exact(jJ h hi).1
 |.neg t,i,hi,ht=>ac1 h t _ (by have:=((lY h hi).1 (.inl ht.1)).2;omega) ht.2
 |.two op a b,i,hi,⟨e,c,ha,hb⟩=>by have c:iT (nodeAt q i)=true:=lG.2 asb;exact⟨ac1 h a _ (by have:=((lY h hi).1 (.inr c)).2;omega) ha,ac1 h b _ (by have:=((lY h hi).2 c).2;omega) hb⟩
theorem TL{q:List ak}(h:ax q=true):∀(t:QT)(i k:Nat),i<q.length->i<k->I5 q t i->bV k q (i:Int)=aF t
 |_,_,0,_,hk,_=>absurd hk (avE _)
 |.leaf n,i,k+1,hi,hk,ht=>by
  obtain⟨rfl,c⟩:=ht;rw[bV,auW,show((nodeAt q i).1==5)=false from auD.2 aaV,show((nodeAt q i).1==6)=false from auD.2 aaV,show((nodeAt q i).1==7)=false from auD.2 aaV];rfl
 |.neg t,i,k+1,hi,hk,⟨e,ht⟩=>by
  obtain⟨l0,l1⟩:=(lY h hi).1 (.inl e);have ih:=TL h t _ k aaV aaV ht;rw[axE l0]at ih;rw[bV,auW,ih,e];rfl
 |.two op a b,i,k+1,hi,hk,⟨e,c,ha,hb⟩=>by have c2:iT (nodeAt q i)=true:=lG.2 asb;obtain⟨l0,l1⟩:=(lY h hi).1 (.inr c2);obtain⟨m0,m1⟩:=(lY h hi).2 c2;have i1:=TL h a _ k aaV aaV ha;have i2:=TL h b _ k aaV aaV hb;rw[axE l0]at i1;rw[axE m0]at i2;rw[bV,auW,i1,i2,e];rcases c with rfl|rfl<;>rfl
def vis(q:List ak):QT->Nat->List Nat
 |.leaf _,i=>[i]
 |.neg t,i=>i::vis q t (nodeAt q i).2.1.toNat
 |.two _ a b,i=>i::(vis q a (nodeAt q i).2.1.toNat++vis q b (nodeAt q i).2.2.1.toNat)
theorem XV{q:List ak}:∀(t:QT)(i:Nat),(vis q t i).length=t.size
 |.leaf _,_=>rfl
 |.neg t,_=>by rw[vis,auE,XV t];rfl
 |.two _ a b,_=>by rw[vis,auE,auB,XV a,XV b];rfl
theorem Qx{q:List ak}(h:ax q=true):∀(t:QT)(i:Nat),i<q.length->I5 q t i->∀p∈vis q t i,p<=i
 |.leaf _,i,_,_,p,hp=>by rw[au0.1 hp];exact auH _
 |.neg t,i,hi,⟨e,ht⟩,p,hp=>by
  obtain⟨_,l1⟩:=(lY h hi).1 (.inl e);rcases auQ.1 hp with rfl|hp
  .exact auH _
  .have:=Qx h t _ aaV ht p hp;omega
 |.two op a b,i,hi,⟨e,c,ha,hb⟩,p,hp=>by
  have c2:iT (nodeAt q i)=true:=lG.2 asb;obtain⟨_,l1⟩:=(lY h hi).1 (.inr c2);obtain⟨_,m1⟩:=(lY h hi).2 c2;rcases auQ.1 hp with rfl|hp
  .exact auH _
  rcases au4.1 hp with hp|hp
  .have:=Qx h a _ aaV ha p hp;omega
  .have:=Qx h b _ aaV hb p hp;omega
theorem Xn{n:ak}(j:Nat)(c:n.1=1\/n.1=2\/n.1=3\/n.1=4\/n.1=8\/n.1=9):refsOf j n=0:=by unfold refsOf iT;rcases c with e|e|e|e|e|e<;>simp[e]
theorem aaN{n:ak}(j:Nat)(c:n.1=5)(h0:0<=n.2.1):refsOf j n=if j=n.2.1.toNat then 1 else 0:=by
 unfold refsOf iT;by_cases e:j=n.2.1.toNat
 .have:n.2.1=(j:Int):=aaV;simp[c,this]
 .have:(n.2.1==(j:Int))=false:=auD.2 aaV;simp[c,this,e]
theorem aaO{n:ak}(j:Nat)(c:n.1=6\/n.1=7)(h0:0<=n.2.1)(h1:0<=n.2.2.1):refsOf j n=(if j=n.2.1.toNat then 1 else 0)+(if j=n.2.2.1.toNat then 1 else 0):=by
 unfold refsOf;rw[lG.2 c];have l:(n.2.1==(j:Int))=decide (j=n.2.1.toNat):=by rw[ave,au5,auP];omega
 have r:(n.2.2.1==(j:Int))=decide (j=n.2.2.1.toNat):=by rw[ave,au5,auP];omega
 rw[l,r];by_cases e1:j=n.2.1.toNat<;>by_cases e2:j=n.2.2.1.toNat<;>simp[e1,e2]
theorem Il(j i:Nat)(l:List Nat):(i::l).count j=(if j=i then 1 else 0)+l.count j:=by
 rw[List.count_cons];by_cases e:j=i
 .subst e;simp;omega
 .rw[if_neg e,if_neg (by simpa usingλh=>e h.symm)];omega
theorem TM{q:List ak}(h:ax q=true)(j:Nat):∀(t:QT)(i:Nat),i<q.length->I5 q t i->(vis q t i).count j=(if j=i then 1 else 0)+((vis q t i).map λp=>refsOf j (nodeAt q p)).sum
 |.leaf n,i,_,ht=>by
  obtain⟨rfl,c⟩:=ht;rw[vis,Il,auX,avC,Xn j c];simp
 |.neg t,i,hi,⟨e,ht⟩=>by
  obtain⟨l0,l1⟩:=(lY h hi).1 (.inl e);rw[vis,Il,TM h j t _ aaV ht,auX,avC,aaN j e l0]
 |.two op a b,i,hi,⟨e,c,ha,hb⟩=>by have c1:(nodeAt q i).1=6\/(nodeAt q i).1=7:=asb;have c2:iT (nodeAt q i)=true:=lG.2 c1;obtain⟨l0,l1⟩:=(lY h hi).1 (.inr c2);obtain⟨m0,m1⟩:=(lY h hi).2 c2;rw[vis,Il,List.count_append,TM h j a _ aaV ha,TM h j b _ aaV hb,auX,avC,avA,awt,aaO j c1 l0 m0];omega
theorem akd(f:Nat->Nat)(a:Nat):∀n,a<n->((List.range n).map λp=>(if p=a then 1 else 0)*f p).sum=f a
 |n+1,h=>by
  rw[axb,avA,awt,auX,axA,avC,List.sum_nil];by_cases e:n=a
  .subst e;have z:∀m,m<=n->((List.range m).map λp=>(if p=n then 1 else 0)*f p).sum=0:=by
    intro m
    induction m with
    |zero=>intro _;rfl
    |succ m ih=>intro hm;rw[axb,avA,awt,ih aaV,auX,axA,avC,List.sum_nil,if_neg aaV];omega
   rw[z n (auH _),if_pos rfl];omega
  .rw[akd f a n aaV,if_neg e];omega
theorem sum_add(f g:Nat->Nat):∀l:List Nat,(l.map λp=>f p+g p).sum=(l.map f).sum+(l.map g).sum
 |[]=>rfl
 |a::l=>by rw[auX,avC,sum_add f g l,auX,avC,auX,avC];omega
theorem Xo(f:Nat->Nat)(n:Nat):∀l:List Nat,(∀p∈l,p<n)->(l.map f).sum=((List.range n).map λp=>l.count p*f p).sum
 |[],_=>by
  have:∀r:List Nat,(r.map λp=>([]:List Nat).count p*f p).sum=0:=by
   intro r
   induction r with
   |nil=>rfl
   |cons a r ih=>rw[auX,avC,ih];simp
  rw[this];rfl
 |a::l,h=>by
  have e:(λp=>(a::l).count p*f p)=λp=>(if p=a then 1 else 0)*f p+l.count p*f p:=by
   funext p
   rw[Il,avj]
  rw[e,sum_add,akd f a n (h a auO),auX,avC,Xo f n l λp hp=>h p (auM _ hp)]
theorem map_range(g:ak->Nat)(q:List ak):q.map g=(List.range q.length).map λp=>g (nodeAt q p):=by refine aw1 abZ λi h1 h2=>?_;rw[auV]at h1;rw[axp,axp,List.getElem_range];unfold nodeAt;rw[auF,auJ h1];rfl
theorem TN{f g:Nat->Nat}:∀l:List Nat,(∀p∈l,f p=g p)->(l.map f).sum=(l.map g).sum
 |[],_=>rfl
 |a::l,h=>by rw[auX,avC,auX,avC,h a auO,TN l λp hp=>h p (auM _ hp)]
theorem afv{q:List ak}(h:ax q=true){p j:Nat}(hp:p<q.length)(hj:p<=j):refsOf j (nodeAt q p)=0:=by
 obtain⟨g1,g2⟩:=lY h hp;rcases NQ (jJ h hp).1 with c|c|c
 .exact Xn j c
 .obtain⟨l0,l1⟩:=g1 (.inl c);rw[aaN j c l0,if_neg aaV]
 .obtain⟨l0,l1⟩:=g1 (.inr (lG.2 c));obtain⟨m0,m1⟩:=g2 (lG.2 c);rw[aaO j c l0 m0,if_neg aaV,if_neg aaV]
theorem count_one{q:List ak}(h:ax q=true){t:QT}(ht:I5 q t (q.length-1)):∀(m j:Nat),j<q.length->q.length-1-j=m->(vis q t (q.length-1)).count j=1:=by
 intro m;have hl:=gQ h
 induction m using Nat.strongRecOn with
 |_ m ih=>
  intro j hj hm;rw[TM h j t _ aaV ht,Xo _ q.length _ λp hp=>by have:=Qx h t _ aaV ht p hp;omega];have e:((List.range q.length).map λp=>(vis q t (q.length-1)).count p*refsOf j (nodeAt q p)).sum=((List.range q.length).map λp=>refsOf j (nodeAt q p)).sum:=by
   refine TN _ λp hp=>?_;have hp:=avq.1 hp;rcases au2 j p with g|g
   .rw[ih (q.length-1-p) aaV p hp rfl,axn]
   .rw[afv h hp g,Nat.mul_zero]
  rw[e];by_cases c:j=q.length-1
  .rw[if_pos c];have z:((List.range q.length).map λp=>refsOf j (nodeAt q p)).sum=((List.range q.length).map λ_=>0).sum:=TN _ λp hp=>afv h (avq.1 hp) (by have:=avq.1 hp;omega);rw[z];have:∀r:List Nat,(r.map λ_=>0).sum=0:=by
    intro r
    induction r with
    |nil=>rfl
    |cons a r ih=>rw[auX,avC,ih]
   rw[this]
  .rw[if_neg c];have:=(jJ h hj).2 aaV;unfold gU at this;rw[map_range]at this;rw[this]
theorem am6{q:List ak}(h:ax q=true){t:QT}(ht:I5 q t (q.length-1)):t.size=q.length:=by
 have hl:=gQ h;have e:=Xo (λ_=>1) q.length (vis q t (q.length-1)) λp hp=>by have:=Qx h t _ aaV ht p hp;omega
 have ones:∀r:List Nat,(r.map λ_=>1).sum=r.length:=by
  intro r
  induction r with
  |nil=>rfl
  |cons a r ih=>rw[auX,avC,ih,auE];omega
 rw[ones,XV,TN (g:=λ_=>1) _ λp hp=>by rw[count_one h ht _ p (avq.1 hp) rfl],ones,List.length_range]at e;exact e
theorem OW{l r:List ak}{i:Nat}(h:i<l.length):nodeAt (l++r) i=nodeAt l i:=by unfold nodeAt;rw[auF,avn h,← auF]
theorem LW{l r:List ak}{i:Nat}(h:l.length<=i):nodeAt (l++r) i=nodeAt r (i-l.length):=by unfold nodeAt;rw[auF,avc h,← auF]
theorem aqD{l a:Int}(h0:0<=l)(h1:l<=a-1):dM (5,l,0,[],0,0,[],()) a=true:=by have h2:0<a:=aaV;unfold dM;simp[h0,h1,h2]
theorem ok_two{op l r a:Int}(c:op=6\/op=7)(h0:0<=l)(h1:l<=a-1)(g0:0<=r)(g1:r<=a-1):dM (op,l,r,[],0,0,[],()) a=true:=by have h2:0<a:=aaV;unfold dM;rcases c with rfl|rfl<;>simp[h0,h1,h2,g0,g1]
theorem XW:∀(t:QT)(b i:Nat),xu t->zq t->i<t.size->dM (nodeAt (post t b) i) ((b+i:Nat):Int)=true
 |.leaf n,b,i,hw,ho,hi=>by
  have hi:i<1:=hi;obtain rfl:i=0:=aaV;show dM n _=true;rw[Ij _ hw];exact ho
 |.neg t,b,i,hw,ho,hi=>by
  have hi:i<t.size+1:=hi;have hp:=dZ t b;have hs:=size_pos t;rw[post];rcases au2 i t.size with g|g
  .rw[OW aaV];exact XW t b i hw ho g
  .rw[LW aaV,hp,show i-t.size=0 from aaV];exact aqD aaV aaV
 |.two op x y,b,i,⟨c,w1,w2⟩,⟨o1,o2⟩,hi=>by
  have hi:i<x.size+y.size+1:=hi;have hp:=dZ x b;have hp2:=dZ y (b+x.size);have hs:=size_pos x;have hs2:=size_pos y;rw[post];rcases au2 i x.size with g|g
  .rw[OW aaV];exact XW x b i w1 o1 g
  .rw[LW aaV,hp];rcases au2 (i-x.size) y.size with g2|g2
   .rw[OW aaV];have:=XW y (b+x.size) (i-x.size) w2 o2 g2
    rwa [show b+x.size+(i-x.size)=b+i from aaV]at this
   .rw[LW aaV,hp2,show i-x.size-y.size=0 from aaV];exact ok_two c aaV aaV aaV aaV
theorem NZ:∀(t:QT)(b j:Nat),xu t->gU (post t b) j=if b<=j/\j+1<b+t.size then 1 else 0
 |.leaf n,b,j,hw=>by
  have:gU (post (.leaf n) b) j=refsOf j n+0:=rfl;rw[this,Xn j hw,if_neg (by show ¬(b<=j/\j+1<b+1);omega)]
 |.neg t,b,j,hw=>by
  have hs:=size_pos t;have e:gU (post (.neg t) b) j=gU (post t b) j+(refsOf j (5,((b+t.size:Nat):Int)-1,0,[],0,0,[],())+0):=by unfold gU;rw[post,avA,awt];rfl
  rw[e,NZ t b j hw,aaN j rfl (by show 0<=((b+t.size:Nat):Int)-1;omega)];have e2:(((b+t.size:Nat):Int)-1).toNat=b+t.size-1:=aaV;show _+((if j=(((b+t.size:Nat):Int)-1).toNat then 1 else 0)+0)=if b<=j/\j+1<b+(t.size+1)then 1 else 0
  rw[e2];split<;>split<;>split<;>omega
 |.two op x y,b,j,⟨c,w1,w2⟩=>by
  have hs:=size_pos x;have hs2:=size_pos y;have e:gU (post (.two op x y) b) j=gU (post x b) j+(gU (post y (b+x.size)) j+(refsOf j (op,((b+x.size:Nat):Int)-1,((b+x.size+y.size:Nat):Int)-1,[],0,0,[],())+0)):=by unfold gU;rw[post,avA,awt,avA,awt];rfl
  rw[e,NZ x b j w1,NZ y _ j w2,aaO j c (by show 0<=((b+x.size:Nat):Int)-1;omega) (by show 0<=((b+x.size+y.size:Nat):Int)-1;omega)];have e2:(((b+x.size:Nat):Int)-1).toNat=b+x.size-1:=aaV;have e3:(((b+x.size+y.size:Nat):Int)-1).toNat=b+x.size+y.size-1:=aaV;show _+(_+((if j=(((b+x.size:Nat):Int)-1).toNat then 1 else 0)+(if j=(((b+x.size+y.size:Nat):Int)-1).toNat then 1 else 0)+0))=if b<=j/\j+1<b+(x.size+y.size+1)then 1 else 0
  rw[e2,e3];split<;>split<;>split<;>split<;>split<;>omega
theorem aiE{t:QT}(hw:xu t)(ho:zq t)(hs:t.size<=9):ax (post t 0)=true:=by
 have hp:=size_pos t;unfold ax;rw[dZ,auC,auC,auP,auP];refine⟨?_,aaV,aaV⟩;unfold jd;rw[auY];intro i hi;have hi:=avq.1 hi;have h1:=XW t 0 i hw ho hi;rw[au8]at h1;unfold kR;rw[h1,awI,dZ,NZ t 0 i hw];by_cases c:(i:Int)<(t.size:Int)-1
 .rw[if_pos aaV];simp
 .rw[auU c];rfl
theorem TP:∀(t:QT)(l r:List ak),xu t->I5 (l++(post t l.length++r)) t (l.length+t.size-1)
 |.leaf n,l,r,hw=>by
  refine⟨?_,hw⟩;show nodeAt (l++(n::r)) l.length=n;exact CU l r n
 |.neg t,l,r,hw=>by
  have hs:=size_pos t;have e:l++(post (.neg t) l.length++r)=l++(post t l.length++(((5,((l.length+t.size:Nat):Int)-1,0,[],0,0,[],()):ak)::r)):=by show l++((post t l.length++[_])++r)=_;rw[auR];rfl
  have en:nodeAt (l++(post (.neg t) l.length++r)) (l.length+t.size)=(5,((l.length+t.size:Nat):Int)-1,0,[],0,0,[],()):=by rw[e,← auR,show l.length+t.size=(l++post t l.length).length by rw[auB,dZ]];exact CU _ _ _
  have ei:l.length+(QT.neg t).size-1=l.length+t.size:=by show l.length+(t.size+1)-1=_;omega
  have ih:=TP t l ((5,((l.length+t.size:Nat):Int)-1,0,[],0,0,[],())::r) hw;rw[← e]at ih;rw[ei];refine⟨by rw[en],?_⟩;rw[en];show I5 _ t (((l.length+t.size:Nat):Int)-1).toNat;rw[show(((l.length+t.size:Nat):Int)-1).toNat=l.length+t.size-1 from aaV];exact ih
 |.two op x y,l,r,⟨c,w1,w2⟩=>by
  have hs:=size_pos x;have hs2:=size_pos y;generalize hn:((op,((l.length+x.size:Nat):Int)-1,((l.length+x.size+y.size:Nat):Int)-1,[],0,0,[],()):ak)=N;have e:l++(post (.two op x y) l.length++r)=l++(post x l.length++(post y (l.length+x.size)++(N::r))):=by show l++((post x l.length++(post y (l.length+x.size)++[_]))++r)=_;rw[hn,auR,auR];rfl
  have i1:=TP x l (post y (l.length+x.size)++(N::r)) w1;have i2:=TP y (l++post x l.length) (N::r) w2;rw[auB,dZ,auR]at i2;rw[← e]at i1 i2;have en:nodeAt (l++(post (.two op x y) l.length++r)) (l.length+x.size+y.size)=N:=by rw[e,← auR,← auR,show l.length+x.size+y.size=((l++post x l.length)++post y (l.length+x.size)).length by rw[auB,auB,dZ,dZ]];exact CU _ _ _
  have ei:l.length+(QT.two op x y).size-1=l.length+x.size+y.size:=by show l.length+(x.size+y.size+1)-1=_;omega
  rw[ei];refine⟨by rw[en,← hn],c,?_,?_⟩
  .rw[en,← hn];show I5 _ x (((l.length+x.size:Nat):Int)-1).toNat;rw[show(((l.length+x.size:Nat):Int)-1).toNat=l.length+x.size-1 from aaV];exact i1
  .rw[en,← hn];show I5 _ y (((l.length+x.size+y.size:Nat):Int)-1).toNat;rw[show(((l.length+x.size+y.size:Nat):Int)-1).toNat=l.length+x.size+y.size-1 from aaV];exact i2
def tD:QT->Bool->List (Bool×Bytes)
 |.leaf n,p=>bif o5 n then[(p,n.2.2.2.1)]else[]
 |.neg t,_=>tD t true
 |.two _ a b,p=>tD a p++tD b p
theorem aiF{n:ak}(c:n.1=5\/n.1=6\/n.1=7):o5 n=false:=by unfold o5;rcases c with e|e|e<;>rw[e]<;>rfl
theorem ac2{q:List ak}(h:ax q=true)(x:Bool×Bytes):∀(t:QT)(i:Nat),i<q.length->I5 q t i->(x∈tD t (sZ q i)↔∃p∈vis q t i,o5 (nodeAt q p)=true/\x=(sZ q p,(nodeAt q p).2.2.2.1))
 |.leaf n,i,hi,⟨e,c⟩=>by
  subst e;rw[tD];cases hn:o5 (nodeAt q i)with
  |true=>exact⟨λhx=>⟨i,auO,hn,au0.1 hx⟩,λ⟨p,hp,_,e⟩=>by rw[au0.1 hp]at e;rw[e];exact auO⟩
  |false=>exact⟨λhx=>(axT hx).elim,λ⟨p,hp,e,_⟩=>by rw[au0.1 hp,hn]at e;cases e⟩
 |.neg t,i,hi,⟨e,ht⟩=>by
  obtain⟨l0,l1⟩:=(lY h hi).1 (.inl e);have ih:=ac2 h x t _ aaV ht;rw[(Tv h hi).1 e]at ih;rw[tD,vis,ih];refine⟨λ⟨p,hp,r⟩=>⟨p,auM _ hp,r⟩,λ⟨p,hp,r⟩=>?_⟩;rcases auQ.1 hp with rfl|hp
  .rw[aiF (.inl e)]at r;cases r.1
  .exact⟨p,hp,r⟩
 |.two op a b,i,hi,⟨e,c,ha,hb⟩=>by
  have c1:(nodeAt q i).1=6\/(nodeAt q i).1=7:=asb;have c2:iT (nodeAt q i)=true:=lG.2 c1;obtain⟨l0,l1⟩:=(lY h hi).1 (.inr c2);obtain⟨m0,m1⟩:=(lY h hi).2 c2;obtain⟨n1,n2⟩:=(Tv h hi).2 c2;have i1:=ac2 h x a _ aaV ha;have i2:=ac2 h x b _ aaV hb;rw[n1]at i1;rw[n2]at i2;rw[tD,vis,au4,i1,i2];refine⟨λhx=>?_,λ⟨p,hp,r⟩=>?_⟩
  .rcases hx with⟨p,hp,r⟩|⟨p,hp,r⟩
   .exact⟨p,auM _ (avp _ hp),r⟩
   .exact⟨p,auM _ (avJ _ hp),r⟩
  .rcases auQ.1 hp with rfl|hp
   .rw[aiF (.inr c1)]at r;cases r.1
   rcases au4.1 hp with hp|hp
   .exact .inl ⟨p,hp,r⟩
   .exact .inr ⟨p,hp,r⟩
theorem afw{q:List ak}(h:ax q=true){t:QT}(ht:I5 q t (q.length-1))(s:Bytes)(b:Bool):s∈dO q b↔(b,s)∈tD t false:=by
 have hl:=gQ h;have hn:(negated q).length=q.length:=by unfold negated;rw[h];show(iF _ _ _).length=_;rw[AB];simp
 have key:=ac2 h (b,s) t (q.length-1) aaV ht;rw[acR h]at key;rw[key];constructor
 .intro hs;unfold dO at hs;rw[awq]at hs;obtain⟨i,hi,e⟩:=hs;have hi:i<q.length:=by rw[hn]at hi;exact avq.1 hi
  cases hc:o5 (nodeAt q i)&&((negated q).getD i (false,())).1==b with
  |false=>rw[hc]at e;cases e
  |true=>rw[hc]at e;rw[auC]at hc;have e:(nodeAt q i).2.2.2.1=s:=Option.some.inj e;have hb:sZ q i=b:=au5.1 hc.2;refine⟨i,List.count_pos_iff.1 (by rw[count_one h ht _ i hi rfl];decide),hc.1,by rw[hb,e]⟩
 .rintro⟨p,hp,hd,e⟩;have hp:p<q.length:=by have:=Qx h t _ aaV ht p hp;omega
  have:=aaK h hp hd;rw[show b=sZ q p from congrArg (·.1) e,show s=(nodeAt q p).2.2.2.1 from congrArg (·.2) e];exact this
theorem Gw{q:List ak}(h:ax q=true):∃t,xu t/\zq t/\t.size=q.length/\textOf q=Lib.join (aF t) [32]/\gq (textOf q)=true/\fJ (textOf q)=post t 0/\ax (post t 0)=true/\∀s b,s∈dO (post t 0) b↔s∈dO q b:=by
 have hl:=gQ h;obtain⟨t,ht⟩:=apL h (q.length-1) aaV;have hw:=ac0 t _ ht;have ho:=ac1 h t _ aaV ht;have hz:=am6 h ht;have hq:=aiE hw ho aaV;have hx:=TL h t (q.length-1) 9 aaV aaV ht;have e:textOf q=Lib.join (aF t) [32]:=by unfold textOf;rw[h,show((q.length:Int)-1)=((q.length-1:Nat):Int)from aaV,hx];rfl
 obtain⟨n1,n2⟩:=BZ t hw ho;obtain⟨g1,g2⟩:=acX (DZ t hw ho) (auK (auK (IZ _) n2) aaV) aaV;have hp:gq (textOf q)=true:=(TJ _).2 ⟨by rw[e];exact g1,t,hw,hq,by rw[e];exact g2⟩;have ep:fJ (textOf q)=post t 0:=by rw[(SK hp).2.1,aiz hw hq (by rw[e];exact g2)]
 refine⟨t,hw,ho,hz,e,hp,ep,hq,λs b=>?_⟩;have hi:=TP t [] [] hw;rw[au7,avx,auI,au8]at hi;rw[afw h ht,afw hq (t:=t) (by rw[dZ];exact hi)]
end Sp
namespace Sp
open Go
abbrev Io:=Bool×List aY×Unit
def LX:Io:=(false,[],())
def aqE(l:List aY)(x:aY):Bool:=l.any λy=>y.1==x.1
def aqF(l:List aY)(x:aY):Bool:=l.any λy=>y.1==x.1&&!decide (y.2=x.2)
def am7(name:Bytes)(y:aY):Bool:=Op.bytesLess y.1 name
def ata(l:List aY)(x:aY):List aY:=l.takeWhile (am7 x.1)++x::l.dropWhile (am7 x.1)
def aiG(a:List aY):List aY->List aY->Option (List aY)
 |acc,[]=>some acc
 |acc,x::r=>bif aqF a x then none else bif aqE a x then aiG a acc r else aiG a (ata acc x) r
def arK:Option (List aY)->Io
 |some l=>(true,l,())
 |none=>LX
def aqG(a b:Io):Io:=bif a.1&&b.1 then arK (aiG a.2.1 a.2.1 b.2.1)else LX
def atb(a b:Io):Io:=bif a.1==b.1 then LX else bif a.1 then a else b
def Qy(q:List ak)(f:aQ)(X:BX)(a:Nat)(m:Bool):Io:=
 if val q f X a=m then(true,[],())
 else if(nodeAt q a).1=5 then(if h:(nodeAt q a).2.1.toNat<a then Qy q f X (nodeAt q a).2.1.toNat (!m)else LX)
 else if iT (nodeAt q a)=true then(if h:(nodeAt q a).2.1.toNat<a/\(nodeAt q a).2.2.1.toNat<a then
  (bif ((nodeAt q a).1==6)==m then aqG (Qy q f X (nodeAt q a).2.1.toNat m) (Qy q f X (nodeAt q a).2.2.1.toNat m)
   else atb (Qy q f X (nodeAt q a).2.1.toNat m) (Qy q f X (nodeAt q a).2.2.1.toNat m))else LX)
 else if(nodeAt q a).1=3/\m=true then(true,[((nodeAt q a).2.2.2.1,(nodeAt q a).2.2.2.2.1,(nodeAt q a).2.2.2.2.2.1,(nodeAt q a).2.2.2.2.2.2.1,())],())
 else if(nodeAt q a).1=2/\m=false then(true,[((nodeAt q a).2.2.2.1,0,0,[],())],())
 else LX
termination_by a
decreasing_by all_goals omega
end Sp
namespace Sp
open Go
def aqH(a l:List aY):List aY:=l.foldl (λa x=>jR a x.1 x.2.1 x.2.2.1 x.2.2.2.1) a
def am8(l:List aY)(i:Nat):List aY:=l.take i++l.drop (i+1)
def edited(f:aQ)(l:List aY):aQ:=(f.1,f.2.1,f.2.2.1,f.2.2.2.1,aqH f.2.2.2.2.1 l,())
theorem Wv{fs:List dP}{f:aQ}(h:dB fs f=true):kC fs f.2.2.2.2.1=true:=by unfold dB at h;simp only[auC]at h;exact h.1.1.1.1
end Sp
namespace Sp
open Go
theorem Wu{s:dU}:bT s=true↔(∀f∈s.2.1,dB s.1 f=true/\f.1<s.2.2.1)/\(s.2.1.Pairwise λf g=>f.1<g.1)/\dY s.1=true/\s.2.1.length<=12/\1<=s.2.2.1/\s.2.2.1<=61:=by
 have at_:∀i(hi:i<s.2.1.length),fileAt s.2.1 i=s.2.1[i]:=λi hi=>by unfold fileAt;rw[auF,auJ hi];rfl
 constructor
 .intro h;obtain⟨h1,h2,h3,h4,h5⟩:=oG.1 h;refine⟨λf hf=>?_,?_,h2,h3,h4,h5⟩
  .obtain⟨i,hi,rfl⟩:=alr hf;obtain⟨k1,k2,_⟩:=nD.1 (h1 i hi);exact⟨k1,k2⟩
  .refine awL.2 λi j hi hj hij=>?_;have:=am0 h j i hij hj
   rwa [at_ i hi,at_ j hj]at this
 .rintro⟨h1,h2,h3⟩;refine oG.2 ⟨λi hi=>nD.2 ⟨(h1 _ (acS hi)).1,(h1 _ (acS hi)).2,λh0=>?_⟩,h3⟩;rw[at_ i hi,at_ (i-1) aaV];exact awL.1 h2 (i-1) i aaV hi aaV
open Classical in
noncomputable def am9 (fs:List aQ) (d:List bf):List xP:=if h:∃out,aoU fs d [] (λ_=>true) out then h.choose else[]
noncomputable def apM (s:dU) (d:List bf) (u:Int) (name:Bytes):List (Int×Unit):=Xh (am9 (visible s u).2.1 d) name
noncomputable def listed (s:dU) (d:List bf) (u:Int) (name:Bytes) (id:Int):Bool:=agA (apM s d u name) id
def ake(d:List bf)(name:Bytes):bf×Bool:=bif decide (aA d name<0)then(([],[],()),false)else(bZ d (aA d name).toNat,true)
def aqI(s:dU)(u id:Int):aQ:=(Tm (visible s u) id).1
def arL(q:List ak)(f:aQ)(X:BX)(m:Bool):Io:=bif ax q then Qy q f X (q.length-1) m else LX
noncomputable def alA (c:HY) (u:Int) (name:Bytes) (id:Int) (b:Bool):Io:=
 arL (ake (JV c) name).1.2.1 (aqI (IW c) u id) (Tq (am9 (visible (IW c) u).2.1 (JV c))) b
def aiH(c:HY)(id:Int)(l:List aY):dU×Bool:=ajj (IW c) (edited (Tm (IW c) id).1 l)
noncomputable def needed (c:HY) (u:Int) (name:Bytes) (id:Int) (b:Bool) (l:List aY) (i:Nat):Bool:=
 (aiH c id (am8 l i)).2&&!(listed (aiH c id (am8 l i)).1 (JV c) u name id==b)
noncomputable def aqJ (c:HY) (u:Int) (name:Bytes) (id:Int) (b:Bool) (w:Io):Bool:=
 w.1&&((aiH c id w.2.1).2&&((listed (aiH c id w.2.1).1 (JV c) u name id==b)&&jd w.2.1.length (needed c u name id b w.2.1)))
noncomputable def atc (c:HY) (u:Int) (name:Bytes) (id:Int) (b:Bool):Bool:=
 (aoV c&&(aog c u id&&(ake (JV c) name).2))&&aqJ c u name id b (alA c u name id b)
def written(c:HY)(u:Int)(name:Bytes)(id:Int)(b:Bool)(c':HY)(set:List aY)(ok:Bool):Prop:=
 ok=atc c u name id b/\(ok=true->IW c'=(aiH c id (alA c u name id b).2.1).1/\JV c'=JV c/\aoV c'=true/\set=(alA c u name id b).2.1)/\(ok=false->c'=c/\set=[])
end Sp
namespace Sp
open Go
def gZ:Bytes:=[102,105,101,108,100]
def qg:Bytes:=[110,101,120,116]
def jU:Bytes:=[100,105,114]
def JL:Bytes:=[105,110,116]
def rM:Bytes:=[115,116,114,105,110,103]
def dD(f:dP):Bytes:=bif !dm f.1 then[]else bif f.2.1==1 then gZ++32::(f.1++32::JL)else bif f.2.1==2 then gZ++32::(f.1++32::rM)else[]
def jg(n:Int):Bytes:=qg++32::Lib.itoa n
def je(d:bf):Bytes:=jU++32::(d.1++32::textOf d.2.1)
def jZ(x:aV):List Bytes:=x.1.map dD++(jg x.2.2.1::(x.2.1.map fU++x.2.2.2.1.map je))
noncomputable def enc (x:aV):LS:=bif bM x then ls (jZ x)else[]
def cu:aV:=([],[],0,[],())
def kY(x:aV)(w:LS):aV×Bool:=
 bif wordAt w 0==gZ&&decide ((w.length:Int)=3)then((x.1++[(wordAt w 1,(bif wordAt w 2==rM then 2 else 1),())],x.2.1,x.2.2.1,x.2.2.2.1,()),true)
 else bif wordAt w 0==qg&&decide ((w.length:Int)=2)then((x.1,x.2.1,parseNum (wordAt w 1),x.2.2.2.1,()),aW (wordAt w 1))
 else bif wordAt w 0==jY then((x.1,x.2.1++[(jw (w.drop 1)).1],x.2.2.1,x.2.2.2.1,()),(jw (w.drop 1)).2)
 else bif wordAt w 0==jU&&decide (2<(w.length:Int))then((x.1,x.2.1,x.2.2.1,x.2.2.2.1++[(wordAt w 1,fJ (gm (w.drop 2)),())],()),gq (gm (w.drop 2)))
 else(x,false)
def gK:aV->LS->aV×Bool
 |x,[]=>(x,true)
 |x,l::r=>bif (kY x (pieces 32 l.1)).2 then gK (kY x (pieces 32 l.1)).1 r else((kY x (pieces 32 l.1)).1,false)
noncomputable def ahJ (l:LS):aV×Bool:=bif (gK cu l).2&&(bM (gK cu l).1&&decide (enc (gK cu l).1=l))then((gK cu l).1,true)else(cu,false)
def oZ(x:aV)(w:LS):aV:=
 bif wordAt w 0==gZ then(x.1++[(wordAt w 1,(bif wordAt w 2==JL then 1 else 2),())],x.2.1,x.2.2.1,x.2.2.2.1,())
 else bif wordAt w 0==qg then(x.1,x.2.1,numAt w 1,x.2.2.2.1,())
 else bif wordAt w 0==jY then(x.1,x.2.1++[CP (numAt w 1) (w.drop 2)],x.2.2.1,x.2.2.2.1,())
 else bif wordAt w 0==jU then(x.1,x.2.1,x.2.2.1,x.2.2.2.1++[(wordAt w 1,(bif decide (2<(w.length:Int))then fJ (gm (w.drop 2))else[]),())],())
 else x
def jf:aV->LS->aV
 |x,[]=>x
 |x,l::r=>jf (oZ x (gG l.1)) r
noncomputable def dec (l:LS):aV×Bool:=bif bM (jf cu l)&&decide (enc (jf cu l)=l)then(jf cu l,true)else(cu,false)
def vz(d:bf):bf:=(d.1,fJ (textOf d.2.1),())
def norm(x:aV):aV:=(x.1,x.2.1,x.2.2.1,x.2.2.2.1.map vz,())
theorem Gx{ws:List Bytes}(h:∀x∈ws,fine x)(hl:qR ws<=600)(hc:ws.length<=24)(h0:ws≠[]):gG (Lib.join ws [32])=ls ws/\pieces 32 (Lib.join ws [32])=ls ws/\(Lib.join ws [32]).length<=600:=by have hb:=auK (IZ ws) hl;obtain⟨g1,g2⟩:=acX h hb hc;refine⟨by unfold gG;rw[g1,g2];rfl,Zh ws h0 λw hw x hx e=>?_,hb⟩;have:=(h w hw).1.2 x hx;rw[e]at this;exact absurd this abV
theorem ana{s:Bytes}(h:dm s=true):fine s:=tq (kU h)
theorem aaH{s:Bytes}(h:dm s=true):s.length<=1:=by unfold dm at h;simp only[auC,auP]at h;omega
theorem Xp(x y z:Bytes):x++32::(y++32::z)=Lib.join [x,y,z] [32]:=(acj x y z).symm
theorem ac3{f:dP}(h1:dm f.1=true)(h2:f.2.1=1\/f.2.1=2)(x:aV):
 kY x (pieces 32 (dD f))=((x.1++[f],x.2.1,x.2.2.1,x.2.2.2.1,()),true)/\oZ x (gG (dD f))=(x.1++[f],x.2.1,x.2.2.1,x.2.2.2.1,())/\(dD f).length<=600/\(∃ws:List Bytes,dD f=Lib.join ws [32]/\∀w∈ws,fine w):=by
 obtain⟨nm,k,⟨⟩⟩:=f;have hk:nm.length<=1:=aaH h1;dsimp only at h1 h2;have hf:fine gZ:=⟨⟨abV,abV⟩,abV⟩;have hn:=ana h1;rcases h2 with rfl|rfl
 .have e:dD (nm,1,())=Lib.join [gZ,nm,JL] [32]:=by unfold dD;rw[h1,← Xp];rfl
  have hi:fine JL:=⟨⟨abV,abV⟩,abV⟩;have all:∀w∈[gZ,nm,JL],fine w:=λw hw=>by
   rcases auQ.1 hw with rfl|hw
   .exact hf
   rcases auQ.1 hw with rfl|hw
   .exact hn
   .rw[au0.1 hw];exact hi
  obtain⟨a,b,c⟩:=Gx all (by rw[fM,fM,fM];show 5+1+(nm.length+1+(3+1+0))<=600;omega) (by show 3<=24;omega) abZ;rw[e,a,b];exact⟨rfl,rfl,c,_,rfl,all⟩
 .have e:dD (nm,2,())=Lib.join [gZ,nm,rM] [32]:=by unfold dD;rw[h1,← Xp];rfl
  have hi:fine rM:=⟨⟨abV,abV⟩,abV⟩;have all:∀w∈[gZ,nm,rM],fine w:=λw hw=>by
   rcases auQ.1 hw with rfl|hw
   .exact hf
   rcases auQ.1 hw with rfl|hw
   .exact hn
   .rw[au0.1 hw];exact hi
  obtain⟨a,b,c⟩:=Gx all (by rw[fM,fM,fM];show 5+1+(nm.length+1+(6+1+0))<=600;omega) (by show 3<=24;omega) abZ;rw[e,a,b];exact⟨rfl,rfl,c,_,rfl,all⟩
theorem afx{n:Int}(h:dX n=true)(x:aV):
 kY x (pieces 32 (jg n))=((x.1,x.2.1,n,x.2.2.2.1,()),true)/\oZ x (gG (jg n))=(x.1,x.2.1,n,x.2.2.2.1,())/\(jg n).length<=600/\(∃ws:List Bytes,jg n=Lib.join ws [32]/\∀w∈ws,fine w):=by
 have e:jg n=Lib.join [qg,Lib.itoa n] [32]:=by rw[SC];rfl
 have all:∀w∈[qg,Lib.itoa n],fine w:=λw hw=>by
  rcases auQ.1 hw with rfl|hw
  .exact⟨⟨abV,abV⟩,abV⟩
  .rw[au0.1 hw];exact IX h
 have hl:=(iq h).2.2.2.2;obtain⟨a,b,c⟩:=Gx all (by rw[fM,fM];show 4+1+((Lib.itoa n).length+1+0)<=600;omega) (by show 2<=24;omega) abZ;obtain⟨p1,p2⟩:=o6 h;rw[e,a,b];refine⟨?_,?_,c,_,rfl,all⟩
 .show((x.1,x.2.1,parseNum (Lib.itoa n),x.2.2.2.1,()),aW (Lib.itoa n))=_;rw[p1,p2]
 .show(x.1,x.2.1,parseNum (Lib.itoa n),x.2.2.2.1,())=_;rw[p2]
theorem afy{f:aQ}(h:BV f=true)(ha:f.2.2.2.2.1.length<=5)(x:aV):
 kY x (pieces 32 (fU f))=((x.1,x.2.1++[f],x.2.2.1,x.2.2.2.1,()),true)/\oZ x (gG (fU f))=(x.1,x.2.1++[f],x.2.2.1,x.2.2.2.1,())/\(fU f).length<=600/\(∃ws:List Bytes,fU f=Lib.join ws [32]/\∀w∈ws,fine w):=by
 have hid:=(xq.1 h).2.1;have hl:=(iq hid).2.2.2.2;obtain⟨b1,b2⟩:=am5 h;have all:∀w∈jY::Lib.itoa f.1::jy f,fine w:=λw hw=>by
  rcases auQ.1 hw with rfl|hw
  .exact⟨⟨abV,abV⟩,abV⟩
  rcases auQ.1 hw with rfl|hw
  .exact IX hid
  .exact am3 h w hw
 obtain⟨a,b,c⟩:=Gx all (by rw[fM,fM];show 4+1+_<=600;omega) (by rw[auE,auE,b2];omega) abZ;have e:fU f=Lib.join (jY::Lib.itoa f.1::jy f) [32]:=rfl;rw[e,a,b];refine⟨?_,?_,c,_,rfl,all⟩
 .show((x.1,x.2.1++[(jw ((Lib.itoa f.1,())::ls (jy f))).1],x.2.2.1,x.2.2.2.1,()),(jw ((Lib.itoa f.1,())::ls (jy f))).2)=_;rw[alz h]
 .show(x.1,x.2.1++[CP (parseNum (Lib.itoa f.1)) (ls (jy f))],x.2.2.1,x.2.2.2.1,())=_;rw[(o6 hid).2,afu h]
theorem aiI{d:bf}(h1:aS d.1=true)(h2:ax d.2.1=true)(x:aV):
 kY x (pieces 32 (je d))=((x.1,x.2.1,x.2.2.1,x.2.2.2.1++[vz d],()),true)/\oZ x (gG (je d))=(x.1,x.2.1,x.2.2.1,x.2.2.2.1++[vz d],())/\(je d).length<=600/\(∃ws:List Bytes,je d=Lib.join ws [32]/\∀w∈ws,fine w):=by
 obtain⟨t,hw,ho,hz,ht,hp,hq,_,_⟩:=Gw h2;obtain⟨n1,n2⟩:=BZ t hw ho;obtain⟨x0,r0,ew,_⟩:=aiy t;have hl9:=(gQ h2).2;have hv:=qy h1;have e:je d=Lib.join (jU::d.1::aF t) [32]:=by unfold je;rw[ht,ew,jD,jD]
 have all:∀w∈jU::d.1::aF t,fine w:=λw hw2=>by
  rcases auQ.1 hw2 with rfl|hw2
  .exact⟨⟨abV,abV⟩,abV⟩
  rcases auQ.1 hw2 with rfl|hw2
  .exact tq h1
  .exact DZ t hw ho w hw2
 obtain⟨a,b,c⟩:=Gx all (by rw[fM,fM];show 3+1+_<=600;omega) (by rw[auE,auE];omega) abZ;have ej:gm ((ls (jU::d.1::aF t)).drop 2)=textOf d.2.1:=by rw[ht];show gm (ls (aF t))=_;unfold gm;rw[aib]
 have hlen:2<((ls (jU::d.1::aF t)).length:Int):=by unfold ls;rw[auV,ew,auE,auE,auE];omega
 rw[e,a,b];refine⟨?_,?_,c,_,rfl,all⟩
 .have:kY x (ls (jU::d.1::aF t))=bif decide (2<((ls (jU::d.1::aF t)).length:Int))then((x.1,x.2.1,x.2.2.1,x.2.2.2.1++[(d.1,fJ (gm ((ls (jU::d.1::aF t)).drop 2)),())],()),gq (gm ((ls (jU::d.1::aF t)).drop 2)))else(x,false):=rfl
  rw[this,ej,auS hlen,hp];rfl
 .have:oZ x (ls (jU::d.1::aF t))=(x.1,x.2.1,x.2.2.1,x.2.2.2.1++[(d.1,(bif decide (2<((ls (jU::d.1::aF t)).length:Int))then fJ (gm ((ls (jU::d.1::aF t)).drop 2))else[]),())],()):=rfl;rw[this,ej,auS hlen];rfl
theorem TQ:∀(a:LS)(x:aV)(b:LS),(gK x a).2=true->gK x (a++b)=gK (gK x a).1 b
 |[],_,_,_=>rfl
 |l::r,x,b,h=>by
  rw[avH,gK,gK];rw[gK]at h;cases hr:(kY x (pieces 32 l.1)).2 with
  |true=>rw[hr]at h;exact TQ r _ b h
  |false=>rw[hr]at h;cases h
theorem TR:∀(a:LS)(x:aV)(b:LS),jf x (a++b)=jf (jf x a) b
 |[],_,_=>rfl
 |l::r,x,b=>by rw[avH,jf,jf];exact TR r _ b
theorem WW(a b:List Bytes):ls (a++b)=ls a++ls b:=by unfold ls;rw[avA]
theorem ac4:∀(fs:List dP)(x:aV),(∀f∈fs,dm f.1=true/\(f.2.1=1\/f.2.1=2))->gK x (ls (fs.map dD))=((x.1++fs,x.2.1,x.2.2.1,x.2.2.2.1,()),true)/\jf x (ls (fs.map dD))=(x.1++fs,x.2.1,x.2.2.1,x.2.2.2.1,())
 |[],x,_=>by rw[au7];exact⟨rfl,rfl⟩
 |f::r,x,h=>by
  obtain⟨a,b⟩:=h f auO;obtain⟨h1,h2,_⟩:=ac3 a b x;obtain⟨i1,i2⟩:=ac4 r (x.1++[f],x.2.1,x.2.2.1,x.2.2.2.1,()) λg hg=>h g (auM _ hg);refine⟨?_,?_⟩
  .show gK x ((dD f,())::ls (r.map dD))=_;rw[gK,h1];show gK _ _=_;rw[i1,auR];rfl
  .show jf x ((dD f,())::ls (r.map dD))=_;rw[jf,h2,i2,auR];rfl
theorem afz:∀(fs:List aQ)(x:aV),(∀f∈fs,BV f=true/\f.2.2.2.2.1.length<=5)->gK x (ls (fs.map fU))=((x.1,x.2.1++fs,x.2.2.1,x.2.2.2.1,()),true)/\jf x (ls (fs.map fU))=(x.1,x.2.1++fs,x.2.2.1,x.2.2.2.1,())
 |[],x,_=>by rw[au7];exact⟨rfl,rfl⟩
 |f::r,x,h=>by
  obtain⟨a,b⟩:=h f auO;obtain⟨h1,h2,_⟩:=afy a b x;obtain⟨i1,i2⟩:=afz r (x.1,x.2.1++[f],x.2.2.1,x.2.2.2.1,()) λg hg=>h g (auM _ hg);refine⟨?_,?_⟩
  .show gK x ((fU f,())::ls (r.map fU))=_;rw[gK,h1];show gK _ _=_;rw[i1,auR];rfl
  .show jf x ((fU f,())::ls (r.map fU))=_;rw[jf,h2,i2,auR];rfl
theorem aiJ:∀(ds:List bf)(x:aV),(∀d∈ds,aS d.1=true/\ax d.2.1=true)->gK x (ls (ds.map je))=((x.1,x.2.1,x.2.2.1,x.2.2.2.1++ds.map vz,()),true)/\jf x (ls (ds.map je))=(x.1,x.2.1,x.2.2.1,x.2.2.2.1++ds.map vz,())
 |[],x,_=>by rw[show([]:List bf).map vz=[]from rfl,au7];exact⟨rfl,rfl⟩
 |d::r,x,h=>by
  obtain⟨a,b⟩:=h d auO;obtain⟨h1,h2,_⟩:=aiI a b x;obtain⟨i1,i2⟩:=aiJ r (x.1,x.2.1,x.2.2.1,x.2.2.2.1++[vz d],()) λg hg=>h g (auM _ hg);refine⟨?_,?_⟩
  .show gK x ((je d,())::ls (r.map je))=_;rw[gK,h1];show gK _ _=_;rw[i1,auR];rfl
  .show jf x ((je d,())::ls (r.map je))=_;rw[jf,h2,i2,auR];rfl
theorem Ad{x:aV}(h:bM x=true):(∀f∈x.1,dm f.1=true/\(f.2.1=1\/f.2.1=2))/\(∀f∈x.2.1,BV f=true/\f.2.2.2.2.1.length<=5)/\dX x.2.2.1=true/\(∀d∈x.2.2.2.1,aS d.1=true/\ax d.2.1=true)/\x.1.length<=5/\x.2.1.length<=12/\x.2.2.2.1.length<=5:=by
 unfold bM at h;rw[auC]at h;obtain⟨hs,hd⟩:=h;obtain⟨s1,_,s3,s4,s5,s6⟩:=Wu.1 hs;have s1:∀f∈x.2.1,dB x.1 f=true/\f.1<x.2.2.1:=s1;have s3:dY x.1=true:=s3;have s4:x.2.1.length<=12:=s4;have s5:1<=x.2.2.1:=s5;have s6:x.2.2.1<=61:=s6;obtain⟨d1,_,d3⟩:=JY.1 (lV.1 hd).1;obtain⟨k1,k2⟩:=Wx.1 s3;have kf:∀f∈x.1,dm f.1=true/\(f.2.1=1\/f.2.1=2):=λf hf=>by obtain⟨i,hi,e⟩:=avY hf;have:=k1 i hi;unfold jC fieldAt at this;rw[auF,auJ hi,e]at this;simp only[aw3,auC,avK,au5,auP]at this;exact⟨this.1.1,aaV⟩
 refine⟨kf,λf hf=>?_,gX.2 aaV,d1,k2,s4,d3⟩;obtain⟨f1,_⟩:=s1 f hf;have fa:=Wv f1;have hl:=ahW fa;refine⟨xq.2 ⟨λa ha=>?_,?_⟩,aaV⟩
 .have hm:=(Zb.1 fa).1 a ha;unfold iV at hm;simp only[auC,awg,auP,avi]at hm;obtain⟨⟨m1,m2⟩,m3⟩:=hm;have hk:=TB (fs:=x.1) (s:=a.1) (by rw[← m3];exact m2);obtain⟨f',hf',e⟩:=avO.1 hk;exact Gv.2 ⟨by rw[← e];exact(kf f' hf').1,m1,m2⟩
 .unfold dB at f1;simp only[auC,auP]at f1;refine⟨gX.2 ?_,gX.2 ?_,gX.2 ?_⟩<;>omega
theorem XY{x:aV}(h:bM x=true):gK cu (ls (jZ x))=(norm x,true)/\jf cu (ls (jZ x))=norm x:=by
 obtain⟨p1,p2,p3,p4,_⟩:=Ad h;obtain⟨fs,gs,n,ds,⟨⟩⟩:=x;obtain⟨a1,a2⟩:=ac4 fs cu p1;obtain⟨b1,b2,_⟩:=afx p3 (([]:List dP)++fs,[],0,[],());obtain⟨c1,c2⟩:=afz gs (([]:List dP)++fs,[],n,[],()) p2;obtain⟨d1,d2⟩:=aiJ ds (([]:List dP)++fs,([]:List aQ)++gs,n,[],()) p4;have e:ls (jZ (fs,gs,n,ds,()))=ls (fs.map dD)++((jg n,())::(ls (gs.map fU)++ls (ds.map je))):=by unfold jZ;rw[WW];show _++((jg n,())::ls (gs.map fU++ds.map je))=_;rw[WW]
 rw[e];constructor
 .rw[TQ _ _ _ (by rw[a1]),a1,gK];have b1':kY (([]:List dP)++fs,[],0,[],()) (pieces 32 (jg n))=_:=b1;show(bif (kY (([]:List dP)++fs,[],0,[],()) (pieces 32 (jg n))).2 then gK (kY (([]:List dP)++fs,[],0,[],()) (pieces 32 (jg n))).1 _ else _)=_;rw[b1'];show gK (([]:List dP)++fs,[],n,[],()) _=_;rw[TQ _ _ _ (by rw[c1]),c1];exact d1
 .rw[TR,a2,jf];have b2':oZ (([]:List dP)++fs,[],0,[],()) (gG (jg n))=_:=b2;show jf (oZ (([]:List dP)++fs,[],0,[],()) (gG (jg n))) _=_;rw[b2',TR];show jf (jf (([]:List dP)++fs,[],n,[],()) _) _=_;rw[c2];exact d2
theorem ajq{d:List bf}(h:mZ d=true):mZ (d.map vz)=true:=by
 obtain⟨h1,h2,h3⟩:=JY.1 h;refine JY.2 ⟨λx hx=>?_,?_,by rw[auV];exact h3⟩
 .obtain⟨y,hy,rfl⟩:=avO.1 hx;obtain⟨t,_,_,_,_,_,ep,hq,_⟩:=Gw (h1 y hy).2;refine⟨(h1 y hy).1,?_⟩;show ax (fJ (textOf y.2.1))=true;rw[ep];exact hq
 .rw[axL];exact h2
theorem Xq(s:Bytes):∀(d:List bf)(k:Int),tZ k (d.map vz) s=tZ k d s
 |[],_=>rfl
 |x::r,k=>by rw[auX,tZ,tZ,Xq s r];show(bif x.1==s then k else _)=_;rfl
theorem alB{d:List bf}{i:Nat}(hi:i<d.length):bZ (d.map vz) i=vz (bZ d i):=by unfold bZ;rw[auF,auF,avw,auJ hi];rfl
theorem alC{d:List bf}(h:mZ d=true)(e:Nat×Nat×Nat):e∈cZ (d.map vz)↔e∈cZ d:=by
 obtain⟨h1,_,_⟩:=JY.1 h;unfold cZ;rw[axq,axq,auV];refine exists_congr λi=>awh λhi=>?_;have hi:=avq.1 hi;obtain⟨t,_,_,_,_,_,ep,hq,atd⟩:=Gw (h1 _ (akb hi)).2;have eq:(bZ (d.map vz) i).2.1=post t 0:=by rw[alB hi];exact ep
 have pl:∀s,aA (d.map vz) s=aA d s:=λs=>Xq s d 0;rw[eq,au4,au4];have one:∀(b:Bool)(k:Nat),(e∈(dO (post t 0) b).filterMap λs=>bif decide (0<=aA (d.map vz) s)then some (i,(aA (d.map vz) s).toNat,k)else none)↔
  e∈(dO (bZ d i).2.1 b).filterMap λs=>bif decide (0<=aA d s)then some (i,(aA d s).toNat,k)else none:=λb k=>by
  rw[awq,awq];refine exists_congr λs=>?_;rw[atd s b,pl s]
 rw[one false 0,one true 1]
theorem alD{d:List bf}(h:dI d=true):dI (d.map vz)=true:=by obtain⟨h1,L,h2⟩:=lV.1 h;exact lV.2 ⟨ajq h1,L,λe he=>h2 e ((alC h1 e).1 he)⟩
theorem OX{x:aV}(h:bM x=true):bM (norm x)=true:=by unfold bM at h ⊢;rw[auC]at h ⊢;exact⟨h.1,alD h.2⟩
theorem afA{x:aV}(h:bM x=true):jZ (norm x)=jZ x:=by
 obtain⟨_,_,_,p4,_⟩:=Ad h;unfold jZ norm;dsimp only;have:(x.2.2.2.1.map vz).map je=x.2.2.2.1.map je:=by rw[av4];refine awi λd hd=>?_;obtain⟨t,hw,_,_,et,_,ep,hq,_⟩:=Gw (p4 d hd).2;show jU++32::(d.1++32::textOf (fJ (textOf d.2.1)))=_;rw[ep,(afs hw hq).1,← et];rfl
 rw[this]
theorem DW{x:aV}(h:bM x=true):enc x=ls (jZ x):=by unfold enc;rw[h];rfl
theorem amS{x:aV}(h:bM x=false):enc x=[]:=by unfold enc;rw[h];rfl
theorem alE{x:aV}(h:bM x=true):dec (enc x)=(norm x,true):=by unfold dec;rw[DW h,(XY h).2,OX h,DW (OX h),afA h,auS rfl];rfl
theorem aiK{l:LS}(h:(dec l).2=true):bM (dec l).1=true/\enc (dec l).1=l/\norm (dec l).1=(dec l).1:=by
 unfold dec at h ⊢;cases hc:bM (jf cu l)&&decide (enc (jf cu l)=l)with
 |false=>rw[hc]at h;cases h
 |true=>rw[auC,auP]at hc;refine⟨hc.1,hc.2,?_⟩;show norm (jf cu l)=jf cu l;have:=(XY hc.1).2;rw[← DW hc.1,hc.2]at this;exact this.symm
theorem aor{l:LS}(h:(dec l).2=false):dec l=(cu,false):=by
 unfold dec at h ⊢;cases hc:bM (jf cu l)&&decide (enc (jf cu l)=l)with
 |false=>rfl
 |true=>rw[hc]at h;cases h
theorem aak(l:LS):ahJ l=dec l:=by
 unfold ahJ dec;cases h1:(gK cu l).2&&(bM (gK cu l).1&&decide (enc (gK cu l).1=l))with
 |true=>
  rw[auC,auC,auP]at h1;obtain⟨a,b,c⟩:=h1;obtain⟨e1,e2⟩:=XY b;rw[← DW b,c]at e1 e2;have e3:jf cu l=(gK cu l).1:=by rw[e2,show norm (gK cu l).1=(gK cu l).1 from(congrArg (·.1) e1).symm]
  rw[e3,b,c,auS rfl];rfl
 |false=>
  cases h2:bM (jf cu l)&&decide (enc (jf cu l)=l)with
  |false=>rfl
  |true=>
   rw[auC,auP]at h2;obtain⟨b,c⟩:=h2;obtain⟨e1,e2⟩:=XY b;rw[← DW b,c]at e1 e2;have e3:(gK cu l).1=jf cu l:=by rw[e1];exact e2.symm
   rw[e3,e1,b,c,auS rfl]at h1;cases h1
end Sp
namespace Sp
open Go
def sumOf(s:Bytes):Int:=s.foldl (λn b=>(33*n+(b.toNat:Int)).tmod 65521) 3
def linesT(ws:List Bytes):Bytes:=(ws.map (· ++[10])).flatten
def jo(n:Int)(x:aV):Bytes:=linesT (Lib.itoa n::jZ x)
noncomputable def slot (n:Int) (x:aV):Bytes:=bif bM x&&(decide (1<=n)&&decide (n<=1000000000))then jo n x++(Lib.itoa (sumOf (jo n x))++[46])else[]
def inner(l:LS):LS:=(l.take (l.length-1)).drop 1
noncomputable def cO (s:Bytes):Int×aV×Bool:=
 bif decide (2<=(pieces 10 s).length)&&((dec (inner (pieces 10 s))).2&&decide (slot (parseNum ((pieces 10 s).getD 0 ([],())).1) (dec (inner (pieces 10 s))).1=s))then(parseNum ((pieces 10 s).getD 0 ([],())).1,(dec (inner (pieces 10 s))).1,true)else(0,cu,false)
def zM(l:LS):Prop:=l.length<=100/\∀x∈l,x.1.length<=1000
def qm(s:Bytes):LS:=(pieces 10 s).take ((pieces 10 s).length-1)
def mW(s:Bytes):Prop:=(pieces 10 s).length<=100/\∀x∈pieces 10 s,x.1.length<=1000
theorem Xc(s:Bytes):0<=sumOf s/\sumOf s<65521:=by
 have:∀(s:Bytes)(n:Int),0<=n->n<65521->0<=s.foldl (λn b=>(33*n+(b.toNat:Int)).tmod 65521) n/\s.foldl (λn b=>(33*n+(b.toNat:Int)).tmod 65521) n<65521:=by
  intro s
  induction s with
  |nil=>exactλn h1 h2=>⟨h1,h2⟩
  |cons b r ih=>intro n h1 h2;rw[axX];exact ih _ (aw8 _ aaV) (axI _ abV)
 exact this s 3 abV abV
def pz(s:Bytes):Prop:=∀b∈s,b≠46
theorem EF{n:Int}(h:dX n=true):pz (Lib.itoa n):=λb hb e=>by have:=(iq h).2.2.1 b hb;rw[e]at this;exact absurd this.1 abV
theorem xA{s:Bytes}(h:aS s=true):pz s:=λb hb e=>by unfold aS lower at h;rw[auC,auC,auY]at h;have:=h.1.1 b hb;rw[e]at this;exact absurd this abV
theorem I7(op:Int):pz (fP op):=by unfold fP;cases op==1<;>cases op==2<;>cases op==3<;>cases op==4<;>cases op==5<;>cases op==6<;>cases op==7<;>cases op==8<;>cases op==9<;>(intro b hb;revert b;decide)
theorem aeD{v:DX}(h:bI v.1 v.2.1 v.2.2.1=true)(h0:v.1≠0):pz (bg v):=by
 rcases als h h0 with⟨n,rfl,h1,h2⟩|⟨s,rfl,hs⟩
 .have:bg (1,n,[],())=Lib.itoa n:=by unfold bg;rw[h];rfl
  rw[this];exact EF (gX.2 aaV)
 .have:bg (2,0,s,())=s:=by unfold bg;rw[h];rfl
  rw[this];exact xA hs
theorem H7:∀ws:List Bytes,(∀w∈ws,pz w)->pz (Lib.join ws [32])
 |[],_=>λb hb=>by cases hb
 |x::r,h=>by
  intro b hb;rw[Lib.join_cons]at hb;rcases au4.1 hb with hb|hb
  .exact h x auO b hb
  .have tail:∀r:List Bytes,(∀w∈r,pz w)->pz (Lib.joinTail [32] r):=by
    intro r
    induction r with
    |nil=>intro _ b hb;cases hb
    |cons y t ih=>
     intro h b hb;rw[Lib.joinTail]at hb;rcases au4.1 hb with hb|hb
     .rcases au4.1 hb with hb|hb
      .rw[au0.1 hb];decide
      .exact h y auO b hb
     .exact ih (λw hw=>h w (auM _ hw)) b hb
   exact tail r (λw hw=>h w (auM _ hw)) b hb
theorem afB:∀as:List aY,(∀a∈as,IY a=true)->∀w∈dQ as,pz w
 |[],_,w,hw=>by cases hw
 |a::r,h,w,hw=>by
  obtain⟨a1,a2,a3⟩:=Gv.1 (h a auO);rcases auQ.1 hw with rfl|hw
  .exact xA (kU a1)
  rcases auQ.1 hw with rfl|hw
  .exact aeD a2 a3
  .exact afB r (λb hb=>h b (auM _ hb)) w hw
theorem alF{n:ak}(h:dM n 0=true)(hw:n.1=1\/n.1=2\/n.1=3\/n.1=4\/n.1=8\/n.1=9):∀w∈jB n,pz w:=by
 obtain⟨op,l,r,s,v⟩:=n;unfold dM at h;rcases hw with rfl|rfl|rfl|rfl|rfl|rfl<;>simp at h<;>intro w hw2
 .rw[au0.1 hw2];exact I7 1
 .rcases auQ.1 hw2 with rfl|hw2
  .exact I7 2
  .rw[au0.1 hw2];exact xA (kU h.2)
 .rcases auQ.1 hw2 with rfl|hw2
  .exact I7 3
  rcases auQ.1 hw2 with rfl|hw2
  .exact xA (kU h.1.1.2)
  .rw[au0.1 hw2];exact aeD h.1.2 h.2
 .rcases auQ.1 hw2 with rfl|hw2
  .exact I7 4
  rcases auQ.1 hw2 with rfl|hw2
  .exact xA (kU h.1.1.2)
  .rw[au0.1 hw2];exact aeD h.1.2 (by rw[h.2];decide)
 .rcases auQ.1 hw2 with rfl|hw2
  .exact I7 8
  .rw[au0.1 hw2];exact xA h.2
 .rcases auQ.1 hw2 with rfl|hw2
  .exact I7 9
  .rw[au0.1 hw2];exact xA h.2
theorem N7:∀t:QT,xu t->zq t->∀w∈aF t,pz w
 |.leaf n,hw,ho,w,h=>alF ho hw w h
 |.neg t,hw,ho,w,h=>by
  rcases auQ.1 h with rfl|h
  .exact I7 5
  .exact N7 t hw ho w h
 |.two op a b,⟨_,w1,w2⟩,⟨o1,o2⟩,w,h=>by
  rcases auQ.1 h with rfl|h
  .exact I7 op
  rcases au4.1 h with h|h
  .exact N7 a w1 o1 w h
  .exact N7 b w2 o2 w h
theorem Fb{s:Bytes}(h:s.all (λb=>b !=46)=true):pz s:=λb hb e=>by have:=auY.1 h b hb;rw[e]at this;exact absurd this abV
def aqK(l:Bytes):Prop:=l.length<=600/\(∀b∈l,b≠10)/\pz l
theorem agC{ws:List Bytes}(h:∀w∈ws,fine w):∀b∈Lib.join ws [32],b≠10:=λb hb e=>by have:=auY.1 (aj9 ws λw hw=>(h w hw).2) b hb;rw[e]at this;exact absurd this abV
theorem E8{x:aV}(h:bM x=true):(∀l∈jZ x,aqK l)/\(jZ x).length<=23:=by
 obtain⟨p1,p2,p3,p4,p5,p6,p7⟩:=Ad h;refine⟨λl hl=>?_,?_⟩
 .unfold jZ at hl;rcases au4.1 hl with hl|hl
  .obtain⟨f,hf,rfl⟩:=avO.1 hl;obtain⟨k1,k2⟩:=p1 f hf;obtain⟨_,_,c,ws,e,hw⟩:=ac3 k1 k2 x;refine⟨c,arV,?_⟩;unfold dD;rw[k1];have d1:=xA (kU k1);rcases k2 with k|k<;>rw[k]
   .show pz (gZ++32::(f.1++32::JL));rw[Xp];refine H7 _ λw hw=>?_;rcases auQ.1 hw with rfl|hw
    .exact Fb rfl
    rcases auQ.1 hw with rfl|hw
    .exact d1
    .rw[au0.1 hw];exact Fb rfl
   .show pz (gZ++32::(f.1++32::rM));rw[Xp];refine H7 _ λw hw=>?_;rcases auQ.1 hw with rfl|hw
    .exact Fb rfl
    rcases auQ.1 hw with rfl|hw
    .exact d1
    .rw[au0.1 hw];exact Fb rfl
  rcases auQ.1 hl with rfl|hl
  .obtain⟨_,_,c,ws,e,hw⟩:=afx p3 x;refine⟨c,arV,?_⟩;unfold jg;rw[← SC];refine H7 _ λw hw=>?_;rcases auQ.1 hw with rfl|hw
   .exact Fb rfl
   .rw[au0.1 hw];exact EF p3
  rcases au4.1 hl with hl|hl
  .obtain⟨f,hf,rfl⟩:=avO.1 hl;obtain⟨k1,k2⟩:=p2 f hf;obtain⟨_,_,c,ws,e,hw⟩:=afy k1 k2 x;refine⟨c,arV,?_⟩;obtain⟨v1,v2,v3,v4⟩:=xq.1 k1;refine H7 _ λw hw=>?_;rcases auQ.1 hw with rfl|hw
   .exact Fb rfl
   rcases auQ.1 hw with rfl|hw
   .exact EF v2
   rcases auQ.1 hw with rfl|hw
   .exact EF v3
   rcases auQ.1 hw with rfl|hw
   .cases f.2.2.1<;>exact Fb rfl
   rcases auQ.1 hw with rfl|hw
   .exact EF v4
   .exact afB _ v1 w hw
  .obtain⟨d,hd,rfl⟩:=avO.1 hl;obtain⟨k1,k2⟩:=p4 d hd;obtain⟨_,_,c,ws,e,hw⟩:=aiI k1 k2 x;refine⟨c,arV,?_⟩;obtain⟨t,hwf,hot,_,ht,_⟩:=Gw k2;unfold je;rw[ht,Xp];refine H7 _ λw hw=>?_;rcases auQ.1 hw with rfl|hw
   .exact Fb rfl
   rcases auQ.1 hw with rfl|hw
   .exact xA k1
   .rw[au0.1 hw];exact H7 _ (N7 t hwf hot)
 .unfold jZ;rw[auB,auE,auB,auV,auV,auV];omega
theorem Um:∀(ws:List Bytes)(t:Bytes),(∀w∈ws,∀b∈w,b≠10)->pieces 10 (linesT ws++t)=ls ws++pieces 10 t
 |[],_,_=>rfl
 |w::r,t,h=>by
  have e:linesT (w::r)++t=w++10::(linesT r++t):=by unfold linesT;simp
  rw[e,acZ (h w auO),Um r t λv hv=>h v (auM _ hv)];rfl
theorem LJ(s:Bytes):dX (sumOf s)=true:=by have:=Xc s;exact gX.2 aaV
theorem J6{n:Int}{x:aV}(h:bM x=true)(h1:1<=n)(h2:n<=1000000000):slot n x=jo n x++(Lib.itoa (sumOf (jo n x))++[46]):=by unfold slot;rw[h,auS h1,auS h2];rfl
theorem aeE{n:Int}{x:aV}(h:slot n x≠[]):bM x=true/\1<=n/\n<=1000000000:=by
 unfold slot at h;cases hc:bM x&&(decide (1<=n)&&decide (n<=1000000000))with
 |false=>rw[hc]at h;exact absurd rfl h
 |true=>rw[auC,auC,auP,auP]at hc;exact⟨hc.1,hc.2.1,hc.2.2⟩
theorem akf{n:Int}(h:dX n=true):∀b∈Lib.itoa n,b≠10:=λb hb e=>by have:=(iq h).2.2.1 b hb;rw[e]at this;exact absurd this.1 abV
theorem Zj{n:Int}{x:aV}(h:bM x=true)(h1:1<=n)(h2:n<=1000000000):pieces 10 (slot n x)=ls (Lib.itoa n::jZ x)++[(Lib.itoa (sumOf (jo n x))++[46],())]:=by
 have hn:dX n=true:=gX.2 aaV;rw[J6 h h1 h2];unfold jo;rw[Um _ _ λw hw=>?_,Zg λb hb=>?_]
 .rcases au4.1 hb with hb|hb
  .exact akf (LJ _) b hb
  .rw[au0.1 hb];decide
 .rcases auQ.1 hw with rfl|hw
  .exact akf hn
  .exact((E8 h).1 w hw).2.1
theorem anb(a:Bytes×Unit)(l:LS)(b:Bytes×Unit):inner (a::(l++[b]))=l:=by unfold inner;rw[auE,auB,auE,auI,show l.length+(0+1)+1-1=l.length+1 from aaV,avV,axD,awn,ax0]
theorem anc{n:Int}{x:aV}(h:bM x=true):slot n (norm x)=slot n x:=by unfold slot jo;rw[h,OX h,afA h]
theorem ahP{n:Int}{x:aV}(h:bM x=true)(h1:1<=n)(h2:n<=1000000000):cO (slot n x)=(n,norm x,true):=by have hn:dX n=true:=gX.2 aaV;unfold cO;rw[Zj h h1 h2];have e1:ls (Lib.itoa n::jZ x)++[(Lib.itoa (sumOf (jo n x))++[46],())]=(Lib.itoa n,())::(ls (jZ x)++[(Lib.itoa (sumOf (jo n x))++[46],())]):=rfl;rw[e1,anb,← DW h,alE h];have e2:((Lib.itoa n,())::(enc x++[(Lib.itoa (sumOf (jo n x))++[46],())])).getD 0 ([],())=(Lib.itoa n,()):=rfl;rw[e2];dsimp only;rw[(o6 hn).2,anc h,auS rfl,auE,auB,auE,auS aaV];rfl
theorem aiL{s:Bytes}(h:(cO s).2.2=true):bM (cO s).2.1=true/\1<=(cO s).1/\(cO s).1<=1000000000/\slot (cO s).1 (cO s).2.1=s/\norm (cO s).2.1=(cO s).2.1:=by
 unfold cO at h ⊢;cases hc:decide (2<=(pieces 10 s).length)&&((dec (inner (pieces 10 s))).2&&decide (slot (parseNum ((pieces 10 s).getD 0 ([],())).1) (dec (inner (pieces 10 s))).1=s))with
 |false=>rw[hc]at h;cases h
 |true=>
  rw[auC,auC,auP,auP]at hc;obtain⟨a,b,c⟩:=hc;have hs:s≠[]:=λe=>by rw[e]at a;exact absurd a abV
  obtain⟨d1,d2,d3⟩:=aeE (n:=parseNum ((pieces 10 s).getD 0 ([],())).1) (x:=(dec (inner (pieces 10 s))).1) (by rw[c];exact hs);exact⟨d1,d2,d3,c,(aiK b).2.2⟩
theorem aos{n:Int}{x:aV}(h:bM x=true)(hn:dX n=true):pz (jo n x):=by
 intro b hb;unfold jo linesT at hb;obtain⟨l,hl,hb⟩:=List.mem_flatten.1 hb;obtain⟨w,hw,rfl⟩:=avO.1 hl;rcases au4.1 hb with hb|hb
 .rcases auQ.1 hw with rfl|hw
  .exact EF hn b hb
  .exact((E8 h).1 w hw).2.2 b hb
 .rw[au0.1 hb];decide
theorem amE{n:Int}{x:aV}{k:Nat}(hk:k<(slot n x).length):(cO ((slot n x).take k)).2.2=false:=by
 cases hc:(cO ((slot n x).take k)).2.2 with
 |false=>rfl
 |true=>
  obtain⟨a,b,c,d,_⟩:=aiL hc;generalize (cO ((slot n x).take k)).1=m at b c d;generalize (cO ((slot n x).take k)).2.1=y at a d;have hne:slot n x≠[]:=λe=>by rw[e]at hk;exact absurd hk (avE _)
  obtain⟨h,h1,h2⟩:=aeE hne;have hn:dX n=true:=gX.2 aaV;rw[J6 a b c]at d;have hl:k=(jo m y++(Lib.itoa (sumOf (jo m y))++[46])).length:=by rw[d,auN];omega
  have hpos:0<k:=by rw[hl,auB,auB,auE];omega
  have e46:(slot n x)[k-1]? =some 46:=by
   have:((slot n x).take k)[k-1]? =some 46:=by
    rw[← d,← auR];have hl2:k=(jo m y++Lib.itoa (sumOf (jo m y))).length+1:=by rw[hl,← auR,auB];rfl
    rw[avc aaV,show k-1-(jo m y++Lib.itoa (sumOf (jo m y))).length=0 from aaV];rfl
   rwa [avN aaV]at this
  rw[J6 h h1 h2,← auR]at e46;rw[J6 h h1 h2,← auR]at hk;rw[avn (by simp at hk ⊢;omega)]at e46;have hm:=avk e46;rcases au4.1 hm with hm|hm
  .exact absurd rfl (aos h hn 46 hm)
  .exact absurd rfl (EF (LJ _) 46 hm)
def kept(keep:Int)(n:Nat):Nat:=(max 0 (min keep (n:Int))).toNat
end Sp
namespace Go.Fw
open Go
end Go.Fw
namespace Sp
open Go
theorem ac5(s:Bytes):(aU s).1.2.2.1.length<=s.length:=by
 unfold aU;cases aW s with
 |true=>cases decide (parseNum s<=999)<;>exact auZ _
 |false=>
  cases s==[45]with
  |true=>exact auZ _
  |false=>cases aS s with
   |true=>exact auH _
   |false=>exact auZ _
theorem Qz(m:Nat):∀w:LS,(∀x∈w,x.1.length<=m)->2*(iI w).length<=w.length+1/\∀a∈iI w,a.1.length<=m/\a.2.2.2.1.length<=m
 |[],_=>⟨auZ _,λa ha=>by cases ha⟩
 |[x],h=>⟨auH _,λa ha=>by
  rw[iI,au0]at ha;subst ha;exact⟨h x auO,auK (ac5 []) (auZ _)⟩⟩
 |x::y::r,h=>by
  obtain⟨h1,h2⟩:=Qz m r λz hz=>h z (auM _ (auM _ hz));refine⟨by show 2*((iI r).length+1)<=r.length+1+1+1;omega,λa ha=>?_⟩;rw[iI]at ha;rcases auQ.1 ha with rfl|ha
  .exact⟨h x auO,auK (ac5 y.1) (h y (auM _ auO))⟩
  .exact h2 a ha
theorem ac6(s:Bytes):(fJ s).length<=9:=by
 cases h:gq s with
 |true=>exact(gQ (SK h).2.2).2
 |false=>unfold fJ;rw[h];exact auZ _
end Sp
namespace Sp
open Go
def aaP(m:Nat)(s:Bytes):Prop:=(pieces 10 s).length<=100/\∀x∈pieces 10 s,x.1.length<=m
theorem Xf{m:Nat}{s:Bytes}(h:aaP m s)(hm:m<=1000):mW s:=⟨h.1,λx hx=>auK (h.2 x hx) hm⟩
theorem ac7(b:UInt8):∀(l cur:Bytes),∃x∈bC b cur l,cur.length<=x.1.length
 |[],cur=>⟨(cur,()),auO,auH _⟩
 |c::r,cur=>by
  rw[bC];cases c==b with
  |true=>exact⟨(cur,()),auO,auH _⟩
  |false=>obtain⟨x,hx,hl⟩:=ac7 b r (cur++[c]);exact⟨x,hx,by rw[auB,auE]at hl;omega⟩
theorem Jh(b:UInt8)(m:Nat):∀(l cur:Bytes)(k:Nat),(∀x∈bC b cur l,x.1.length<=m)->(bC b cur (l.take k)).length<=(bC b cur l).length/\∀x∈bC b cur (l.take k),x.1.length<=m
 |l,cur,0,h=>by
  have hp:=LK b l cur;obtain⟨y,hy,hl⟩:=ac7 b l cur;rw[awM];refine⟨hp,λx hx=>?_⟩;have hx:x=(cur,()):=au0.1 hx;rw[hx];exact auK hl (h y hy)
 |[],cur,k+1,h=>⟨auH _,h⟩
 |c::r,cur,k+1,h=>by
  rw[avV];rw[bC]at h ⊢;rw[bC];cases hc:c==b with
  |true=>
   rw[hc]at h;obtain⟨i1,i2⟩:=Jh b m r [] k λx hx=>h x (auM _ hx);refine⟨axr i1,λx hx=>?_⟩;rcases auQ.1 hx with rfl|hx
   .exact h _ auO
   .exact i2 x hx
  |false=>rw[hc]at h;exact Jh b m r _ k h
theorem LY(b c:UInt8)(hc:(c==b)=false)(m:Nat):∀(l cur:Bytes),(∀x∈bC b cur l,x.1.length<=m)->(bC b cur (l++[c])).length=(bC b cur l).length/\∀x∈bC b cur (l++[c]),x.1.length<=m+1
 |[],cur,h=>by
  have e:bC b cur ([]++[c])=[(cur++[c],())]:=by show bC b cur [c]=_;rw[bC,hc];rfl
  rw[e];refine⟨rfl,λx hx=>?_⟩;rw[au0.1 hx,auB];have:=h (cur,()) auO;exact axr this
 |a::r,cur,h=>by
  rw[avH];rw[bC]at h ⊢;rw[bC];cases ha:a==b with
  |true=>
   rw[ha]at h;obtain⟨i1,i2⟩:=LY b c hc m r [] λx hx=>h x (auM _ hx);refine⟨congrArg (· +1) i1,λx hx=>?_⟩;rcases auQ.1 hx with rfl|hx
   .exact avh (h _ auO)
   .exact i2 x hx
  |false=>rw[ha]at h;exact LY b c hc m r _ h
theorem LZ(b:UInt8):∀(l cur:Bytes),((bC b cur l).map λx=>x.1.length+1).sum=cur.length+l.length+1
 |[],cur=>by show cur.length+1+0=cur.length+0+1;omega
 |c::r,cur=>by
  rw[bC];cases c==b with
  |true=>
   show(((cur,())::bC b [] r).map λx=>x.1.length+1).sum=_;rw[auX,avC,LZ b r [],auI,auE];show cur.length+1+_=_;omega
  |false=>show((bC b (cur++[c]) r).map λx=>x.1.length+1).sum=_;rw[LZ b r,auB,auE,auE,auI];omega
theorem afC(m:Nat):∀l:LS,(∀x∈l,x.1.length<=m)->(l.map λx=>x.1.length+1).sum<=l.length*(m+1)
 |[],_=>auZ _
 |a::r,h=>by have h1:=h a auO;have h2:=afC m r λx hx=>h x (auM _ hx);rw[auX,avC,auE,avj,axn];omega
theorem XL{s:Bytes}(h:mW s):s.length<=100100:=by have h1:=LZ 10 s [];have h2:=afC 1000 _ h.2;have h3:(pieces 10 s).length*(1000+1)<=100*(1000+1):=au1 _ h.1;have h4:((pieces 10 s).map λx=>x.1.length+1).sum=([]:Bytes).length+s.length+1:=h1;rw[auI]at h4;omega
theorem aik{m:Nat}{s:Bytes}(h:aaP m s)(k:Nat):aaP m (s.take k):=by obtain⟨i1,i2⟩:=Jh 10 m s [] k h.2;exact⟨auK i1 h.1,i2⟩
theorem amF{s:Bytes}(h:mW s)(k:Nat):mW (s.take k):=aik (m:=1000) h k
theorem apx{m:Nat}{s:Bytes}(h:aaP m s){c:UInt8}(hc:(c==10)=false):aaP (m+1) (s++[c]):=by obtain⟨i1,i2⟩:=LY 10 c hc m s [] h.2;exact⟨auK (axP i1) h.1,i2⟩
theorem aii(l:List Bytes):(ls l).length=l.length:=ar6
theorem afp(n:Int)(x:aV):aaP 700 (slot n x):=by
 by_cases h:slot n x=[]
 .rw[h];refine⟨abV,λy hy=>?_⟩;have hy:y∈[(([]:Bytes),())]:=hy;rw[au0.1 hy];exact auZ _
 .obtain⟨h0,h1,h2⟩:=aeE h;obtain⟨e1,e2⟩:=E8 h0;have hn:=(iq (gX.2 (show 0<=n/\n<=1000000000 from aaV))).2.2.2.2;have hs:=(iq (LJ (jo n x))).2.2.2.2;unfold aaP;rw[Zj h0 h1 h2];refine⟨by rw[auB,aii,auE,auE,auI];omega,λy hy=>?_⟩;rcases au4.1 hy with hy|hy
  .obtain⟨w,hw,rfl⟩:=avO.1 hy;rcases auQ.1 hw with rfl|hw
   .show(Lib.itoa n).length<=700;omega
   .have:=(e1 w hw).1;show w.length<=700;omega
  .rw[au0.1 hy,auB];show _+1<=700;omega
theorem ahO(n:Int)(x:aV):mW (slot n x):=Xf (afp n x) abV
theorem aij{x:aV}(h:bM x=true):fH x:=by obtain⟨p1,p2,p3,p4,p5,p6,p7⟩:=Ad h;refine⟨⟨auK p5 abV,auK p6 abV,λf hf=>auK (p2 f hf).2 abV⟩,auK p7 abV,λd hd=>auK (gQ (p4 d hd).2).2 abV⟩
theorem alG:fH cu:=⟨⟨abV,abV,λf hf=>by cases hf⟩,abV,λd hd=>by cases hd⟩
theorem afg(l:LS):fH (dec l).1:=by
 cases h:(dec l).2 with
 |false=>rw[aor h];exact alG
 |true=>exact aij (aiK h).1
theorem ali(ws:List Bytes)(h:∀w∈ws,w.length<=600):(linesT ws).length<=ws.length*601:=by
 induction ws with
 |nil=>exact auZ _
 |cons w r ih=>have h1:=h w auO;have h2:=ih λv hv=>h v (auM _ hv);have e:linesT (w::r)=(w++[10])++linesT r:=rfl;rw[e,auB,auB,auE,auE,auI,avj];omega
theorem Y7(ws:List Bytes)(w:Bytes):linesT (ws++[w])=linesT ws++(w++[10]):=by unfold linesT;simp
def Ui(n:Nat)(x:aV):Prop:=x.1.length<=n/\x.2.1.length<=n/\(∀f∈x.2.1,f.2.2.2.2.1.length<=1000)/\x.2.2.2.1.length<=n/\∀d∈x.2.2.2.1,d.2.1.length<=1000
theorem afe{n:Nat}{x:aV}(h:Ui n x)(hn:n<=1000):fH x:=⟨⟨auK h.1 hn,auK h.2.1 hn,h.2.2.1⟩,auK h.2.2.2.1 hn,h.2.2.2.2⟩
theorem afD{id:Int}{r:LS}(h:r.length<=1001)(hx:∀x∈r,x.1.length<=1000):(CP id r).2.2.2.2.1.length<=1000:=by have:=(Qz 1000 (r.drop 3) λx hm=>hx x (av2 hm)).1;rw[au9]at this;show(iI (r.drop 3)).length<=1000;omega
theorem ane{w:LS}(h:w.length<=1001)(hx:∀x∈w,x.1.length<=1000):(jw w).1.2.2.2.2.1.length<=1000:=by
 unfold jw;cases decide ((w.length:Int)<4)||!(w.length%2==0)with
 |true=>exact auZ _
 |false=>exact afD amr λx hm=>hx x (av2 hm)
theorem XZ{α:Type}{p:α->Prop}{l:List α}{a:α}(h:∀x∈l,p x)(ha:p a):∀x∈l++[a],p x:=λx hx=>by
 rcases au4.1 hx with hx|hx
 .exact h x hx
 .rw[au0.1 hx];exact ha
theorem J9{α:Type}{l:List α}{a:α}{n:Nat}(h:l.length<=n):(l++[a]).length<=n+1:=by rw[auB];exact axr h
theorem amy{n:Nat}{x:aV}{w:LS}(h:Ui n x)(hw:w.length<=1001)(hx:∀y∈w,y.1.length<=1000):Ui (n+1) (kY x w).1:=by
 obtain⟨h1,h2,h3,h4,h5⟩:=h;unfold kY;cases wordAt w 0==gZ&&decide ((w.length:Int)=3)with
 |true=>exact⟨J9 h1,avh h2,h3,avh h4,h5⟩
 |false=>
 cases wordAt w 0==qg&&decide ((w.length:Int)=2)with
 |true=>exact⟨avh h1,avh h2,h3,avh h4,h5⟩
 |false=>
 cases wordAt w 0==jY with
 |true=>exact⟨avh h1,J9 h2,XZ h3 (ane amr λy hy=>hx y (av2 hy)),avh h4,h5⟩
 |false=>
 cases wordAt w 0==jU&&decide (2<(w.length:Int))with
 |true=>exact⟨avh h1,avh h2,h3,J9 h4,XZ h5 (auK (ac6 _) abV)⟩
 |false=>exact⟨avh h1,avh h2,h3,avh h4,h5⟩
theorem amD{n:Nat}{x:aV}{w:LS}(h:Ui n x)(hw:w.length<=1001)(hx:∀y∈w,y.1.length<=1000):Ui (n+1) (oZ x w):=by
 obtain⟨h1,h2,h3,h4,h5⟩:=h;unfold oZ;cases wordAt w 0==gZ with
 |true=>exact⟨J9 h1,avh h2,h3,avh h4,h5⟩
 |false=>
 cases wordAt w 0==qg with
 |true=>exact⟨avh h1,avh h2,h3,avh h4,h5⟩
 |false=>
 cases wordAt w 0==jY with
 |true=>exact⟨avh h1,J9 h2,XZ h3 (afD amr λy hy=>hx y (av2 hy)),avh h4,h5⟩
 |false=>
 cases wordAt w 0==jU with
 |true=>
  refine⟨avh h1,avh h2,h3,J9 h4,XZ h5 ?_⟩;cases decide (2<(w.length:Int))with
  |true=>exact auK (ac6 _) abV
  |false=>exact auZ _
 |false=>exact⟨avh h1,avh h2,h3,avh h4,h5⟩
theorem ahK:Ui 0 cu:=⟨auH _,auH _,λf hf=>(by cases hf),auH _,λd hd=>(by cases hd)⟩
theorem amx{l:LS}{n:Nat}(hn:n<l.length)(h:(gK cu (l.take n)).2=true):gK cu (l.take (n+1))=kY (gK cu (l.take n)).1 (pieces 32 (l.getD n ([],())).1):=by
 have e:l.take (n+1)=l.take n++[l.getD n ([],())]:=by rw[avD hn,auF,auJ hn];rfl
 rw[e,TQ _ _ _ h,gK];cases hr:(kY (gK cu (l.take n)).1 (pieces 32 (l.getD n ([],())).1)).2 with
 |true=>exact axU rfl hr.symm
 |false=>exact axU rfl hr.symm
theorem afE:∀(a:LS)(x:aV)(b:LS),(gK x a).2=false->(gK x (a++b)).2=false
 |[],_,_,h=>afH
 |l::r,x,b,h=>by
  rw[avH,gK];rw[gK]at h;cases hr:(kY x (pieces 32 l.1)).2 with
  |true=>rw[hr]at h;exact afE r _ b h
  |false=>rfl
theorem anK{l:LS}{n:Nat}(h:(gK cu (l.take n)).2=false):dec l=(cu,false):=by have:=afE (l.take n) cu (l.drop n) h;rw[awm]at this;rw[← aak];unfold ahJ;rw[this];rfl
theorem amC{l:LS}{n:Nat}(hn:n<l.length):jf cu (l.take (n+1))=oZ (jf cu (l.take n)) (gG (l.getD n ([],())).1):=by
 have e:l.take (n+1)=l.take n++[l.getD n ([],())]:=by rw[avD hn,auF,auJ hn];rfl
 rw[e,TR];rfl
theorem aji(x:aV)(y k:Bytes):kY x [(gZ,()),(y,()),(k,())]=((x.1++[(y,(bif k==rM then 2 else 1),())],x.2.1,x.2.2.1,x.2.2.2.1,()),true):=rfl
theorem alk(x:aV)(y:Bytes):kY x [(qg,()),(y,())]=((x.1,x.2.1,parseNum y,x.2.2.2.1,()),aW y):=rfl
theorem alm(x:aV)(r:LS):kY x ((jY,())::r)=((x.1,x.2.1++[(jw r).1],x.2.2.1,x.2.2.2.1,()),(jw r).2):=rfl
theorem amX(x:aV)(y:Bytes)(r:LS)(hr:0<r.length):kY x ((jU,())::(y,())::r)=((x.1,x.2.1,x.2.2.1,x.2.2.2.1++[(y,fJ (gm r),())],()),gq (gm r)):=by
 have e:kY x ((jU,())::(y,())::r)=bif decide (2<((((jU,())::(y,())::r:LS).length:Nat):Int))then((x.1,x.2.1,x.2.2.1,x.2.2.2.1++[(y,fJ (gm r),())],()),gq (gm r))else(x,false):=rfl
 rw[e,auS (by rw[auE,auE];omega)];rfl
theorem aln(x:aV)(x0:Bytes)(r:LS)(h1:¬(x0=gZ/\r.length=2))(h2:¬(x0=qg/\r.length=1))(h3:¬x0=jY)(h4:¬(x0=jU/\2<=r.length)):kY x ((x0,())::r)=(x,false):=by
 unfold kY;have e0:wordAt ((x0,())::r) 0=x0:=eH _ _;rw[e0,auE];have f1:(x0==gZ&&decide (((r.length+1:Nat):Int)=3))=false:=by
  rw[awG,auD,avi];by_cases e:x0=gZ
  .exact .inr λg=>h1 ⟨e,aaV⟩
  .exact .inl e
 have f2:(x0==qg&&decide (((r.length+1:Nat):Int)=2))=false:=by
  rw[awG,auD,avi];by_cases e:x0=qg
  .exact .inr λg=>h2 ⟨e,aaV⟩
  .exact .inl e
 have f3:(x0==jY)=false:=auD.2 h3;have f4:(x0==jU&&decide (2<((r.length+1:Nat):Int)))=false:=by
  rw[awG,auD,avi];by_cases e:x0=jU
  .exact .inr λg=>h4 ⟨e,aaV⟩
  .exact .inl e
 rw[f1,f2,f3,f4];rfl
end Sp
namespace Sp
open Go
end Sp
