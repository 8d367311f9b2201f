import Derived.Test.YtkogcnaellmcdaaGreatFwA
import Derived.Lib.ItoaNum
import Derived.Lib.ItoaLen
import Derived.Lib.Join
import Derived.Test.YtkogcnaellmcdaaGreatFwC
import Derived.Lib.Fields
import Derived.Lib.Atoi
import Derived.Lib.SplitLaws
namespace Sp
open Go
abbrev Bytes:=List UInt8
abbrev LI:=List (Int×Unit)
abbrev LS:=List (Bytes×Unit)
def aG(n:Nat)(left:Int):Int:=if left-n<0 then -1 else left-n
theorem take_succ'{α:Type}(a:List α)(n:Nat)(d:α)(h:n<a.length):a.take (n+1)=a.take n++[a.getD n d]:=by rw[aqt h,apI,apw h];rfl
def aaC(l:LI):Prop:=∀x∈l,-9223372036854775808<=x.1/\x.1<=9223372036854775807
theorem aaC.take{a:LI}(h:aaC a)(n:Nat):aaC (a.take n):=λx hx=>h x (List.mem_of_mem_take hx)
theorem aaC.get{a:LI}(h:aaC a){n:Nat}(hn:n<a.length)(d:Int×Unit):(Lib.itoa (a.getD n d).1).length<=21:=by
 have:a.getD n d∈a:=by rw[apI,apw hn,Option.getD_some];exact arA hn
 exact Lib.itoa_length_le _ (h _ this).1 (h _ this).2
end Sp
namespace Sp
open Go
set_option synthInstance.maxSize 100000
set_option synthInstance.maxHeartbeats 1000000
abbrev RV:=Int×Int×Bytes×Unit
abbrev dN:=Bytes×Int×Int×Bytes×Unit
abbrev aU:=Int×Int×Int×Bytes×Int×Int×Bytes×Unit
abbrev aA:=Int×Int×Bool×Int×List dN×Unit
abbrev aB:=Bytes×List aU×Unit
abbrev ja:=Int×Int×Int×Bool×Int×List dN×Int×Bytes×List aU×Unit
def Yc:dN->Nat|(n,_,_,s,_)=>n.length+s.length
def Tt:aU->Nat|(_,_,_,n,_,_,s,_)=>n.length+s.length
def jg{α:Type}(f:α->Nat):List α->Nat
 |[]=>0
 |x::r=>1+f x+jg f r
def Dt(a:List dN):Nat:=jg Yc a
def Bf(a:List aU):Nat:=jg Tt a
def Tv:aA->Nat|(_,_,_,_,a,_)=>Dt a
def J3:aB->Nat|(n,q,_)=>n.length+Bf q
instance:DecidableEq RV:=inferInstance
instance:DecidableEq dN:=inferInstance
instance:DecidableEq aU:=inferInstance
instance:DecidableEq aA:=inferInstance
instance:DecidableEq aB:=inferInstance
instance:DecidableEq (Int×aB):=inferInstance
instance:DecidableEq (List dN×Int×aB):=inferInstance
instance:DecidableEq (Bool×Int×List dN×Int×aB):=inferInstance
instance aoq:DecidableEq ja:=(inferInstance:DecidableEq (Int×Int×Int×Bool×Int×List dN×Int×aB))
instance:DecidableEq (List ja):=inferInstance
instance:DecidableEq (List ja×Bytes×Int×Unit):=inferInstance
def lower(s:Bytes):Bool:=s.all λc=>decide (97<=c.toNat)&&decide (c.toNat<=122)
def dU(s:Bytes):Bool:=lower s&&decide (1<=(s.length:Int))&&decide ((s.length:Int)<=6)
def xk(n:Int):Bool:=decide (0<=n)&&decide (n<=1000000000)
def idxFrom:Int->LI->Int
 |_,[]=>-1
 |k,x::r=>if xk x.1 then idxFrom (k+1) r else k
def idxOf(l:LI):Int:=idxFrom 0 l
end Sp
namespace Sp
open Go
abbrev bM:=Bytes×Int×Unit
abbrev cu:=List bM×List aA×Int×Unit
instance:DecidableEq bM:=inferInstance
instance:DecidableEq (List bM):=inferInstance
instance:DecidableEq (List aA):=inferInstance
instance:DecidableEq (List aA×Int×Unit):=inferInstance
instance aoO:DecidableEq cu:=(inferInstance:DecidableEq (List bM×List aA×Int×Unit))
def usual:List bM:=[([97],1,()),([98],1,()),([110],2,()),([116],2,())]
def Hu(f:aA):Prop:=f.2.2.2.2.1.length<=1000
def iy(s:cu):Prop:=s.1.length<=1000/\s.2.1.length<=1000/\∀f∈s.2.1,Hu f
def eX(n:Nat)(f:Nat->Bool):Bool:=(List.range n).all f
def fA(s:Bytes):Bool:=lower s&&decide (1<=(s.length:Int))&&decide ((s.length:Int)<=1)
def gq(k n:Int)(s:Bytes):Bool:=
 bif decide (k=0)then decide (n=0)&&decide (s=[])
 else bif decide (k=1)then decide (0<=n)&&decide (n<=999)&&decide (s=[])
 else bif decide (k=2)then dU s&&decide (n=0)
 else false
def kindOf:List bM->Bytes->Int
 |[],_=>0
 |f::r,s=>bif decide (f.1=s)then f.2.1 else kindOf r s
def fieldAt(fs:List bM)(i:Nat):bM:=fs.getD i ([],0,())
def gy(fs:List bM)(i:Nat):Bool:=
 fA (fieldAt fs i).1&&(decide (1<=(fieldAt fs i).2.1)&&decide ((fieldAt fs i).2.1<=2))&&!(decide (0<i)&&!Op.bytesLess (fieldAt fs (i-1)).1 (fieldAt fs i).1)
def bP(fs:List bM):Bool:=eX fs.length (gy fs)&&decide ((fs.length:Int)<=5)
def fU(fs:List bM)(name:Bytes)(k n:Int)(s:Bytes):Bool:=gq k n s&&!decide (k=0)&&decide (k=kindOf fs name)
def bU(as:List dN)(i:Nat):dN:=as.getD i ([],0,0,[],())
def iD(fs:List bM)(as:List dN)(i:Nat):Bool:=
 fU fs (bU as i).1 (bU as i).2.1 (bU as i).2.2.1 (bU as i).2.2.2.1&&!(decide (0<i)&&!Op.bytesLess (bU as (i-1)).1 (bU as i).1)
def nC(fs:List bM)(as:List dN):Bool:=eX as.length (iD fs as)
def dJ(fs:List bM)(f:aA):Bool:=
 nC fs f.2.2.2.2.1&&bP fs&&(decide (1<=f.1)&&decide (f.1<=60))&&(decide (0<=f.2.1)&&decide (f.2.1<=2))&&(decide (0<=f.2.2.2.1)&&decide (f.2.2.2.1<=60))
def fileAt(fs:List aA)(i:Nat):aA:=fs.getD i (0,0,false,0,[],())
def iQ(s:cu)(i:Nat):Bool:=
 dJ s.1 (fileAt s.2.1 i)&&decide ((fileAt s.2.1 i).1<s.2.2.1)&&!(decide (0<i)&&!decide ((fileAt s.2.1 (i-1)).1<(fileAt s.2.1 i).1))
def aW(s:cu):Bool:=
 eX s.2.1.length (iQ s)&&bP s.1&&decide ((s.2.1.length:Int)<=12)&&(decide (1<=s.2.2.1)&&decide (s.2.2.1<=61))
def mF:Int->List aA->Int->Int
 |_,[],_=>-1
 |k,f::r,id=>bif decide (f.1=id)then k else mF (k+1) r id
def place(fs:List aA)(id:Int):Int:=mF 0 fs id
def ig(f:aA)(u:Int):Bool:=(decide (0<=u)&&decide (u<=2))&&(decide (f.2.1=u)||f.2.2.1)
def ajP(f:aA)(u:Int):Bool:=(decide (0<=u)&&decide (u<=2))&&decide (f.2.1=u)
def unlink(fs:List aA)(f:aA):aA:=(f.1,f.2.1,f.2.2.1,(bif decide (place fs f.2.2.2.1<0)then 0 else f.2.2.2.1),f.2.2.2.2.1,())
def visible(s:cu)(u:Int):cu:=
 let fs:=s.2.1.filter (ig · u)
 (s.1,fs.map (unlink fs),s.2.2.1,())
def alU:aA:=(0,0,false,0,[],())
def OJ(s:cu)(id:Int):aA×Bool:=
 bif decide (place s.2.1 id<0)then(alU,false)else(fileAt s.2.1 (place s.2.1 id).toNat,true)
def afv(name:Bytes)(b:dN):Bool:=!(b.1==name)
def afw(name:Bytes)(b:dN):Bool:=Op.bytesLess b.1 name||b.1==name
def alc(as:List dN)(a:dN):List dN:=as.takeWhile (afw a.1)++a::as.dropWhile (afw a.1)
def agU(as:List dN)(name:Bytes)(k n:Int)(s:Bytes):List dN:=
 bif decide (k=0)then as.filter (afv name)else alc (as.filter (afv name)) (name,k,n,s,())
def wB(s:cu)(f:aA):cu×Int×Bool:=
 let g:aA:=(s.2.2.1,f.2)
 bif aW s&&decide ((s.2.1.length:Int)<12)&&dJ s.1 g then((s.1,s.2.1++[g],s.2.2.1+1,()),s.2.2.1,true)else(s,0,false)
def KP(s:cu)(f:aA):cu×Bool:=
 bif aW s&&!decide (place s.2.1 f.1<0)&&dJ s.1 f then((s.1,s.2.1.set (place s.2.1 f.1).toNat f,s.2.2.1,()),true)else(s,false)
def aaD(s:cu)(id:Int):cu×Bool:=
 bif aW s&&!decide (place s.2.1 id<0)then((s.1,s.2.1.eraseIdx (place s.2.1 id).toNat,s.2.2.1,()),true)else(s,false)
def zq{α:Type}(p:α->Bool):Int->List α->Int
 |_,[]=>-1
 |k,f::r=>bif p f then k else zq p (k+1) r
def findAt{α:Type}(p:α->Bool)(l:List α):Int:=zq p 0 l
def fieldPlace(l:List bM)(name:Bytes):Int:=findAt (λf=>f.1==name) l
def notField(name:Bytes)(f:bM):Bool:=!(f.1==name)
def OL(name:Bytes)(f:bM):Bool:=Op.bytesLess f.1 name
def sW(s:List bM)(f:bM):List bM:=s.takeWhile (OL f.1)++f::s.dropWhile (OL f.1)
def zu(s:List bM)(f:bM):List bM×Bool:=bif bP s&&bP (sW s f)then(sW s f,true)else(s,false)
def Vz(s:List bM)(name:Bytes):List bM×Bool:=bif bP s&&!decide (kindOf s name=0)then(s.filter (notField name),true)else(s,false)
end Sp
namespace Sp
theorem afx:∀(n m:Nat)(L:Nat->Nat),(∀k,k<m->∃j,j<n/\L j=k)->m<=n
 |0,m,L,h=>by
  simp_all
 |n+1,m,L,h=>by
  by_cases hv:L n<m
  .have:=afx n (m-1) (λj=>if L n<L j then L j-1 else L j) λk hk=>by
    by_cases h1:k<L n
    .obtain⟨j,hj,e⟩:=h k (by omega)
     grind
    .obtain⟨j,hj,e⟩:=h (k+1) (by omega)
     grind
   omega
  .have:=afx n m L λk hk=>by
    grind
   omega
abbrev OM:=List (Nat×Nat×Nat)
def fK(E:OM)(L:Nat->Nat):Prop:=∀e∈E,L e.2.1+e.2.2<=L e.1
def ack(E:OM)(n:Nat):Prop:=∀e∈E,e.1<n/\e.2.1<n/\e.2.2<=1
def sumTo(n:Nat)(L:Nat->Nat):Nat:=match n with|0=>0|n+1=>sumTo n L+L n
theorem sumTo_le{L M:Nat->Nat}:∀n,(∀i,i<n->L i<=M i)->sumTo n L<=sumTo n M
 |0,_=>apz _
 |n+1,h=>Nat.add_le_add (sumTo_le n λi hi=>h i (by omega)) (h n (by omega))
theorem afy{L M:Nat->Nat}:∀n,(∀i,i<n->L i<=M i)->(∃i,i<n/\L i<M i)->sumTo n L<sumTo n M
 |0,_,⟨i,hi,_⟩=>by omega
 |n+1,h,⟨i,hi,hl⟩=>by
  have h1:=sumTo_le n λj hj=>h j (aqO hj);show sumTo n L+L n<sumTo n M+M n;by_cases e:i=n
  .subst e;omega
  .have:=afy n (λj hj=>h j (aqO hj)) ⟨i,by omega,hl⟩
   grind
theorem MR{E:OM}{n:Nat}(hE:ack E n):∀(s:Nat)(L:Nat->Nat),sumTo n L<=s->fK E L->∃M,fK E M/\∀i,i<n->M i<n
 |s,L,hs,hL=>by
  by_cases hall:∀i,i<n->L i<n
  .exact⟨L,hL,hall⟩
  .obtain⟨i,hi⟩:=Classical.not_forall.1 hall;have hi1:i<n/\n<=L i:=by
    by_cases h1:i<n
    .exact⟨h1,Nat.le_of_not_lt λh2=>hi λ_=>h2⟩
    .exact(hi λh2=>(h1 h2).elim).elim
   have aoj:∃k,k<n/\∀j,j<n->L j≠k:=by
    refine ap2 λhno=>?_;have:=afx n (n+1) (λj=>min (L j) n) λk hk=>by
     by_cases h1:k<n
     .refine ap2 λh2=>hno ⟨k,h1,λj hj e=>h2 ⟨j,hj,?_⟩⟩;omega
     .exact⟨i,hi1.1,by omega⟩
    omega
   obtain⟨k,hk,hno⟩:=aoj;have hlt:sumTo n (λj=>if k<L j then L j-1 else L j)<sumTo n L:=by
    refine afy n (λj _=>?_) ⟨i,hi1.1,?_⟩
    .split
     .exact Nat.sub_le _ _
     .exact apz _
    .rw[if_pos (by omega)];omega
   match s,hs with
   |0,hs=>omega
   |s+1,hs=>refine MR hE s (λj=>if k<L j then L j-1 else L j) (by omega) λe he=>?_;have h1:=hL e he;obtain⟨h2,h3,h4⟩:=hE e he;have n2:=hno e.2.1 h3;show(if k<L e.2.1 then L e.2.1-1 else L e.2.1)+e.2.2<=(if k<L e.1 then L e.1-1 else L e.1);split<;>split<;>omega
theorem Ec{E:OM}{n:Nat}(hE:ack E n)(h:∃L,fK E L):∃M,fK E M/\∀i,i<n->M i<n:=by obtain⟨L,hL⟩:=h;exact MR hE (sumTo n L) L (apz _) hL
structure Raises(E:OM)(n:Nat)(R:(Nat->Nat)->Nat->Nat):Prop where
 up:∀L i,L i<=R L i
 fix:∀L,(∀i,i<n->R L i=L i)->fK E L
 below:∀L M,fK E M->(∀i,i<n->L i<=M i)->∀i,i<n->R L i<=M i
 same:∀L L',(∀i,i<n->L i=L' i)->∀i,i<n->R L i=R L' i
end Sp
namespace Sp
open Go
abbrev jh:=List bM×List aA×Int×List aB×Unit
abbrev lZ:=Int×List bM×List aA×Int×List aB×Int×Unit
instance:DecidableEq (List aU):=inferInstance
instance:DecidableEq aB:=inferInstance
instance:DecidableEq (List aB):=inferInstance
instance:DecidableEq (List aB×Unit):=inferInstance
instance:DecidableEq (Int×List aB×Unit):=inferInstance
instance:DecidableEq (List aA×Int×List aB×Unit):=inferInstance
instance ao0:DecidableEq jh:=(inferInstance:DecidableEq (List bM×List aA×Int×List aB×Unit))
instance:DecidableEq (List aB×Int×Unit):=inferInstance
instance:DecidableEq (Int×List aB×Int×Unit):=inferInstance
instance:DecidableEq (List aA×Int×List aB×Int×Unit):=inferInstance
instance:DecidableEq (List bM×List aA×Int×List aB×Int×Unit):=inferInstance
instance ape:DecidableEq lZ:=(inferInstance:DecidableEq (Int×List bM×List aA×Int×List aB×Int×Unit))
instance:DecidableEq (List lZ):=inferInstance
def nodeAt(q:List aU)(i:Nat):aU:=q.getD i (0,0,0,[],0,0,[],())
def jX(n:aU):Bool:=n.1==6||n.1==7
def xg(n:aU):Bool:=n.1==8||n.1==9
def iI(n:aU)(a:Int):Bool:=
 let kids:=decide (0<=n.2.1)&&decide (n.2.1<=a-1)&&decide (0<a)
 let two:=decide (0<=n.2.2.1)&&decide (n.2.2.1<=a-1)
 let bare:=n.2.2.2.1==[]&&(n.2.2.2.2.1==0&&(n.2.2.2.2.2.1==0&&n.2.2.2.2.2.2.1==[]))
 let flat:=n.2.1==0&&n.2.2.1==0
 let valued:=gq n.2.2.2.2.1 n.2.2.2.2.2.1 n.2.2.2.2.2.2.1
 let void:=n.2.2.2.2.1==0&&(n.2.2.2.2.2.1==0&&n.2.2.2.2.2.2.1==[])
 bif n.1==1 then flat&&bare else bif n.1==2 then flat&&void&&fA n.2.2.2.1 else
 bif n.1==3 then flat&&fA n.2.2.2.1&&valued&&!(n.2.2.2.2.1==0)else bif n.1==4 then flat&&fA n.2.2.2.1&&valued&&n.2.2.2.2.1==1 else
 bif n.1==5 then kids&&n.2.2.1==0&&bare else bif n.1==6||n.1==7 then kids&&two&&bare else
 bif n.1==8||n.1==9 then flat&&void&&dU n.2.2.2.1 else false
def refsOf(a:Int)(n:aU):Nat:=(bif (jX n||n.1==5)&&n.2.1==a then 1 else 0)+(bif jX n&&n.2.2.1==a then 1 else 0)
def jQ(q:List aU)(a:Int):Nat:=(q.map (refsOf a)).sum
def jo(q:List aU)(i:Nat):Bool:=iI (nodeAt q i) i&&!(decide ((i:Int)<(q.length:Int)-1)&&!(jQ q i==1))
def aS(q:List aU):Bool:=eX q.length (jo q)&&(decide (1<=(q.length:Int))&&decide ((q.length:Int)<=9))
def bJ(d:List aB)(i:Nat):aB:=d.getD i ([],[],())
def iE(d:List aB)(i:Nat):Bool:=dU (bJ d i).1&&aS (bJ d i).2.1&&!(decide (0<i)&&!Op.bytesLess (bJ d (i-1)).1 (bJ d i).1)
def dM(d:List aB):Bool:=eX d.length (iE d)&&decide ((d.length:Int)<=5)
def iM(q:List aU)(i:Nat)(out:List (Bool×Unit)):List (Bool×Unit):=
 let n:=nodeAt q i
 bif n.1==5 then out.set n.2.1.toNat (true,())else bif jX n then(out.set n.2.1.toNat ((out.getD i (false,())).1,())).set n.2.2.1.toNat ((out.getD i (false,())).1,())else out
def gB(q:List aU):Nat->List (Bool×Unit)->List (Bool×Unit)
 |0,out=>out
 |n+1,out=>gB q n (iM q n out)
def negated(q:List aU):List (Bool×Unit):=bif aS q then gB q q.length (List.replicate q.length (false,()))else[]
def dH(q:List aU)(neg:Bool):List Bytes:=(List.range (negated q).length).filterMap λi=>bif xg (nodeAt q i)&&((negated q).getD i (false,())).1==neg then some (nodeAt q i).2.2.2.1 else none
def Au:Int->List aB->Bytes->Int
 |_,[],_=>-1
 |k,x::r,s=>bif x.1==s then k else Au (k+1) r s
def aC(d:List aB)(s:Bytes):Int:=Au 0 d s
def bV(d:List aB):OM:=
 (List.range d.length).flatMap λi=>
   ((dH (bJ d i).2.1 false).filterMap λs=>bif decide (0<=aC d s)then some (i,(aC d s).toNat,0)else none)++
   ((dH (bJ d i).2.1 true).filterMap λs=>bif decide (0<=aC d s)then some (i,(aC d s).toNat,1)else none)
open Classical in
noncomputable def aI (d:List aB):Bool:=dM d&&decide (∃L,fK (bV d) L)
def SN(x:jh):cu:=(x.1,x.2.1,x.2.2.1,())
noncomputable def Em (x:jh):Bool:=aW (SN x)&&aI x.2.2.2.1
def Aw(v:List lZ)(i:Nat):lZ:=v.getD i (0,[],[],0,[],0,())
def agV(x:lZ):jh:=(x.2.1,x.2.2.1,x.2.2.2.1,x.2.2.2.2.1,())
noncomputable def ald (v:List lZ) (i:Nat):Bool:=
 (decide (1<=(Aw v i).1)&&decide ((Aw v i).1<=1000000000))&&(!(decide (0<i)&&decide ((Aw v (i-1)).1>=(Aw v i).1))&&(Em (agV (Aw v i))&&(decide (0<=(Aw v i).2.2.2.2.2.1)&&decide ((Aw v i).2.2.2.2.2.1<=99))))
noncomputable def Y6 (v:List lZ):Bool:=eX v.length (ald v)&&decide ((v.length:Int)<=6)
def agW:Int->List lZ->Int->Int
 |_,[],_=>-1
 |k,x::r,n=>bif x.1==n then k else agW (k+1) r n
def EW(v:List lZ)(n:Int):Int:=agW 0 v n
def gu(r:LS)(l:List Bytes):Prop:=r.length<=1000/\∀s,(s,())∈r↔s∈l
def rH(d:List aB)(au:List (Int×Unit))(more:Int):LS->Int
 |[]=>0
 |x::r=>max (bif decide (0<=aC d x.1)then(au.getD (aC d x.1).toNat (0,())).1+more else 0) (rH d au more r)
def CP(l:LS)(s:Bytes):LS:=
 let n:=(l.takeWhile λx=>Op.bytesLess x.1 s).length
 bif decide (n<l.length)&&(l.getD n ([],())).1==s then l else l.take n++[(s,())]++l.drop n
def raised(d:List aB)(au r:List (Int×Unit)):Prop:=
 r.length=d.length/\(∀i,i<d.length->(au.getD i (0,())).1<=(r.getD i (0,())).1)/\(∀B:Int,(∀i,i<d.length->(au.getD i (0,())).1<=B)->∀i,i<d.length->(r.getD i (0,())).1<=B+5000)/\
 ((∀i,i<d.length->(r.getD i (0,())).1=(au.getD i (0,())).1)->fK (bV d) λi=>(au.getD i (0,())).1.toNat)/\
 ∀M,fK (bV d) M->(∀i,i<d.length->(au.getD i (0,())).1<=M i)->∀i,i<d.length->(r.getD i (0,())).1<=M i
def qf(d:List aB):Prop:=d.length<=1000/\∀x∈d,x.2.1.length<=1000
def alV(x:jh):Prop:=iy (SN x)/\qf x.2.2.2.1
end Sp
namespace Sp
open Go
def aaE(x:lZ):Int:=x.2.2.2.2.2.1
def ajQ(x:lZ)(p:Int):lZ:=(x.1,x.2.1,x.2.2.1,x.2.2.2.1,x.2.2.2.2.1,p,())
def alW(v:List lZ)(n more:Int):Bool:=
 decide (0<=EW v n)&&(decide (0<=aaE (Aw v (EW v n).toNat)+more)&&decide (aaE (Aw v (EW v n).toNat)+more<=99))
noncomputable def aaF (v:List lZ) (n more:Int):List lZ×Bool:=
 bif Y6 v&&alW v n more then(v.set (EW v n).toNat (ajQ (Aw v (EW v n).toNat) (aaE (Aw v (EW v n).toNat)+more)),true)else(v,false)
def unpinned(x:lZ):Bool:=aaE x==0
def ajR(v:List lZ)(n:Nat):List lZ:=(v.take n).filter (λx=>!unpinned x)
noncomputable def collect (v:List lZ):List lZ:=bif Y6 v then ajR v (v.length-1)++v.drop (v.length-1)else v
end Sp
namespace Sp
open Go
theorem SQ(s:Bytes):∀(d:List aB)(k:Int),(Au k d s=-1/\∀x∈d,x.1≠s)\/∃n,n<d.length/\Au k d s=k+n/\(bJ d n).1=s/\∀i,i<n->(bJ d i).1≠s
 |[],k=>.inl ⟨rfl,λx hx=>by cases hx⟩
 |x::r,k=>by
  by_cases h:x.1=s
  .right;refine⟨0,by simp,?_,h,λi hi=>by omega⟩;rw[Au,apy.2 h];simp
  .rcases SQ s r (k+1)with⟨h1,h2⟩|⟨n,h1,h2,h3,h4⟩
   .left;refine⟨by rw[Au,apu.2 h];exact h1,λy hy=>?_⟩;rcases apN.1 hy with rfl|hy
    .exact h
    .exact h2 y hy
   .right;refine⟨n+1,by simp;omega,by rw[Au,apu.2 h];show Au (k+1) r s=_;omega,h3,λi hi=>?_⟩;cases i with
    |zero=>exact h
    |succ i=>exact h4 i (by omega)
theorem Ar(d:List aB)(s:Bytes):(aC d s=-1/\∀x∈d,x.1≠s)\/∃n,n<d.length/\aC d s=n/\(bJ d n).1=s/\∀i,i<n->(bJ d i).1≠s:=by
 rcases SQ s d 0 with h|⟨n,h1,h2,h3⟩
 .exact .inl h
 .exact .inr ⟨n,h1,by show Au 0 d s=_;omega,h3⟩
theorem Fh{d:List aB}{s:Bytes}(h:0<=aC d s):aC d s<d.length:=by rcases Ar d s with⟨h1,_⟩|⟨n,h1,h2,_⟩<;>omega
theorem zl{d:List aB}{i j m:Nat}:(i,j,m)∈bV d↔i<d.length/\∃s,((m=0/\s∈dH (bJ d i).2.1 false)\/(m=1/\s∈dH (bJ d i).2.1 true))/\0<=aC d s/\j=(aC d s).toNat:=by
 grind [bV]
theorem jc(d:List aB):ack (bV d) d.length:=by
 rintro⟨i,j,m⟩ he;obtain⟨h1,s,h2,h3,h4⟩:=zl.1 he;have:=Fh h3
 grind
def lv(l:List (Int×Unit))(i:Nat):Int:=(l.getD i (0,())).1
theorem afe{l:List (Int×Unit)}{i:Nat}(hi:i<l.length)(x:Int)(k:Nat):lv (l.set i (x,())) k=if k=i then x else lv l k:=by
 grind [lv]
theorem Si{l:List (Int×Unit)}{i:Nat}(hi:i<l.length):(lv l i,())∈l:=by
 grind [lv]
theorem afd{l:List (Int×Unit)}{p:Int->Prop}(h:∀i,i<l.length->p (lv l i)):∀x∈l,p x.1:=by
 grind [List.getElem_of_mem,lv]
theorem aiT{a b:List (Int×Unit)}(hl:a.length=b.length)(h:∀i,i<a.length->lv a i=lv b i):a=b:=by
 grind [List.ext_getElem,lv]
structure EC(d:List aB)(au cur:List (Int×Unit))(g:Int)(P:Nat×Nat×Nat->Prop):Prop where
 len:cur.length=d.length
 up:∀i,i<d.length->lv au i<=lv cur i
 grow:∀B,(∀i,i<d.length->lv au i<=B)->∀i,i<d.length->lv cur i<=B+g
 fix:(∀i,i<d.length->lv cur i=lv au i)->∀e,P e->lv au e.2.1+e.2.2<=lv au e.1
 below:∀M,fK (bV d) M->(∀i,i<d.length->lv au i<=M i)->∀i,i<d.length->lv cur i<=M i
theorem EC.start{d:List aB}{au:List (Int×Unit)}(h:au.length=d.length):EC d au au 0 λ_=>False:=
 ⟨h,λ_ _=>ap5 _,λB hB i hi=>by grind,λ_ e he=>he.elim,λ_ _ h=>h⟩
theorem EC.weaken{d:List aB}{au cur:List (Int×Unit)}{g g':Int}{P P':Nat×Nat×Nat->Prop}(h:EC d au cur g P)(hg:g<=g')(hP:∀e,P' e->P e):EC d au cur g' P':=
 ⟨h.len,h.up,λB hB i hi=>by have:=h.grow B hB i hi;omega,λhx e he=>h.fix hx e (hP e he),h.below⟩
theorem EC.still{d:List aB}{au cur:List (Int×Unit)}{g:Int}{P:Nat×Nat×Nat->Prop}(h:EC d au cur g P){i j m:Nat}(he:(i,j,m)∈bV d)(hle:lv cur j+m<=lv cur i):EC d au cur g λe=>P e\/e=(i,j,m):=by
 obtain⟨h1,h2,_⟩:=jc d _ he;refine⟨h.len,h.up,h.grow,λhx e hp=>?_,h.below⟩;rcases hp with hp|rfl
 .exact h.fix hx e hp
 grind
theorem EC.set{d:List aB}{au cur:List (Int×Unit)}{g:Int}{P:Nat×Nat×Nat->Prop}(h:EC d au cur g P){i j m:Nat}(he:(i,j,m)∈bV d)(hlt:lv cur i<lv cur j+m):EC d au (cur.set i (lv cur j+m,())) (g+m) λe=>P e\/e=(i,j,m):=by
 obtain⟨h1,h2,_⟩:=jc d _ he;have hl:=h.len;have hs:=λk=>afe (l:=cur) (i:=i) (by omega) (lv cur j+m) k;refine⟨by simp;omega,λk hk=>?_,λB hB k hk=>?_,λhx e hp=>?_,λM hM hb k hk=>?_⟩
 .have a:=h.up k hk;grind
 .rw[hs];have a:=h.grow B hB k hk;have b:=h.grow B hB j h2;split<;>omega
 .have:=hx i h1;rw[hs,if_pos rfl]at this;have:=h.up i h1;omega
 .rw[hs];split
  .next e=>
   have a:=h.below M hM hb j h2;have b:=hM _ he
   grind
  .exact h.below M hM hb k hk
theorem EC.raised{d:List aB}{au cur:List (Int×Unit)}{g:Int}{P:Nat×Nat×Nat->Prop}(h:EC d au cur g P)(hg:g<=5000)(hP:∀e∈bV d,P e)(h0:∀i,i<d.length->0<=lv au i):raised d au cur:=by
 refine⟨h.len,h.up,λB hB i hi=>by have:=h.grow B hB i hi;grind [lv],λhx e he=>?_,h.below⟩;have a:=h.fix hx e (hP e he);obtain⟨h1,h2,_⟩:=jc d _ he
 grind [lv]
theorem aaG(d:List aB)(au:List (Int×Unit))(hl:au.length=d.length):∀(E:OM),(∀e∈E,e∈bV d)->∃cur:List (Int×Unit),cur.length=d.length/\(∀i,i<d.length->lv au i<=lv cur i/\(lv cur i=lv au i\/∃e∈E,e.1=i/\lv cur i=lv au e.2.1+e.2.2))/\∀e∈E,lv au e.2.1+e.2.2<=lv cur e.1
 |[],_=>⟨au,hl,λi hi=>⟨ap5 _,.inl rfl⟩,λe he=>by cases he⟩
 |e::E,hE=>by
  obtain⟨cur,h1,h2,h3⟩:=aaG d au hl E λx hx=>hE x (apx _ hx);obtain⟨g1,g2,_⟩:=jc d e (hE e apB);by_cases h:lv cur e.1<lv au e.2.1+e.2.2
  .have hs:=λk=>afe (l:=cur) (i:=e.1) (by omega) (lv au e.2.1+e.2.2) k;refine⟨cur.set e.1 (lv au e.2.1+e.2.2,()),by simp;omega,λi hi=>?_,λx hx=>?_⟩
   · grind
   grind
  grind
theorem agn(d:List aB)(au:List (Int×Unit))(hl:au.length=d.length)(h0:∀i,i<d.length->0<=lv au i):∃cur,raised d au cur:=by
 obtain⟨cur,h1,h2,h3⟩:=aaG d au hl (bV d) λ_ h=>h;refine⟨cur,h1,λi hi=>(h2 i hi).1,λB hB i hi=>?_,λhx e he=>?_,λM hM hb i hi=>?_⟩
 .show lv cur i<=_;rcases(h2 i hi).2 with h|⟨e,he,rfl,h⟩
  .rw[h];have:=hB i hi;show(au.getD i (0,())).1<=_;omega
  .obtain⟨_,g2,g3⟩:=jc d e he
   grind [lv]
 · grind [lv]
 .show lv cur i<=_;rcases(h2 i hi).2 with h|⟨e,he,rfl,h⟩
  .rw[h];exact hb i hi
  .obtain⟨_,g2,_⟩:=jc d e he;have a:lv au e.2.1<=M e.2.1:=hb _ g2;have b:=hM e he;omega
theorem Di{d:List aB}{au:List (Int×Unit)}{more:Int}:∀(r:LS)(B:Int),rH d au more r<=B↔0<=B/\∀x∈r,0<=aC d x.1->lv au (aC d x.1).toNat+more<=B
 |[],B=>by simp[rH]
 |x::r,B=>by
  have ih:=Di (d:=d) (au:=au) (more:=more) r B;rw[rH];have e:∀a b:Int,max a b<=B↔a<=B/\b<=B:=λa b=>by omega
  rw[e,ih];simp only[apN,forall_eq_or_imp];by_cases h:0<=aC d x.1
  .rw[apE h];constructor
   .exactλ⟨a,b,c⟩=>⟨b,λ_=>a,c⟩
   .exactλ⟨a,b,c⟩=>⟨b h,a,c⟩
  .rw[apK h];constructor
   .exactλ⟨a,b,c⟩=>⟨b,λh'=>(h h').elim,c⟩
   .exactλ⟨a,b,c⟩=>⟨a,a,c⟩
def rX(l:List (Int×Unit)):Nat->Int
 |0=>0
 |n+1=>rX l n+lv l n
theorem WL{a b:List (Int×Unit)}:∀n,(∀i,i<n->lv a i<=lv b i)->rX a n<=rX b n
 |0,_=>ap5 _
 |n+1,h=>Int.add_le_add (WL n λi hi=>h i (by omega)) (h n (by omega))
theorem WJ{a b:List (Int×Unit)}:∀n,(∀i,i<n->lv a i<=lv b i)->(∃i,i<n/\lv a i<lv b i)->rX a n<rX b n
 |0,_,⟨i,hi,_⟩=>by omega
 |n+1,h,⟨i,hi,hl⟩=>by
  have h1:=WL n λj hj=>h j (aqO hj);show rX a n+lv a n<rX b n+lv b n;by_cases e:i=n
  .subst e;omega
  .have:=WJ n (λj hj=>h j (aqO hj)) ⟨i,by omega,hl⟩
   grind
theorem Kv{a:List (Int×Unit)}{b:Nat}:∀n:Nat,(∀i,i<n->lv a i<=b)->rX a n<=(n*b:Nat)
 |0,_=>by simp[rX]
 |n+1,h=>by
  have h1:=Kv n λi hi=>h i (aqO hi)
  grind [rX]
theorem Rj{a:List (Int×Unit)}:∀n:Nat,(∀i,i<n->0<=lv a i)->0<=rX a n
 |0,_=>ap5 _
 |n+1,h=>Int.add_nonneg (Rj n λi hi=>h i (by omega)) (h n (by omega))
theorem iZ{d:List aB}:aI d=true↔dM d=true/\∃L,fK (bV d) L:=by unfold aI;simp
theorem NT{d:List aB}(h:dM d=true):d.length<=5:=by
 grind [dM]
end Sp
namespace Sp
abbrev Ext(ι α:Type):=ι->α->Bool
structure Sys(ι α:Type) where
 T:ι->Ext ι α->α->Prop
 pos:ι->ι->Prop
 neg:ι->ι->Prop
 mono:∀i X Y,(∀j,pos i j->∀x,X j x=true->Y j x=true)->(∀j,neg i j->∀x,X j x=Y j x)->∀x,T i X x->T i Y x
def ad6{ι α:Type}(S:Sys ι α)(N:ι->Prop)(au:ι->Nat):Prop:=∀i j,N i->N j->(S.pos i j->au j<=au i)/\(S.neg i j->au j<au i)
structure Eval{ι α:Type}(S:Sys ι α)(N:ι->Prop)(au:ι->Nat)(X:Ext ι α):Prop where
 fix:∀i,N i->∀x,X i x=true↔S.T i X x
 least:∀k(Y:Ext ι α),(∀i,¬(N i/\au i=k)->∀x,Y i x=X i x)->(∀i,N i->au i=k->∀x,S.T i Y x->Y i x=true)->∀i,N i->au i=k->∀x,X i x=true->Y i x=true
open Classical in
theorem agX{ι α:Type}{P:ι->Prop}{A B:Ext ι α}:∃Y:Ext ι α,(∀i x,Y i x=true↔A i x=true/\(P i->B i x=true))/\∀i,¬P i->∀x,Y i x=A i x:=by
 have h:∀i x,decide (A i x=true/\(P i->B i x=true))=true↔A i x=true/\(P i->B i x=true):=λi x=>decide_eq_true_iff;refine⟨λi x=>decide (A i x=true/\(P i->B i x=true)),h,λi hi x=>?_⟩
 simp_all
theorem agp{ι α:Type}{S1 S2:Sys ι α}{N1 N2 U:ι->Prop}{l1 l2:ι->Nat}{X1 X2:Ext ι α}
 (h1:Eval S1 N1 l1 X1) (h2:Eval S2 N2 l2 X2) (s1:ad6 S1 N1 l1) (s2:ad6 S2 N2 l2) (u1:∀i,U i->N1 i) (u2:∀i,U i->N2 i)
 (hT:∀i,U i->∀X x,S1.T i X x↔S2.T i X x) (hp:∀i,U i->∀j,S2.pos i j->S1.pos i j) (hn:∀i,U i->∀j,S2.neg i j->S1.neg i j)
 (hc:∀i,U i->∀j,S1.pos i j\/S1.neg i j->U j\/∀x,X1 j x=X2 j x):∀i,U i->∀x,X1 i x=X2 i x:=by
 have key:∀k,∀i,U i->l1 i=k->∀x,X1 i x=X2 i x:=by
  intro k
  induction k using Nat.strongRecOn with
  |_ k ih=>
   have below:∀j,U j->l1 j<k->∀x,X1 j x=X2 j x:=λj hj hl=>ih (l1 j) hl j hj rfl;have am3:∀i,U i->l1 i=k->∀x,X1 i x=true->X2 i x=true:=by
    obtain⟨Y,hY,U6⟩:=agX (P:=λi=>U i/\l1 i=k) (A:=X1) (B:=X2);have:=h1.least k Y (λi hi=>U6 i λh=>hi ⟨u1 i h.1,h.2⟩) λi hN hl x hx=>by
     have afz:∀j,S1.neg i j->∀x,Y j x=X1 j x:=λj hj=>U6 j λh=>by have:=(s1 i j hN (u1 j h.1)).2 hj;omega
     refine(hY i x).2 ⟨(h1.fix i hN x).2 (S1.mono i Y X1 (λj _ y hy=>((hY j y).1 hy).1) afz x hx),λhU=>?_⟩;refine(h2.fix i (u2 i hU.1) x).2 ((hT i hU.1 X2 x).1 (S1.mono i Y X2 (λj hj y hy=>?_) (λj hj y=>?_) x hx))
     .rcases hc i hU.1 j (.inl hj)with h|h
      .have hl2:=(s1 i j hN (u1 j h)).1 hj
       grind
      grind
     .rw[afz j hj];rcases hc i hU.1 j (.inr hj)with h|h
      .exact below j h (by have:=(s1 i j hN (u1 j h)).2 hj;omega) y
      .exact h y
    grind
   have am4:∀m,∀i,U i->l1 i=k->l2 i=m->∀x,X2 i x=true->X1 i x=true:=by
    intro m
    induction m using Nat.strongRecOn with
    |_ m ih2=>
     obtain⟨Y,hY,U6⟩:=agX (P:=λi=>U i/\l1 i=k/\l2 i=m) (A:=X2) (B:=X1);have:=h2.least m Y (λi hi=>U6 i λh=>hi ⟨u2 i h.1,h.2.2⟩) λi hN hl x hx=>by
      have afz:∀j,S2.neg i j->∀x,Y j x=X2 j x:=λj hj=>U6 j λh=>by have:=(s2 i j hN (u2 j h.1)).2 hj;omega
      refine(hY i x).2 ⟨(h2.fix i hN x).2 (S2.mono i Y X2 (λj _ y hy=>((hY j y).1 hy).1) afz x hx),λhU=>?_⟩;refine(h1.fix i (u1 i hU.1) x).2 ((hT i hU.1 X1 x).2 (S2.mono i Y X1 (λj hj y hy=>?_) (λj hj y=>?_) x hx))
      .have hj1:=hp i hU.1 j hj;rcases hc i hU.1 j (.inl hj1)with h|h
       .have g1:=(s1 i j (u1 i hU.1) (u1 j h)).1 hj1;have g2:=(s2 i j hN (u2 j h)).1 hj
        grind
       grind
      .rw[afz j hj];have hj1:=hn i hU.1 j hj;rcases hc i hU.1 j (.inr hj1)with h|h
       .exact(below j h (by have:=(s1 i j (u1 i hU.1) (u1 j h)).2 hj1;omega) y).symm
       grind
     grind
   exactλi hU hl x=>apO.2 ⟨am3 i hU hl x,am4 (l2 i) i hU hl rfl x⟩
 grind
end Sp
namespace Sp
open Go
abbrev bT:=Bytes×List (Int×Unit)×Unit
abbrev BX:=Ext Bytes Int
def dY:List dN->Bytes->RV
 |[],_=>(0,0,[],())
 |a::r,s=>bif a.1==s then(a.2.1,a.2.2.1,a.2.2.2.1,())else dY r s
def dV:List bT->Bytes->List (Int×Unit)
 |[],_=>[]
 |x::r,s=>bif x.1==s then x.2.1 else dV r s
def dh(l:List (Int×Unit))(x:Int):Bool:=l.any λy=>y.1==x
def aT(r:List bT):BX:=λs x=>dh (dV r s) x
theorem Dk{l:List (Int×Unit)}{x:Int}:dh l x=true↔(x,())∈l:=by
 grind [dh]
def jd(n:aU)(f:aA)(X:BX):Bool:=
 bif n.1==2 then !((dY f.2.2.2.2.1 n.2.2.2.1).1==0)else
 bif n.1==3 then decide (dY f.2.2.2.2.1 n.2.2.2.1=(n.2.2.2.2.1,n.2.2.2.2.2.1,n.2.2.2.2.2.2.1,()))else
 bif n.1==4 then(dY f.2.2.2.2.1 n.2.2.2.1).1==1&&decide ((dY f.2.2.2.2.1 n.2.2.2.1).2.1<n.2.2.2.2.2.1)else
 bif n.1==8 then X n.2.2.2.1 f.1 else
 bif n.1==9 then !(f.2.2.2.1==0)&&X n.2.2.2.1 f.2.2.2.1 else true
def val(q:List aU)(f:aA)(X:BX)(a:Nat):Bool:=
 if(nodeAt q a).1=5 then(if h:(nodeAt q a).2.1.toNat<a then !val q f X (nodeAt q a).2.1.toNat else true)
 else if(nodeAt q a).1=6 then(if h:(nodeAt q a).2.1.toNat<a/\(nodeAt q a).2.2.1.toNat<a then val q f X (nodeAt q a).2.1.toNat&&val q f X (nodeAt q a).2.2.1.toNat else true)
 else if(nodeAt q a).1=7 then(if h:(nodeAt q a).2.1.toNat<a/\(nodeAt q a).2.2.1.toNat<a then val q f X (nodeAt q a).2.1.toNat||val q f X (nodeAt q a).2.2.1.toNat else true)
 else jd (nodeAt q a) f X
termination_by a
decreasing_by all_goals omega
theorem MJ(q:List aU)(f:aA)(X:BX)(a:Nat):val q f X a=
 if(nodeAt q a).1=5 then(if h:(nodeAt q a).2.1.toNat<a then !val q f X (nodeAt q a).2.1.toNat else true)
 else if(nodeAt q a).1=6 then(if h:(nodeAt q a).2.1.toNat<a/\(nodeAt q a).2.2.1.toNat<a then val q f X (nodeAt q a).2.1.toNat&&val q f X (nodeAt q a).2.2.1.toNat else true)
 else if(nodeAt q a).1=7 then(if h:(nodeAt q a).2.1.toNat<a/\(nodeAt q a).2.2.1.toNat<a then val q f X (nodeAt q a).2.1.toNat||val q f X (nodeAt q a).2.2.1.toNat else true)
 else jd (nodeAt q a) f X:=by rw[val]
def jM(q:List aU)(f:aA)(X:BX):Bool:=aS q&&val q f X (q.length-1)
def sel(fs:List aA)(q:List aU)(X:BX):List (Int×Unit):=(fs.filter λf=>jM q f X).map λf=>(f.1,())
def wH(q:List aU)(i:Nat):Bool:=((negated q).getD i (false,())).1
theorem IG{q:List aU}(h:aS q=true){i:Nat}(hi:i<q.length):iI (nodeAt q i) i=true/\((i:Int)<(q.length:Int)-1->jQ q i=1):=by
 unfold aS at h;have h1:jo q i=true:=by
  grind [eX]
 grind [jo]
theorem xG{q:List aU}(h:aS q=true):1<=q.length/\q.length<=9:=by
 grind [aS]
theorem VA{n:aU}{a:Nat}(h:iI n a=true)(hn:n.1=5\/n.1=6\/n.1=7):0<=n.2.1/\n.2.1.toNat<a:=by
 grind [iI]
theorem Hg{n:aU}{a:Nat}(h:iI n a=true)(hn:n.1=6\/n.1=7):0<=n.2.2.1/\n.2.2.1.toNat<a:=by
 grind [iI]
theorem agY{α:Type}(g:α->Nat):∀(l:List α),(l.map g).sum=1->∀i j,i<l.length->j<l.length->i≠j->∀d,1<=g (l.getD i d)->g (l.getD j d)=0
 |[],_,i,_,hi,_,_,_,_=>by simp at hi
 |x::r,h,i,j,hi,hj,hne,d,hg=>by
  rw[apP,List.sum_cons]at h;have mem:∀(l:List α) k,k<l.length->g (l.getD k d)<=(l.map g).sum:=by
   intro l
   induction l with
   |nil=>grind
   |cons y t ih=>
    grind
  cases i with
  |zero=>
   cases j with
   |zero=>exact(hne rfl).elim
   |succ j=>
    have h1:1<=g x:=hg;have:=mem r j (by simpa using hj);show g (r.getD j d)=0;omega
  |succ i=>
   have h1:1<=g (r.getD i d):=hg;have h2:=mem r i (by simpa using hi);cases j with
   |zero=>show g x=0;omega
   |succ j=>exact agY g r (by omega) i j (by simpa using hi) (by simpa using hj) (by omega) d hg
theorem En{q:List aU}{p:Nat}:∀(n:Nat)(out:List (Bool×Unit)),(∀i,i<n->((nodeAt q i).1=5\/jX (nodeAt q i)=true->(nodeAt q i).2.1.toNat≠p)/\(jX (nodeAt q i)=true->(nodeAt q i).2.2.1.toNat≠p))->
 (gB q n out).getD p (false,())=out.getD p (false,())
 |0,_,_=>rfl
 |n+1,out,h=>by
  have ih:=En n (iM q n out) λi hi=>h i (by omega);show(gB q n (iM q n out)).getD p (false,())=_;rw[ih];have hs:∀(l:List (Bool×Unit)) k x,k≠p->(l.set k x).getD p (false,())=l.getD p (false,()):=λl k x hk=>by rw[apI,aqA hk,← apI]
  obtain⟨h1,h2⟩:=h n (by omega);unfold iM;dsimp only;cases e5:((nodeAt q n).1==5)with
  |true=>exact hs _ _ _ (h1 (.inl (apy.1 e5)))
  |false=>
   cases e2:jX (nodeAt q n)with
   |true=>exact(hs _ _ _ (h2 e2)).trans (hs _ _ _ (h1 (.inr e2)))
   |false=>rfl
theorem BF(q:List aU):∀(n:Nat)(out:List (Bool×Unit)),(gB q n out).length=out.length
 |0,_=>rfl
 |n+1,out=>by show(gB q n (iM q n out)).length=_;rw[BF q n];unfold iM;dsimp only;cases (nodeAt q n).1==5<;>cases jX (nodeAt q n)<;>simp
theorem uX{n:aU}:jX n=true↔n.1=6\/n.1=7:=by
 grind [jX]
theorem O8(q:List aU):∀(k m:Nat)(out:List (Bool×Unit)),∃mid:List (Bool×Unit),mid.length=out.length/\gB q (m+k) out=gB q m mid
 |0,_,out=>⟨out,rfl,rfl⟩
 |k+1,m,out=>by
  obtain⟨mid,h1,h2⟩:=O8 q k m (iM q (m+k) out);have hl:(iM q (m+k) out).length=out.length:=by
   grind [iM]
  exact⟨mid,h1.trans hl,h2⟩
theorem MK{q:List aU}(h:aS q=true){i:Nat}(hi:i<q.length):((nodeAt q i).1=5\/jX (nodeAt q i)=true->0<=(nodeAt q i).2.1/\(nodeAt q i).2.1.toNat<i)/\(jX (nodeAt q i)=true->0<=(nodeAt q i).2.2.1/\(nodeAt q i).2.2.1.toNat<i):=by
 have h1:=(IG h hi).1;refine⟨λh2=>?_,λh2=>Hg h1 (uX.1 h2)⟩;rcases h2 with h2|h2
 .exact VA h1 (.inl h2)
 .exact VA h1 (.inr (uX.1 h2))
theorem ahY{q:List aU}(h:aS q=true){i j p:Nat}(hi:i<q.length)(hj:j<q.length)(hne:i≠j)(hp:p<i)(hr:1<=refsOf p (nodeAt q i)):refsOf p (nodeAt q j)=0:=
 agY (refsOf p) q ((IG h (by omega)).2 (by omega)) i j hi hj hne _ hr
theorem agq{p:Nat}{n:aU}(h:refsOf p n=0)(h0:((n.1=5\/jX n=true)->0<=n.2.1)/\(jX n=true->0<=n.2.2.1)):(n.1=5\/jX n=true->n.2.1.toNat≠p)/\(jX n=true->n.2.2.1.toNat≠p):=by
 grind [refsOf]
theorem VB{p:Nat}{n:aU}(h:n.1=5\/jX n=true)(h0:0<=n.2.1)(e:n.2.1.toNat=p):1<=refsOf p n:=by
 grind [refsOf]
theorem afA{p:Nat}{n:aU}(h:jX n=true)(h0:0<=n.2.2.1)(e:n.2.2.1.toNat=p):1<=refsOf p n:=by
 grind [refsOf]
theorem XW{l:List (Bool×Unit)}{k p:Nat}{x:Bool×Unit}(hk:k<l.length):(l.set k x).getD p (false,())=if k=p then x else l.getD p (false,()):=by
 grind
theorem ahZ{q:List aU}(h:aS q=true){i:Nat}(hi:i<q.length):
 ((nodeAt q i).1=5->wH q (nodeAt q i).2.1.toNat=true)/\(jX (nodeAt q i)=true->wH q (nodeAt q i).2.1.toNat=wH q i/\wH q (nodeAt q i).2.2.1.toNat=wH q i):=by
 have hn:negated q=gB q q.length (List.replicate q.length (false,())):=by grind [negated]
 obtain⟨mid,hm1,hm2⟩:=O8 q (q.length-(i+1)) (i+1) (List.replicate q.length (false,()));rw[show i+1+(q.length-(i+1))=q.length by omega,← hn]at hm2;have hml:mid.length=q.length:=by rw[hm1];simp
 have hm3:negated q=gB q i (iM q i mid):=hm2;obtain⟨k1,k2⟩:=MK h hi;have keep:∀p,p<i->1<=refsOf p (nodeAt q i)->wH q p=((iM q i mid).getD p (false,())).1:=λp hp hr=>by
  unfold wH;rw[hm3,En i];intro j hj;have hjl:j<q.length:=by omega
  obtain⟨g1,g2⟩:=MK h hjl
  grind [agq,ahY]
 have self:wH q i=(mid.getD i (false,())).1:=by
  unfold wH;rw[hm2,En (i+1)];intro j hj;obtain⟨g1,g2⟩:=MK h (show j<q.length by omega)
  grind
 refine⟨λh5=>?_,λh2=>?_⟩
 · grind [VB,iM]
 .obtain⟨a,b⟩:=k1 (.inr h2);obtain⟨a',b'⟩:=k2 h2;have h5:((nodeAt q i).1==5)=false:=by rcases uX.1 h2 with e|e<;>rw[e]<;>rfl
  rw[keep _ b (VB (.inr h2) a rfl),keep _ b' (afA h2 a' rfl),self];unfold iM;dsimp only;rw[h5,h2];show(((mid.set _ ((mid.getD i (false,())).1,())).set _ ((mid.getD i (false,())).1,())).getD _ (false,())).1=_/\(((mid.set _ ((mid.getD i (false,())).1,())).set _ ((mid.getD i (false,())).1,())).getD _ (false,())).1=_;rw[XW (by grind),XW (by omega),XW (by grind),if_pos rfl,if_pos rfl]
  grind
theorem ah0{q:List aU}(h:aS q=true):wH q (q.length-1)=false:=by
 have hn:negated q=gB q q.length (List.replicate q.length (false,())):=by grind [negated]
 unfold wH;rw[hn,En q.length]
 · grind
 grind [MK]
theorem ajS{q:List aU}(h:aS q=true){i:Nat}(hi:i<q.length)(hd:xg (nodeAt q i)=true):(nodeAt q i).2.2.2.1∈dH q (wH q i):=by
 grind [negated,BF,dH,wH]
theorem ajT{q:List aU}{f:aA}{X Y:BX}(h:aS q=true)(hp:∀s∈dH q false,∀x,X s x=true->Y s x=true)(hn:∀s∈dH q true,∀x,X s x=Y s x):
 ∀a,a<q.length->(wH q a=false->val q f X a=true->val q f Y a=true)/\(wH q a=true->val q f X a=val q f Y a):=by
 intro a
 induction a using Nat.strongRecOn with
 |_ a ih=>
  intro ha;obtain⟨n1,n2⟩:=ahZ h ha;rw[MJ q f X a,MJ q f Y a]
  grind [uX,ajS,xg,jd]
theorem SS{q:List aU}{f:aA}{X Y:BX}(hp:∀s∈dH q false,∀x,X s x=true->Y s x=true)(hn:∀s∈dH q true,∀x,X s x=Y s x)(hm:jM q f X=true):jM q f Y=true:=by unfold jM at hm ⊢;rw[apt]at hm ⊢;have hl:=xG hm.1;exact⟨hm.1,(ajT hm.1 hp hn _ (by omega)).1 (ah0 hm.1) hm.2⟩
theorem acn{fs:List aA}{q:List aU}{X:BX}{x:Int}:(x,())∈sel fs q X↔∃f∈fs,f.1=x/\jM q f X=true:=by
 unfold sel;constructor
 · grind
 .rintro⟨f,hf,rfl,hm⟩
  grind
theorem ai9{fs:List aA}{q:List aU}{X Y:BX}(h:∀b,∀s∈dH q b,∀x,X s x=Y s x):sel fs q X=sel fs q Y:=by
 unfold sel;congr 1;apply List.filter_congr;intro f _;rw[apO]
 grind [SS]
def JX(fs:List aA)(d:List aB):Sys Bytes Int where
 T:=λs X x=>∃i,i<d.length/\(bJ d i).1=s/\(x,())∈sel fs (bJ d i).2.1 X
 pos:=λs t=>∃i,i<d.length/\(bJ d i).1=s/\t∈dH (bJ d i).2.1 false
 neg:=λs t=>∃i,i<d.length/\(bJ d i).1=s/\t∈dH (bJ d i).2.1 true
 mono:=λs X Y hp hn x⟨i,hi,e,hx⟩=>⟨i,hi,e,by obtain⟨f,hf,e2,hm⟩:=acn.1 hx;exact acn.2 ⟨f,hf,e2,SS (λt ht=>hp t ⟨i,hi,e,ht⟩) (λt ht=>hn t ⟨i,hi,e,ht⟩) hm⟩⟩
end Sp
namespace Go.Fw
open Go
theorem Ro{n m:Nat}{left:Int}(h:0<=Sp.aG n left):Sp.aG m (Sp.aG n left)=Sp.aG (n+m) left:=by
 grind [Sp.aG]
theorem Oc{n m:Nat}{left:Int}(h:Sp.aG n left<0):Sp.aG (n+m) left=-1:=by
 grind [Sp.aG]
theorem ac9{n:Nat}{left:Int}(h:0<=left):Sp.aG n left<=left:=by grind [Sp.aG]
theorem Rn{n:Nat}{left:Int}(h:¬left-(n:Int)<0):Sp.aG n left=left-n:=by grind [Sp.aG]
def AU{α:Type}(f:α->Nat):List α->Nat
 |[]=>0
 |x::r=>f x+AU f r
theorem jm{α:Type}(f:α->Nat):∀a:List α,Sp.jg f a=a.length+AU f a
 |[]=>rfl
 |x::r=>by simp only[Sp.jg,AU,jm f r,apH];omega
theorem adk{α:Type}(f:α->Nat)(d:α):∀(a:List α)(n:Nat),n<a.length->AU f (a.take (n+1))=AU f (a.take n)+f (a.getD n d)
 |[],n,h=>by simp at h
 |x::r,0,_=>by simp[AU]
 |x::r,n+1,h=>by have:=adk f d r n (by simpa using h);simp only[arf,AU,arh]at this ⊢;omega
theorem agZ{α:Type}(f:α->Nat):∀(a:List α)(n:Nat),AU f (a.take n)<=AU f a
 |[],n=>by simp
 |x::r,0=>by simp[AU]
 |x::r,n+1=>by simp only[arf,AU];have:=agZ f r n;omega
theorem pJ{α:Type}(f:α->Nat):∀(a:List α)(x:α),x∈a->f x<=Sp.jg f a
 |y::r,x,h=>by
  rw[Sp.jg];rcases apN.1 h with rfl|h
  .omega
  .have:=pJ f r x h;omega
 |[],x,h=>by cases h
theorem Eg{α β:Type}(f:α->Nat)(d:α)(a:List α)(left:Int)(t:β)(hlen:a.length<=9223372036854775807)(h0:0<=left)(h1:left<=1048576){K:Int×Unit->Prop}(hK:K (Sp.aG (Sp.jg f a) left,())):
 bif decide (IntKind.i64.wrap (left-(a.length:Int))<(0:Int))then K ((-1:Int),())
 else∃(I:(Int×Int×Unit)×Unit->Prop),∃(μ:(Int×Int×Unit)×Unit->Nat),I ((IntKind.i64.wrap (left-(a.length:Int)),(0:Int),()),())/\∀(y:(Int×Int×Unit)×Unit),I y->
  bif decide (y.fst.snd.fst<(a.length:Int))then
   ((0:Int)<=y.fst.snd.fst/\y.fst.snd.fst<(a.length:Int))/\((0:Int)<=y.fst.fst/\y.fst.fst<=(1048576:Int))/\
     (bif decide (Sp.aG (f (a.getD (Int.toNat y.fst.snd.fst) d)) y.fst.fst<(0:Int))then K ((-1:Int),())
     else t=t/\I ((Sp.aG (f (a.getD (Int.toNat y.fst.snd.fst) d)) y.fst.fst,IntKind.i64.wrap (y.fst.snd.fst+(1:Int)),()),())/\
      μ ((Sp.aG (f (a.getD (Int.toNat y.fst.snd.fst) d)) y.fst.fst,IntKind.i64.wrap (y.fst.snd.fst+(1:Int)),()),())<μ y)
  else K (y.fst.fst,()):=by
 rw[fH _ (by omega)];refine af (λh=>?_) λh=>?_<;>simp only[apF,apR]at h
 · grind [jm,Sp.aG]
 .refine⟨λy=>∃n:Nat,y.1.2.1=n/\n<=a.length/\0<=y.1.1/\y.1.1=Sp.aG (a.length+AU f (a.take n)) left,λy=>((a.length:Int)-y.1.2.1).toNat,⟨0,rfl,by omega,by grind,?_⟩,?_⟩
  · grind [AU,Rn]
  rintro⟨⟨l,_,⟨⟩⟩,⟨⟩⟩ ⟨n,rfl,hn,hl,hJ⟩;dsimp only at hl hJ ⊢;have hle:l<=left:=by simp_all [ac9]
  refine af (λh=>?_) λh=>?_<;>simp only[apF,apR]at h
  .have key:Sp.aG (f (a.getD n d)) l=Sp.aG (a.length+AU f (a.take (n+1))) left:=by
    grind [Ro,adk]
   rw[apG,fH _ (by omega)];refine⟨⟨by omega,by omega⟩,⟨hl,by omega⟩,af (λh2=>?_) λh2=>?_⟩<;>simp only[apF,apR]at h2
   · grind [agZ,Sp.aG,jm]
   grind
  grind [jm]
theorem toS_vc{α β:Type}(pre:α->Prop)(d:α)(a:List α)(t:β)(hbig:a.length<=4294967296)(hpre:∀x∈a,pre x){K:List α×Unit->Prop}(hK:K (a,())):
 ((0:Int)<=(a.length:Int)/\(a.length:Int)<=(a.length:Int)/\(a.length:Int)<=(big:Int))/\
 ∃(I:(Int×Unit)×List α×Unit->Prop),∃(μ:(Int×Unit)×List α×Unit->Nat),I (((0:Int),()),List.replicate (a.length:Int).toNat d,())/\∀(y:(Int×Unit)×List α×Unit),I y->
  bif decide (y.fst.fst<(a.length:Int))then
   ((0:Int)<=y.fst.fst/\y.fst.fst<(a.length:Int))/\pre (a.getD (Int.toNat y.fst.fst) d)/\((0:Int)<=y.fst.fst/\y.fst.fst<(List.length y.snd.fst:Int))/\Int.toNat y.fst.fst<List.length y.snd.fst/\
     t=t/\I ((IntKind.i64.wrap (y.fst.fst+(1:Int)),()),List.set y.snd.fst (Int.toNat y.fst.fst) (a.getD (Int.toNat y.fst.fst) d),())/\
      μ ((IntKind.i64.wrap (y.fst.fst+(1:Int)),()),List.set y.snd.fst (Int.toNat y.fst.fst) (a.getD (Int.toNat y.fst.fst) d),())<μ y
  else K (y.snd.fst,()):=by
 refine⟨⟨by omega,by omega,by rw[cZ];omega⟩,λy=>∃n:Nat,y.1.1=n/\n<=a.length/\y.2.1=a.take n++List.replicate (a.length-n) d,λy=>((a.length:Int)-y.1.1).toNat,⟨0,rfl,by omega,by simp⟩,?_⟩;rintro⟨⟨_,⟨⟩⟩,l,⟨⟩⟩ ⟨n,rfl,hn,rfl⟩;dsimp only;refine af (λh=>?_) λh=>?_<;>simp only[apF,apR]at h
 .have hlt:n<a.length:=by omega
  have hl:(a.take n++List.replicate (a.length-n) d).length=a.length:=by grind
  rw[fH _ (by omega),apG,hl];refine⟨⟨by omega,by omega⟩,hpre _ (getD_mem hlt),⟨by omega,by omega⟩,hlt,rfl,⟨n+1,by simp,by omega,?_⟩,by omega⟩;rw[show a.length-n=a.length-(n+1)+1 by omega,List.replicate_succ,aqP _ _ (by grind),apM,aqJ hn,aq8,arp,
     aqt hlt,aqp,apI,apw hlt]
  rfl
 .have hge:n=a.length:=by omega
  simp_all
end Go.Fw
namespace Go.Fw
open Go
theorem cO{p:Prop}[Decidable p]{A B:Prop}(h:p)(a:A):cond (decide p) A B:=by grind
theorem bY{p:Prop}[Decidable p]{A B:Prop}(h:¬p)(b:B):cond (decide p) A B:=by grind
theorem dP{B:((Int×Unit)×Unit->Prop)->((Int×Unit)×Unit->Nat)->(Int×Unit)×Unit->Prop}(len:Nat)(hlen:len<=9223372036854775807)(J:Nat->Prop)(h0:J 0)
 (hstep:∀I μ(n:Nat),n<len->J n->(J (n+1)->I ((IntKind.i64.wrap ((n:Int)+1),()),())/\μ ((IntKind.i64.wrap ((n:Int)+1),()),())<μ (((n:Int),()),()))->B I μ (((n:Int),()),()))
 (hend:∀I μ,J len->B I μ (((len:Int),()),())):∃I,∃μ,I (((0:Int),()),())/\∀y,I y->B I μ y:=by
 refine⟨λy=>∃n:Nat,y.1.1=n/\n<=len/\J n,λy=>((len:Int)-y.1.1).toNat,⟨0,rfl,apW _,h0⟩,?_⟩
 grind [fH]
theorem fB{Y S:Type}(mk:Int->S->Y)(idx:Y->Int)(hidx:∀i s,idx (mk i s)=i){B:(Y->Prop)->(Y->Nat)->Y->Prop}(len:Nat)(hlen:len<=9223372036854775807)(J:Nat->S->Prop){s0:S}(h0:J 0 s0)
 (hstep:∀I μ(n:Nat)(s:S),n<len->J n s->(∀s',J (n+1) s'->I (mk (IntKind.i64.wrap ((n:Int)+1)) s')/\μ (mk (IntKind.i64.wrap ((n:Int)+1)) s')<μ (mk n s))->B I μ (mk n s))
 (hend:∀I μ s,J len s->B I μ (mk len s)):∃I,∃μ,I (mk 0 s0)/\∀y,I y->B I μ y:=by
 refine⟨λy=>∃(n:Nat)(s:S),y=mk n s/\n<=len/\J n s,λy=>((len:Int)-idx y).toNat,⟨0,s0,rfl,apW _,h0⟩,?_⟩
 grind [fH]
theorem wZ{len:Nat}{f:Nat->Bool}{n:Nat}(hn:n<len)(h:f n=false):Sp.eX len f=false:=by
 grind [Sp.eX]
theorem kG{len:Nat}{f:Nat->Bool}(h:∀i,i<len->f i=true):Sp.eX len f=true:=by
 grind [Sp.eX]
theorem KO{len:Nat}{f:Nat->Bool}:Sp.eX len f=true↔∀i,i<len->f i=true:=by
 grind [Sp.eX]
theorem bZ{n:Nat}{f:Nat->Bool}(h:∀i,i<n->f i=true)(hn:f n=true):∀i,i<n+1->f i=true:=λi hi=>by
 grind
theorem gY{b:Bool}(h:(!b)=true):b=false:=by cases b<;>first|rfl|cases h
theorem dO{b:Bool}(h:(!b)=false):b=true:=by cases b<;>first|rfl|cases h
theorem iH{p:Prop}[Decidable p](h:decide p=true):p:=aqn h
theorem iV{p:Prop}[Decidable p](h:decide p=false):¬p:=of_decide_eq_false h
theorem qY{n:Nat}(h:0<n)(hn:n<=9223372036854775807):IntKind.i64.wrap ((n:Int)-1)=((n-1:Nat):Int):=by grind [fH]
theorem afB{α:Type}{d:α}{a b:List α}(hl:a.length=b.length)(h:∀i,i<a.length->a.getD i d=b.getD i d):a=b:=by
 grind [List.ext_getElem]
theorem agR{α β:Type}(e:α->α->Bool)(he:∀x y,e x y=false↔x=y)(d:α)(a b:List α)(t:β)(hlen:a.length<=9223372036854775807)(hl:a.length=b.length){K:Bool×Unit->Prop}(hF:a≠b->K (false,()))(hT:a=b->K (true,())):
 ∃(I:(Int×Unit)×Unit->Prop),∃(μ:(Int×Unit)×Unit->Nat),I (((0:Int),()),())/\∀(y:(Int×Unit)×Unit),I y->
  bif decide (y.fst.fst<(a.length:Int))then
   ((0:Int)<=y.fst.fst/\y.fst.fst<(a.length:Int))/\((0:Int)<=y.fst.fst/\y.fst.fst<(b.length:Int))/\
     (bif e (a.getD (Int.toNat y.fst.fst) d) (b.getD (Int.toNat y.fst.fst) d)then K (false,())
     else t=t/\I ((IntKind.i64.wrap (y.fst.fst+(1:Int)),()),())/\μ ((IntKind.i64.wrap (y.fst.fst+(1:Int)),()),())<μ y)
  else K (true,()):=by
 refine dP a.length hlen (λn=>∀i,i<n->a.getD i d=b.getD i d) (λi hi=>by omega) (λI μ n hn hJ next=>?_) λI μ hJ=>(by dsimp only;exact bY (by omega) (hT (afB hl hJ)))
 grind
end Go.Fw
namespace Sp
open Go Go.Fw
theorem JB{name:Bytes}:∀(s:List bM)(n:Nat),n<s.length->(∀i,i<n->(s.getD i ([],0,())).1≠name)->(s.getD n ([],0,())).1=name->kindOf s name=(s.getD n ([],0,())).2.1
 |[],n,h,_,_=>by simp at h
 |f::r,0,_,_,he=>by
  grind [kindOf]
 |f::r,n+1,h,hne,he=>by have h0:f.1≠name:=hne 0 (by omega);show(bif decide (f.1=name)then f.2.1 else kindOf r name)=_;rw[apK h0];exact JB r n (by simpa using h) (λi hi=>hne (i+1) (by omega)) he
theorem Kt{name:Bytes}:∀(s:List bM),(∀i,i<s.length->(s.getD i ([],0,())).1≠name)->kindOf s name=0
 |[],_=>rfl
 |f::r,hne=>by have h0:f.1≠name:=hne 0 (by simp);show(bif decide (f.1=name)then f.2.1 else kindOf r name)=_;rw[apK h0];exact Kt r λi hi=>hne (i+1) (by simp;omega)
theorem SX{id:Int}:∀(s:List aA)(k:Int)(n:Nat),n<s.length->(∀i,i<n->(fileAt s i).1≠id)->(fileAt s n).1=id->mF k s id=k+n
 |[],_,n,h,_,_=>by simp at h
 |f::r,k,0,_,_,he=>by
  have he:f.1=id:=he
  grind [mF]
 |f::r,k,n+1,h,hne,he=>by have h0:f.1≠id:=hne 0 (by omega);show(bif decide (f.1=id)then k else mF (k+1) r id)=_;rw[apK h0];show mF (k+1) r id=_;rw[SX r (k+1) n (by simpa using h) (λi hi=>hne (i+1) (by omega)) he];omega
theorem MS{id:Int}:∀(s:List aA)(k:Int),(∀i,i<s.length->(fileAt s i).1≠id)->mF k s id=-1
 |[],_,_=>rfl
 |f::r,k,hne=>by have h0:f.1≠id:=hne 0 (by simp);show(bif decide (f.1=id)then k else mF (k+1) r id)=_;rw[apK h0];exact MS r (k+1) λi hi=>hne (i+1) (by simp;omega)
theorem Iy{id:Int}{s:List aA}{n:Nat}(h:n<s.length)(hne:∀i,i<n->(fileAt s i).1≠id)(he:(fileAt s n).1=id):place s id=n:=by
 grind [place,SX]
theorem YV{id:Int}{s:List aA}(hne:∀i,i<s.length->(fileAt s i).1≠id):place s id=-1:=MS s 0 hne
theorem O9:∀(a b:List aA)(k:Int)(id:Int),a.map (·.1)=b.map (·.1)->mF k a id=mF k b id
 |[],[],_,_,_=>rfl
 |[],_::_,_,_,h=>by simp at h
 |_::_,[],_,_,h=>by simp at h
 |f::a,g::b,k,id,h=>by
  simp only[apP,List.cons.injEq]at h;show(bif decide (f.1=id)then k else mF (k+1) a id)=bif decide (g.1=id)then k else mF (k+1) b id
  rw[h.1,O9 a b (k+1) id h.2]
theorem aiR{a b:List aA}(id:Int)(h:a.map (·.1)=b.map (·.1)):place a id=place b id:=O9 a b 0 id h
theorem Vs{s:List bM}{n:Nat}(h:n<s.length)(hn:gy s n=false):bP s=false:=by
 grind [bP,wZ]
theorem ah1{fs:List bM}{s:List dN}{n:Nat}(h:n<s.length)(hn:iD fs s n=false):nC fs s=false:=wZ h hn
theorem ac1{fs:List bM}{f:aA}{n:Nat}(h:n<f.2.2.2.2.1.length)(hn:iD fs f.2.2.2.2.1 n=false):dJ fs f=false:=by
 grind [dJ,ah1]
theorem YQ{s:cu}{n:Nat}(h:n<s.2.1.length)(hn:iQ s n=false):aW s=false:=by
 grind [aW,wZ]
theorem IV{s:cu}{i:Nat}:iQ s i=true↔dJ s.1 (fileAt s.2.1 i)=true/\(fileAt s.2.1 i).1<s.2.2.1/\(0<i->(fileAt s.2.1 (i-1)).1<(fileAt s.2.1 i).1):=by
 grind [iQ]
theorem Fe{s:cu}:aW s=true↔(∀i,i<s.2.1.length->iQ s i=true)/\bP s.1=true/\s.2.1.length<=12/\1<=s.2.2.1/\s.2.2.1<=61:=by
 grind [aW,KO]
theorem Iz(s:cu)(f:aA):(wB s f=(s,0,false)/\¬(aW s=true/\s.2.1.length<12/\dJ s.1 (s.2.2.1,f.2)=true))\/
 (aW s=true/\s.2.1.length<12/\dJ s.1 (s.2.2.1,f.2)=true/\wB s f=((s.1,s.2.1++[(s.2.2.1,f.2)],s.2.2.1+1,()),s.2.2.1,true)):=by
 grind [wB]
theorem alX{fs:List aA}{n i:Nat}:fileAt (fs.eraseIdx n) i=if i<n then fileAt fs i else fileAt fs (i+1):=by
 grind [fileAt]
theorem ah2{s:List aA}{f:aA}(h:f∈s):∃i,i<s.length/\fileAt s i=f:=by
 obtain⟨i,hi,rfl⟩:=ap3 h;refine⟨i,hi,?_⟩
 grind [fileAt]
theorem aja{s:cu}(h:aW s=true):∀(j i:Nat),i<j->j<s.2.1.length->(fileAt s.2.1 i).1<(fileAt s.2.1 j).1
 |0,i,hi,_=>by omega
 |j+1,i,hi,hj=>by
  have h1:=(IV.1 ((Fe.1 h).1 (j+1) hj)).2.2 (by omega);rw[arn]at h1;rcases apQ i j with h2|h2
  .have:=aja h j i h2 (by omega);omega
  .have:i=j:=by omega
   rw[this];exact h1
theorem Gj{s:cu}(u:Int)(h:iy s):iy (visible s u):=by
 obtain⟨h0,h1,h2⟩:=h;refine⟨h0,?_,λf hf=>?_⟩
 .show((s.2.1.filter (ig · u)).map _).length<=1000
  grind
 .obtain⟨g,hg,rfl⟩:=aqh.1 hf;exact h2 g (aqv.1 hg).1
theorem Ej{α:Type}{p:α->Bool}{d:α}:∀(l:List α)(n:Nat),n<=l.length->(∀i,i<n->p (l.getD i d)=true)->(n<l.length->p (l.getD n d)=false)->l.takeWhile p=l.take n/\l.dropWhile p=l.drop n
 |[],n,h,_,_=>by simp
 |x::r,0,_,_,h=>by
  simp_all
 |x::r,n+1,hn,h1,h2=>by have h0:p x=true:=h1 0 (by omega);have:=Ej r n (by simpa using hn) (λi hi=>h1 (i+1) (by omega)) λhlt=>h2 (by simpa using hlt);constructor<;>simp[h0,this.1,this.2]
end Sp
namespace Sp
open Go Go.Fw
theorem VD{α:Type}{p:α->Bool}{d:α}:∀(s:List α)(k:Int)(n:Nat),n<s.length->(∀i,i<n->p (s.getD i d)=false)->p (s.getD n d)=true->zq p k s=k+n
 |[],_,n,h,_,_=>by simp at h
 |f::r,k,0,_,_,he=>by
  grind [zq]
 |f::r,k,n+1,h,hne,he=>by have h0:p f=false:=hne 0 (by omega);show(bif p f then k else zq p (k+1) r)=_;rw[h0];show zq p (k+1) r=_;rw[VD r (k+1) n (by simpa using h) (λi hi=>hne (i+1) (by omega)) he];omega
theorem Pe{α:Type}{p:α->Bool}{d:α}:∀(s:List α)(k:Int),(∀i,i<s.length->p (s.getD i d)=false)->zq p k s=-1
 |[],_,_=>rfl
 |f::r,k,hne=>by have h0:p f=false:=hne 0 (by simp);show(bif p f then k else zq p (k+1) r)=_;rw[h0];exact Pe r (k+1) λi hi=>hne (i+1) (by simp;omega)
theorem adl{α:Type}{p:α->Bool}{d:α}{s:List α}{n:Nat}(h:n<s.length)(hne:∀i,i<n->p (s.getD i d)=false)(he:p (s.getD n d)=true):findAt p s=n:=by
 grind [findAt,VD]
theorem VE{α:Type}{p:α->Bool}{d:α}{s:List α}(hne:∀i,i<s.length->p (s.getD i d)=false):findAt p s=-1:=Pe s 0 hne
theorem SY{α:Type}(p:α->Bool)(d:α)(s:List α):(findAt p s=-1/\∀i,i<s.length->p (s.getD i d)=false)\/∃n,n<s.length/\findAt p s=n/\p (s.getD n d)=true/\∀i,i<n->p (s.getD i d)=false:=by
 by_cases h:∃n,n<s.length/\p (s.getD n d)=true
 .obtain⟨n,h1,h2,h3⟩:=least s.length (p:=λn=>p (s.getD n d)=true) h
  grind [adl]
 .have hne:∀i,i<s.length->p (s.getD i d)=false:=λi hi=>by
   grind
  exact .inl ⟨VE hne,hne⟩
theorem VF:∀a:Bytes,Op.bytesLess a a=false
 |[]=>rfl
 |x::a=>by show(decide (x<x)||(x==x&&Op.bytesLess a a))=false;rw[VF a,apK (UInt8.lt_irrefl x),aqD];rfl
theorem aal:∀a b:Bytes,Op.bytesLess a b=false->a≠b->Op.bytesLess b a=true
 |[],[],_,h=>(h rfl).elim
 |x::a,[],_,_=>rfl
 |[],y::b,h,_=>by cases h
 |x::a,y::b,h,hne=>by
  have h:(decide (x<y)||(x==y&&Op.bytesLess a b))=false:=h;show(decide (y<x)||(y==x&&Op.bytesLess b a))=true;rw[aqV,apR]at h;by_cases e:x=y
  .subst e;have h2:Op.bytesLess a b=false:=by simpa using h.2
   rw[aal a b h2 (λe=>hne (by rw[e]))];simp
  .have:y<x:=by have h1:¬x.toNat<y.toNat:=λhh=>h.1 (UInt8.lt_iff_toNat_lt.2 hh);have h2:x.toNat≠y.toNat:=λhh=>e (UInt8.toNat_inj.1 hh);exact UInt8.lt_iff_toNat_lt.2 (by omega)
   rw[apE this];rfl
theorem ajb{x y:UInt8}{a b:Bytes}:Op.bytesLess (x::a) (y::b)=true↔x.toNat<y.toNat\/(x=y/\Op.bytesLess a b=true):=by
 grind [Op.bytesLess,UInt8.lt_iff_toNat_lt]
theorem Aq:∀a b c:Bytes,Op.bytesLess a b=true->Op.bytesLess b c=true->Op.bytesLess a c=true
 |_,[],_,h,_=>by cases h':(‹Bytes›:Bytes)<;>simp_all [Op.bytesLess]
 |_,_::_,[],_,h=>by cases h
 |[],_::_,_::_,_,_=>rfl
 |x::a,y::b,z::c,h1,h2=>by
  rw[ajb]at h1 h2 ⊢;rcases h1 with h1|⟨rfl,h1⟩
  .rcases h2 with h2|⟨rfl,h2⟩
   .exact .inl (by omega)
   .exact .inl h1
  .rcases h2 with h2|⟨rfl,h2⟩
   .exact .inl h2
   .exact .inr ⟨rfl,Aq a b c h1 h2⟩
theorem MP{a b:Bytes}(h:Op.bytesLess a b=true):a≠b:=λe=>by grind [VF]
theorem Eo{s:List bM}:bP s=true↔(∀i,i<s.length->gy s i=true)/\s.length<=5:=by
 grind [bP,KO]
theorem Pg{s:List bM}{i:Nat}:gy s i=true↔fA (fieldAt s i).1=true/\(1<=(fieldAt s i).2.1/\(fieldAt s i).2.1<=2)/\(0<i->Op.bytesLess (fieldAt s (i-1)).1 (fieldAt s i).1=true):=by
 grind [gy]
theorem XY{s:List bM}(h:bP s=true):∀(j i:Nat),i<j->j<s.length->Op.bytesLess (fieldAt s i).1 (fieldAt s j).1=true
 |0,i,hi,_=>by omega
 |j+1,i,hi,hj=>by
  have h1:=(Pg.1 ((Eo.1 h).1 (j+1) hj)).2.2 (by omega);rcases apQ i j with h2|h2
  .exact Aq _ _ _ (XY h j i h2 (by omega)) h1
  .have:i=j:=by omega
   rw[this];exact h1
theorem Ph(s:List bM)(f:bM):∃m,m<=s.length/\(∀i,i<m->Op.bytesLess (fieldAt s i).1 f.1=true)/\(m<s.length->Op.bytesLess (fieldAt s m).1 f.1=false)/\sW s f=s.take m++f::s.drop m:=by
 have key:∀m,m<=s.length->(∀i,i<m->Op.bytesLess (fieldAt s i).1 f.1=true)->(m<s.length->Op.bytesLess (fieldAt s m).1 f.1=false)->sW s f=s.take m++f::s.drop m:=λm hm h1 h2=>by
  unfold sW;have:=Ej (p:=OL f.1) (d:=([],0,())) s m hm h1 h2
  grind
 by_cases h:∃n,n<s.length/\Op.bytesLess (fieldAt s n).1 f.1=false
 .obtain⟨n,h1,h2,h3⟩:=least s.length (p:=λn=>Op.bytesLess (fieldAt s n).1 f.1=false) h
  grind
 .have h3:∀i,i<s.length->Op.bytesLess (fieldAt s i).1 f.1=true:=λi hi=>by
   grind
  exact⟨s.length,apz _,h3,λhh=>by omega,key _ (apz _) h3 λhh=>by omega⟩
theorem VG{s:List bM}{f:bM}{m:Nat}(hm:m<=s.length)(i:Nat):fieldAt (s.take m++f::s.drop m) i=if i<m then fieldAt s i else if i=m then f else fieldAt s (i-1):=by
 grind [fieldAt]
theorem afC{s:List bM}{f:bM}(hs:bP s=true)(hp:bP (sW s f)=true):∀i,i<s.length->(fieldAt s i).1≠f.1:=by
 intro n hn e;obtain⟨m,hm,h1,h2,h3⟩:=Ph s f;rw[h3]at hp;have hlen:(s.take m++f::s.drop m).length=s.length+1:=by grind
 rcases apQ n m with hlt|hge
 · grind [MP]
 .have h4:=XY hp (m+1) m (by omega) (by omega)
  grind [VG,XY]
theorem added{s:List bM}{f:bM}(h:(zu s f).2=true):kindOf (zu s f).1 f.1=f.2.1/\bP (zu s f).1=true/\Vz (zu s f).1 f.1=(s,true)/\(zu s f).1.length=s.length+1/\s.length<=5:=by
 cases hs:(bP s&&bP (sW s f))with
 |false=>grind [zu]
 |true=>
  have e:zu s f=(sW s f,true):=by grind [zu]
  rw[e];rw[apt]at hs;have hne:=afC hs.1 hs.2;obtain⟨m,hm,h1,h2,h3⟩:=Ph s f;have hp:=hs.2;have hlen:(s.take m++f::s.drop m).length=s.length+1:=by grind
  have hk:kindOf (sW s f) f.1=f.2.1:=by
   rw[h3];have hat:(s.take m++f::s.drop m).getD m ([],0,())=f:=by
    grind
   rw[JB (name:=f.1) _ m (by omega) (λi hi=>?_) (by rw[hat]),hat]
   grind [fieldAt]
  have hkind:kindOf (sW s f) f.1≠0:=by
   rw[h3]at hp;have:=(Pg.1 ((Eo.1 hp).1 m (by omega))).2.1
   grind [VG]
  refine⟨hk,hp,?_,by grind,(Eo.1 hs.1).2⟩;unfold Vz;have hmem:∀y∈s,notField f.1 y=true:=λy hy=>by
   grind [List.getElem_of_mem,fieldAt,notField]
  rw[h3,aqL,arD,List.filter_eq_self.2 λy hy=>hmem y (List.mem_of_mem_take hy),List.filter_eq_self.2 λy hy=>hmem y (List.mem_of_mem_drop hy)]
  simp_all [notField]
end Sp
namespace Sp
open Go
def nameOf(d:List aB)(i:Nat):Bytes:=(bJ d i).1
def dZ(d:List aB)(i:Nat):List aU:=(bJ d i).2.1
def nR(r:List bT)(i:Nat):bT:=r.getD i ([],[],())
def fF(r:List bT)(i:Nat):List (Int×Unit):=(nR r i).2.1
def jA(d:List aB)(au:List (Int×Unit)):Prop:=
 au.length=d.length/\(∀i,i<d.length->0<=lv au i/\lv au i<=d.length)/\(fK (bV d) λi=>(lv au i).toNat)/\∀M,fK (bV d) M->∀i,i<d.length->lv au i<=M i
theorem Sm{d:List aB}{a b:List (Int×Unit)}(h1:jA d a)(h2:jA d b):a=b:=by
 refine aiT (h1.1.trans h2.1.symm) λi hi=>?_;have hi:i<d.length:=by rw[← h1.1];exact hi
 have a1:=h1.2.2.2 _ h2.2.2.1 i hi;have a2:=h2.2.2.2 _ h1.2.2.1 i hi;have:=(h1.2.1 i hi).1;have:=(h2.2.1 i hi).1;omega
theorem YW{d:List aB}(h:∃M,fK (bV d) M/\∀i,i<d.length->M i<d.length):∃s,jA d s:=by
 have hE:=jc d;have hmin:∀i,∃m,(∃M,fK (bV d) M/\M i=m)/\∀M,fK (bV d) M->m<=M i:=λi=>by
  obtain⟨M0,h0,_⟩:=h;have:∀n,(∃M,fK (bV d) M/\M i=n)->∃m,(∃M,fK (bV d) M/\M i=m)/\∀M,fK (bV d) M->m<=M i:=by
   intro n
   induction n using Nat.strongRecOn with
   |_ n ih=>
    intro hn;by_cases hl:∃M,fK (bV d) M/\M i<n
    .obtain⟨M,h1,h2⟩:=hl;exact ih _ h2 ⟨M,h1,rfl⟩
    grind
  exact this (M0 i) ⟨M0,h0,rfl⟩
 obtain⟨L,hL⟩:=Classical.axiomOfChoice hmin;have hfix:fK (bV d) L:=λe he=>by obtain⟨⟨M,h1,h2⟩,_⟩:=hL e.1;have a:=(hL e.2.1).2 M h1;have b:=h1 e he;omega
 have hlv:∀i,i<d.length->lv ((List.range d.length).map λi=>((L i:Int),())) i=L i:=λi hi=>by
  grind [lv]
 refine⟨(List.range d.length).map λi=>((L i:Int),()),by simp,λi hi=>?_,λe he=>?_,λM hM i hi=>?_⟩
 · grind
 .obtain⟨h1,h2,_⟩:=hE e he;have:=hfix e he
  grind
 grind
def KQ(d:List aB)(au:List (Int×Unit))(s:Bytes):Nat:=(lv au (aC d s).toNat).toNat
def due(d:List aB)(nm:Bytes->Bool)(s:Bytes):Prop:=nm s=true/\∃i,i<d.length/\nameOf d i=s
theorem ajc{d:List aB}(h:dM d=true){i:Nat}(hi:i<d.length):aS (dZ d i)=true/\(0<i->Op.bytesLess (nameOf d (i-1)) (nameOf d i)=true):=by
 unfold dM at h;have h1:iE d i=true:=by
  grind [eX]
 unfold iE at h1;rw[apt,apt]at h1;refine⟨h1.1.2,λh0=>?_⟩
 grind [nameOf]
theorem aco{d:List aB}(h:dM d=true):∀(j i:Nat),i<j->j<d.length->Op.bytesLess (nameOf d i) (nameOf d j)=true
 |0,i,hi,_=>by omega
 |j+1,i,hi,hj=>by
  have h1:=(ajc h hj).2 (by omega);rcases apQ i j with h2|h2
  .exact Aq _ _ _ (aco h j i h2 (by omega)) h1
  .have:i=j:=by omega
   subst this;exact h1
theorem XZ{d:List aB}(h:dM d=true){i j:Nat}(hi:i<d.length)(hj:j<d.length)(e:nameOf d i=nameOf d j):i=j:=by
 rcases aru i j with h1|h1|h1
 · simp_all [MP,aco]
 .exact h1
 .exact(MP (aco h i j h1 hi) e.symm).elim
theorem OO{d:List aB}(h:dM d=true){i:Nat}(hi:i<d.length):aC d (nameOf d i)=i:=by
 rcases Ar d (nameOf d i)with⟨_,h2⟩|⟨n,h1,h2,h3,_⟩
 .refine(h2 (bJ d i) ?_ rfl).elim
  grind [bJ]
 .rw[h2,XZ h h1 hi h3]
theorem sF{d:List aB}(h:dM d=true){au:List (Int×Unit)}{i:Nat}(hi:i<d.length):KQ d au (nameOf d i)=(lv au i).toNat:=by
 grind [KQ,OO]
theorem X0{fs:List aA}{d:List aB}(h:dM d=true){au:List (Int×Unit)}(hl:jA d au)(nm:Bytes->Bool):ad6 (JX fs d) (due d nm) (KQ d au):=by
 intro s t _ ht;obtain⟨_,j,hj,rfl⟩:=ht;have edge:∀i,i<d.length->∀m b,(m=0/\b=false\/m=1/\b=true)->nameOf d j∈dH (dZ d i) b->(lv au j).toNat+m<=(lv au i).toNat:=λi hi m b hm hd=>by
  refine hl.2.2.1 (i,j,m) (zl.2 ⟨hi,nameOf d j,?_,by grind [OO],by grind [OO]⟩);rcases hm with⟨a,b⟩|⟨a,b⟩
  .subst a b;exact .inl ⟨rfl,hd⟩
  .subst a b;exact .inr ⟨rfl,hd⟩
 refine⟨?_,?_⟩
 .rintro⟨i,hi,rfl,hd⟩;rw[show(bJ d i).1=nameOf d i from rfl,sF h hi,sF h hj];exact edge i hi 0 false (.inl ⟨rfl,rfl⟩) hd
 .rintro⟨i,hi,rfl,hd⟩;rw[show(bJ d i).1=nameOf d i from rfl,sF h hi,sF h hj];exact edge i hi 1 true (.inr ⟨rfl,rfl⟩) hd
def pO(d:List aB)(out:List bT):Prop:=out.length=d.length/\∀i,i<d.length->(nR out i).1=nameOf d i
theorem Fg:∀{r:List bT}{s:Bytes},(∀i,i<r.length->(nR r i).1≠s)->dV r s=[]
 |[],_,_=>rfl
 |x::r,s,h=>by have h0:x.1≠s:=h 0 (by simp);rw[dV,apu.2 h0];exact Fg λi hi=>h (i+1) (by simpa using hi)
theorem RU:∀{r:List bT}{i:Nat},i<r.length->(∀j,j<i->(nR r j).1≠(nR r i).1)->dV r (nR r i).1=fF r i
 |[],i,h,_=>by simp at h
 |x::r,0,_,_=>by
  show dV (x::r) x.1=x.2.1
  grind [dV]
 |x::r,i+1,h,hn=>by have h0:x.1≠(nR r i).1:=hn 0 (by omega);show dV (x::r) (nR r i).1=fF r i;rw[dV,apu.2 h0];exact RU (by simpa using h) λj hj=>hn (j+1) (by omega)
theorem wI{d:List aB}(h:dM d=true){out:List bT}(ho:pO d out){i:Nat}(hi:i<d.length):dV out (nameOf d i)=fF out i:=by rw[← ho.2 i hi];refine RU (by rw[ho.1];exact hi) λj hj e=>?_;rw[ho.2 j (by omega),ho.2 i hi]at e;have:=XZ h (by omega) hi e;omega
theorem S9{d:List aB}{out:List bT}(ho:pO d out){s:Bytes}(hs:∀i,i<d.length->nameOf d i≠s):dV out s=[]:=
 Fg λi hi=>by rw[ho.1]at hi;rw[ho.2 i hi];exact hs i hi
structure jR(fs:List aA)(d:List aB)(r:List bT)(nm:Bytes->Bool)(out:List bT):Prop where
 order:pO d out
 kept:∀i,i<d.length->nm (nameOf d i)=false->fF out i=dV r (nameOf d i)
 fix:∀i,i<d.length->nm (nameOf d i)=true->fF out i=sel fs (dZ d i) (aT out)
 au:∃au,jA d au/\Eval (JX fs d) (due d nm) (KQ d au) (aT out)
theorem TU{a b:List (Int×Unit)}(h:a=b)(x:Int):dh a x=dh b x:=by rw[h]
theorem ale{d:List aB}{a b:List bT}(ha:pO d a)(hb:pO d b)(h:∀i,i<d.length->fF a i=fF b i):a=b:=by
 refine List.ext_getElem (ha.1.trans hb.1.symm) λi h1 h2=>?_;have hi:i<d.length:=by rw[← ha.1];exact h1
 have e1:=ha.2 i hi;have e2:=hb.2 i hi
 grind [fF,nR]
theorem afD{fs:List aA}{d:List aB}{r:List bT}{nm:Bytes->Bool}{a b:List bT}(h:dM d=true)(ha:jR fs d r nm a)(hb:jR fs d r nm b):a=b:=by
 obtain⟨l1,hl1,e1⟩:=ha.au;obtain⟨l2,hl2,e2⟩:=hb.au;have off:∀s,¬due d nm s->∀x,aT a s x=aT b s x:=λs hs x=>by
  by_cases hd:∃i,i<d.length/\nameOf d i=s
  .obtain⟨i,hi,rfl⟩:=hd;have hn:nm (nameOf d i)=false:=by rw[aq5];exactλhn=>hs ⟨hn,i,hi,rfl⟩
   exact TU (by rw[wI h ha.order hi,wI h hb.order hi,ha.kept i hi hn,hb.kept i hi hn]) x
  .have hd':∀i,i<d.length->nameOf d i≠s:=λi hi e=>hd ⟨i,hi,e⟩;exact TU (by rw[S9 ha.order hd',S9 hb.order hd']) x
 have key:=agp (U:=due d nm) e1 e2 (X0 h hl1 nm) (X0 h hl2 nm) (λ_ h=>h) (λ_ h=>h) (λ_ _ _ _=>Iff.rfl) (λ_ _ _ h=>h) (λ_ _ _ h=>h)
  λi _ j _=>Classical.or_iff_not_imp_left.2 (off j)
 have all:aT a=aT b:=by
  grind
 refine ale ha.order hb.order λi hi=>?_;cases hn:nm (nameOf d i)with
 |false=>rw[ha.kept i hi hn,hb.kept i hi hn]
 |true=>rw[ha.fix i hi hn,hb.fix i hi hn,all]
def TV{ι α:Type}(S:Sys ι α)(N:ι->Prop)(au:ι->Nat)(k:Nat)(X:Ext ι α):Prop:=
 ∀Y:Ext ι α,(∀i,¬(N i/\au i=k)->∀x,Y i x=X i x)->(∀i,N i->au i=k->∀x,S.T i Y x->Y i x=true)->∀i,N i->au i=k->∀x,X i x=true->Y i x=true
open Classical in
theorem acp{ι α:Type}{S:Sys ι α}{N:ι->Prop}{au:ι->Nat}(hs:ad6 S N au){m:Nat}{X X':Ext ι α}(h:∀i,¬(N i/\m<au i)->∀x,X i x=X' i x)(hX:TV S N au m X):TV S N au m X':=by
 intro Y hY hp i hi hl x hx;have key:=hX (λi x=>if N i/\m<au i then X i x else Y i x) (λj hj y=>?_) (λj hj hlj y hy=>?_) i hi hl x (by grind)
 · grind
 · grind
 .rw[if_neg (by omega)];have same:∀t,(S.pos j t\/S.neg j t)->¬(N t/\m<au t):=λt ht hc=>by
   rcases ht with ht|ht
   .have:=(hs j t hj hc.1).1 ht;omega
   .have:=(hs j t hj hc.1).2 ht;omega
  refine hp j hj hlj y (S.mono j _ Y (λt ht z hz=>?_) (λt ht z=>?_) y hy)
  · grind
  grind
def canon(fs:List aA)(l:List (Int×Unit)):Prop:=l=(fs.filter λf=>dh l f.1).map λf=>(f.1,())
def distinct(fs:List aA):Prop:=∀f∈fs,∀g∈fs,f.1=g.1->f=g
theorem ajd{fs:List aA}(hd:distinct fs)(q:List aU)(X:BX):canon fs (sel fs q X):=by
 show _=List.map _ (List.filter _ _)
 conv=>lhs;unfold sel
 congr 1;apply List.filter_congr;intro f hf;rw[apO,Dk,acn];exact⟨λh=>⟨f,hf,rfl,h⟩,λ⟨g,hg,e,hm⟩=>by rw[hd f hf g hg e.symm];exact hm⟩
theorem adn{fs:List aA}{l:List (Int×Unit)}(h:canon fs l):l.length<=fs.length:=by rw[h,apD];grind
theorem filter_lt{α:Type}{p q:α->Bool}(h:∀x,p x=true->q x=true):∀{l:List α},(∃x∈l,q x=true/\p x=false)->(l.filter p).length<(l.filter q).length
 |[],h'=>by grind
 |y::r,h'=>by
  have le:(r.filter p).length<=(r.filter q).length:=by
   clear h'
   induction r with
   |nil=>grind
   |cons z t ih=>
    grind
  grind [filter_lt,Nat.lt_succ_of_lt]
theorem ah3{fs:List aA}{a b:List (Int×Unit)}(ha:canon fs a)(hb:canon fs b)(h:∀x,dh a x=true->dh b x=true)(hne:b≠a):a.length<b.length:=by
 rw[ha,hb,apD,apD];refine filter_lt (p:=λf:aA=>dh a f.1) (q:=λf:aA=>dh b f.1) (λf=>h f.1) (ap2 λhno=>hne ?_);rw[ha,hb]
 grind [List.filter_congr]
structure l9(fs:List aA)(d:List aB)(r:List bT)(nm:Bytes->Bool)(au:List (Int×Unit))(k:Nat)(out:List bT):Prop where
 order:pO d out
 kept:∀i,i<d.length->nm (nameOf d i)=false->fF out i=dV r (nameOf d i)
 later:∀i,i<d.length->nm (nameOf d i)=true->(k:Int)<lv au i->fF out i=[]
 done:∀i,i<d.length->nm (nameOf d i)=true->lv au i<k->fF out i=sel fs (dZ d i) (aT out)
 Tc:∀m,m<k->TV (JX fs d) (due d nm) (KQ d au) m (aT out)
 afE:∀i,i<d.length->nm (nameOf d i)=true->lv au i=k->∀x,dh (fF out i) x=true->(x,())∈sel fs (dZ d i) (aT out)
 least:TV (JX fs d) (due d nm) (KQ d au) k (aT out)
 canon:∀i,i<d.length->nm (nameOf d i)=true->canon fs (fF out i)
theorem ajU{fs:List aA}{d:List aB}{r:List bT}{nm:Bytes->Bool}{au:List (Int×Unit)}(h:dM d=true)(hl:jA d au){out:List bT}(ho:pO d out)
 (h1:∀i,i<d.length->nm (nameOf d i)=false->fF out i=dV r (nameOf d i)) (h2:∀i,i<d.length->nm (nameOf d i)=true->fF out i=[]):l9 fs d r nm au 0 out where
 order:=ho
 kept:=h1
 later:=λi hi hn _=>h2 i hi hn
 done:=λi hi _ hlt=>by have:=(hl.2.1 i hi).1;omega
 Tc:=λm hm=>by omega
 afE:=λi hi hn _ x hx=>by rw[h2 i hi hn]at hx;cases hx
 least:=λY _ _ s hs _ x hx=>by obtain⟨hn,i,hi,rfl⟩:=hs;have hx:dh (dV out (nameOf d i)) x=true:=hx;rw[wI h ho hi,h2 i hi hn]at hx;cases hx
 canon:=λi hi hn=>by rw[h2 i hi hn];show[]=List.map _ (List.filter _ _);grind [List.filter_eq_nil_iff,dh]
theorem JY{out:List bT}{i j:Nat}{x:bT}(hi:i<out.length):nR (out.set i x) j=if j=i then x else nR out j:=by
 grind [nR]
theorem ado{d:List aB}{out:List bT}(ho:pO d out){i:Nat}(hi:i<d.length)(l:List (Int×Unit)):pO d (out.set i (nameOf d i,l,())):=by
 refine⟨by rw[arJ];exact ho.1,λj hj=>?_⟩;rw[JY (by rw[ho.1];exact hi)];split
 · grind
 .exact ho.2 j hj
theorem aje{d:List aB}(h:dM d=true){out:List bT}(ho:pO d out){i:Nat}(hi:i<d.length)(l:List (Int×Unit)):
 (∀x,aT (out.set i (nameOf d i,l,())) (nameOf d i) x=dh l x)/\∀s,s≠nameOf d i->∀x,aT (out.set i (nameOf d i,l,())) s x=aT out s x:=by
 have ho':=ado ho hi l;refine⟨λx=>?_,λs hs x=>?_⟩
 .refine TU ?_ x;rw[wI h ho' hi];unfold fF;rw[JY (by rw[ho.1];exact hi),if_pos rfl]
 .refine TU ?_ x;by_cases hd:∃j,j<d.length/\nameOf d j=s
  .obtain⟨j,hj,rfl⟩:=hd;rw[wI h ho' hj,wI h ho hj];unfold fF;rw[JY (by rw[ho.1];exact hi),if_neg (λe=>hs (by rw[e]))]
  grind [S9]
theorem ad7{fs:List aA}{d:List aB}(h:dM d=true){i:Nat}(hi:i<d.length){X:BX}{x:Int}:(JX fs d).T (nameOf d i) X x↔(x,())∈sel fs (dZ d i) X:=by
 constructor
 .rintro⟨j,hj,e,hx⟩;have:=XZ h hj hi e;subst this;exact hx
 .exactλhx=>⟨i,hi,rfl,hx⟩
theorem at_set{fs:List aA}{d:List aB}{r:List bT}{nm:Bytes->Bool}{au:List (Int×Unit)}{k:Nat}{out:List bT}(h:dM d=true)(hl:jA d au)(hf:distinct fs)(A:l9 fs d r nm au k out){i:Nat}(hi:i<d.length)(hn:nm (nameOf d i)=true)(hk:lv au i=k):
 l9 fs d r nm au k (out.set i (nameOf d i,sel fs (dZ d i) (aT out),()))/\(sel fs (dZ d i) (aT out)≠fF out i->(fF out i).length<(sel fs (dZ d i) (aT out)).length)/\(sel fs (dZ d i) (aT out)).length<=fs.length:=by
 have hc:=ajd hf (dZ d i) (aT out);have hol:i<out.length:=by rw[A.order.1];exact hi
 have hs:=X0 (fs:=fs) h hl nm;have hd:due d nm (nameOf d i):=⟨hn,i,hi,rfl⟩;have hlv:KQ d au (nameOf d i)=k:=by grind [sF]
 obtain⟨g1,g2⟩:=aje h A.order hi (sel fs (dZ d i) (aT out));have up:∀s x,aT out s x=true->aT (out.set i (nameOf d i,sel fs (dZ d i) (aT out),())) s x=true:=λs x hx=>by
  by_cases e:s=nameOf d i
  .subst e;rw[g1,Dk];refine A.afE i hi hn hk x ?_;have hx:dh (dV out (nameOf d i)) x=true:=hx;rw[wI h A.order hi]at hx;exact hx
  grind
 have off:∀s,¬(due d nm s/\KQ d au s=k)->∀x,aT out s x=aT (out.set i (nameOf d i,sel fs (dZ d i) (aT out),())) s x:=λs hs' x=>(g2 s (λe=>hs' (by grind)) x).symm;have ids:∀j,fF (out.set i (nameOf d i,sel fs (dZ d i) (aT out),())) j=if j=i then sel fs (dZ d i) (aT out)else fF out j:=λj=>by
  grind [fF,JY]
 refine⟨⟨ado A.order hi _,λj hj Td=>?_,λj hj Td hlj=>?_,λj hj Td hlj=>?_,λm hm=>?_,λj hj Td hlj x hx=>?_,?_,λj hj Td=>?_⟩,λhne=>?_,adn hc⟩
 .rw[ids,if_neg (λe=>by grind)];exact A.kept j hj Td
 .rw[ids,if_neg (λe=>by grind)];exact A.later j hj Td hlj
 .rw[ids,if_neg (λe=>by grind),A.done j hj Td hlj];refine ai9 λb s hsd x=>off s (λhc=>?_) x;have hdj:due d nm (nameOf d j):=⟨Td,j,hj,rfl⟩;have:=hs (nameOf d j) s hdj hc.1;have apf:KQ d au (nameOf d j)<k:=by rw[sF h hj];have:=(hl.2.1 j hj).1;omega
  cases b with
  |false=>have:=this.1 ⟨j,hj,rfl,hsd⟩;omega
  |true=>have:=this.2 ⟨j,hj,rfl,hsd⟩;omega
 .exact acp hs (λs hs'=>off s λhc=>hs' ⟨hc.1,by omega⟩) (A.Tc m hm)
 .have hT:(JX fs d).T (nameOf d j) (aT out) x:=by
   rw[ad7 h hj];rw[ids]at hx;by_cases e:j=i
   · grind [Dk]
   .rw[if_neg e]at hx;exact A.afE j hj Td hlj x hx
  rw[← ad7 h hj];refine(JX fs d).mono _ _ _ (λs _=>up s) (λs hsd=>off s λhc=>?_) x hT;have:=(hs (nameOf d j) s ⟨Td,j,hj,rfl⟩ hc.1).2 hsd
  grind [sF]
 .intro Y hY hp s hsd hls x hx;have U6:∀t,¬(due d nm t/\KQ d au t=k)->∀x,Y t x=aT out t x:=λt ht x=>(hY t ht x).trans (off t ht x).symm;have base:=A.least Y U6 hp;by_cases e:s=nameOf d i
  .subst e;rw[g1,Dk,← ad7 h hi]at hx;refine hp _ hsd hls x ((JX fs d).mono _ _ _ (λt _ y hy=>?_) (λt ht y=>?_) x hx)
   · grind
   .refine(U6 t (λhc=>?_) y).symm;have:=(hs (nameOf d i) t hd hc.1).2 ht;omega
  grind
 .rw[ids];split
  .exact hc
  .exact A.canon j hj Td
 .refine ah3 (A.canon i hi hn) hc (λx hx=>?_) hne;rw[Dk];exact A.afE i hi hn hk x hx
theorem at_next{fs:List aA}{d:List aB}{r:List bT}{nm:Bytes->Bool}{au:List (Int×Unit)}{k:Nat}{out:List bT}(h:dM d=true)(A:l9 fs d r nm au k out)(hstill:∀i,i<d.length->nm (nameOf d i)=true->lv au i=k->sel fs (dZ d i) (aT out)=fF out i):l9 fs d r nm au (k+1) out where
 order:=A.order
 kept:=A.kept
 later:=λi hi hn hlt=>A.later i hi hn (by omega)
 done:=λi hi hn hlt=>by
  by_cases e:lv au i=k
  · grind
  .exact A.done i hi hn (by omega)
 Tc:=λm hm=>by
  by_cases e:m=k
  .subst e;exact A.least
  .exact A.Tc m (by omega)
 afE:=λi hi hn hl x hx=>by rw[A.later i hi hn (by omega)]at hx;cases hx
 least:=λY _ _ s hs hls x hx=>by obtain⟨hn,i,hi,rfl⟩:=hs;rw[sF h hi]at hls;have hx:dh (dV out (nameOf d i)) x=true:=hx;rw[wI h A.order hi,A.later i hi hn (by omega)]at hx;cases hx
 canon:=A.canon
theorem at_end{fs:List aA}{d:List aB}{r:List bT}{nm:Bytes->Bool}{au:List (Int×Unit)}{k:Nat}{out:List bT}(h:dM d=true)(hl:jA d au)(A:l9 fs d r nm au k out)(hk:∀i,i<d.length->lv au i<k):jR fs d r nm out where
 order:=A.order
 kept:=A.kept
 fix:=λi hi hn=>A.done i hi hn (hk i hi)
 au:=⟨au,hl,{
  fix:=λs hs x=>by obtain⟨hn,i,hi,rfl⟩:=hs;rw[ad7 h hi,← A.done i hi hn (hk i hi),← Dk,← wI h A.order hi];rfl
  least:=λm Y hY hp s hs hls=>by
   have hm:m<k:=by obtain⟨hn,i,hi,rfl⟩:=hs;rw[sF h hi]at hls;have:=hk i hi;have:=(hl.2.1 i hi).1;omega
   exact A.Tc m hm Y hY hp s hs hls}⟩
def room(n:Nat)(out:List bT):Nat:=(out.map λx=>n-x.2.1.length).sum
theorem X3{n:Nat}:∀{out:List bT}{i:Nat}{x:bT},i<out.length->(fF out i).length<x.2.1.length->x.2.1.length<=n->room n (out.set i x)<room n out
 |[],i,x,h,_,_=>by simp at h
 |y::r,0,x,_,h1,h2=>by
  have h1:y.2.1.length<x.2.1.length:=h1;show((x::r).map λx=>n-x.2.1.length).sum<((y::r).map λx=>n-x.2.1.length).sum
  grind
 |y::r,i+1,x,h,h1,h2=>by
  have ih:=X3 (out:=r) (i:=i) (x:=x) (by simpa using h) h1 h2
  grind [room]
end Sp
namespace Sp
open Go
abbrev Oj:=Bytes×List (Int×Unit)×List (Int×Unit)×Unit
abbrev jI:=List bM×List aA×Int×List aB×List bT×Unit
instance:DecidableEq (List (Int×Unit)):=inferInstance
instance:DecidableEq bT:=inferInstance
instance:DecidableEq (List bT):=inferInstance
instance:DecidableEq (List bT×Unit):=inferInstance
instance:DecidableEq (List aB×List bT×Unit):=inferInstance
instance:DecidableEq (Int×List aB×List bT×Unit):=inferInstance
instance:DecidableEq (List aA×Int×List aB×List bT×Unit):=inferInstance
instance apg:DecidableEq jI:=(inferInstance:DecidableEq (List bM×List aA×Int×List aB×List bT×Unit))
def qg(l:LS)(s:Bytes):Bool:=l.any λx=>x.1==s
theorem afr{l:LS}{s:Bytes}:qg l s=true↔(s,())∈l:=by
 grind [qg]
def bQ(r:List bT):Prop:=r.length<=1000/\∀x∈r,x.2.1.length<=1000
def jK(c:jI):cu:=(c.1,c.2.1,c.2.2.1,())
def mP(c:jI):List aB:=c.2.2.2.1
def afF(c:jI):List bT:=c.2.2.2.2.1
def lK(d:List aB):LS:=d.map λx=>(x.1,())
def Ya(d:List aB)(m:Int):Prop:=m<=1000/\∀au,aI d=true->jA d au->∀i,i<d.length->lv au i<=m
open Classical in
noncomputable def G7 (c:jI):Bool:=aI (mP c)&&aW (jK c)&&decide (jR c.2.1 (mP c) [] (λ_=>true) (afF c))
def ajV(f g:aA):List Bytes:=((f.2.2.2.2.1++g.2.2.2.2.1).map λa=>a.1).filter λs=>!decide (dY f.2.2.2.2.1 s=dY g.2.2.2.2.1 s)
def alf(q:List aU):List Bytes:=(q.filter λn=>n.1==2||(n.1==3||n.1==4)).map λn=>n.2.2.2.1
def aah(q:List aU):List Bytes:=(q.filter xg).map λn=>n.2.2.2.1
def linked(q:List aU):Bool:=q.any λn=>n.1==9
inductive Reach(d:List aB)(P:Bytes->Prop):Bytes->Prop where
 |base {s}:P s->Reach d P s
 |step {s i}:Reach d P s->i<d.length->s∈aah (dZ d i)->Reach d P (nameOf d i)
def ajW(d:List aB)(f g:aA)(s:Bytes):Prop:=
 ∃i,i<d.length/\nameOf d i=s/\(f.1≠g.1\/(∃t,t∈alf (dZ d i)/\t∈ajV f g)\/(linked (dZ d i)=true/\f.2.2.2.1≠g.2.2.2.1))
def Aff(d:List aB)(f g:aA):Bytes->Prop:=Reach d (ajW d f g)
open Classical in
noncomputable def aph (d:List aB) (f g:aA) (s:Bytes):Bool:=decide (Aff d f g s)
def without(a b:List (Int×Unit)):List (Int×Unit):=a.filter λx=>!dh b x.1
def alY(a:List bT)(x:bT):Oj:=(x.1,without x.2.1 (dV a x.1),without (dV a x.1) x.2.1,())
def alZ(y:Oj):Bool:=decide (0<y.2.1.length+y.2.2.1.length)
def akJ(a b:List bT):List Oj:=(b.map (alY a)).filter alZ
def xP(l:List (Int×Unit))(n:Int):List (Int×Unit):=
 let k:=(l.takeWhile λx=>decide (x.1<n)).length
 bif decide (k<l.length)&&(l.getD k (0,())).1==n then l else l.take k++[(n,())]++l.drop k
def kY(l:List (Int×Unit))(xs:List (Int×Unit)):List (Int×Unit):=xs.foldl (λl x=>xP l x.1) l
def lM(l x y:List (Int×Unit)):List (Int×Unit):=kY (kY [] (l.filter λz=>!dh y z.1)) x
def Hq(fs:List aA)(d:List aB)(r:List bT)(nm:Bytes->Bool)(au:List (Int×Unit))(k:Nat)(Tf:List bT)(i:Nat)(c:Bool)(out:List bT):Prop:=
 l9 fs d r nm au k out/\(c=true->room fs.length out<room fs.length Tf)/\
  (c=false->out=Tf/\∀j,j<i->j<d.length->nm (nameOf d j)=true->lv au j=k->sel fs (dZ d j) (aT out)=fF out j)
theorem FV{fs:List aA}{d:List aB}{r:List bT}{nm:Bytes->Bool}{au:List (Int×Unit)}{k i:Nat}{Tf out:List bT}{c:Bool}(h:Hq fs d r nm au k Tf i c out)(hs:nm (nameOf d i)=true->lv au i=k->sel fs (dZ d i) (aT out)=fF out i):Hq fs d r nm au k Tf (i+1) c out:=
 ⟨h.1,h.2.1,λhc=>⟨(h.2.2 hc).1,λj hj hd hn hl=>by
   rcases apQ j i with h'|h'
   .exact(h.2.2 hc).2 j h' hd hn hl
   grind⟩⟩
theorem afq{fs:List aA}{d:List aB}{r:List bT}{nm:Bytes->Bool}{au:List (Int×Unit)}{k i:Nat}{Tf out:List bT}{c:Bool}(hd:dM d=true)(hl:jA d au)(hf:distinct fs)(h:Hq fs d r nm au k Tf i c out)(hi:i<d.length)(hn:nm (nameOf d i)=true)(hk:lv au i=k)(hne:sel fs (dZ d i) (aT out)≠fF out i):
 Hq fs d r nm au k Tf (i+1) true (out.set i ((nR out i).1,sel fs (dZ d i) (aT out),())):=by
 obtain⟨A,h1,h2⟩:=h;rw[A.order.2 i hi];obtain⟨g1,g2,g3⟩:=at_set hd hl hf A hi hn hk;refine⟨g1,λ_=>?_,λh=>by cases h⟩;have hr:room fs.length (out.set i (nameOf d i,sel fs (dZ d i) (aT out),()))<room fs.length out:=X3 (by rw[A.order.1];exact hi) (g2 hne) g3
 grind
theorem Vt{fs:List aA}{d:List aB}{r:List bT}{nm:Bytes->Bool}{au:List (Int×Unit)}{k:Nat}{out:List bT}(A:l9 fs d r nm au k out)(hd:d.length<=1000)(hf:fs.length<=1000)(hr:bQ r):bQ out:=by
 refine⟨by rw[A.order.1];exact hd,λx hx=>?_⟩;obtain⟨i,hi,rfl⟩:=ap3 hx;have hi':i<d.length:=by rw[← A.order.1];exact hi
 have e:(out[i]).2.1=fF out i:=by
  grind [fF,nR]
 rw[e];cases hn:nm (nameOf d i)with
 |true=>exact apv (adn (A.canon i hi' hn)) hf
 |false=>
  rw[A.kept i hi' hn];have:∀l:List bT,(∀x∈l,x.2.1.length<=1000)->(dV l (nameOf d i)).length<=1000:=by
   intro l
   induction l with
   |nil=>exactλ_=>apW _
   |cons x t ih=>
    grind [dV]
  exact this r hr.2
def uS(r:List bT)(nm:Bytes->Bool)(x:aB):bT:=(x.1,bif nm x.1 then[]else dV r x.1,())
theorem X4{d:List aB}{r:List bT}{nm:Bytes->Bool}{i:Nat}(hi:i<d.length):nR (d.map (uS r nm)) i=uS r nm (bJ d i):=by
 grind [nR,bJ]
theorem KG{fs:List aA}{d:List aB}{r:List bT}{nm:Bytes->Bool}{au:List (Int×Unit)}(hd:dM d=true)(hl:jA d au):l9 fs d r nm au 0 (d.map (uS r nm)):=by
 refine ajU hd hl ⟨by simp,λi hi=>?_⟩ (λi hi hn=>?_) λi hi hn=>?_
 .rw[X4 hi];rfl
 .unfold fF;rw[X4 hi];show(bif nm (nameOf d i)then[]else dV r (nameOf d i))=_;rw[hn];rfl
 .unfold fF;rw[X4 hi];show(bif nm (nameOf d i)then[]else dV r (nameOf d i))=_;rw[hn];rfl
theorem afG{s:cu}(h:aW s=true):∀(j i:Nat),i<j->j<s.2.1.length->(fileAt s.2.1 i).1<(fileAt s.2.1 j).1:=by
 intro j
 induction j with
 |zero=>omega
 |succ j ih=>
  intro i hi hj;have h1:iQ s (j+1)=true:=by
   grind [aW,eX]
  grind [iQ]
theorem Am{s:cu}(h:aW s=true):distinct s.2.1:=by
 intro f hf g hg e;obtain⟨i,hi,rfl⟩:=ap3 hf;obtain⟨j,hj,rfl⟩:=ap3 hg;have at_:∀k(hk:k<s.2.1.length),fileAt s.2.1 k=s.2.1[k]:=λk hk=>by
  grind [fileAt]
 rcases aru i j with h1|h1|h1
 .have:=afG h j i h1 hj
  grind
 .subst h1;rfl
 .have:=afG h i j h1 hi
  grind
theorem agk{fs:List aA}{d:List aB}{r r':List bT}{nm nm':Bytes->Bool}{out:List bT}(h:jR fs d r nm out)(hn:∀i,i<d.length->nm (nameOf d i)=nm' (nameOf d i))(hr:∀i,i<d.length->nm (nameOf d i)=false->dV r (nameOf d i)=dV r' (nameOf d i)):jR fs d r' nm' out:=by
 have hd:∀s,due d nm s↔due d nm' s:=λs=>by
  constructor
  .rintro⟨a,i,hi,rfl⟩;exact⟨by grind,i,hi,rfl⟩
  .rintro⟨a,i,hi,rfl⟩;exact⟨by grind,i,hi,rfl⟩
 obtain⟨au,h1,h2⟩:=h.au;exact⟨h.order,λi hi h'=>by rw[← hn i hi]at h';rw[h.kept i hi h',hr i hi h'],λi hi h'=>h.fix i hi (by grind),au,h1,
  λs hs=>h2.fix s ((hd s).2 hs),λk Y hY hp s hs=>h2.least k Y (λt ht=>hY t λh'=>ht ⟨(hd t).2 h'.1,h'.2⟩) (λt ht=>hp t ((hd t).1 ht)) s ((hd s).2 hs)⟩
theorem ah4{fs:List aA}{d:List aB}{r:List bT}{nm:Bytes->Bool}{au:List (Int×Unit)}{k:Nat}(hd:dM d=true)(hl:jA d au)(hf:distinct fs):∀(n:Nat)(out:List bT),room fs.length out<=n->l9 fs d r nm au k out->∃out',l9 fs d r nm au (k+1) out':=by
 intro n
 induction n using Nat.strongRecOn with
 |_ n ih=>
  intro out hn A;by_cases hs:∀i,i<d.length->nm (nameOf d i)=true->lv au i=k->sel fs (dZ d i) (aT out)=fF out i
  .exact⟨out,at_next hd A hs⟩
  .obtain⟨i,hi⟩:=Classical.not_forall.1 hs;have h1:i<d.length:=ap2 λh=>hi λh'=>(h h').elim;have h2:nm (nameOf d i)=true:=ap2 λh=>hi λ_ h'=>(h h').elim;have h3:lv au i=k:=ap2 λh=>hi λ_ _ h'=>(h h').elim;have h4:sel fs (dZ d i) (aT out)≠fF out i:=λh=>hi λ_ _ _=>h;obtain⟨g1,g2,g3⟩:=at_set hd hl hf A h1 h2 h3;have hr:room fs.length (out.set i (nameOf d i,sel fs (dZ d i) (aT out),()))<room fs.length out:=X3 (by rw[A.order.1];exact h1) (g2 h4) g3;exact ih _ (by omega) _ (apz _) g1
theorem aae{fs:List aA}{d:List aB}(r:List bT)(nm:Bytes->Bool){au:List (Int×Unit)}(hd:dM d=true)(hl:jA d au)(hf:distinct fs):∃out,jR fs d r nm out:=by
 have:∀k,∃out,l9 fs d r nm au k out:=λk=>by
  induction k with
  |zero=>exact⟨_,KG hd hl⟩
  |succ k ih=>obtain⟨out,A⟩:=ih;exact ah4 hd hl hf _ out (apz _) A
 obtain⟨out,A⟩:=this (d.length+1);exact⟨out,at_end hd hl A λi hi=>by have:=(hl.2.1 i hi).2;omega⟩
end Sp
namespace Sp
open Go
end Sp
namespace Sp
open Go
def aok(as:List dN):Prop:=as.Pairwise λx y=>Op.bytesLess x.1 y.1=true
theorem X5{α:Type}{R:α->α->Prop}(ht:∀a b c,R a b->R b c->R a c)(d:α):∀(l:List α),(∀i,i+1<l.length->R (l.getD i d) (l.getD (i+1) d))->l.Pairwise R
 |[],_=>List.Pairwise.nil
 |[x],_=>aq4 _ _
 |x::y::r,h=>by
  have ih:=X5 ht d (y::r) λi hi=>h (i+1) (by simpa using hi);have h0:R x y:=h 0 (by simp)
  grind [List.pairwise_cons]
theorem VH{fs:List bM}{as:List dN}:nC fs as=true↔(∀a∈as,fU fs a.1 a.2.1 a.2.2.1 a.2.2.2.1=true)/\aok as:=by
 have at_:∀i(hi:i<as.length),bU as i=as[i]:=λi hi=>by grind [bU]
 unfold nC;rw[show(eX as.length (iD fs as)=true)↔∀i,i<as.length->iD fs as i=true from by
  grind [eX]]
 have one:∀i,iD fs as i=true↔fU fs (bU as i).1 (bU as i).2.1 (bU as i).2.2.1 (bU as i).2.2.2.1=true/\(0<i->Op.bytesLess (bU as (i-1)).1 (bU as i).1=true):=λi=>by
  grind [iD]
 constructor
 .intro h;refine⟨λa ha=>?_,?_⟩
  · grind [List.getElem_of_mem]
  .refine X5 (R:=λx y:dN=>Op.bytesLess x.1 y.1=true) (λa b c h1 h2=>Aq _ _ _ h1 h2) ([],0,0,[],()) as λi hi=>?_
   grind
 .rintro⟨h1,h2⟩ i hi;refine(one i).2 ⟨?_,λh0=>?_⟩
  · grind
  .rw[at_ i hi,at_ (i-1) (by omega)];exact aq2.1 h2 (i-1) i (by omega) hi (by omega)
theorem afH{α:Type}[BEq α][LawfulBEq α]:∀(a b:List α),a.Nodup->(∀x∈a,x∈b)->a.length<=b.length
 |[],_,_,_=>apW _
 |x::r,b,hn,h=>by
  rw[arI]at hn;have ih:=afH r (b.erase x) hn.2 λy hy=>by
   grind
  grind
theorem OQ:∀{fs:List bM}{s:Bytes},kindOf fs s≠0->s∈fs.map λf=>f.1
 |[],_,h=>(h rfl).elim
 |f::r,s,h=>by
  rw[kindOf]at h;by_cases e:f.1=s
  .rw[apP,e];exact apB
  .rw[apK e]at h;exact apx _ (OQ h)
theorem ajX{fs:List bM}{as:List dN}(h:nC fs as=true):as.length<=fs.length:=by
 obtain⟨h1,h2⟩:=VH.1 h;have:=afH (as.map λa=>a.1) (fs.map λf=>f.1) ?_ λs hs=>?_
 · grind
 .unfold List.Nodup;rw[aqN];exact h2.imp λ{a b} hab=>MP hab
 grind [fU,OQ]
def Rl(l:List (Int×Unit)):Prop:=l.Pairwise λx y=>x.1<y.1
theorem ajf{x:Int×Unit}{r:List (Int×Unit)}{n:Int}:xP (x::r) n=if x.1<n then x::xP r n else if x.1=n then x::r else(n,())::x::r:=by
 grind [xP,List.takeWhile_cons_of_pos,List.takeWhile_cons_of_neg]
theorem adp{n:Int}:∀{l:List (Int×Unit)},Rl l->Rl (xP l n)/\∀x,x∈xP l n↔x=(n,())\/x∈l
 |[],_=>⟨aq4 _ _,λx=>by show x∈[(n,())]↔_;simp⟩
 |y::r,h=>by
  obtain⟨h1,h2⟩:=ap6.1 h;obtain⟨i1,i2⟩:=adp (n:=n) h2;rw[ajf];by_cases c1:y.1<n
  .rw[if_pos c1];refine⟨ap6.2 ⟨λz hz=>?_,i1⟩,λx=>?_⟩
   · grind
   grind
  .rw[if_neg c1];by_cases c2:y.1=n
   · grind
   .rw[if_neg c2];refine⟨ap6.2 ⟨λz hz=>?_,h⟩,λx=>apN⟩
    grind
theorem KR:∀(xs:List (Int×Unit)){l:List (Int×Unit)},Rl l->Rl (kY l xs)/\∀x,x∈kY l xs↔x∈xs\/x∈l
 |[],l,h=>⟨h,λx=>by simp[kY]⟩
 |y::r,l,h=>by obtain⟨h1,h2⟩:=adp (n:=y.1) h;obtain⟨i1,i2⟩:=KR r h1;refine⟨i1,λx=>(i2 x).trans ?_⟩;rw[h2,apN];exact⟨λh=>h.elim (λh=>.inl (.inr h)) λh=>h.elim (λh=>.inl (.inl h)) .inr,λh=>h.elim (λh=>h.elim (λh=>.inr (.inl h)) .inl) λh=>.inr (.inr h)⟩
theorem agK:∀{a b:List (Int×Unit)},Rl a->Rl b->(∀x,x∈a↔x∈b)->a=b
 |[],[],_,_,_=>rfl
 |[],y::r,_,_,h=>by grind [List.mem_cons_self]
 |x::r,[],_,_,h=>by grind [List.mem_cons_self]
 |x::r,y::s,ha,hb,h=>by
  obtain⟨a1,a2⟩:=ap6.1 ha;obtain⟨b1,b2⟩:=ap6.1 hb;have e:x=y:=by
   rcases apN.1 ((h x).1 apB)with e|e
   .exact e
   .rcases apN.1 ((h y).2 apB)with e'|e'
    .exact e'.symm
    .have u:=b1 x e;have v:=a1 y e';omega
  subst e;have:r=s:=agK a2 b2 λz=>by
   constructor
   .intro hz;rcases apN.1 ((h z).1 (apx _ hz))with e|e
    .have:=a1 z hz;rw[e]at this;omega
    .exact e
   .intro hz;rcases apN.1 ((h z).2 (apx _ hz))with e|e
    .have:=b1 z hz;rw[e]at this;omega
    .exact e
  rw[this]
theorem O6{a x y:List (Int×Unit)}:Rl (lM a x y)/\∀z,z∈lM a x y↔z∈x\/(z∈a/\dh y z.1=false):=by
 obtain⟨h1,h2⟩:=KR (a.filter λz=>!dh y z.1) (l:=[]) List.Pairwise.nil;obtain⟨g1,g2⟩:=KR x h1;refine⟨g1,λz=>(g2 z).trans ?_⟩
 grind
end Sp
namespace Sp
open Go
def belowD(name:Bytes)(x:aB):Bool:=Op.bytesLess x.1 name
def ajg(name:Bytes)(x:aB):Bool:=!(x.1==name)
def ajh(d:List aB)(x:aB):List aB:=d.takeWhile (belowD x.1)++x::(d.dropWhile (belowD x.1)).filter (ajg x.1)
def afI(d:List aB)(x:aB):List aB×Bool:=bif dM d&&dM (ajh d x)then(ajh d x,true)else(d,false)
def became(c:jI)(s:cu)(d:List aB)(ok0:Bool)(c':jI)(df:List Oj)(ok:Bool):Prop:=
 ok=ok0/\(ok=true->jK c'=s/\mP c'=d/\G7 c'=true/\df=akJ (afF c) (afF c'))/\(ok=false->c'=c/\df=[])
def named(f:aA)(w:Bytes):aA:=(f.1,f.2.1,f.2.2.1,f.2.2.2.1,agU f.2.2.2.2.1 [110] 2 0 w,())
def X6(c:jI)(u id:Int):Bool:=(OJ (jK c) id).2&&ajP (OJ (jK c) id).1 u
end Sp
namespace Sp
open Go
def al1(b:UInt8):Bool:=decide (32<=b.toNat)&&decide (b.toNat<=126)
def wordsOf(s:Bytes):LS:=(Lib.fields s).map (·,())
def ag0(s:Bytes):Bool:=decide ((s.length:Int)<=600)&&s.all al1&&decide (((Lib.fields s).length:Int)<=24)
def al2(s:Bytes):LS:=bif ag0 s then wordsOf s else[]
def afJ(s:Bytes):Int:=s.foldl (λn b=>10*n+((b.toNat:Int)-48)) 0
def ag1(s:Bytes):Bool:=xk (afJ s)&&(Lib.itoa (afJ s)==s)
def parseNum(s:Bytes):Int:=bif ag1 s then afJ s else 0
def wordAt(w:LS)(i:Int):Bytes:=bif decide (i>=(w.length:Int))then[]else(w.getD i.toNat ([],())).1
def akK(w:LS):Bytes:=Lib.join (w.map (·.1)) [32]
def numAt(w:LS)(i:Int):Int:=parseNum (wordAt w i)
end Sp
namespace Sp
open Go
theorem aaH{n:Int}:xk n=true↔0<=n/\n<=1000000000:=by
 grind [xk]
end Sp
namespace Sp
open Go
end Sp
namespace Sp
open Go
end Sp
namespace Sp
open Go
end Sp
namespace Sp
open Go
inductive QT where
 |leaf (n:aU)
 |neg (t:QT)
 |two (op:Int) (a b:QT)
def kwQ(op:Int):Bytes:=
 bif op==1 then[97,108,108]else bif op==2 then[104,97,115]else bif op==3 then[101,113]else bif op==4 then[108,116]else
 bif op==5 then[110,111,116]else bif op==6 then[97,110,100]else bif op==7 then[111,114]else bif op==8 then[105,110]else
 bif op==9 then[108,105,110,107,101,100]else[63]
def mJ(w:Bytes):Int:=
 bif w==[97,108,108]then 1 else bif w==[104,97,115]then 2 else bif w==[101,113]then 3 else bif w==[108,116]then 4 else
 bif w==[110,111,116]then 5 else bif w==[97,110,100]then 6 else bif w==[111,114]then 7 else bif w==[105,110]then 8 else
 bif w==[108,105,110,107,101,100]then 9 else 0
def Ti(s:Bytes):RV×Bool:=
 bif ag1 s then(bif decide (parseNum s<=999)then((1,parseNum s,[],()),true)else((0,0,[],()),false))
 else bif s==[45]then((0,0,[],()),true)else bif dU s then((2,0,s,()),true)else((0,0,[],()),false)
def ag2(v:RV):Bytes:=
 bif !gq v.1 v.2.1 v.2.2.1 then[63]else bif v.1==1 then Lib.itoa v.2.1 else bif v.1==2 then v.2.2.1 else[45]
def QT.size:QT->Nat
 |.leaf _=>1
 |.neg t=>t.size+1
 |.two _ a b=>a.size+b.size+1
def post:QT->Nat->List aU
 |.leaf n,_=>[n]
 |.neg t,b=>post t b++[(5,((b+t.size:Nat):Int)-1,0,[],0,0,[],())]
 |.two op x y,b=>post x b++(post y (b+x.size)++[(op,((b+x.size:Nat):Int)-1,((b+x.size+y.size:Nat):Int)-1,[],0,0,[],())])
def al4(n:aU):List Bytes:=
 kwQ n.1::(bif n.1==2||(n.1==8||n.1==9)then[n.2.2.2.1]else bif n.1==3||n.1==4 then[n.2.2.2.1,ag2 n.2.2.2.2]else[])
def ls(w:List Bytes):LS:=w.map (·,())
def rd:Nat->LS->List aU->Bool×LS×List aU
 |0,w,q=>(false,w,q)
 |k+1,w,q=>
  bif mJ (wordAt w 0)==2||(mJ (wordAt w 0)==8||mJ (wordAt w 0)==9)then(true,(w.drop 1).drop 1,q++[(mJ (wordAt w 0),0,0,wordAt (w.drop 1) 0,0,0,[],())])
  else bif mJ (wordAt w 0)==3||mJ (wordAt w 0)==4 then
   ((Ti (wordAt ((w.drop 1).drop 1) 0)).2,((w.drop 1).drop 1).drop 1,q++[(mJ (wordAt w 0),0,0,wordAt (w.drop 1) 0,(Ti (wordAt ((w.drop 1).drop 1) 0)).1)])
  else bif mJ (wordAt w 0)==5 then
   ((rd k (w.drop 1) q).1,(rd k (w.drop 1) q).2.1,(rd k (w.drop 1) q).2.2++[(5,((rd k (w.drop 1) q).2.2.length:Int)-1,0,[],0,0,[],())])
  else bif mJ (wordAt w 0)==6||mJ (wordAt w 0)==7 then
   (bif (rd k (w.drop 1) q).1 then
     ((rd k (rd k (w.drop 1) q).2.1 (rd k (w.drop 1) q).2.2).1,(rd k (rd k (w.drop 1) q).2.1 (rd k (w.drop 1) q).2.2).2.1,
       (rd k (rd k (w.drop 1) q).2.1 (rd k (w.drop 1) q).2.2).2.2++[(mJ (wordAt w 0),((rd k (w.drop 1) q).2.2.length:Int)-1,((rd k (rd k (w.drop 1) q).2.1 (rd k (w.drop 1) q).2.2).2.2.length:Int)-1,[],0,0,[],())])
   else(false,(rd k (w.drop 1) q).2.1,(rd k (w.drop 1) q).2.2++[(mJ (wordAt w 0),((rd k (w.drop 1) q).2.2.length:Int)-1,((rd k (w.drop 1) q).2.2.length:Int)-1,[],0,0,[],())]))
  else(!(mJ (wordAt w 0)==0),w.drop 1,q++[(mJ (wordAt w 0),0,0,[],0,0,[],())])
end Sp
namespace Sp
open Go
end Sp
namespace Sp
open Go
def rs:Nat->LS->List aU->List aU×Int
 |0,_,q=>(q,0)
 |d+1,w,q=>
  bif mJ (wordAt w 0)==0||decide ((q.length:Int)>9)then(q,0)
  else bif mJ (wordAt w 0)==2||(mJ (wordAt w 0)==8||mJ (wordAt w 0)==9)then(q++[(mJ (wordAt w 0),0,0,wordAt w 1,0,0,[],())],2)
  else bif mJ (wordAt w 0)==3||mJ (wordAt w 0)==4 then(q++[(mJ (wordAt w 0),0,0,wordAt w 1,(Ti (wordAt w 2)).1)],3)
  else bif mJ (wordAt w 0)==5||(mJ (wordAt w 0)==6||mJ (wordAt w 0)==7)then
   (bif (rs d (w.drop 1) q).2==0 then((rs d (w.drop 1) q).1,0)
   else bif mJ (wordAt w 0)==5 then((rs d (w.drop 1) q).1++[(5,((rs d (w.drop 1) q).1.length:Int)-1,0,[],0,0,[],())],1+(rs d (w.drop 1) q).2)
   else bif (rs d (w.drop (1+(rs d (w.drop 1) q).2).toNat) (rs d (w.drop 1) q).1).2==0 then((rs d (w.drop (1+(rs d (w.drop 1) q).2).toNat) (rs d (w.drop 1) q).1).1,0)
   else((rs d (w.drop (1+(rs d (w.drop 1) q).2).toNat) (rs d (w.drop 1) q).1).1++[(mJ (wordAt w 0),((rs d (w.drop 1) q).1.length:Int)-1,((rs d (w.drop (1+(rs d (w.drop 1) q).2).toNat) (rs d (w.drop 1) q).1).1.length:Int)-1,[],0,0,[],())],
    1+(rs d (w.drop 1) q).2+(rs d (w.drop (1+(rs d (w.drop 1) q).2).toNat) (rs d (w.drop 1) q).1).2))
  else(q++[(mJ (wordAt w 0),0,0,[],0,0,[],())],1)
end Sp
namespace Sp
open Go
end Sp
namespace Sp
open Go
def aaI:Nat->List aU->Int->List Bytes
 |0,_,_=>[]
 |k+1,q,i=>
  bif (nodeAt q i.toNat).1==5 then kwQ (nodeAt q i.toNat).1::aaI k q (nodeAt q i.toNat).2.1
  else bif (nodeAt q i.toNat).1==6||(nodeAt q i.toNat).1==7 then kwQ (nodeAt q i.toNat).1::(aaI k q (nodeAt q i.toNat).2.1++aaI k q (nodeAt q i.toNat).2.2.1)
  else al4 (nodeAt q i.toNat)
def textOf(q:List aU):Bytes:=bif aS q then Lib.join (aaI 9 q ((q.length:Int)-1)) [32]else[]
def ad8(w:LS):Bool×LS×List aU:=rd (w.length+1) w []
def alg(s:Bytes):Bool:=ag0 s&&((ad8 (wordsOf s)).1&&(!decide (((ad8 (wordsOf s)).2.1.length:Int)>0)&&aS (ad8 (wordsOf s)).2.2))
def aji(s:Bytes):List aU:=bif alg s then(ad8 (wordsOf s)).2.2 else[]
end Sp
namespace Sp
open Go
def ajY:Bytes:=[99,114,101,97,116,101]
def ajZ:Bytes:=[117,112,100,97,116,101]
def aj0:Bytes:=[100,101,108,101,116,101]
def aj1:Bytes:=[100,101,102,105,110,101]
def ah5:Bytes:=[117,110,100,101,102,105,110,101]
end Sp
namespace Sp
open Go
end Sp
namespace Sp
open Go
theorem agS{l:List aB}{i:Nat}(hi:i<l.length):bJ l i∈l:=by
 grind [bJ]
theorem alh{l:List aB}{y:aB}(hy:y∈l):∃i,i<l.length/\bJ l i=y:=by obtain⟨i,hi,e⟩:=ap3 hy;exact⟨i,hi,by grind [bJ]⟩
theorem aaJ{d:List aB}:dM d=true↔(∀x∈d,dU x.1=true/\aS x.2.1=true)/\(d.Pairwise λx y=>Op.bytesLess x.1 y.1=true)/\d.length<=5:=by
 have one:∀i,iE d i=true↔(dU (bJ d i).1=true/\aS (bJ d i).2.1=true)/\(0<i->Op.bytesLess (bJ d (i-1)).1 (bJ d i).1=true):=λi=>by
  grind [iE]
 unfold dM;rw[apt,show(eX d.length (iE d)=true)↔∀i,i<d.length->iE d i=true from by
  grind [eX],apF]
 constructor
 .rintro⟨h,hl⟩;refine⟨λx hx=>?_,?_,by omega⟩
  · grind [alh]
  .exact X5 (R:=λx y:aB=>Op.bytesLess x.1 y.1=true) (λa b c h1 h2=>Aq _ _ _ h1 h2) ([],[],()) d λi hi=>((one (i+1)).1 (h (i+1) hi)).2 (by omega)
 grind [bJ,List.pairwise_iff_getElem]
def ali(d:List aB)(name:Bytes):List aB:=d.filter (ajg name)
def removeDir(d:List aB)(name:Bytes):List aB×Bool:=bif dM d&&decide (0<=aC d name)then(ali d name,true)else(d,false)
def zn(u:Int):Bool:=decide (0<=u)&&decide (u<=2)
def oV(x:ja):aA:=(x.2.1,x.2.2.1,x.2.2.2.1,x.2.2.2.2.1,x.2.2.2.2.2.1,())
def OT(x:ja):Int:=x.2.2.2.2.2.2.1
def wJ(x:ja):aB:=(x.2.2.2.2.2.2.2.1,x.2.2.2.2.2.2.2.2.1,())
def agP(c:jI)(x:ja):cu:=
 bif x.1==1 then(wB (jK c) (oV x)).1 else bif x.1==2 then(KP (jK c) (oV x)).1 else bif x.1==3 then(aaD (jK c) (OT x)).1 else jK c
def ai4(c:jI)(x:ja):List aB:=bif x.1==4 then(afI (mP c) (wJ x)).1 else bif x.1==5 then(removeDir (mP c) (wJ x).1).1 else mP c
noncomputable def akI (c:jI) (u:Int) (x:ja):Bool:=
 bif x.1==1 then decide ((oV x).2.1=u)&&(wB (jK c) (oV x)).2.2 else
 bif x.1==2 then(X6 c u (oV x).1&&decide ((oV x).2.1=u))&&(KP (jK c) (oV x)).2 else
 bif x.1==3 then X6 c u (OT x)&&(aaD (jK c) (OT x)).2 else
 bif x.1==4 then(afI (mP c) (wJ x)).2&&aI (afI (mP c) (wJ x)).1 else
 bif x.1==5 then(removeDir (mP c) (wJ x).1).2 else false
noncomputable def alT (c:jI) (u:Int) (x:ja):Bool:=(zn u&&G7 c)&&akI c u x
def applied(c:jI)(u:Int)(x:ja)(c':jI)(df:List Oj)(ok:Bool):Prop:=became c (agP c x) (ai4 c x) (alT c u x) c' df ok
def aj2(f:aA):Int:=1+f.2.2.2.2.1.length
def Tj(fs:List aA)(u:Int):Int:=((fs.filter λf=>decide (f.2.1=u)).map aj2).sum
def acr(q:List (Int×Unit))(u:Int):Int:=bif decide (0<=u)&&decide (u<=(q.length:Int)-1)then(q.getD u.toNat (0,())).1 else 0
def ag3(fs:List aA)(q:List (Int×Unit)):Bool:=decide (Tj fs 0<=acr q 0)&&(decide (Tj fs 1<=acr q 1)&&decide (Tj fs 2<=acr q 2))
def afK(u:Int):jI->List ja->jI->Prop
 |c,[],c'=>c'=c
 |c,x::r,c'=>∃c1 df,applied c u x c1 df true/\afK u c1 r c'
def aaK(c:jI)(u:Int)(l:List ja)(q:List (Int×Unit))(c':jI)(df:List Oj)(ok:Bool):Prop:=
 (ok=true↔G7 c=true/\l.length<=6/\∃c2,afK u c l c2/\ag3 c2.2.1 q=true)/\(ok=true->afK u c l c'/\df=akJ (afF c) (afF c'))/\(ok=false->c'=c/\df=[])
end Sp
namespace Sp
open Go
def aaL(a:dN):Bool:=fA a.1&&(gq a.2.1 a.2.2.1 a.2.2.2.1&&!(a.2.1==0))
def Tm(f:aA):Bool:=f.2.2.2.2.1.all aaL&&(xk f.1&&(xk f.2.1&&xk f.2.2.2.1))
def aaM:List dN->List Bytes
 |[]=>[]
 |a::r=>a.1::ag2 a.2::aaM r
def ah6(f:aA):List Bytes:=Lib.itoa f.2.1::(bif f.2.2.1 then[115]else[111])::Lib.itoa f.2.2.2.1::aaM f.2.2.2.2.1
def noF:aA:=(0,0,false,0,[],())
def ajj(q:List aU):Bool:=aS q&&decide (aji (textOf q)=q)
def ah7(x:ja):Bool:=(wJ x).1==[]&&(wJ x).2.1.isEmpty
def aj3(x:ja):List Bytes:=
 bif x.1==1&&(Tm (oV x)&&((oV x).1==0&&(OT x==0&&ah7 x)))then ajY::ah6 (oV x)
 else bif x.1==2&&(Tm (oV x)&&(OT x==0&&ah7 x))then ajZ::Lib.itoa (oV x).1::ah6 (oV x)
 else bif x.1==3&&(decide (oV x=noF)&&(xk (OT x)&&ah7 x))then[aj0,Lib.itoa (OT x)]
 else bif x.1==4&&(decide (oV x=noF)&&(OT x==0&&(dU (wJ x).1&&ajj (wJ x).2.1)))then aj1::(wJ x).1::aaI 9 (wJ x).2.1 (((wJ x).2.1.length:Int)-1)
 else bif x.1==5&&(decide (oV x=noF)&&(OT x==0&&(dU (wJ x).1&&(wJ x).2.1.isEmpty)))then[ah5,(wJ x).1]
 else[]
def adq(x:ja):Bytes:=Lib.join (aj3 x) [32]
theorem ah8{a:dN}:aaL a=true↔fA a.1=true/\gq a.2.1 a.2.2.1 a.2.2.2.1=true/\a.2.1≠0:=by
 grind [aaL]
theorem ah9{f:aA}:Tm f=true↔(∀a∈f.2.2.2.2.1,aaL a=true)/\xk f.1=true/\xk f.2.1=true/\xk f.2.2.2.1=true:=by
 grind [Tm]
end Sp
namespace Sp
open Go
def afL:LS->List dN
 |[]=>[]
 |[x]=>[(x.1,(Ti []).1)]
 |x::y::r=>(x.1,(Ti y.1).1)::afL r
def am5(id:Int)(r:LS):aA:=(id,numAt r 0,wordAt r 1==[115],numAt r 2,afL (r.drop 3),())
def passes(x:ja)(w:LS):Prop:=adq x≠[]/\adq x=akK w
end Sp
namespace Sp
open Go
def X7(b:UInt8):Bytes->Bytes->LS
 |cur,[]=>[(cur,())]
 |cur,x::l=>bif x==b then(cur,())::X7 b [] l else X7 b (cur++[x]) l
def pieces(b:UInt8)(s:Bytes):LS:=X7 b [] s
def ajk:Bytes:=[102,105,108,101]
def aj6(f:aA):Bytes:=Lib.join (ajk::Lib.itoa f.1::ah6 f) [32]
end Sp
namespace Sp
open Go
end Sp
namespace Sp
open Go
end Sp
namespace Sp
open Go
end Sp
namespace Sp
open Go
end Sp
namespace Sp
open Go
end Sp
namespace Sp
open Go
end Sp
namespace Sp
open Go
end Sp
namespace Sp
open Go
end Sp
namespace Sp
open Go
end Sp
namespace Sp
open Go
end Sp
namespace Sp
open Go
abbrev Fj:=Bool×List dN×Unit
def IW:Fj:=(false,[],())
def al6(l:List dN)(x:dN):Bool:=l.any λy=>y.1==x.1
def al7(l:List dN)(x:dN):Bool:=l.any λy=>y.1==x.1&&!decide (y.2=x.2)
def ajl(name:Bytes)(y:dN):Bool:=Op.bytesLess y.1 name
def aol(l:List dN)(x:dN):List dN:=l.takeWhile (ajl x.1)++x::l.dropWhile (ajl x.1)
def afM(a:List dN):List dN->List dN->Option (List dN)
 |acc,[]=>some acc
 |acc,x::r=>bif al7 a x then none else bif al6 a x then afM a acc r else afM a (aol acc x) r
def am6:Option (List dN)->Fj
 |some l=>(true,l,())
 |none=>IW
def al8(a b:Fj):Fj:=bif a.1&&b.1 then am6 (afM a.2.1 a.2.1 b.2.1)else IW
def aom(a b:Fj):Fj:=bif a.1==b.1 then IW else bif a.1 then a else b
def MV(q:List aU)(f:aA)(X:BX)(a:Nat)(m:Bool):Fj:=
 if val q f X a=m then(true,[],())
 else if(nodeAt q a).1=5 then(if h:(nodeAt q a).2.1.toNat<a then MV q f X (nodeAt q a).2.1.toNat (!m)else IW)
 else if jX (nodeAt q a)=true then(if h:(nodeAt q a).2.1.toNat<a/\(nodeAt q a).2.2.1.toNat<a then
  (bif ((nodeAt q a).1==6)==m then al8 (MV q f X (nodeAt q a).2.1.toNat m) (MV q f X (nodeAt q a).2.2.1.toNat m)
   else aom (MV q f X (nodeAt q a).2.1.toNat m) (MV q f X (nodeAt q a).2.2.1.toNat m))else IW)
 else if(nodeAt q a).1=3/\m=true then(true,[((nodeAt q a).2.2.2.1,(nodeAt q a).2.2.2.2.1,(nodeAt q a).2.2.2.2.2.1,(nodeAt q a).2.2.2.2.2.2.1,())],())
 else if(nodeAt q a).1=2/\m=false then(true,[((nodeAt q a).2.2.2.1,0,0,[],())],())
 else IW
termination_by a
decreasing_by all_goals omega
end Sp
namespace Sp
open Go
def al9(a l:List dN):List dN:=l.foldl (λa x=>agU a x.1 x.2.1 x.2.2.1 x.2.2.2.1) a
def ajm(l:List dN)(i:Nat):List dN:=l.take i++l.drop (i+1)
def edited(f:aA)(l:List dN):aA:=(f.1,f.2.1,f.2.2.1,f.2.2.2.1,al9 f.2.2.2.2.1 l,())
theorem afN{fs:List bM}{f:aA}(h:dJ fs f=true):nC fs f.2.2.2.2.1=true:=by
 grind [dJ]
end Sp
namespace Sp
open Go
theorem IX{s:cu}:aW s=true↔(∀f∈s.2.1,dJ s.1 f=true/\f.1<s.2.2.1)/\(s.2.1.Pairwise λf g=>f.1<g.1)/\bP s.1=true/\s.2.1.length<=12/\1<=s.2.2.1/\s.2.2.1<=61:=by
 have at_:∀i(hi:i<s.2.1.length),fileAt s.2.1 i=s.2.1[i]:=λi hi=>by grind [fileAt]
 constructor
 .intro h;obtain⟨h1,h2,h3,h4,h5⟩:=Fe.1 h;refine⟨λf hf=>?_,?_,h2,h3,h4,h5⟩
  · grind [ah2,IV]
  .refine aq2.2 λi j hi hj hij=>?_;have:=aja h j i hij hj
   grind
 grind [Fe,IV,List.pairwise_iff_getElem]
theorem adW{fs:List bM}{gs:List aA}{f:aA}(h:dJ fs f=true):dJ fs (unlink gs f)=true:=by
 grind [dJ,unlink]
theorem aaq{s:cu}(u:Int)(h:aW s=true):aW (visible s u)=true:=by
 obtain⟨h1,h2,h3,h4,h5⟩:=IX.1 h;refine IX.2 ⟨λf hf=>?_,?_,h3,?_,h5⟩
 .obtain⟨g,hg,rfl⟩:=aqh.1 hf;obtain⟨g1,_⟩:=aqv.1 hg;exact⟨adW (h1 g g1).1,(h1 g g1).2⟩
 .show List.Pairwise _ ((s.2.1.filter (ig · u)).map (unlink (s.2.1.filter (ig · u))));rw[aqN];exact List.Pairwise.filter _ h2
 .show((s.2.1.filter (ig · u)).map (unlink (s.2.1.filter (ig · u)))).length<=12
  grind
open Classical in
noncomputable def BD (fs:List aA) (d:List aB):List bT:=if h:∃out,jR fs d [] (λ_=>true) out then h.choose else[]
theorem ai5{fs:List aA}{d:List aB}{out:List bT}(hd:dM d=true)(h:jR fs d [] (λ_=>true) out):BD fs d=out:=by
 unfold BD;have hx:∃out,jR fs d [] (λ_=>true) out:=⟨out,h⟩
 grind [afD]
theorem Ot{d:List aB}(h:aI d=true):dM d=true:=by
 grind [aI]
theorem ai6{s:cu}{d:List aB}(h:aW s=true)(hd:aI d=true):jR s.2.1 d [] (λ_=>true) (BD s.2.1 d):=by
 have:∃out,jR s.2.1 d [] (λ_=>true) out:=by obtain⟨au,hl⟩:=YW (Ec (jc d) (iZ.1 hd).2);exact aae [] (λ_=>true) (Ot hd) hl (Am h)
 grind [BD]
noncomputable def alj (s:cu) (d:List aB) (u:Int) (name:Bytes):List (Int×Unit):=dV (BD (visible s u).2.1 d) name
noncomputable def listed (s:cu) (d:List aB) (u:Int) (name:Bytes) (id:Int):Bool:=dh (alj s d u name) id
def agQ(s:cu)(d:List aB)(u:Int):Prop:=aW s=true/\aI d=true/\zn u=true
def ag4(d:List aB)(name:Bytes):aB×Bool:=bif decide (aC d name<0)then(([],[],()),false)else(bJ d (aC d name).toNat,true)
def ama(s:cu)(u id:Int):aA:=(OJ (visible s u) id).1
def am7(q:List aU)(f:aA)(X:BX)(m:Bool):Fj:=bif aS q then MV q f X (q.length-1) m else IW
noncomputable def aia (c:jI) (u:Int) (name:Bytes) (id:Int) (b:Bool):Fj:=
 am7 (ag4 (mP c) name).1.2.1 (ama (jK c) u id) (aT (BD (visible (jK c) u).2.1 (mP c))) b
def afO(c:jI)(id:Int)(l:List dN):cu×Bool:=KP (jK c) (edited (OJ (jK c) id).1 l)
noncomputable def needed (c:jI) (u:Int) (name:Bytes) (id:Int) (b:Bool) (l:List dN) (i:Nat):Bool:=
 (afO c id (ajm l i)).2&&!(listed (afO c id (ajm l i)).1 (mP c) u name id==b)
noncomputable def amb (c:jI) (u:Int) (name:Bytes) (id:Int) (b:Bool) (w:Fj):Bool:=
 w.1&&((afO c id w.2.1).2&&((listed (afO c id w.2.1).1 (mP c) u name id==b)&&eX w.2.1.length (needed c u name id b w.2.1)))
noncomputable def aon (c:jI) (u:Int) (name:Bytes) (id:Int) (b:Bool):Bool:=
 (G7 c&&(X6 c u id&&(ag4 (mP c) name).2))&&amb c u name id b (aia c u name id b)
def written(c:jI)(u:Int)(name:Bytes)(id:Int)(b:Bool)(c':jI)(set:List dN)(ok:Bool):Prop:=
 ok=aon c u name id b/\(ok=true->jK c'=(afO c id (aia c u name id b).2.1).1/\mP c'=mP c/\G7 c'=true/\set=(aia c u name id b).2.1)/\(ok=false->c'=c/\set=[])
end Sp
namespace Sp
open Go
def acs:Bytes:=[102,105,101,108,100]
def ajn:Bytes:=[110,101,120,116]
def akL:Bytes:=[100,105,114]
def akM:Bytes:=[105,110,116]
def aj7:Bytes:=[115,116,114,105,110,103]
def ajo(f:bM):Bytes:=bif !fA f.1 then[]else bif f.2.1==1 then acs++32::(f.1++32::akM)else bif f.2.1==2 then acs++32::(f.1++32::aj7)else[]
def aj8(n:Int):Bytes:=ajn++32::Lib.itoa n
def alk(d:aB):Bytes:=akL++32::(d.1++32::textOf d.2.1)
def amc(x:jh):List Bytes:=x.1.map ajo++(aj8 x.2.2.1::(x.2.1.map aj6++x.2.2.2.1.map alk))
noncomputable def enc (x:jh):LS:=bif Em x then ls (amc x)else[]
def aaN:jh:=([],[],0,[],())
def am8(x:jh)(w:LS):jh:=
 bif wordAt w 0==acs then(x.1++[(wordAt w 1,(bif wordAt w 2==akM then 1 else 2),())],x.2.1,x.2.2.1,x.2.2.2.1,())
 else bif wordAt w 0==ajn then(x.1,x.2.1,numAt w 1,x.2.2.2.1,())
 else bif wordAt w 0==ajk then(x.1,x.2.1++[am5 (numAt w 1) (w.drop 2)],x.2.2.1,x.2.2.2.1,())
 else bif wordAt w 0==akL then(x.1,x.2.1,x.2.2.1,x.2.2.2.1++[(wordAt w 1,(bif decide (2<(w.length:Int))then aji (akK (w.drop 2))else[]),())],())
 else x
def aib:jh->LS->jh
 |x,[]=>x
 |x,l::r=>aib (am8 x (al2 l.1)) r
noncomputable def dec (l:LS):jh×Bool:=bif Em (aib aaN l)&&decide (enc (aib aaN l)=l)then(aib aaN l,true)else(aaN,false)
theorem aic{x:jh}(h:Em x=true):(∀f∈x.1,fA f.1=true/\(f.2.1=1\/f.2.1=2))/\(∀f∈x.2.1,Tm f=true/\f.2.2.2.2.1.length<=5)/\xk x.2.2.1=true/\(∀d∈x.2.2.2.1,dU d.1=true/\aS d.2.1=true)/\x.1.length<=5/\x.2.1.length<=12/\x.2.2.2.1.length<=5:=by
 unfold Em at h;rw[apt]at h;obtain⟨hs,hd⟩:=h;obtain⟨s1,_,s3,s4,s5,s6⟩:=IX.1 hs;have s1:∀f∈x.2.1,dJ x.1 f=true/\f.1<x.2.2.1:=s1;have s3:bP x.1=true:=s3;have s5:1<=x.2.2.1:=s5;have s6:x.2.2.1<=61:=s6;obtain⟨d1,_,d3⟩:=aaJ.1 (iZ.1 hd).1;obtain⟨k1,k2⟩:=Eo.1 s3;have kf:∀f∈x.1,fA f.1=true/\(f.2.1=1\/f.2.1=2):=λf hf=>by
  grind [List.getElem_of_mem,gy,fieldAt]
 refine⟨kf,λf hf=>?_,aaH.2 (by omega),d1,k2,s4,d3⟩;obtain⟨f1,_⟩:=s1 f hf;have fa:=afN f1;have hl:=ajX fa;refine⟨ah9.2 ⟨λa ha=>?_,?_⟩,by omega⟩
 .have hm:=(VH.1 fa).1 a ha;unfold fU at hm;simp only[apt,ars,apF,apR]at hm;have hk:=OQ (fs:=x.1) (s:=a.1) (by omega)
  grind [ah8]
 grind [dJ,aaH]
end Sp
namespace Sp
open Go
def sumOf(s:Bytes):Int:=s.foldl (λn b=>(33*n+(b.toNat:Int)).tmod 65521) 3
def linesT(ws:List Bytes):Bytes:=(ws.map (· ++[10])).flatten
def afP(n:Int)(x:jh):Bytes:=linesT (Lib.itoa n::amc x)
noncomputable def slot (n:Int) (x:jh):Bytes:=bif Em x&&(decide (1<=n)&&decide (n<=1000000000))then afP n x++(Lib.itoa (sumOf (afP n x))++[46])else[]
def inner(l:LS):LS:=(l.take (l.length-1)).drop 1
noncomputable def xH (s:Bytes):Int×jh×Bool:=
 bif decide (2<=(pieces 10 s).length)&&((dec (inner (pieces 10 s))).2&&decide (slot (parseNum ((pieces 10 s).getD 0 ([],())).1) (dec (inner (pieces 10 s))).1=s))then(parseNum ((pieces 10 s).getD 0 ([],())).1,(dec (inner (pieces 10 s))).1,true)else(0,aaN,false)
noncomputable def latest (a b:Bytes):Int×jh×Bool×Bool:=
 bif (xH b).2.2&&(!(xH a).2.2||decide ((xH a).1<(xH b).1))then((xH b).1,(xH b).2.1,true,false)else((xH a).1,(xH a).2.1,(xH a).2.2,(xH a).2.2)
def kept(keep:Int)(n:Nat):Nat:=(max 0 (min keep (n:Int))).toNat
noncomputable def nZ (a b:Bytes) (x:jh):Bytes:=slot ((latest a b).1+1) x
noncomputable def adr (a b:Bytes) (x:jh) (keep:Int):(Bytes×Bytes×Unit)×Bool×Unit:=
 bif nZ a b x==[]then((a,b,()),false,())else
 bif (latest a b).2.2.2 then((a,(nZ a b x).take (kept keep (nZ a b x).length),()),(nZ a b x).take (kept keep (nZ a b x).length)==nZ a b x,())else
 (((nZ a b x).take (kept keep (nZ a b x).length),b,()),(nZ a b x).take (kept keep (nZ a b x).length)==nZ a b x,())
end Sp
namespace Sp
open Go
abbrev kX:=Int×List (Int×Unit)×List (Int×Unit)×Unit
abbrev jL:=Int×Bytes×List (Int×Unit)×List kX×Unit
abbrev gZ:=List bM×List aA×Int×List aB×List bT×Bytes×Bytes×Int×List lZ×List jL×List (Int×Unit)×Unit
def xR(x:gZ):jI:=(x.1,x.2.1,x.2.2.1,x.2.2.2.1,x.2.2.2.2.1,())
def Y5(x:gZ):jh:=(x.1,x.2.1,x.2.2.1,x.2.2.2.1,())
def TW(c:jI):jh:=(c.1,c.2.1,c.2.2.1,c.2.2.2.1,())
def oI(x:gZ):Bytes:=x.2.2.2.2.2.1
def oJ(x:gZ):Bytes:=x.2.2.2.2.2.2.1
def Gf(x:gZ):Int:=x.2.2.2.2.2.2.2.1
def rY(x:gZ):List lZ:=x.2.2.2.2.2.2.2.2.1
def sS(x:gZ):List jL:=x.2.2.2.2.2.2.2.2.2.1
def KA(x:gZ):List (Int×Unit):=x.2.2.2.2.2.2.2.2.2.2.1
def mkS(c:jI)(a b:Bytes)(n:Int)(vs:List lZ)(ws:List jL)(q:List (Int×Unit)):gZ:=
 (c.1,c.2.1,c.2.2.1,c.2.2.2.1,c.2.2.2.2.1,a,b,n,vs,ws,q,())
def Y3(l:List (Int×Unit))(e:kX):List (Int×Unit):=lM l e.2.1 e.2.2.1
def replay(l:List (Int×Unit))(es:List kX):List (Int×Unit):=es.foldl Y3 l
def iL(es:List kX):Nat:=(es.map λe=>e.2.1.length).sum
def MZ(l:List (Int×Unit))(es:List kX):Prop:=l.length+iL es<=4000000
def aaU(e:kX):Prop:=e.2.1.length<=4000000/\e.2.2.1.length<=4000000
def listing(w:jL):List (Int×Unit):=replay w.2.2.1 w.2.2.2.1
def EF(w:jL):Prop:=MZ w.2.2.1 w.2.2.2.1/\w.2.2.2.1.length<=4000000/\∀e∈w.2.2.2.1,aaU e
noncomputable def iK (s:cu) (d:List aB) (u:Int):List bT×Bool:=bif aW s&&(aI d&&zn u)then(BD (visible s u).2.1 d,true)else([],false)
noncomputable def zF (s:cu) (d:List aB) (u:Int) (name:Bytes):List (Int×Unit):=dV (iK s d u).1 name
def told(w:jL)(n:Int)(l:List (Int×Unit)):jL:=
 bif decide (0<(without l (listing w)).length+(without (listing w) l).length)then(w.1,w.2.1,w.2.2.1,w.2.2.2.1++[(n,without l (listing w),without (listing w) l,())],())else w
def rise(l:List (Int×Unit)):Bool:=eX (l.length-1) λi=>decide ((l.getD i (0,())).1<(l.getD (i+1) (0,())).1)
def Ee(es:List kX)(i:Nat):kX:=es.getD i (0,[],[],())
def amd(l:List (Int×Unit))(es:List kX)(i:Nat):Bool:=
 !decide ((Ee es i).2.1.length+(Ee es i).2.2.1.length=0)&&(rise (Ee es i).2.1&&(rise (Ee es i).2.2.1&&(!(decide (0<i)&&decide ((Ee es (i-1)).1>=(Ee es i).1))&&
   (((Ee es i).2.1.all λx=>!dh (replay l (es.take i)) x.1)&&(Ee es i).2.2.1.all λx=>dh (replay l (es.take i)) x.1))))
def alm(w:jL):Bool:=(zn w.1&&rise w.2.2.1)&&eX w.2.2.2.1.length (amd w.2.2.1 w.2.2.2.1)
def akN(w:jL):Int:=bif decide (w.2.2.2.1.length=0)then 0 else(Ee w.2.2.2.1 (w.2.2.2.1.length-1)).1
noncomputable def Mc (a b:jh):Bool:=decide (enc a=enc b)
def agL(q:List (Int×Unit)):Bool:=decide (q.length=3)&&q.all λx=>decide (0<=x.1)&&decide (x.1<=999)
noncomputable def ajp (s:cu) (d:List aB) (n:Int) (w:jL):Bool:=decide (akN w<=n)&&(alm w&&decide (listing w=zF s d w.1 w.2.1))
noncomputable def aid (x:gZ):Bool:=
 G7 (xR x)&&((latest (oI x) (oJ x)).2.2.1&&(decide ((latest (oI x) (oJ x)).1=Gf x)&&(Mc (latest (oI x) (oJ x)).2.1 (Y5 x)&&
  (Y6 (rY x)&&(decide (rY x≠[])&&(decide ((sS x).length<=4)&&(agL (KA x)&&
    ((decide ((Aw (rY x) ((rY x).length-1)).1=Gf x)&&Mc (agV (Aw (rY x) ((rY x).length-1))) (Y5 x))&&
      (sS x).all (ajp (jK (xR x)) (mP (xR x)) (Gf x))))))))))
noncomputable def IA (s:cu) (d:List aB) (w:jL):Bool:=decide (listing w=zF s d w.1 w.2.1)
noncomputable def streams (x:gZ):Bool:=(sS x).all (IA (jK (xR x)) (mP (xR x)))
def abu:jL:=(0,[],[],[],())
def ahR(ws:List jL)(i:Nat):jL:=ws.getD i (0,[],[],[],())
def jC(x:gZ)(i:Int):jL×Bool:=bif decide (0<=i)&&decide (i<=((sS x).length:Int)-1)then(ahR (sS x) i.toNat,true)else(abu,false)
noncomputable def sK (x:gZ) (i:Int):Bool:=(jC x i).2&&IA (jK (xR x)) (mP (xR x)) (jC x i).1
def akO(n:Int)(s:jh):lZ:=(n,s.1,s.2.1,s.2.2.1,s.2.2.2.1,0,())
noncomputable def toldAll (s:cu) (d:List aB) (n:Int) (ws:List jL):List jL:=ws.map λw=>told w n (zF s d w.1 w.2.1)
noncomputable def akP (vs:List lZ):List lZ:=bif decide (6<=vs.length)then collect vs else vs
noncomputable def afQ (a b:Bytes) (s:jh):Bytes×Bytes×Unit:=(adr a b s 1000000).1
noncomputable def commit (x:gZ) (c:jI):gZ×Bool:=
 bif !(aid x&&G7 c)then(x,false)else
 bif Mc (TW c) (Y5 x)then(x,true)else
 bif decide (1000000000<=Gf x)||decide (6<=(akP (rY x)).length)then(x,false)else
 (mkS c (afQ (oI x) (oJ x) (TW c)).1 (afQ (oI x) (oJ x) (TW c)).2.1 (Gf x+1) (akP (rY x)++[akO (Gf x+1) (TW c)]) (toldAll (jK c) (mP c) (Gf x+1) (sS x)) (KA x),true)
noncomputable def am9 (s:jh):jI:=(s.1,s.2.1,s.2.2.1,s.2.2.2.1,BD s.2.1 s.2.2.2.1,())
noncomputable def aj9 (s:cu) (d:List aB) (n:Int) (w:jL):jL:=bif decide (akN w<n)then told w n (zF s d w.1 w.2.1)else w
noncomputable def recover (x:gZ):gZ×Bool:=
 bif (latest (oI x) (oJ x)).2.2.1 then
  (mkS (am9 (latest (oI x) (oJ x)).2.1) (oI x) (oJ x) (latest (oI x) (oJ x)).1 [akO (latest (oI x) (oJ x)).1 (latest (oI x) (oJ x)).2.1]
    ((sS x).map (aj9 (SN (latest (oI x) (oJ x)).2.1) (latest (oI x) (oJ x)).2.1.2.2.2.1 (latest (oI x) (oJ x)).1)) (KA x),true)
 else(x,false)
def akb(x:gZ)(d:Bytes×Bytes×Unit):gZ:=mkS (xR x) d.1 d.2.1 (Gf x) (rY x) (sS x) (KA x)
def X8(x:gZ)(v:List lZ):gZ:=mkS (xR x) (oI x) (oJ x) (Gf x) v (sS x) (KA x)
def akc(x:gZ)(w:List jL):gZ:=mkS (xR x) (oI x) (oJ x) (Gf x) (rY x) w (KA x)
def ana(x:gZ)(u:Int)(ops:List ja)(y:gZ)(ok:Bool):Prop:=
 ∃c df o,aaK (xR x) u ops (KA x) c df o/\(y,ok)=bif o then commit x c else(x,false)
def crashed(x:gZ)(u:Int)(ops:List ja)(keep:Int)(y:gZ)(ok:Bool):Prop:=
 bif aid x then∃c df o,aaK (xR x) u ops (KA x) c df o/\(y,ok)=recover (bif o&&!Mc (TW c) (Y5 x)then akb x (adr (oI x) (oJ x) (TW c) keep).1 else x)else y=x/\ok=false
def akd(x:gZ)(u:Int)(name:Bytes)(id:Int)(b:Bool)(y:gZ)(ok:Bool):Prop:=
 ∃c set o,written (xR x) u name id b c set o/\(y,ok)=bif o&&ag3 c.2.1 (KA x)then commit x c else(x,false)
abbrev ake:=Int×Int×List ja×Bytes×Int×Unit
def anb(a:ake):Bool:=(decide (1<=a.1)&&decide (a.1<=8))&&decide (a.2.2.1.length<=6)
noncomputable def watched (x:gZ) (u:Int) (name:Bytes):gZ×Bool:=
 bif decide (4<=(sS x).length)||!zn u then(x,false)else(akc x (sS x++[(u,name,zF (jK (xR x)) (mP (xR x)) u name,[],())]),true)
def anc(x:gZ)(a:ake)(y:gZ)(ok:Bool):Prop:=
 bif !(anb a&&aid x)then y=x/\ok=false else
 bif a.1==1 then ana x a.2.1 a.2.2.1 y ok else
 bif a.1==2 then crashed x a.2.1 a.2.2.1 a.2.2.2.2.1 y ok else
 bif a.1==3 then(y,ok)=watched x a.2.1 a.2.2.2.1 else
 bif a.1==4 then y=X8 x (aaF (rY x) a.2.2.2.2.1 1).1/\ok=(aaF (rY x) a.2.2.2.2.1 1).2 else
 bif a.1==5 then y=X8 x (aaF (rY x) a.2.2.2.2.1 (-1)).1/\ok=(aaF (rY x) a.2.2.2.2.1 (-1)).2 else
 bif a.1==6 then y=X8 x (collect (rY x))/\ok=true else
 akd x a.2.1 a.2.2.2.1 a.2.2.2.2.1 (a.1==7) y ok
def runs:gZ->List ake->gZ->List (Bool×Unit)->List (Int×Unit)->Prop
 |x,[],y,t,l=>y=x/\t=[]/\l=[]
 |x,a::r,y,t,l=>∃x1 ok t' l',anc x a x1 ok/\runs x1 r y t' l'/\t=(ok,())::t'/\l=(Gf x1,())::l'
end Sp
namespace Sp
open Go
end Sp
namespace Sp
open Go
theorem akf{x:jh}(h:Em x=true):alV x:=by obtain⟨p1,p2,p3,p4,p5,p6,p7⟩:=aic h;refine⟨⟨apv p5 (by decide),apv p6 (by decide),λf hf=>apv (p2 f hf).2 (by decide)⟩,apv p7 (by decide),λd hd=>apv (xG (p4 d hd).2).2 (by decide)⟩
end Sp
namespace Sp
open Go
def Qg:bM->Nat|(n,_,_)=>n.length
def xq(a:List bM):Nat:=jg Qg a
def Hz(a:List aA):Nat:=jg Tv a
def wO:cu->Nat|(a,l,_,_)=>xq a+Hz l
def qL(a:List aB):Nat:=jg J3 a
def aaV:bT->Nat|(n,l,_)=>n.length+l.length
def Gv(a:List bT):Nat:=jg aaV a
def Qh:jI->Nat|(a,l,n,d,r,_)=>wO (a,l,n,())+(qL d+Gv r)
def Jj:jh->Nat|(a,l,n,d,_)=>wO (a,l,n,())+qL d
def aaW:lZ->Nat|(_,a,l,n,d,_,_)=>Jj (a,l,n,d,())
def yx(a:List lZ):Nat:=jg aaW a
def U2:kX->Nat|(_,a,b,_)=>a.length+b.length
def yS(a:List kX):Nat:=jg U2 a
def H6:jL->Nat|(_,n,l,e,_)=>n.length+(l.length+yS e)
def BN(a:List jL):Nat:=jg H6 a
def Na:gZ->Nat|(a,l,n,d,r,da,db,_,v,w,q,_)=>Qh (a,l,n,d,r,())+((da.length+db.length)+(yx v+(BN w+q.length)))
def iq(d:List aB):Prop:=d.length<=2000000/\∀x∈d,x.2.1.length<=2000000
def hugeS(x:gZ):Prop:=iq x.2.2.2.1/\x.2.2.2.2.2.2.2.2.2.1.length<=2000000/\∀w∈x.2.2.2.2.2.2.2.2.2.1,EF w
theorem zk{d:List aB}(h:dM d=true):qf d:=by obtain⟨h1,_,h3⟩:=aaJ.1 h;exact⟨apv h3 (by decide),λx hx=>apv (xG (h1 x hx).2).2 (by decide)⟩
theorem adf{d:List aB}(h:qf d):iq d:=⟨apv h.1 (by decide),λx hx=>apv (h.2 x hx) (by decide)⟩
theorem Gi{s:cu}(h:aW s=true):iy s:=by
 have hp:Em (s.1,s.2.1,s.2.2.1,[],())=true:=by unfold Em;rw[apt];refine⟨h,?_⟩;rw[iZ];exact⟨rfl,λ_=>0,λe he=>by cases he⟩
 exact(akf hp).1
end Sp
namespace Go.Fw
open Go
theorem ae9{α:Type}{l:List α}{lo:Nat}{news:List α}(h:lo+news.length<=l.length):(eu l lo news).length=l.length:=by
 grind [eu]
theorem ac2{α:Type}{l:List α}{lo k:Nat}{news:List α}(hk:k<=lo)(h:lo<=l.length):(eu l lo news).take k=l.take k:=by
 grind [eu]
theorem eqL{α β:Type}(e:α->α->Bool)(he:∀x y,e x y=false↔x=y)(d:α)(a b:List α)[Decidable (a=b)](t:β)(hlen:a.length<=maxLen){K:Bool×Unit->Prop}(hK:K (decide (a=b),())):
 bif ((a.length:Int)) !=(b.length:Int)then K (false,())else
 ∃(I:(Int×Unit)×Unit->Prop),∃(μ:(Int×Unit)×Unit->Nat),I (((0:Int),()),())/\∀(y:(Int×Unit)×Unit),I y->
  bif decide (y.fst.fst<(a.length:Int))then
   ((0:Int)<=y.fst.fst/\y.fst.fst<(a.length:Int))/\((0:Int)<=y.fst.fst/\y.fst.fst<(b.length:Int))/\
     (bif e (a.getD (Int.toNat y.fst.fst) d) (b.getD (Int.toNat y.fst.fst) d)then K (false,())
     else t=t/\I ((IntKind.i64.wrap (y.fst.fst+(1:Int)),()),())/\μ ((IntKind.i64.wrap (y.fst.fst+(1:Int)),()),())<μ y)
  else K (true,()):=by
 refine af (λh=>?_) λh=>?_
 .have h:(a.length:Int)≠b.length:=by simpa using h
  rw[apK λe=>h (by rw[e])]at hK;exact hK
 .have h:(a.length:Int)=b.length:=by simpa using h
  exact agR e he d a b t hlen (by omega) (λe=>by grind) λe=>by grind
theorem ai2{α β:Type}(p:α->Bool)(d:α)(a:List α)(t:β)(hlen:a.length<=maxLen){K:Int×Unit->Prop}(hK:K (Sp.findAt p a,())):
 ∃(I:(Int×Unit)×Unit->Prop),∃(μ:(Int×Unit)×Unit->Nat),I (((0:Int),()),())/\∀(y:(Int×Unit)×Unit),I y->
  bif decide (y.fst.fst<(a.length:Int))then
   ((0:Int)<=y.fst.fst/\y.fst.fst<(a.length:Int))/\True/\
     (bif p (a.getD (Int.toNat y.fst.fst) d)then K (y.fst.fst,())
     else t=t/\I ((IntKind.i64.wrap (y.fst.fst+(1:Int)),()),())/\μ ((IntKind.i64.wrap (y.fst.fst+(1:Int)),()),())<μ y)
  else K ((-1:Int),()):=by
 refine dP a.length hlen (λn=>∀i,i<n->p (a.getD i d)=false) (λi hi=>by omega) (λI μ n hn hJ next=>?_) λI μ hJ=>?_
 · grind [Sp.adl]
 .dsimp only;refine bY (by omega) ?_;rw[Sp.VE hJ]at hK;exact hK
theorem aiZ{α β:Type}(p:α->Bool)(d:α)(a:List α)(t:β)(hlen:a.length<=maxLen){K:Int×Unit->Prop}(hK:K (Sp.findAt p a,())):
 ∃(I:(Int×Unit)×Unit->Prop),∃(μ:(Int×Unit)×Unit->Nat),I (((0:Int),()),())/\∀(y:(Int×Unit)×Unit),I y->
  bif decide (y.fst.fst<(a.length:Int))then
   ((0:Int)<=y.fst.fst/\y.fst.fst<(a.length:Int))/\
     (bif p (a.getD (Int.toNat y.fst.fst) d)then K (y.fst.fst,())
     else t=t/\I ((IntKind.i64.wrap (y.fst.fst+(1:Int)),()),())/\μ ((IntKind.i64.wrap (y.fst.fst+(1:Int)),()),())<μ y)
  else K ((-1:Int),()):=by
 obtain⟨I,μ,h0,h1⟩:=ai2 p d a t hlen hK;refine⟨I,μ,h0,λy hy=>?_⟩
 grind
theorem ak9{α β:Type}(p:α->Bool)(d:α)(s:List α)(t:β)(hlen:s.length<=4611686018427387903){K:(List α×Unit)×Unit->Prop}(hK:K ((s.filter λx=>!p x,()),())):
 bif Sp.findAt p s==(-1:Int)then K ((s,()),())else
 ∃(I:(Int×Int×Unit)×List α×Unit->Prop),∃(μ:(Int×Int×Unit)×List α×Unit->Nat),
  I ((Sp.findAt p s,IntKind.i64.wrap (Sp.findAt p s+(1:Int)),()),s,())/\∀(y:(Int×Int×Unit)×List α×Unit),I y->
    bif decide (y.fst.snd.fst<(↑(List.length y.snd.fst):Int))then
     ((0:Int)<=y.fst.snd.fst/\y.fst.snd.fst<(↑(List.length y.snd.fst):Int))/\Int.toNat y.fst.snd.fst<List.length y.snd.fst/\True/\
       (bif !p (List.getD y.snd.fst (Int.toNat y.fst.snd.fst) d)then
         ((0:Int)<=y.fst.fst/\y.fst.fst<(↑(List.length y.snd.fst):Int))/\Int.toNat y.fst.fst<List.length y.snd.fst/\t=t/\
           I ((IntKind.i64.wrap (y.fst.fst+(1:Int)),IntKind.i64.wrap (y.fst.snd.fst+(1:Int)),()),List.set y.snd.fst (Int.toNat y.fst.fst) (List.getD y.snd.fst (Int.toNat y.fst.snd.fst) d),())/\
           μ ((IntKind.i64.wrap (y.fst.fst+(1:Int)),IntKind.i64.wrap (y.fst.snd.fst+(1:Int)),()),List.set y.snd.fst (Int.toNat y.fst.fst) (List.getD y.snd.fst (Int.toNat y.fst.snd.fst) d),())<μ y
       else t=t/\I ((y.fst.fst,IntKind.i64.wrap (y.fst.snd.fst+(1:Int)),()),y.snd.fst,())/\μ ((y.fst.fst,IntKind.i64.wrap (y.fst.snd.fst+(1:Int)),()),y.snd.fst,())<μ y)
    else
     (0:Nat)<List.length y.snd.fst/\((0:Int)<=y.fst.fst/\y.fst.fst<=(↑(List.length y.snd.fst):Int))/\
       (0:Nat)+Int.toNat y.fst.fst+(List.length y.snd.fst-Int.toNat y.fst.fst)<=List.length y.snd.fst/\
         ((0:Nat)<(eu y.snd.fst ((0:Nat)+Int.toNat y.fst.fst) (List.replicate (List.length y.snd.fst-Int.toNat y.fst.fst) d)).length/\
           List.length y.snd.fst<=(eu y.snd.fst ((0:Nat)+Int.toNat y.fst.fst) (List.replicate (List.length y.snd.fst-Int.toNat y.fst.fst) d)).length)/\
           ((0:Int)<=y.fst.fst/\y.fst.fst<=(↑(List.take (List.length y.snd.fst) (eu y.snd.fst ((0:Nat)+Int.toNat y.fst.fst) (List.replicate (List.length y.snd.fst-Int.toNat y.fst.fst) d))).length:Int))/\
             K ((List.take (Int.toNat y.fst.fst) (List.take (List.length y.snd.fst) (eu y.snd.fst ((0:Nat)+Int.toNat y.fst.fst) (List.replicate (List.length y.snd.fst-Int.toNat y.fst.fst) d))),()),()):=by
 rcases Sp.SY p d s with⟨e,hno⟩|⟨n,hn,e,he,hne⟩
 · grind [List.filter_eq_self,List.getElem_of_mem]
 .rw[e];have w1:∀k:Nat,k<=4611686018427387903->IntKind.i64.wrap ((k:Int)+1)=((k+1:Nat):Int):=λk hk=>fH _ (by omega);rw[w1 n (by omega)];refine⟨λy=>∃(i j:Nat)(l:List α),y=(((i:Int),(j:Int),()),l,())/\i<j/\j<=s.length/\l.length=s.length/\l.take i=(s.take j).filter (λx=>!p x)/\∀t,j<=t->l.getD t d=s.getD t d,
   λy=>((s.length:Int)-y.1.2.1).toNat,⟨n,n+1,s,rfl,by omega,by omega,rfl,?_,λ_ _=>rfl⟩,?_⟩
  .rw[Sp.take_succ' s n d hn,aqL,arD]
   grind [List.filter_eq_self,List.getElem_of_mem]
  .rintro y ⟨i,j,l,rfl,hij,hj,hl,ht,hs⟩;dsimp only;refine af (λh=>?_) λh=>?_
   .have h:j<s.length:=by grind
    have hsj:=hs j (apz _);rw[apG,apG,hsj,w1 i (by omega),w1 j (by omega)];refine⟨⟨by omega,by omega⟩,by omega,trivial,af (λh2=>⟨⟨by omega,by omega⟩,by omega,rfl,⟨i+1,j+1,_,rfl,by omega,by omega,by grind,?_,λt ht=>?_⟩,by omega⟩) λh2=>⟨rfl,⟨i,j+1,l,rfl,by omega,by omega,hl,?_,λt ht=>hs t (by omega)⟩,by omega⟩⟩
    .rw[Sp.take_succ' _ i d (by grind),Sp.take_succ' s j d h,aqL,arD,List.take_set_of_le (apz _),ht]
     grind
    · grind
    grind [Sp.take_succ']
   .have l1:(eu l i (List.replicate (l.length-i) d)).length=l.length:=ae9 (by grind)
    grind [ac2]
end Go.Fw
namespace Go.Fw
open Go
theorem aoh{α β:Type}(p:α->Bool)(d:α)(a:List α)(t:β)(hlen:a.length<=maxLen){K:Bool×Unit->Prop}(hK:K (a.any p,())):
 ∃(I:(Int×Unit)×Unit->Prop),∃(μ:(Int×Unit)×Unit->Nat),I (((0:Int),()),())/\∀(y:(Int×Unit)×Unit),I y->
  bif decide (y.fst.fst<(a.length:Int))then
   ((0:Int)<=y.fst.fst/\y.fst.fst<(a.length:Int))/\
     (bif p (a.getD (Int.toNat y.fst.fst) d)then K (true,())
     else t=t/\I ((IntKind.i64.wrap (y.fst.fst+(1:Int)),()),())/\μ ((IntKind.i64.wrap (y.fst.fst+(1:Int)),()),())<μ y)
  else K (false,()):=by
 refine dP a.length hlen (λn=>∀i,i<n->p (a.getD i d)=false) (λi hi=>by omega) (λI μ n hn hJ next=>?_) λI μ hJ=>?_
 · grind
 grind [List.getElem_of_mem]
theorem afm{α:Type}(p:α->Bool)(s:List α):decide (Sp.findAt p s>=0)=s.any p:=by
 cases hs:s with
 |nil=>rfl
 |cons d r=>
  rcases Sp.SY p d s with⟨e,h⟩|⟨n,hn,e,h1,h2⟩
  · grind [List.getElem_of_mem]
  grind
theorem Vu{α:Type}(p:α->Bool)(d:α)(l:List α){n:Nat}(h:n<l.length):(l.take (n+1)).filter p=(l.take n).filter p++(bif p (l.getD n d)then[l.getD n d]else[]):=by
 grind [Sp.take_succ']
theorem Xz{α β δ:Type}(p:α->Bool)(g:α->β)(d:α)(a:List α)(t:δ){A:Int->Prop}(hA:∀n:Nat,n<a.length->A n)(hlen:a.length<=4000000){K:List β×Unit->Prop}(hK:K ((a.filter p).map g,())):
 ∃(I:(Unit×Int×Unit)×List β×Unit->Prop),∃(μ:(Unit×Int×Unit)×List β×Unit->Nat),I (((),(0:Int),()),[],())/\∀(y:(Unit×Int×Unit)×List β×Unit),I y->
  bif decide (y.1.2.1<(a.length:Int))then
   ((0:Int)<=y.1.2.1/\y.1.2.1<(a.length:Int))/\A y.1.2.1/\
     (bif p (a.getD (Int.toNat y.1.2.1) d)then List.length y.2.1+1<=big/\t=t/\I (((),IntKind.i64.wrap (y.1.2.1+(1:Int)),()),y.2.1++[g (a.getD (Int.toNat y.1.2.1) d)],())/\μ (((),IntKind.i64.wrap (y.1.2.1+(1:Int)),()),y.2.1++[g (a.getD (Int.toNat y.1.2.1) d)],())<μ y
     else t=t/\I (((),IntKind.i64.wrap (y.1.2.1+(1:Int)),()),y.2)/\μ (((),IntKind.i64.wrap (y.1.2.1+(1:Int)),()),y.2)<μ y)
  else K y.2:=by
 refine fB (λi(x:List β)=>(((),i,()),x,())) (λy=>y.1.2.1) (λ_ _=>rfl) a.length (by omega) (λn l=>l=((a.take n).filter p).map g) (by simp) (λI μ n l hn hJ next=>?_) λI μ l hJ=>?_
 .subst hJ;have hl:(((a.take n).filter p).map g).length<=n:=by
   grind
  have step:=Vu p d a hn;dsimp only;refine cO (by omega) ⟨⟨by omega,by omega⟩,hA n hn,af (λh=>⟨by rw[cZ];omega,rfl,next _ ?_⟩) λh=>⟨rfl,next _ ?_⟩⟩
  · simp_all
  grind
 grind
theorem aoi{α β δ:Type}(g:α->β)(d:α)(a:List α)(t:δ)(hlen:a.length<=4000000){K:List β×Unit->Prop}(hK:K (a.map g,())):
 ∃(I:(Unit×Int×Unit)×List β×Unit->Prop),∃(μ:(Unit×Int×Unit)×List β×Unit->Nat),I (((),(0:Int),()),[],())/\∀(y:(Unit×Int×Unit)×List β×Unit),I y->
  bif decide (y.1.2.1<(a.length:Int))then
   ((0:Int)<=y.1.2.1/\y.1.2.1<(a.length:Int))/\
     List.length y.2.1+1<=big/\t=t/\I (((),IntKind.i64.wrap (y.1.2.1+(1:Int)),()),y.2.1++[g (a.getD (Int.toNat y.1.2.1) d)],())/\μ (((),IntKind.i64.wrap (y.1.2.1+(1:Int)),()),y.2.1++[g (a.getD (Int.toNat y.1.2.1) d)],())<μ y
  else K y.2:=by
 obtain⟨I,μ,h0,h1⟩:=Xz (λ_=>true) g d a t (A:=λ_=>True) (λ_ _=>trivial) hlen (K:=K) (by grind [List.filter_eq_self]);refine⟨I,μ,h0,λy hy=>?_⟩
 grind
end Go.Fw
