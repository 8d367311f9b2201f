import Derived.Test.YthkihdfanbmegaaGreatDoorFwA
import Derived.Lib.ItoaNum
import Derived.Lib.ItoaLen
import Derived.Lib.Join
import Derived.Test.YthkihdfanbmegaaGreatDoorFwC
import Derived.Lib.Fields
import Derived.Lib.Atoi
namespace Sp
open Go
abbrev Bytes:=List UInt8
abbrev LI:=List (Int×Unit)
abbrev LS:=List (Bytes×Unit)
theorem take_succ'{α:Type}(a:List α)(n:Nat)(d:α)(h:n<a.length):a.take (n+1)=a.take n++[a.getD n d]:=by rw[aui h,arp,ars h];rfl
def adg(l:LI):Prop:=∀x∈l,-9223372036854775808<=x.1/\x.1<=9223372036854775807
theorem adg.take{a:LI}(h:adg a)(n:Nat):adg (a.take n):=λx hx=>h x (atJ hx)
theorem adg.get{a:LI}(h:adg a){n:Nat}(hn:n<a.length)(d:Int×Unit):(Lib.itoa (a.getD n d).1).length<=21:=by
 have:a.getD n d∈a:=by rw[arp,ars hn,auj];exact asF hn
 exact Lib.itoa_length_le _ (h _ this).1 (h _ this).2
theorem aeH(c:Nat):Lib.decDigits c=(if c / 10=0 then[]else Lib.decDigits (c / 10))++[UInt8.ofNat (48+c%10)]:=by
 conv=>lhs;rw[Lib.decDigits]
 by_cases h:c<10
 .rw[dif_pos h,if_pos (by omega),atd h];rfl
 .rw[dif_neg h,if_neg (by omega)]
end Sp
namespace Sp
open Go
set_option synthInstance.maxSize 100000
set_option synthInstance.maxHeartbeats 1000000
abbrev qR:=Int×Int×Bytes×Unit
abbrev aW:=Bytes×Int×Int×Bytes×Unit
abbrev bM:=Int×Int×Int×Bytes×Int×Int×Bytes×Unit
abbrev aI:=Int×Int×Bool×Int×List aW×Unit
abbrev aN:=Bytes×List bM×Unit
abbrev aeN:=Int×Int×Int×Bool×Int×List aW×Int×Bytes×List bM×Unit
instance:DecidableEq qR:=inferInstance
instance:DecidableEq aW:=inferInstance
instance:DecidableEq bM:=inferInstance
instance:DecidableEq aI:=inferInstance
instance:DecidableEq aN:=inferInstance
instance:DecidableEq (Int×aN):=inferInstance
instance:DecidableEq (List aW×Int×aN):=inferInstance
instance:DecidableEq (Bool×Int×List aW×Int×aN):=inferInstance
instance aqc:DecidableEq aeN:=(inferInstance:DecidableEq (Int×Int×Int×Bool×Int×List aW×Int×aN))
instance:DecidableEq (List aeN):=inferInstance
instance:DecidableEq (List aeN×Bytes×Int×Unit):=inferInstance
def lower(s:Bytes):Bool:=s.all λc=>decide (97<=c.toNat)&&decide (c.toNat<=122)
def fO(s:Bytes):Bool:=lower s&&decide (1<=(s.length:Int))&&decide ((s.length:Int)<=6)
def Ar(n:Int):Bool:=decide (0<=n)&&decide (n<=1000000000)
def idxFrom:Int->LI->Int
 |_,[]=>-1
 |k,x::r=>if Ar x.1 then idxFrom (k+1) r else k
def idxOf(l:LI):Int:=idxFrom 0 l
end Sp
namespace Sp
open Go
abbrev dD:=Bytes×Int×Unit
abbrev bf:=List dD×List aI×Int×Unit
instance:DecidableEq dD:=inferInstance
instance:DecidableEq (List dD):=inferInstance
instance:DecidableEq (List aI):=inferInstance
instance:DecidableEq (List aI×Int×Unit):=inferInstance
instance aqE:DecidableEq bf:=(inferInstance:DecidableEq (List dD×List aI×Int×Unit))
def usual:List dD:=[([97],1,()),([98],1,()),([110],2,()),([116],2,())]
def jl(f:aI):Prop:=f.2.2.2.2.1.length<=1000
def aU(s:bf):Prop:=s.1.length<=1000/\s.2.1.length<=1000/\∀f∈s.2.1,jl f
def jc(n:Nat)(f:Nat->Bool):Bool:=(List.range n).all f
def jd(s:Bytes):Bool:=lower s&&decide (1<=(s.length:Int))&&decide ((s.length:Int)<=1)
def dA(k n:Int)(s:Bytes):Bool:=
 bif decide (k=0)then decide (n=0)&&decide (s=[])
 else bif decide (k=1)then decide (0<=n)&&decide (n<=999)&&decide (s=[])
 else bif decide (k=2)then fO s&&decide (n=0)
 else false
def kindOf:List dD->Bytes->Int
 |[],_=>0
 |f::r,s=>bif decide (f.1=s)then f.2.1 else kindOf r s
def fieldAt(fs:List dD)(i:Nat):dD:=fs.getD i ([],0,())
def jh(fs:List dD)(i:Nat):Bool:=
 jd (fieldAt fs i).1&&(decide (1<=(fieldAt fs i).2.1)&&decide ((fieldAt fs i).2.1<=2))&&!(decide (0<i)&&!Op.bytesLess (fieldAt fs (i-1)).1 (fieldAt fs i).1)
def dF(fs:List dD):Bool:=jc fs.length (jh fs)&&decide ((fs.length:Int)<=5)
def fZ(fs:List dD)(name:Bytes)(k n:Int)(s:Bytes):Bool:=dA k n s&&!decide (k=0)&&decide (k=kindOf fs name)
def bI(as:List aW)(i:Nat):aW:=as.getD i ([],0,0,[],())
def jB(fs:List dD)(as:List aW)(i:Nat):Bool:=
 fZ fs (bI as i).1 (bI as i).2.1 (bI as i).2.2.1 (bI as i).2.2.2.1&&!(decide (0<i)&&!Op.bytesLess (bI as (i-1)).1 (bI as i).1)
def ja(fs:List dD)(as:List aW):Bool:=jc as.length (jB fs as)
def dm(fs:List dD)(f:aI):Bool:=
 ja fs f.2.2.2.2.1&&dF fs&&(decide (1<=f.1)&&decide (f.1<=60))&&(decide (0<=f.2.1)&&decide (f.2.1<=2))&&(decide (0<=f.2.2.2.1)&&decide (f.2.2.2.1<=60))
def fileAt(fs:List aI)(i:Nat):aI:=fs.getD i (0,0,false,0,[],())
def jM(s:bf)(i:Nat):Bool:=
 dm s.1 (fileAt s.2.1 i)&&decide ((fileAt s.2.1 i).1<s.2.2.1)&&!(decide (0<i)&&!decide ((fileAt s.2.1 (i-1)).1<(fileAt s.2.1 i).1))
def ak(s:bf):Bool:=
 jc s.2.1.length (jM s)&&dF s.1&&decide ((s.2.1.length:Int)<=12)&&(decide (1<=s.2.2.1)&&decide (s.2.2.1<=61))
def zy:Int->List aI->Int->Int
 |_,[],_=>-1
 |k,f::r,id=>bif decide (f.1=id)then k else zy (k+1) r id
def place(fs:List aI)(id:Int):Int:=zy 0 fs id
def anI(f:aI)(u:Int):Bool:=(decide (0<=u)&&decide (u<=2))&&(decide (f.2.1=u)||f.2.2.1)
def amH(f:aI)(u:Int):Bool:=(decide (0<=u)&&decide (u<=2))&&decide (f.2.1=u)
def unlink(fs:List aI)(f:aI):aI:=(f.1,f.2.1,f.2.2.1,(bif decide (place fs f.2.2.2.1<0)then 0 else f.2.2.2.1),f.2.2.2.2.1,())
def visible(s:bf)(u:Int):bf:=
 let fs:=s.2.1.filter (anI · u)
 (s.1,fs.map (unlink fs),s.2.2.1,())
def alD:aI:=(0,0,false,0,[],())
def fC(s:bf)(id:Int):aI×Bool:=
 bif decide (place s.2.1 id<0)then(alD,false)else(fileAt s.2.1 (place s.2.1 id).toNat,true)
def fQ(name:Bytes)(b:aW):Bool:=!(b.1==name)
def iC(name:Bytes)(b:aW):Bool:=Op.bytesLess b.1 name||b.1==name
def yU(as:List aW)(a:aW):List aW:=as.takeWhile (iC a.1)++a::as.dropWhile (iC a.1)
def dO(as:List aW)(name:Bytes)(k n:Int)(s:Bytes):List aW:=
 bif decide (k=0)then as.filter (fQ name)else yU (as.filter (fQ name)) (name,k,n,s,())
def bJ(s:bf)(f:aI):bf×Int×Bool:=
 let g:aI:=(s.2.2.1,f.2)
 bif ak s&&decide ((s.2.1.length:Int)<12)&&dm s.1 g then((s.1,s.2.1++[g],s.2.2.1+1,()),s.2.2.1,true)else(s,0,false)
def aiG(s:bf)(f:aI):bf×Bool:=
 bif ak s&&!decide (place s.2.1 f.1<0)&&dm s.1 f then((s.1,s.2.1.set (place s.2.1 f.1).toNat f,s.2.2.1,()),true)else(s,false)
def fA(s:bf)(id:Int):bf×Bool:=
 bif ak s&&!decide (place s.2.1 id<0)then((s.1,s.2.1.eraseIdx (place s.2.1 id).toNat,s.2.2.1,()),true)else(s,false)
def CQ{α:Type}(p:α->Bool):Int->List α->Int
 |_,[]=>-1
 |k,f::r=>bif p f then k else CQ p (k+1) r
def findAt{α:Type}(p:α->Bool)(l:List α):Int:=CQ p 0 l
def fieldPlace(l:List dD)(name:Bytes):Int:=findAt (λf=>f.1==name) l
end Sp
namespace Sp
theorem ahR:∀(n m:Nat)(L:Nat->Nat),(∀k,k<m->∃j,j<n/\L j=k)->m<=n
 |0,m,L,h=>by
  rcases ati m with h0|h0
  .omega
  .obtain⟨j,hj,_⟩:=h 0 h0;omega
 |n+1,m,L,h=>by
  by_cases hv:L n<m
  .have:=ahR n (m-1) (λj=>if L n<L j then L j-1 else L j) λk hk=>by
    by_cases h1:k<L n
    .obtain⟨j,hj,e⟩:=h k (by omega);have:j≠n:=λe2=>by subst e2;omega
     exact⟨j,by omega,by show(if _ then _ else _)=_;rw[if_neg (by omega)];exact e⟩
    .obtain⟨j,hj,e⟩:=h (k+1) (by omega);have:j≠n:=λe2=>by subst e2;omega
     exact⟨j,by omega,by show(if _ then _ else _)=_;rw[if_pos (by omega)];omega⟩
   omega
  .have:=ahR n m L λk hk=>by
    obtain⟨j,hj,e⟩:=h k hk;have:j≠n:=λe2=>by subst e2;omega
    exact⟨j,by omega,e⟩
   omega
abbrev S9:=List (Nat×Nat×Nat)
def iH(E:S9)(L:Nat->Nat):Prop:=∀e∈E,L e.2.1+e.2.2<=L e.1
def aeO(E:S9)(n:Nat):Prop:=∀e∈E,e.1<n/\e.2.1<n/\e.2.2<=1
def sumTo(n:Nat)(L:Nat->Nat):Nat:=match n with|0=>0|n+1=>sumTo n L+L n
theorem sumTo_le{L M:Nat->Nat}:∀n,(∀i,i<n->L i<=M i)->sumTo n L<=sumTo n M
 |0,_=>arF _
 |n+1,h=>Nat.add_le_add (sumTo_le n λi hi=>h i (by omega)) (h n (by omega))
theorem ahS{L M:Nat->Nat}:∀n,(∀i,i<n->L i<=M i)->(∃i,i<n/\L i<M i)->sumTo n L<sumTo n M
 |0,_,⟨i,hi,_⟩=>by omega
 |n+1,h,⟨i,hi,hl⟩=>by
  have h1:=sumTo_le n λj hj=>h j (ato hj);show sumTo n L+L n<sumTo n M+M n;by_cases e:i=n
  .subst e;omega
  .have:=ahS n (λj hj=>h j (ato hj)) ⟨i,by omega,hl⟩;have:=h n (by omega);omega
theorem Qx{E:S9}{n:Nat}(hE:aeO E n):∀(s:Nat)(L:Nat->Nat),sumTo n L<=s->iH E L->∃M,iH E M/\∀i,i<n->M i<n
 |s,L,hs,hL=>by
  by_cases hall:∀i,i<n->L i<n
  .exact⟨L,hL,hall⟩
  .obtain⟨i,hi⟩:=Classical.not_forall.1 hall;have hi1:i<n/\n<=L i:=by
    by_cases h1:i<n
    .exact⟨h1,Nat.le_of_not_lt λh2=>hi λ_=>h2⟩
    .exact(hi λh2=>(h1 h2).elim).elim
   have ap7:∃k,k<n/\∀j,j<n->L j≠k:=by
    refine ar7 λhno=>?_;have:=ahR n (n+1) (λj=>min (L j) n) λk hk=>by
     by_cases h1:k<n
     .refine ar7 λh2=>hno ⟨k,h1,λj hj e=>h2 ⟨j,hj,?_⟩⟩;show min (L j) n=k;omega
     .exact⟨i,hi1.1,by show min (L i) n=k;omega⟩
    omega
   obtain⟨k,hk,hno⟩:=ap7;have hlt:sumTo n (λj=>if k<L j then L j-1 else L j)<sumTo n L:=by
    refine ahS n (λj _=>?_) ⟨i,hi1.1,?_⟩
    .show(if _ then _ else _)<=_;split
     .exact Nat.sub_le _ _
     .exact arF _
    .show(if _ then _ else _)<_;rw[if_pos (by omega)];omega
   match s,hs with
   |0,hs=>omega
   |s+1,hs=>refine Qx hE s (λj=>if k<L j then L j-1 else L j) (by omega) λe he=>?_;have h1:=hL e he;obtain⟨h2,h3,h4⟩:=hE e he;have n1:=hno e.1 h2;have n2:=hno e.2.1 h3;show(if k<L e.2.1 then L e.2.1-1 else L e.2.1)+e.2.2<=(if k<L e.1 then L e.1-1 else L e.1);split<;>split<;>omega
theorem Mc{E:S9}{n:Nat}(hE:aeO E n)(h:∃L,iH E L):∃M,iH E M/\∀i,i<n->M i<n:=by obtain⟨L,hL⟩:=h;exact Qx hE (sumTo n L) L (arF _) hL
structure Raises(E:S9)(n:Nat)(R:(Nat->Nat)->Nat->Nat):Prop where
 up:∀L i,L i<=R L i
 fix:∀L,(∀i,i<n->R L i=L i)->iH E L
 below:∀L M,iH E M->(∀i,i<n->L i<=M i)->∀i,i<n->R L i<=M i
 same:∀L L',(∀i,i<n->L i=L' i)->∀i,i<n->R L i=R L' i
end Sp
namespace Sp
open Go
abbrev ao3:=List dD×List aI×Int×List aN×Unit
abbrev aok:=Int×List dD×List aI×Int×List aN×Int×Unit
instance:DecidableEq (List bM):=inferInstance
instance:DecidableEq aN:=inferInstance
instance:DecidableEq (List aN):=inferInstance
instance:DecidableEq (List aN×Unit):=inferInstance
instance:DecidableEq (Int×List aN×Unit):=inferInstance
instance:DecidableEq (List aI×Int×List aN×Unit):=inferInstance
instance aqV:DecidableEq ao3:=(inferInstance:DecidableEq (List dD×List aI×Int×List aN×Unit))
instance:DecidableEq (List aN×Int×Unit):=inferInstance
instance:DecidableEq (Int×List aN×Int×Unit):=inferInstance
instance:DecidableEq (List aI×Int×List aN×Int×Unit):=inferInstance
instance:DecidableEq (List dD×List aI×Int×List aN×Int×Unit):=inferInstance
instance aq6:DecidableEq aok:=(inferInstance:DecidableEq (Int×List dD×List aI×Int×List aN×Int×Unit))
instance:DecidableEq (List aok):=inferInstance
def nodeAt(q:List bM)(i:Nat):bM:=q.getD i (0,0,0,[],0,0,[],())
def ji(n:bM):Bool:=n.1==6||n.1==7
def yZ(n:bM):Bool:=n.1==8||n.1==9
def jH(n:bM)(a:Int):Bool:=
 let kids:=decide (0<=n.2.1)&&decide (n.2.1<=a-1)&&decide (0<a)
 let two:=decide (0<=n.2.2.1)&&decide (n.2.2.1<=a-1)
 let bare:=n.2.2.2.1==[]&&(n.2.2.2.2.1==0&&(n.2.2.2.2.2.1==0&&n.2.2.2.2.2.2.1==[]))
 let flat:=n.2.1==0&&n.2.2.1==0
 let valued:=dA n.2.2.2.2.1 n.2.2.2.2.2.1 n.2.2.2.2.2.2.1
 let void:=n.2.2.2.2.1==0&&(n.2.2.2.2.2.1==0&&n.2.2.2.2.2.2.1==[])
 bif n.1==1 then flat&&bare else bif n.1==2 then flat&&void&&jd n.2.2.2.1 else
 bif n.1==3 then flat&&jd n.2.2.2.1&&valued&&!(n.2.2.2.2.1==0)else bif n.1==4 then flat&&jd n.2.2.2.1&&valued&&n.2.2.2.2.1==1 else
 bif n.1==5 then kids&&n.2.2.1==0&&bare else bif n.1==6||n.1==7 then kids&&two&&bare else
 bif n.1==8||n.1==9 then flat&&void&&fO n.2.2.2.1 else false
def refsOf(a:Int)(n:bM):Nat:=(bif (ji n||n.1==5)&&n.2.1==a then 1 else 0)+(bif ji n&&n.2.2.1==a then 1 else 0)
def lU(q:List bM)(a:Int):Nat:=(q.map (refsOf a)).sum
def kP(q:List bM)(i:Nat):Bool:=jH (nodeAt q i) i&&!(decide ((i:Int)<(q.length:Int)-1)&&!(lU q i==1))
def bF(q:List bM):Bool:=jc q.length (kP q)&&(decide (1<=(q.length:Int))&&decide ((q.length:Int)<=9))
def dM(d:List aN)(i:Nat):aN:=d.getD i ([],[],())
def lG(d:List aN)(i:Nat):Bool:=fO (dM d i).1&&bF (dM d i).2.1&&!(decide (0<i)&&!Op.bytesLess (dM d (i-1)).1 (dM d i).1)
def gy(d:List aN):Bool:=jc d.length (lG d)&&decide ((d.length:Int)<=5)
def jK(q:List bM)(i:Nat)(out:List (Bool×Unit)):List (Bool×Unit):=
 let n:=nodeAt q i
 bif n.1==5 then out.set n.2.1.toNat (true,())else bif ji n then(out.set n.2.1.toNat ((out.getD i (false,())).1,())).set n.2.2.1.toNat ((out.getD i (false,())).1,())else out
def iK(q:List bM):Nat->List (Bool×Unit)->List (Bool×Unit)
 |0,out=>out
 |n+1,out=>iK q n (jK q n out)
def negated(q:List bM):List (Bool×Unit):=bif bF q then iK q q.length (List.replicate q.length (false,()))else[]
def eU(q:List bM)(neg:Bool):List Bytes:=(List.range (negated q).length).filterMap λi=>bif yZ (nodeAt q i)&&((negated q).getD i (false,())).1==neg then some (nodeAt q i).2.2.2.1 else none
def Dz:Int->List aN->Bytes->Int
 |_,[],_=>-1
 |k,x::r,s=>bif x.1==s then k else Dz (k+1) r s
def aJ(d:List aN)(s:Bytes):Int:=Dz 0 d s
def dK(d:List aN):S9:=
 (List.range d.length).flatMap λi=>
   ((eU (dM d i).2.1 false).filterMap λs=>bif decide (0<=aJ d s)then some (i,(aJ d s).toNat,0)else none)++
   ((eU (dM d i).2.1 true).filterMap λs=>bif decide (0<=aJ d s)then some (i,(aJ d s).toNat,1)else none)
open Classical in
noncomputable def au (d:List aN):Bool:=gy d&&decide (∃L,iH (dK d) L)
def iV(r:LS)(l:List Bytes):Prop:=r.length<=1000/\∀s,(s,())∈r↔s∈l
def wE(d:List aN)(ay:List (Int×Unit))(more:Int):LS->Int
 |[]=>0
 |x::r=>max (bif decide (0<=aJ d x.1)then(ay.getD (aJ d x.1).toNat (0,())).1+more else 0) (wE d ay more r)
def ER(l:LS)(s:Bytes):LS:=
 let n:=(l.takeWhile λx=>Op.bytesLess x.1 s).length
 bif decide (n<l.length)&&(l.getD n ([],())).1==s then l else l.take n++[(s,())]++l.drop n
def raised(d:List aN)(ay r:List (Int×Unit)):Prop:=
 r.length=d.length/\(∀i,i<d.length->(ay.getD i (0,())).1<=(r.getD i (0,())).1)/\(∀B:Int,(∀i,i<d.length->(ay.getD i (0,())).1<=B)->∀i,i<d.length->(r.getD i (0,())).1<=B+5000)/\
 ((∀i,i<d.length->(r.getD i (0,())).1=(ay.getD i (0,())).1)->iH (dK d) λi=>(ay.getD i (0,())).1.toNat)/\
 ∀M,iH (dK d) M->(∀i,i<d.length->(ay.getD i (0,())).1<=M i)->∀i,i<d.length->(r.getD i (0,())).1<=M i
def aX(d:List aN):Prop:=d.length<=1000/\∀x∈d,x.2.1.length<=1000
end Sp
namespace Sp
open Go
end Sp
namespace Sp
open Go
theorem Xg(s:Bytes):∀(d:List aN)(k:Int),(Dz k d s=-1/\∀x∈d,x.1≠s)\/∃n,n<d.length/\Dz k d s=k+n/\(dM d n).1=s/\∀i,i<n->(dM d i).1≠s
 |[],k=>.inl ⟨rfl,λx hx=>by cases hx⟩
 |x::r,k=>by
  by_cases h:x.1=s
  .right;refine⟨0,by simp,?_,h,λi hi=>by omega⟩;rw[Dz,arA.2 h];simp
  .rcases Xg s r (k+1)with⟨h1,h2⟩|⟨n,h1,h2,h3,h4⟩
   .left;refine⟨by rw[Dz,arn.2 h];exact h1,λy hy=>?_⟩;rcases arU.1 hy with rfl|hy
    .exact h
    .exact h2 y hy
   .right;refine⟨n+1,by simp;omega,by rw[Dz,arn.2 h];show Dz (k+1) r s=_;omega,h3,λi hi=>?_⟩;cases i with
    |zero=>exact h
    |succ i=>exact h4 i (by omega)
theorem Dy(d:List aN)(s:Bytes):(aJ d s=-1/\∀x∈d,x.1≠s)\/∃n,n<d.length/\aJ d s=n/\(dM d n).1=s/\∀i,i<n->(dM d i).1≠s:=by
 rcases Xg s d 0 with h|⟨n,h1,h2,h3⟩
 .exact .inl h
 .exact .inr ⟨n,h1,by show Dz 0 d s=_;omega,h3⟩
theorem IQ{d:List aN}{s:Bytes}(h:0<=aJ d s):aJ d s<d.length:=by rcases Dy d s with⟨h1,_⟩|⟨n,h1,h2,_⟩<;>omega
theorem CB{d:List aN}{i j m:Nat}:(i,j,m)∈dK d↔i<d.length/\∃s,((m=0/\s∈eU (dM d i).2.1 false)\/(m=1/\s∈eU (dM d i).2.1 true))/\0<=aJ d s/\j=(aJ d s).toNat:=by
 unfold dK;rw[List.mem_flatMap];constructor
 .rintro⟨k,hk,h⟩;rw[ast]at hk;rcases arW.1 h with h|h
  all_goals
   obtain⟨s,hs,e⟩:=aua.1 h;rw[cond_eq_ite]at e;split at e
   .next hp=>have hp:0<=aJ d s:=asM hp;cases e;exact⟨hk,s,by first|exact .inl ⟨rfl,hs⟩|exact .inr ⟨rfl,hs⟩,hp,rfl⟩
   .cases e
 .rintro⟨hi,s,h|h,hp,rfl⟩
  .obtain⟨rfl,hs⟩:=h;refine⟨i,ast.2 hi,arW.2 (.inl (aua.2 ⟨s,hs,?_⟩))⟩;rw[aru hp];rfl
  .obtain⟨rfl,hs⟩:=h;refine⟨i,ast.2 hi,arW.2 (.inr (aua.2 ⟨s,hs,?_⟩))⟩;rw[aru hp];rfl
theorem jX(d:List aN):aeO (dK d) d.length:=by
 rintro⟨i,j,m⟩ he;obtain⟨h1,s,h2,h3,h4⟩:=CB.1 he;have:=IQ h3;refine⟨h1,?_,?_⟩
 .show j<_;omega
 .show m<=1;rcases h2 with⟨h,_⟩|⟨h,_⟩<;>omega
def lv(l:List (Int×Unit))(i:Nat):Int:=(l.getD i (0,())).1
theorem ahF{l:List (Int×Unit)}{i:Nat}(hi:i<l.length)(x:Int)(k:Nat):lv (l.set i (x,())) k=if k=i then x else lv l k:=by
 unfold lv;rw[arp,arp];by_cases h:k=i
 .subst h;rw[asD hi,if_pos rfl];rfl
 .rw[asj (λe=>h e.symm),if_neg h]
theorem Wi{l:List (Int×Unit)}{i:Nat}(hi:i<l.length):(lv l i,())∈l:=by unfold lv;rw[arp,ars hi];exact asF hi
theorem ahD{l:List (Int×Unit)}{p:Int->Prop}(h:∀i,i<l.length->p (lv l i)):∀x∈l,p x.1:=by intro x hx;obtain⟨i,hi,e⟩:=asb hx;have:=h i hi;unfold lv at this;rw[arp,ars hi]at this;rw[← e];exact this
theorem alA{a b:List (Int×Unit)}(hl:a.length=b.length)(h:∀i,i<a.length->lv a i=lv b i):a=b:=by refine atK hl λi h1 h2=>?_;have:=h i h1;unfold lv at this;rw[arp,arp,ars h1,ars h2]at this;exact atO this rfl
structure H7(d:List aN)(ay cur:List (Int×Unit))(g:Int)(P:Nat×Nat×Nat->Prop):Prop where
 len:cur.length=d.length
 up:∀i,i<d.length->lv ay i<=lv cur i
 grow:∀B,(∀i,i<d.length->lv ay i<=B)->∀i,i<d.length->lv cur i<=B+g
 fix:(∀i,i<d.length->lv cur i=lv ay i)->∀e,P e->lv ay e.2.1+e.2.2<=lv ay e.1
 below:∀M,iH (dK d) M->(∀i,i<d.length->lv ay i<=M i)->∀i,i<d.length->lv cur i<=M i
theorem H7.start{d:List aN}{ay:List (Int×Unit)}(h:ay.length=d.length):H7 d ay ay 0 λ_=>False:=
 ⟨h,λ_ _=>ar4 _,λB hB i hi=>by have:=hB i hi;omega,λ_ e he=>he.elim,λ_ _ h=>h⟩
theorem H7.weaken{d:List aN}{ay cur:List (Int×Unit)}{g g':Int}{P P':Nat×Nat×Nat->Prop}(h:H7 d ay cur g P)(hg:g<=g')(hP:∀e,P' e->P e):H7 d ay cur g' P':=
 ⟨h.len,h.up,λB hB i hi=>by have:=h.grow B hB i hi;omega,λhx e he=>h.fix hx e (hP e he),h.below⟩
theorem H7.still{d:List aN}{ay cur:List (Int×Unit)}{g:Int}{P:Nat×Nat×Nat->Prop}(h:H7 d ay cur g P){i j m:Nat}(he:(i,j,m)∈dK d)(hle:lv cur j+m<=lv cur i):H7 d ay cur g λe=>P e\/e=(i,j,m):=by
 obtain⟨h1,h2,_⟩:=jX d _ he;refine⟨h.len,h.up,h.grow,λhx e hp=>?_,h.below⟩;rcases hp with hp|rfl
 .exact h.fix hx e hp
 .have a:=hx i h1;have b:=hx j h2;show lv ay j+m<=lv ay i;omega
theorem H7.set{d:List aN}{ay cur:List (Int×Unit)}{g:Int}{P:Nat×Nat×Nat->Prop}(h:H7 d ay cur g P){i j m:Nat}(he:(i,j,m)∈dK d)(hlt:lv cur i<lv cur j+m):H7 d ay (cur.set i (lv cur j+m,())) (g+m) λe=>P e\/e=(i,j,m):=by
 obtain⟨h1,h2,_⟩:=jX d _ he;have h1:i<d.length:=h1;have h2:j<d.length:=h2;have hl:=h.len;have hs:=λk=>ahF (l:=cur) (i:=i) (by omega) (lv cur j+m) k;refine⟨by simp;omega,λk hk=>?_,λB hB k hk=>?_,λhx e hp=>?_,λM hM hb k hk=>?_⟩
 .rw[hs];have a:=h.up k hk;split
  .next e=>subst e;omega
  .exact a
 .rw[hs];have a:=h.grow B hB k hk;have b:=h.grow B hB j h2;split<;>omega
 .have:=hx i h1;rw[hs,if_pos rfl]at this;have:=h.up i h1;omega
 .rw[hs];split
  .next e=>subst e;have a:=h.below M hM hb j h2;have b:=hM _ he;have b:M j+m<=M k:=b;omega
  .exact h.below M hM hb k hk
theorem H7.raised{d:List aN}{ay cur:List (Int×Unit)}{g:Int}{P:Nat×Nat×Nat->Prop}(h:H7 d ay cur g P)(hg:g<=5000)(hP:∀e∈dK d,P e)(h0:∀i,i<d.length->0<=lv ay i):raised d ay cur:=by refine⟨h.len,h.up,λB hB i hi=>by have:=h.grow B hB i hi;show lv cur i<=_;omega,λhx e he=>?_,h.below⟩;have a:=h.fix hx e (hP e he);obtain⟨h1,h2,_⟩:=jX d _ he;have b:=h0 _ h1;have c:=h0 _ h2;show(lv ay e.2.1).toNat+e.2.2<=(lv ay e.1).toNat;omega
theorem adh(d:List aN)(ay:List (Int×Unit))(hl:ay.length=d.length):∀(E:S9),(∀e∈E,e∈dK d)->∃cur:List (Int×Unit),cur.length=d.length/\(∀i,i<d.length->lv ay i<=lv cur i/\(lv cur i=lv ay i\/∃e∈E,e.1=i/\lv cur i=lv ay e.2.1+e.2.2))/\∀e∈E,lv ay e.2.1+e.2.2<=lv cur e.1
 |[],_=>⟨ay,hl,λi hi=>⟨ar4 _,.inl rfl⟩,λe he=>by cases he⟩
 |e::E,hE=>by
  obtain⟨cur,h1,h2,h3⟩:=adh d ay hl E λx hx=>hE x (arE _ hx);obtain⟨g1,g2,_⟩:=jX d e (hE e arC);by_cases h:lv cur e.1<lv ay e.2.1+e.2.2
  .have hs:=λk=>ahF (l:=cur) (i:=e.1) (by omega) (lv ay e.2.1+e.2.2) k;refine⟨cur.set e.1 (lv ay e.2.1+e.2.2,()),by simp;omega,λi hi=>?_,λx hx=>?_⟩
   .rw[hs];have:=h2 i hi;split
    .next hi'=>exact⟨by rw[hi']at this ⊢;omega,.inr ⟨e,arC,hi'.symm,rfl⟩⟩
    .refine⟨this.1,this.2.imp_right λ⟨x,hx,hy⟩=>⟨x,arE _ hx,hy⟩⟩
   .rw[hs];rcases arU.1 hx with rfl|hx
    .rw[if_pos rfl];omega
    .have:=h3 x hx;split
     .next he=>rw[he]at this;omega
     .exact this
  .refine⟨cur,h1,λi hi=>?_,λx hx=>?_⟩
   .have:=h2 i hi;exact⟨this.1,this.2.imp_right λ⟨x,hx,hy⟩=>⟨x,arE _ hx,hy⟩⟩
   .rcases arU.1 hx with rfl|hx
    .omega
    .exact h3 x hx
theorem aiF(d:List aN)(ay:List (Int×Unit))(hl:ay.length=d.length)(h0:∀i,i<d.length->0<=lv ay i):∃cur,raised d ay cur:=by
 obtain⟨cur,h1,h2,h3⟩:=adh d ay hl (dK d) λ_ h=>h;refine⟨cur,h1,λi hi=>(h2 i hi).1,λB hB i hi=>?_,λhx e he=>?_,λM hM hb i hi=>?_⟩
 .show lv cur i<=_;rcases(h2 i hi).2 with h|⟨e,he,rfl,h⟩
  .rw[h];have:=hB i hi;show(ay.getD i (0,())).1<=_;omega
  .obtain⟨_,g2,g3⟩:=jX d e he;have:lv ay e.2.1<=B:=hB _ g2;omega
 .obtain⟨g1,g2,_⟩:=jX d e he;have a:=h3 e he;have b:=h0 _ g1;have c:=h0 _ g2;have x:lv cur e.1=lv ay e.1:=hx _ g1;show(lv ay e.2.1).toNat+e.2.2<=(lv ay e.1).toNat;omega
 .show lv cur i<=_;rcases(h2 i hi).2 with h|⟨e,he,rfl,h⟩
  .rw[h];exact hb i hi
  .obtain⟨_,g2,_⟩:=jX d e he;have a:lv ay e.2.1<=M e.2.1:=hb _ g2;have b:=hM e he;omega
theorem FC{d:List aN}{ay:List (Int×Unit)}{more:Int}:∀(r:LS)(B:Int),wE d ay more r<=B↔0<=B/\∀x∈r,0<=aJ d x.1->lv ay (aJ d x.1).toNat+more<=B
 |[],B=>by simp[wE]
 |x::r,B=>by
  have ih:=FC (d:=d) (ay:=ay) (more:=more) r B;rw[wE];have e:∀a b:Int,max a b<=B↔a<=B/\b<=B:=λa b=>by omega
  rw[e,ih];simp only[arU,forall_eq_or_imp];by_cases h:0<=aJ d x.1
  .rw[aru h];show lv ay _+more<=B/\_↔_;constructor
   .exactλ⟨a,b,c⟩=>⟨b,λ_=>a,c⟩
   .exactλ⟨a,b,c⟩=>⟨b h,a,c⟩
  .rw[arx h];show(0:Int)<=B/\_↔_;constructor
   .exactλ⟨a,b,c⟩=>⟨b,λh'=>(h h').elim,c⟩
   .exactλ⟨a,b,c⟩=>⟨a,a,c⟩
def wZ(l:List (Int×Unit)):Nat->Int
 |0=>0
 |n+1=>wZ l n+lv l n
theorem Z7{a b:List (Int×Unit)}:∀n,(∀i,i<n->lv a i<=lv b i)->wZ a n<=wZ b n
 |0,_=>ar4 _
 |n+1,h=>Int.add_le_add (Z7 n λi hi=>h i (by omega)) (h n (by omega))
theorem Z5{a b:List (Int×Unit)}:∀n,(∀i,i<n->lv a i<=lv b i)->(∃i,i<n/\lv a i<lv b i)->wZ a n<wZ b n
 |0,_,⟨i,hi,_⟩=>by omega
 |n+1,h,⟨i,hi,hl⟩=>by
  have h1:=Z7 n λj hj=>h j (ato hj);show wZ a n+lv a n<wZ b n+lv b n;by_cases e:i=n
  .subst e;omega
  .have:=Z5 n (λj hj=>h j (ato hj)) ⟨i,by omega,hl⟩;have:=h n (by omega);omega
theorem OH{a:List (Int×Unit)}{b:Nat}:∀n:Nat,(∀i,i<n->lv a i<=b)->wZ a n<=(n*b:Nat)
 |0,_=>by simp[wZ]
 |n+1,h=>by have h1:=OH n λi hi=>h i (ato hi);have h2:=h n (by omega);show wZ a n+lv a n<=((n+1)*b:Nat);rw[Nat.succ_mul];omega
theorem VY{a:List (Int×Unit)}:∀n:Nat,(∀i,i<n->0<=lv a i)->0<=wZ a n
 |0,_=>ar4 _
 |n+1,h=>Int.add_nonneg (VY n λi hi=>h i (by omega)) (h n (by omega))
theorem lD{d:List aN}:au d=true↔gy d=true/\∃L,iH (dK d) L:=by unfold au;simp
theorem RD{d:List aN}(h:gy d=true):d.length<=5:=by unfold gy at h;simp only[ark,arD]at h;omega
end Sp
namespace Sp
abbrev Ext(ι α:Type):=ι->α->Bool
structure Sys(ι α:Type) where
 T:ι->Ext ι α->α->Prop
 pos:ι->ι->Prop
 neg:ι->ι->Prop
 mono:∀i X Y,(∀j,pos i j->∀x,X j x=true->Y j x=true)->(∀j,neg i j->∀x,X j x=Y j x)->∀x,T i X x->T i Y x
def ags{ι α:Type}(S:Sys ι α)(N:ι->Prop)(ay:ι->Nat):Prop:=∀i j,N i->N j->(S.pos i j->ay j<=ay i)/\(S.neg i j->ay j<ay i)
structure Eval{ι α:Type}(S:Sys ι α)(N:ι->Prop)(ay:ι->Nat)(X:Ext ι α):Prop where
 fix:∀i,N i->∀x,X i x=true↔S.T i X x
 least:∀k(Y:Ext ι α),(∀i,¬(N i/\ay i=k)->∀x,Y i x=X i x)->(∀i,N i->ay i=k->∀x,S.T i Y x->Y i x=true)->∀i,N i->ay i=k->∀x,X i x=true->Y i x=true
open Classical in
theorem ajn{ι α:Type}{P:ι->Prop}{A B:Ext ι α}:∃Y:Ext ι α,(∀i x,Y i x=true↔A i x=true/\(P i->B i x=true))/\∀i,¬P i->∀x,Y i x=A i x:=by have h:∀i x,decide (A i x=true/\(P i->B i x=true))=true↔A i x=true/\(P i->B i x=true):=λi x=>auA;refine⟨λi x=>decide (A i x=true/\(P i->B i x=true)),h,λi hi x=>?_⟩;rw[arR,h];exact⟨λh=>h.1,λh=>⟨h,λh'=>(hi h').elim⟩⟩
theorem aiH{ι α:Type}{S1 S2:Sys ι α}{N1 N2 U:ι->Prop}{l1 l2:ι->Nat}{X1 X2:Ext ι α}
 (h1:Eval S1 N1 l1 X1) (h2:Eval S2 N2 l2 X2) (s1:ags S1 N1 l1) (s2:ags S2 N2 l2) (u1:∀i,U i->N1 i) (u2:∀i,U i->N2 i)
 (hT:∀i,U i->∀X x,S1.T i X x↔S2.T i X x) (hp:∀i,U i->∀j,S2.pos i j->S1.pos i j) (hn:∀i,U i->∀j,S2.neg i j->S1.neg i j)
 (hc:∀i,U i->∀j,S1.pos i j\/S1.neg i j->U j\/∀x,X1 j x=X2 j x):∀i,U i->∀x,X1 i x=X2 i x:=by
 have key:∀k,∀i,U i->l1 i=k->∀x,X1 i x=X2 i x:=by
  intro k
  induction k using Nat.strongRecOn with
  |_ k ih=>
   have below:∀j,U j->l1 j<k->∀x,X1 j x=X2 j x:=λj hj hl=>ih (l1 j) hl j hj rfl;have ao4:∀i,U i->l1 i=k->∀x,X1 i x=true->X2 i x=true:=by
    obtain⟨Y,hY,Ve⟩:=ajn (P:=λi=>U i/\l1 i=k) (A:=X1) (B:=X2);have:=h1.least k Y (λi hi=>Ve i λh=>hi ⟨u1 i h.1,h.2⟩) λi hN hl x hx=>by
     have ahT:∀j,S1.neg i j->∀x,Y j x=X1 j x:=λj hj=>Ve j λh=>by have:=(s1 i j hN (u1 j h.1)).2 hj;omega
     refine(hY i x).2 ⟨(h1.fix i hN x).2 (S1.mono i Y X1 (λj _ y hy=>((hY j y).1 hy).1) ahT x hx),λhU=>?_⟩;refine(h2.fix i (u2 i hU.1) x).2 ((hT i hU.1 X2 x).1 (S1.mono i Y X2 (λj hj y hy=>?_) (λj hj y=>?_) x hx))
     .have hy:=(hY j y).1 hy;rcases hc i hU.1 j (.inl hj)with h|h
      .have hl2:=(s1 i j hN (u1 j h)).1 hj;rcases arH (l1 j) k with h3|h3
       .rw[← below j h h3];exact hy.1
       .exact hy.2 ⟨h,by omega⟩
      .rw[← h];exact hy.1
     .rw[ahT j hj];rcases hc i hU.1 j (.inr hj)with h|h
      .exact below j h (by have:=(s1 i j hN (u1 j h)).2 hj;omega) y
      .exact h y
    exactλi hU hl x hx=>((hY i x).1 (this i (u1 i hU) hl x hx)).2 ⟨hU,hl⟩
   have ao5:∀m,∀i,U i->l1 i=k->l2 i=m->∀x,X2 i x=true->X1 i x=true:=by
    intro m
    induction m using Nat.strongRecOn with
    |_ m ih2=>
     obtain⟨Y,hY,Ve⟩:=ajn (P:=λi=>U i/\l1 i=k/\l2 i=m) (A:=X2) (B:=X1);have:=h2.least m Y (λi hi=>Ve i λh=>hi ⟨u2 i h.1,h.2.2⟩) λi hN hl x hx=>by
      have ahT:∀j,S2.neg i j->∀x,Y j x=X2 j x:=λj hj=>Ve j λh=>by have:=(s2 i j hN (u2 j h.1)).2 hj;omega
      refine(hY i x).2 ⟨(h2.fix i hN x).2 (S2.mono i Y X2 (λj _ y hy=>((hY j y).1 hy).1) ahT x hx),λhU=>?_⟩;refine(h1.fix i (u1 i hU.1) x).2 ((hT i hU.1 X1 x).2 (S2.mono i Y X1 (λj hj y hy=>?_) (λj hj y=>?_) x hx))
      .have hy:=(hY j y).1 hy;have hj1:=hp i hU.1 j hj;rcases hc i hU.1 j (.inl hj1)with h|h
       .have g1:=(s1 i j (u1 i hU.1) (u1 j h)).1 hj1;have g2:=(s2 i j hN (u2 j h)).1 hj;rcases arH (l1 j) k with h3|h3
        .rw[below j h h3];exact hy.1
        .rcases arH (l2 j) m with h4|h4
         .exact ih2 (l2 j) h4 j h (by omega) rfl y hy.1
         .exact hy.2 ⟨h,by omega,by omega⟩
       .rw[h];exact hy.1
      .rw[ahT j hj];have hj1:=hn i hU.1 j hj;rcases hc i hU.1 j (.inr hj1)with h|h
       .exact(below j h (by have:=(s1 i j (u1 i hU.1) (u1 j h)).2 hj1;omega) y).symm
       .exact(h y).symm
     exactλi hU hl1 hl2 x hx=>((hY i x).1 (this i (u2 i hU) hl2 x hx)).2 ⟨hU,hl1,hl2⟩
   exactλi hU hl x=>arR.2 ⟨ao4 i hU hl x,ao5 (l2 i) i hU hl rfl x⟩
 exactλi hU x=>key (l1 i) i hU rfl x
end Sp
namespace Sp
open Go
abbrev dh:=Bytes×List (Int×Unit)×Unit
abbrev BX:=Ext Bytes Int
def aF:List aW->Bytes->qR
 |[],_=>(0,0,[],())
 |a::r,s=>bif a.1==s then(a.2.1,a.2.2.1,a.2.2.2.1,())else aF r s
def eG:List dh->Bytes->List (Int×Unit)
 |[],_=>[]
 |x::r,s=>bif x.1==s then x.2.1 else eG r s
def eF(l:List (Int×Unit))(x:Int):Bool:=l.any λy=>y.1==x
def bg(r:List dh):BX:=λs x=>eF (eG r s) x
theorem FI{l:List (Int×Unit)}{x:Int}:eF l x=true↔(x,())∈l:=by unfold eF;rw[atr];exact⟨λ⟨y,hy,h⟩=>by rw[← arA.1 h];exact hy,λh=>⟨_,h,arA.2 rfl⟩⟩
def iZ(n:bM)(f:aI)(X:BX):Bool:=
 bif n.1==2 then !((aF f.2.2.2.2.1 n.2.2.2.1).1==0)else
 bif n.1==3 then decide (aF f.2.2.2.2.1 n.2.2.2.1=(n.2.2.2.2.1,n.2.2.2.2.2.1,n.2.2.2.2.2.2.1,()))else
 bif n.1==4 then(aF f.2.2.2.2.1 n.2.2.2.1).1==1&&decide ((aF f.2.2.2.2.1 n.2.2.2.1).2.1<n.2.2.2.2.2.1)else
 bif n.1==8 then X n.2.2.2.1 f.1 else
 bif n.1==9 then !(f.2.2.2.1==0)&&X n.2.2.2.1 f.2.2.2.1 else true
def val(q:List bM)(f:aI)(X:BX)(a:Nat):Bool:=
 if(nodeAt q a).1=5 then(if h:(nodeAt q a).2.1.toNat<a then !val q f X (nodeAt q a).2.1.toNat else true)
 else if(nodeAt q a).1=6 then(if h:(nodeAt q a).2.1.toNat<a/\(nodeAt q a).2.2.1.toNat<a then val q f X (nodeAt q a).2.1.toNat&&val q f X (nodeAt q a).2.2.1.toNat else true)
 else if(nodeAt q a).1=7 then(if h:(nodeAt q a).2.1.toNat<a/\(nodeAt q a).2.2.1.toNat<a then val q f X (nodeAt q a).2.1.toNat||val q f X (nodeAt q a).2.2.1.toNat else true)
 else iZ (nodeAt q a) f X
termination_by a
decreasing_by all_goals omega
theorem Ql(q:List bM)(f:aI)(X:BX)(a:Nat):val q f X a=
 if(nodeAt q a).1=5 then(if h:(nodeAt q a).2.1.toNat<a then !val q f X (nodeAt q a).2.1.toNat else true)
 else if(nodeAt q a).1=6 then(if h:(nodeAt q a).2.1.toNat<a/\(nodeAt q a).2.2.1.toNat<a then val q f X (nodeAt q a).2.1.toNat&&val q f X (nodeAt q a).2.2.1.toNat else true)
 else if(nodeAt q a).1=7 then(if h:(nodeAt q a).2.1.toNat<a/\(nodeAt q a).2.2.1.toNat<a then val q f X (nodeAt q a).2.1.toNat||val q f X (nodeAt q a).2.2.1.toNat else true)
 else iZ (nodeAt q a) f X:=by rw[val]
def lN(q:List bM)(f:aI)(X:BX):Bool:=bF q&&val q f X (q.length-1)
def sel(fs:List aI)(q:List bM)(X:BX):List (Int×Unit):=(fs.filter λf=>lN q f X).map λf=>(f.1,())
def Ad(q:List bM)(i:Nat):Bool:=((negated q).getD i (false,())).1
theorem MB{q:List bM}(h:bF q=true){i:Nat}(hi:i<q.length):jH (nodeAt q i) i=true/\((i:Int)<(q.length:Int)-1->lU q i=1):=by
 unfold bF at h;rw[ark]at h;have h1:kP q i=true:=by have:=h.1;unfold jc at this;exact arK.1 this i (ast.2 hi)
 unfold kP at h1;rw[ark]at h1;refine⟨h1.1,λhl=>?_⟩;have h2:=h1.2;rw[aru hl]at h2;simpa using h2
theorem Eo{q:List bM}(h:bF q=true):1<=q.length/\q.length<=9:=by unfold bF at h;simp only[ark,arD]at h;omega
theorem Y4{n:bM}{a:Nat}(h:jH n a=true)(hn:n.1=5\/n.1=6\/n.1=7):0<=n.2.1/\n.2.1.toNat<a:=by unfold jH at h;rcases hn with e|e|e<;>simp[e]at h<;>omega
theorem KQ{n:bM}{a:Nat}(h:jH n a=true)(hn:n.1=6\/n.1=7):0<=n.2.2.1/\n.2.2.1.toNat<a:=by unfold jH at h;rcases hn with e|e<;>simp[e]at h<;>omega
theorem ajo{α:Type}(g:α->Nat):∀(l:List α),(l.map g).sum=1->∀i j,i<l.length->j<l.length->i≠j->∀d,1<=g (l.getD i d)->g (l.getD j d)=0
 |[],_,i,_,hi,_,_,_,_=>by simp at hi
 |x::r,h,i,j,hi,hj,hne,d,hg=>by
  rw[arS,atw]at h;have mem:∀(l:List α) k,k<l.length->g (l.getD k d)<=(l.map g).sum:=by
   intro l
   induction l with
   |nil=>intro k hk;simp at hk
   |cons y t ih=>
    intro k hk;rw[arS,atw];cases k with
    |zero=>exact Nat.le_add_right _ _
    |succ k=>exact arM (ih k (by simpa using hk)) (Nat.le_add_left _ _)
  cases i with
  |zero=>
   cases j with
   |zero=>exact(hne rfl).elim
   |succ j=>
    have h1:1<=g x:=hg;have:=mem r j (by simpa using hj);show g (r.getD j d)=0;omega
  |succ i=>
   have h1:1<=g (r.getD i d):=hg;have h2:=mem r i (by simpa using hi);cases j with
   |zero=>show g x=0;omega
   |succ j=>exact ajo g r (by omega) i j (by simpa using hi) (by simpa using hj) (by omega) d hg
theorem G7{q:List bM}{p:Nat}:∀(n:Nat)(out:List (Bool×Unit)),(∀i,i<n->((nodeAt q i).1=5\/ji (nodeAt q i)=true->(nodeAt q i).2.1.toNat≠p)/\(ji (nodeAt q i)=true->(nodeAt q i).2.2.1.toNat≠p))->
 (iK q n out).getD p (false,())=out.getD p (false,())
 |0,_,_=>rfl
 |n+1,out,h=>by
  have ih:=G7 n (jK q n out) λi hi=>h i (by omega);show(iK q n (jK q n out)).getD p (false,())=_;rw[ih];have hs:∀(l:List (Bool×Unit)) k x,k≠p->(l.set k x).getD p (false,())=l.getD p (false,()):=λl k x hk=>by rw[arp,asj hk,← arp]
  obtain⟨h1,h2⟩:=h n (by omega);unfold jK;dsimp only;cases e5:((nodeAt q n).1==5)with
  |true=>exact hs _ _ _ (h1 (.inl (arA.1 e5)))
  |false=>
   cases e2:ji (nodeAt q n)with
   |true=>exact(hs _ _ _ (h2 e2)).trans (hs _ _ _ (h1 (.inr e2)))
   |false=>rfl
theorem Es(q:List bM):∀(n:Nat)(out:List (Bool×Unit)),(iK q n out).length=out.length
 |0,_=>rfl
 |n+1,out=>by show(iK q n (jK q n out)).length=_;rw[Es q n];unfold jK;dsimp only;cases (nodeAt q n).1==5<;>cases ji (nodeAt q n)<;>simp
theorem xg{n:bM}:ji n=true↔n.1=6\/n.1=7:=by unfold ji;simp
theorem TJ(q:List bM):∀(k m:Nat)(out:List (Bool×Unit)),∃mid:List (Bool×Unit),mid.length=out.length/\iK q (m+k) out=iK q m mid
 |0,_,out=>⟨out,rfl,rfl⟩
 |k+1,m,out=>by
  obtain⟨mid,h1,h2⟩:=TJ q k m (jK q (m+k) out);have hl:(jK q (m+k) out).length=out.length:=by unfold jK;dsimp only;cases (nodeAt q (m+k)).1==5<;>cases ji (nodeAt q (m+k))<;>simp
  exact⟨mid,h1.trans hl,h2⟩
theorem Me{q:List bM}(h:bF q=true){i:Nat}(hi:i<q.length):((nodeAt q i).1=5\/ji (nodeAt q i)=true->0<=(nodeAt q i).2.1/\(nodeAt q i).2.1.toNat<i)/\(ji (nodeAt q i)=true->0<=(nodeAt q i).2.2.1/\(nodeAt q i).2.2.1.toNat<i):=by
 have h1:=(MB h hi).1;refine⟨λh2=>?_,λh2=>KQ h1 (xg.1 h2)⟩;rcases h2 with h2|h2
 .exact Y4 h1 (.inl h2)
 .exact Y4 h1 (.inr (xg.1 h2))
theorem akz{q:List bM}(h:bF q=true){i j p:Nat}(hi:i<q.length)(hj:j<q.length)(hne:i≠j)(hp:p<i)(hr:1<=refsOf p (nodeAt q i)):refsOf p (nodeAt q j)=0:=
 ajo (refsOf p) q ((MB h (by omega)).2 (by omega)) i j hi hj hne _ hr
theorem aiI{p:Nat}{n:bM}(h:refsOf p n=0)(h0:((n.1=5\/ji n=true)->0<=n.2.1)/\(ji n=true->0<=n.2.2.1)):(n.1=5\/ji n=true->n.2.1.toNat≠p)/\(ji n=true->n.2.2.1.toNat≠p):=by
 unfold refsOf at h;refine⟨λh1 h2=>?_,λh1 h2=>?_⟩
 .have h3:=h0.1 h1;have h4:((ji n||n.1==5)&&n.2.1==(p:Int))=true:=by
   have:(ji n||n.1==5)=true:=by rcases h1 with h1|h1<;>simp[h1]
   rw[this];simp;omega
  rw[h4]at h;simp at h
 .have h3:=h0.2 h1;have h4:(ji n&&n.2.2.1==(p:Int))=true:=by rw[h1];simp;omega
  rw[h4]at h;simp at h
theorem Y5{p:Nat}{n:bM}(h:n.1=5\/ji n=true)(h0:0<=n.2.1)(e:n.2.1.toNat=p):1<=refsOf p n:=by
 unfold refsOf;have h4:((ji n||n.1==5)&&n.2.1==(p:Int))=true:=by
  have:(ji n||n.1==5)=true:=by rcases h with h1|h1<;>simp[h1]
  rw[this];simp;omega
 rw[h4];simp
theorem ahU{p:Nat}{n:bM}(h:ji n=true)(h0:0<=n.2.2.1)(e:n.2.2.1.toNat=p):1<=refsOf p n:=by
 unfold refsOf;have h4:(ji n&&n.2.2.1==(p:Int))=true:=by rw[h];simp;omega
 rw[h4];simp
theorem Tc{l:List (Bool×Unit)}{k p:Nat}{x:Bool×Unit}(hk:k<l.length):(l.set k x).getD p (false,())=if k=p then x else l.getD p (false,()):=by
 rw[arp,atD];by_cases h:k=p
 .subst h;simp[hk]
 .simp[h]
theorem akA{q:List bM}(h:bF q=true){i:Nat}(hi:i<q.length):
 ((nodeAt q i).1=5->Ad q (nodeAt q i).2.1.toNat=true)/\(ji (nodeAt q i)=true->Ad q (nodeAt q i).2.1.toNat=Ad q i/\Ad q (nodeAt q i).2.2.1.toNat=Ad q i):=by
 have hn:negated q=iK q q.length (List.replicate q.length (false,())):=by unfold negated;rw[h];rfl
 obtain⟨mid,hm1,hm2⟩:=TJ q (q.length-(i+1)) (i+1) (List.replicate q.length (false,()));rw[show i+1+(q.length-(i+1))=q.length by omega,← hn]at hm2;have hml:mid.length=q.length:=by rw[hm1];simp
 have hm3:negated q=iK q i (jK q i mid):=hm2;obtain⟨k1,k2⟩:=Me h hi;have keep:∀p,p<i->1<=refsOf p (nodeAt q i)->Ad q p=((jK q i mid).getD p (false,())).1:=λp hp hr=>by
  unfold Ad;rw[hm3,G7 i];intro j hj;have hjl:j<q.length:=by omega
  obtain⟨g1,g2⟩:=Me h hjl;exact aiI (akz h hi hjl (by omega) hp hr) ⟨λz=>(g1 z).1,λz=>(g2 z).1⟩
 have self:Ad q i=(mid.getD i (false,())).1:=by unfold Ad;rw[hm2,G7 (i+1)];intro j hj;obtain⟨g1,g2⟩:=Me h (show j<q.length by omega);exact⟨λz=>by have:=(g1 z).2;omega,λz=>by have:=(g2 z).2;omega⟩
 refine⟨λh5=>?_,λh2=>?_⟩
 .obtain⟨a,b⟩:=k1 (.inl h5);rw[keep _ b (Y5 (.inl h5) a rfl)];unfold jK;dsimp only;rw[arA.2 h5];show((mid.set _ (true,())).getD _ (false,())).1=true;rw[Tc (by omega),if_pos rfl]
 .obtain⟨a,b⟩:=k1 (.inr h2);obtain⟨a',b'⟩:=k2 h2;have h5:((nodeAt q i).1==5)=false:=by rcases xg.1 h2 with e|e<;>rw[e]<;>rfl
  rw[keep _ b (Y5 (.inr h2) a rfl),keep _ b' (ahU h2 a' rfl),self];unfold jK;dsimp only;rw[h5,h2];show(((mid.set _ ((mid.getD i (false,())).1,())).set _ ((mid.getD i (false,())).1,())).getD _ (false,())).1=_/\(((mid.set _ ((mid.getD i (false,())).1,())).set _ ((mid.getD i (false,())).1,())).getD _ (false,())).1=_;rw[Tc (by rw[arP];omega),Tc (by omega),Tc (by rw[arP];omega),if_pos rfl,if_pos rfl];exact⟨by split<;>rfl,rfl⟩
theorem akB{q:List bM}(h:bF q=true):Ad q (q.length-1)=false:=by
 have hn:negated q=iK q q.length (List.replicate q.length (false,())):=by unfold negated;rw[h];rfl
 have hl:=Eo h;unfold Ad;rw[hn,G7 q.length]
 .rw[arp,att];split<;>rfl
 .intro j hj;obtain⟨g1,g2⟩:=Me h hj;exact⟨λz=>by have:=(g1 z).2;omega,λz=>by have:=(g2 z).2;omega⟩
theorem ahV{q:List bM}(h:bF q=true){i:Nat}(hi:i<q.length)(hd:yZ (nodeAt q i)=true):(nodeAt q i).2.2.2.1∈eU q (Ad q i):=by
 have hl:(negated q).length=q.length:=by unfold negated;rw[h];show(iK _ _ _).length=_;rw[Es];simp
 unfold eU;rw[aua];refine⟨i,ast.2 (by omega),?_⟩;unfold Ad;rw[hd];simp
theorem amI{q:List bM}{f:aI}{X Y:BX}(h:bF q=true)(hp:∀s∈eU q false,∀x,X s x=true->Y s x=true)(hn:∀s∈eU q true,∀x,X s x=Y s x):
 ∀a,a<q.length->(Ad q a=false->val q f X a=true->val q f Y a=true)/\(Ad q a=true->val q f X a=val q f Y a):=by
 intro a
 induction a using Nat.strongRecOn with
 |_ a ih=>
  intro ha;obtain⟨k1,k2⟩:=Me h ha;obtain⟨n1,n2⟩:=akA h ha;rw[Ql q f X a,Ql q f Y a];by_cases h5:(nodeAt q a).1=5
  .have hk:=k1 (.inl h5);have i1:=(ih _ hk.2 (by omega)).2 (n1 h5);rw[if_pos h5,if_pos h5,dif_pos hk.2,dif_pos hk.2,i1];exact⟨λ_=>id,λ_=>rfl⟩
  rw[if_neg h5,if_neg h5];by_cases h6:(nodeAt q a).1=6
  .have h2:ji (nodeAt q a)=true:=xg.2 (.inl h6);have hk:=k1 (.inr h2);have hk':=k2 h2;have i1:=ih _ hk.2 (by omega);have i2:=ih _ hk'.2 (by omega);rw[(n2 h2).1]at i1;rw[(n2 h2).2]at i2;rw[if_pos h6,if_pos h6,dif_pos ⟨hk.2,hk'.2⟩,dif_pos ⟨hk.2,hk'.2⟩];refine⟨λhf hv=>?_,λht=>by rw[i1.2 ht,i2.2 ht]⟩;rw[ark]at hv ⊢;exact⟨i1.1 hf hv.1,i2.1 hf hv.2⟩
  rw[if_neg h6,if_neg h6];by_cases h7:(nodeAt q a).1=7
  .have h2:ji (nodeAt q a)=true:=xg.2 (.inr h7);have hk:=k1 (.inr h2);have hk':=k2 h2;have i1:=ih _ hk.2 (by omega);have i2:=ih _ hk'.2 (by omega);rw[(n2 h2).1]at i1;rw[(n2 h2).2]at i2;rw[if_pos h7,if_pos h7,dif_pos ⟨hk.2,hk'.2⟩,dif_pos ⟨hk.2,hk'.2⟩];refine⟨λhf hv=>?_,λht=>by rw[i1.2 ht,i2.2 ht]⟩;rw[asv]at hv ⊢;exact hv.imp (i1.1 hf) (i2.1 hf)
  rw[if_neg h7,if_neg h7];by_cases h8:(nodeAt q a).1=8
  .have hm:=ahV h ha (by unfold yZ;simp[h8]);unfold iZ;simp only[h8];refine⟨λhf hv=>?_,λht=>?_⟩
   .rw[hf]at hm;exact hp _ hm _ hv
   .rw[ht]at hm;exact hn _ hm _
  by_cases h9:(nodeAt q a).1=9
  .have hm:=ahV h ha (by unfold yZ;simp[h9]);unfold iZ;simp only[h9];refine⟨λhf hv=>?_,λht=>?_⟩
   .rw[hf]at hm;have hv:(!((f.2.2.2.1==0))&&X (nodeAt q a).2.2.2.1 f.2.2.2.1)=true:=hv;rw[ark]at hv;show(!((f.2.2.2.1==0))&&Y (nodeAt q a).2.2.2.1 f.2.2.2.1)=true;rw[ark];exact⟨hv.1,hp _ hm _ hv.2⟩
   .rw[ht]at hm;show(!((f.2.2.2.1==0))&&X (nodeAt q a).2.2.2.1 f.2.2.2.1)=(!((f.2.2.2.1==0))&&Y (nodeAt q a).2.2.2.1 f.2.2.2.1);rw[hn _ hm]
  .have:iZ (nodeAt q a) f X=iZ (nodeAt q a) f Y:=by unfold iZ;rw[arn.2 h8,arn.2 h9];rfl
   rw[this];exact⟨λ_=>id,λ_=>rfl⟩
theorem MR{q:List bM}{f:aI}{X Y:BX}(hp:∀s∈eU q false,∀x,X s x=true->Y s x=true)(hn:∀s∈eU q true,∀x,X s x=Y s x)(hm:lN q f X=true):lN q f Y=true:=by unfold lN at hm ⊢;rw[ark]at hm ⊢;have hl:=Eo hm.1;exact⟨hm.1,(amI hm.1 hp hn _ (by omega)).1 (akB hm.1) hm.2⟩
theorem aeP{fs:List aI}{q:List bM}{X:BX}{x:Int}:(x,())∈sel fs q X↔∃f∈fs,f.1=x/\lN q f X=true:=by
 unfold sel;rw[asK];constructor
 .rintro⟨f,hf,e⟩;rw[asX]at hf;exact⟨f,hf.1,congrArg Prod.fst e,hf.2⟩
 .rintro⟨f,hf,rfl,hm⟩;exact⟨f,asX.2 ⟨hf,hm⟩,rfl⟩
theorem alS{fs:List aI}{q:List bM}{X Y:BX}(h:∀b,∀s∈eU q b,∀x,X s x=Y s x):sel fs q X=sel fs q Y:=by unfold sel;congr 1;apply auI;intro f _;rw[arR];exact⟨MR (λs hs x hx=>by rw[← h false s hs x];exact hx) (λs hs x=>h true s hs x),MR (λs hs x hx=>by rw[h false s hs x];exact hx) (λs hs x=>(h true s hs x).symm)⟩
def Oe(fs:List aI)(d:List aN):Sys Bytes Int where
 T:=λs X x=>∃i,i<d.length/\(dM d i).1=s/\(x,())∈sel fs (dM d i).2.1 X
 pos:=λs t=>∃i,i<d.length/\(dM d i).1=s/\t∈eU (dM d i).2.1 false
 neg:=λs t=>∃i,i<d.length/\(dM d i).1=s/\t∈eU (dM d i).2.1 true
 mono:=λs X Y hp hn x⟨i,hi,e,hx⟩=>⟨i,hi,e,by obtain⟨f,hf,e2,hm⟩:=aeP.1 hx;exact aeP.2 ⟨f,hf,e2,MR (λt ht=>hp t ⟨i,hi,e,ht⟩) (λt ht=>hn t ⟨i,hi,e,ht⟩) hm⟩⟩
end Sp
namespace Go.Fw
open Go
end Go.Fw
namespace Go.Fw
open Go
theorem dG{p:Prop}[Decidable p]{A B:Prop}(h:p)(a:A):cond (decide p) A B:=by rw[aru h];exact a
theorem dH{p:Prop}[Decidable p]{A B:Prop}(h:¬p)(b:B):cond (decide p) A B:=by rw[arx h];exact b
theorem iJ{B:((Int×Unit)×Unit->Prop)->((Int×Unit)×Unit->Nat)->(Int×Unit)×Unit->Prop}(len:Nat)(hlen:len<=9223372036854775807)(J:Nat->Prop)(h0:J 0)
 (hstep:∀I μ(n:Nat),n<len->J n->(J (n+1)->I ((IntKind.i64.wrap ((n:Int)+1),()),())/\μ ((IntKind.i64.wrap ((n:Int)+1),()),())<μ (((n:Int),()),()))->B I μ (((n:Int),()),()))
 (hend:∀I μ,J len->B I μ (((len:Int),()),())):∃I,∃μ,I (((0:Int),()),())/\∀y,I y->B I μ y:=by
 refine⟨λy=>∃n:Nat,y.1.1=n/\n<=len/\J n,λy=>((len:Int)-y.1.1).toNat,⟨0,rfl,ar0 _,h0⟩,?_⟩;rintro⟨⟨_,⟨⟩⟩,⟨⟩⟩ ⟨n,rfl,hn,hJ⟩;rcases arH n len with h|h
 .refine hstep _ _ n h hJ λhJ'=>?_;have e:IntKind.i64.wrap ((n:Int)+1)=((n+1:Nat):Int):=fD _ (by omega);rw[e];exact⟨⟨n+1,rfl,h,hJ'⟩,by show((len:Int)-(n+1:Nat)).toNat<((len:Int)-n).toNat;omega⟩
 .have:n=len:=by omega
  subst this;exact hend _ _ hJ
theorem eP{Y S:Type}(mk:Int->S->Y)(idx:Y->Int)(hidx:∀i s,idx (mk i s)=i){B:(Y->Prop)->(Y->Nat)->Y->Prop}(len:Nat)(hlen:len<=9223372036854775807)(J:Nat->S->Prop){s0:S}(h0:J 0 s0)
 (hstep:∀I μ(n:Nat)(s:S),n<len->J n s->(∀s',J (n+1) s'->I (mk (IntKind.i64.wrap ((n:Int)+1)) s')/\μ (mk (IntKind.i64.wrap ((n:Int)+1)) s')<μ (mk n s))->B I μ (mk n s))
 (hend:∀I μ s,J len s->B I μ (mk len s)):∃I,∃μ,I (mk 0 s0)/\∀y,I y->B I μ y:=by
 refine⟨λy=>∃(n:Nat)(s:S),y=mk n s/\n<=len/\J n s,λy=>((len:Int)-idx y).toNat,⟨0,s0,rfl,ar0 _,h0⟩,?_⟩;rintro _ ⟨n,s,rfl,hn,hJ⟩;rcases arH n len with h|h
 .refine hstep _ _ n s h hJ λs' hJ'=>?_;have e:IntKind.i64.wrap ((n:Int)+1)=((n+1:Nat):Int):=fD _ (by omega);rw[e];refine⟨⟨n+1,s',rfl,h,hJ'⟩,?_⟩;show((len:Int)-idx (mk (n+1:Nat) s')).toNat<((len:Int)-idx (mk n s)).toNat;rw[hidx,hidx];omega
 .have:n=len:=by omega
  subst this;exact hend _ _ s hJ
theorem AL{len:Nat}{f:Nat->Bool}{n:Nat}(hn:n<len)(h:f n=false):Sp.jc len f=false:=by unfold Sp.jc;rw[List.all_eq_false];exact⟨n,ast.2 hn,by rw[h];simp⟩
theorem mX{len:Nat}{f:Nat->Bool}(h:∀i,i<len->f i=true):Sp.jc len f=true:=by unfold Sp.jc;rw[arK];exactλi hi=>h i (ast.1 hi)
theorem O4{len:Nat}{f:Nat->Bool}:Sp.jc len f=true↔∀i,i<len->f i=true:=by unfold Sp.jc;rw[arK];exact⟨λh i hi=>h i (ast.2 hi),λh i hi=>h i (ast.1 hi)⟩
theorem dV{n:Nat}{f:Nat->Bool}(h:∀i,i<n->f i=true)(hn:f n=true):∀i,i<n+1->f i=true:=λi hi=>by
 rcases arH i n with h'|h'
 .exact h i h'
 .have:i=n:=by omega
  rw[this];exact hn
theorem fK{b:Bool}(h:(!b)=true):b=false:=by cases b<;>first|rfl|cases h
theorem cZ{b:Bool}(h:(!b)=false):b=true:=by cases b<;>first|rfl|cases h
theorem fP{p:Prop}[Decidable p](h:decide p=true):p:=asM h
theorem gV{p:Prop}[Decidable p](h:decide p=false):¬p:=of_decide_eq_false h
theorem uf{n:Nat}(h:0<n)(hn:n<=9223372036854775807):IntKind.i64.wrap ((n:Int)-1)=((n-1:Nat):Int):=by rw[fD _ (by omega)];omega
theorem MF{α:Type}{d:α}{a b:List α}(hl:a.length=b.length)(h:∀i,i<a.length->a.getD i d=b.getD i d):a=b:=by refine atK hl λi h1 h2=>?_;have:=h i h1;rw[arp,arp,ars h1,ars h2]at this;simpa using this
theorem Qb{α β:Type}(e:α->α->Bool)(he:∀x y,e x y=false↔x=y)(d:α)(a b:List α)(t:β)(hlen:a.length<=9223372036854775807)(hl:a.length=b.length){K:Bool×Unit->Prop}(hF:a≠b->K (false,()))(hT:a=b->K (true,())):
 ∃(I:(Int×Unit)×Unit->Prop),∃(μ:(Int×Unit)×Unit->Nat),I (((0:Int),()),())/\∀(y:(Int×Unit)×Unit),I y->
  bif decide (y.fst.fst<(a.length:Int))then
   ((0:Int)<=y.fst.fst/\y.fst.fst<(a.length:Int))/\((0:Int)<=y.fst.fst/\y.fst.fst<(b.length:Int))/\
     (bif e (a.getD (Int.toNat y.fst.fst) d) (b.getD (Int.toNat y.fst.fst) d)then K (false,())
     else t=t/\I ((IntKind.i64.wrap (y.fst.fst+(1:Int)),()),())/\μ ((IntKind.i64.wrap (y.fst.fst+(1:Int)),()),())<μ y)
  else K (true,()):=by
 refine iJ a.length hlen (λn=>∀i,i<n->a.getD i d=b.getD i d) (λi hi=>by omega) (λI μ n hn hJ next=>?_) λI μ hJ=>(by dsimp only;exact dH (by omega) (hT (MF hl hJ)));dsimp only;refine dG (by omega) ⟨⟨by omega,by omega⟩,⟨by omega,by omega⟩,af (λh=>hF λh'=>?_) λh=>⟨rfl,next λi hi=>?_⟩⟩
 .subst h';have:=(he (a.getD n d) (a.getD n d)).2 rfl;have h:e (a.getD n d) (a.getD n d)=true:=h;rw[this]at h;cases h
 .rcases arH i n with h'|h'
  .exact hJ i h'
  .have:i=n:=by omega
   rw[this];exact(he _ _).1 h
theorem ZO{α β:Type}(e:α->α->Bool)(he:∀x y,e x y=false↔x=y)(d:α)(a b:List α)(t:β)(hlen:a.length<=9223372036854775807)(hl:a.length=b.length){K:Bool×Unit->Prop}(hF:a≠b->K (false,()))(hT:a=b->K (true,())):
 ∃(I:(Int×Unit)×Unit->Prop),∃(μ:(Int×Unit)×Unit->Nat),I (((0:Int),()),())/\∀(y:(Int×Unit)×Unit),I y->
  bif decide (y.fst.fst<(a.length:Int))then
   ((0:Int)<=y.fst.fst/\y.fst.fst<(a.length:Int))/\((0:Int)<=y.fst.fst/\y.fst.fst<(b.length:Int))/\True/\
     (bif e (a.getD (Int.toNat y.fst.fst) d) (b.getD (Int.toNat y.fst.fst) d)then K (false,())
     else t=t/\I ((IntKind.i64.wrap (y.fst.fst+(1:Int)),()),())/\μ ((IntKind.i64.wrap (y.fst.fst+(1:Int)),()),())<μ y)
  else K (true,()):=by
 refine iJ a.length hlen (λn=>∀i,i<n->a.getD i d=b.getD i d) (λi hi=>by omega) (λI μ n hn hJ next=>?_) λI μ hJ=>(by dsimp only;exact dH (by omega) (hT (MF hl hJ)));dsimp only;refine dG (by omega) ⟨⟨by omega,by omega⟩,⟨by omega,by omega⟩,trivial,af (λh=>hF λh'=>?_) λh=>⟨rfl,next λi hi=>?_⟩⟩
 .subst h';have:=(he (a.getD n d) (a.getD n d)).2 rfl;have h:e (a.getD n d) (a.getD n d)=true:=h;rw[this]at h;cases h
 .rcases arH i n with h'|h'
  .exact hJ i h'
  .have:i=n:=by omega
   rw[this];exact(he _ _).1 h
end Go.Fw
namespace Sp
open Go Go.Fw
theorem NT{name:Bytes}:∀(s:List dD)(n:Nat),n<s.length->(∀i,i<n->(s.getD i ([],0,())).1≠name)->(s.getD n ([],0,())).1=name->kindOf s name=(s.getD n ([],0,())).2.1
 |[],n,h,_,_=>by simp at h
 |f::r,0,_,_,he=>by
  have he:f.1=name:=he;show(bif decide (f.1=name)then f.2.1 else kindOf r name)=f.2.1;rw[aru he];rfl
 |f::r,n+1,h,hne,he=>by have h0:f.1≠name:=hne 0 (by omega);show(bif decide (f.1=name)then f.2.1 else kindOf r name)=_;rw[arx h0];exact NT r n (by simpa using h) (λi hi=>hne (i+1) (by omega)) he
theorem IB{name:Bytes}:∀(s:List dD),(∀i,i<s.length->(s.getD i ([],0,())).1≠name)->kindOf s name=0
 |[],_=>rfl
 |f::r,hne=>by have h0:f.1≠name:=hne 0 (by simp);show(bif decide (f.1=name)then f.2.1 else kindOf r name)=_;rw[arx h0];exact IB r λi hi=>hne (i+1) (by simp;omega)
theorem Xh{id:Int}:∀(s:List aI)(k:Int)(n:Nat),n<s.length->(∀i,i<n->(fileAt s i).1≠id)->(fileAt s n).1=id->zy k s id=k+n
 |[],_,n,h,_,_=>by simp at h
 |f::r,k,0,_,_,he=>by
  have he:f.1=id:=he;show(bif decide (f.1=id)then k else zy (k+1) r id)=_;rw[aru he];simp
 |f::r,k,n+1,h,hne,he=>by have h0:f.1≠id:=hne 0 (by omega);show(bif decide (f.1=id)then k else zy (k+1) r id)=_;rw[arx h0];show zy (k+1) r id=_;rw[Xh r (k+1) n (by simpa using h) (λi hi=>hne (i+1) (by omega)) he];omega
theorem Qy{id:Int}:∀(s:List aI)(k:Int),(∀i,i<s.length->(fileAt s i).1≠id)->zy k s id=-1
 |[],_,_=>rfl
 |f::r,k,hne=>by have h0:f.1≠id:=hne 0 (by simp);show(bif decide (f.1=id)then k else zy (k+1) r id)=_;rw[arx h0];exact Qy r (k+1) λi hi=>hne (i+1) (by simp;omega)
theorem L6{id:Int}{s:List aI}{n:Nat}(h:n<s.length)(hne:∀i,i<n->(fileAt s i).1≠id)(he:(fileAt s n).1=id):place s id=n:=by unfold place;rw[Xh s 0 n h hne he];omega
theorem abQ{id:Int}{s:List aI}(hne:∀i,i<s.length->(fileAt s i).1≠id):place s id=-1:=Qy s 0 hne
theorem IG(s:List aI)(id:Int):(place s id=-1/\∀i,i<s.length->(fileAt s i).1≠id)\/∃n,n<s.length/\place s id=n/\(fileAt s n).1=id/\∀i,i<n->(fileAt s i).1≠id:=by
 by_cases h:∃n,n<s.length/\(fileAt s n).1=id
 .obtain⟨n,h1,h2,h3⟩:=(least s.length (p:=λn=>(fileAt s n).1=id) h);exact .inr ⟨n,h1,L6 h1 (λi hi=>h3 i hi) h2,h2,λi hi=>h3 i hi⟩
 .have hne:∀i,i<s.length->(fileAt s i).1≠id:=λi hi e=>h ⟨i,hi,e⟩;exact .inl ⟨abQ hne,hne⟩
theorem YV{s:List dD}{n:Nat}(h:n<s.length)(hn:jh s n=false):dF s=false:=by unfold dF;rw[AL h hn];rfl
theorem akC{fs:List dD}{s:List aW}{n:Nat}(h:n<s.length)(hn:jB fs s n=false):ja fs s=false:=AL h hn
theorem afq{fs:List dD}{f:aI}{n:Nat}(h:n<f.2.2.2.2.1.length)(hn:jB fs f.2.2.2.2.1 n=false):dm fs f=false:=by unfold dm;rw[akC h hn];rfl
theorem abM{s:bf}{n:Nat}(h:n<s.2.1.length)(hn:jM s n=false):ak s=false:=by unfold ak;rw[AL h hn];rfl
theorem kN{s:bf}{i:Nat}:jM s i=true↔dm s.1 (fileAt s.2.1 i)=true/\(fileAt s.2.1 i).1<s.2.2.1/\(0<i->(fileAt s.2.1 (i-1)).1<(fileAt s.2.1 i).1):=by
 unfold jM;rw[ark,ark,arD,and_assoc];refine atl λ_=>atl λ_=>?_;by_cases h:0<i
 .simp[h]
 .simp[h]
theorem jE{s:bf}:ak s=true↔(∀i,i<s.2.1.length->jM s i=true)/\dF s.1=true/\s.2.1.length<=12/\1<=s.2.2.1/\s.2.2.1<=61:=by
 unfold ak;rw[ark,ark,ark,ark,arD,arD,arD,O4];constructor
 .rintro⟨⟨⟨h1,h2⟩,h3⟩,h4,h5⟩;exact⟨h1,h2,by omega,h4,h5⟩
 .rintro⟨h1,h2,h3,h4,h5⟩;exact⟨⟨⟨h1,h2⟩,by omega⟩,h4,h5⟩
theorem alT{fs:List dD}{f:aI}(h:dm fs f=true):1<=f.1/\f.1<=60:=by unfold dm at h;simp only[ark,arD]at h;exact h.1.1.2
theorem O5{fs:List aI}{g:aI}{i:Nat}(h:i<fs.length):fileAt (fs++[g]) i=fileAt fs i:=by unfold fileAt;rw[arp,arX h,← arp]
theorem aiJ{fs:List aI}{g:aI}:fileAt (fs++[g]) fs.length=g:=by unfold fileAt;rw[arp,arO (arF _)];simp
theorem ahW{s:bf}{g:aI}(h:ak s=true)(hl:s.2.1.length<12)(hg:dm s.1 g=true)(hid:g.1=s.2.2.1):ak (s.1,s.2.1++[g],s.2.2.1+1,())=true:=by
 obtain⟨h1,h2,h3,h4,h5⟩:=jE.1 h;have hg1:=alT hg;refine jE.2 ⟨λi hi=>?_,h2,by show(s.2.1++[g]).length<=12;simp;omega,by show 1<=s.2.2.1+1;omega,by show s.2.2.1+1<=61;omega⟩;have hi:i<(s.2.1++[g]).length:=hi;rw[arv,arq,arw]at hi;refine kN.2 ?_;show dm s.1 (fileAt (s.2.1++[g]) i)=true/\(fileAt (s.2.1++[g]) i).1<s.2.2.1+1/\(0<i->(fileAt (s.2.1++[g]) (i-1)).1<(fileAt (s.2.1++[g]) i).1);rcases arH i s.2.1.length with hlt|hge
 .obtain⟨k1,k2,k3⟩:=kN.1 (h1 i hlt);rw[O5 hlt];refine⟨k1,by omega,λh0=>?_⟩;rw[O5 (by omega)];exact k3 h0
 .have e:i=s.2.1.length:=by omega
  subst e;rw[aiJ];refine⟨hg,by omega,λh0=>?_⟩;rw[O5 (by omega)];have:=(kN.1 (h1 (s.2.1.length-1) (by omega))).2.1;omega
theorem nR(s:bf)(f:aI):(bJ s f=(s,0,false)/\¬(ak s=true/\s.2.1.length<12/\dm s.1 (s.2.2.1,f.2)=true))\/
 (ak s=true/\s.2.1.length<12/\dm s.1 (s.2.2.1,f.2)=true/\bJ s f=((s.1,s.2.1++[(s.2.2.1,f.2)],s.2.2.1+1,()),s.2.2.1,true)):=by
 by_cases h:ak s=true/\s.2.1.length<12/\dm s.1 (s.2.2.1,f.2)=true
 .right;refine⟨h.1,h.2.1,h.2.2,?_⟩;unfold bJ;dsimp only;rw[h.1,h.2.2,aru (by omega)];rfl
 .left;refine⟨?_,h⟩;have:(ak s&&decide ((s.2.1.length:Int)<12)&&dm s.1 (s.2.2.1,f.2))=false:=by
   cases hb:(ak s&&decide ((s.2.1.length:Int)<12)&&dm s.1 (s.2.2.1,f.2))with
   |false=>rfl
   |true=>simp only[ark,arD]at hb;exact(h ⟨hb.1.1,by omega,hb.2⟩).elim
  unfold bJ;dsimp only;rw[this];rfl
theorem ad9{s:bf}(f:aI)(h:ak s=true):ak (bJ s f).1=true:=by
 rcases nR s f with⟨e,_⟩|⟨h1,h2,h3,e⟩
 .rw[e];exact h
 .rw[e];exact ahW h1 h2 h3 rfl
theorem afX{s:bf}{f:aI}(h:aU s)(hf:jl f):aU (bJ s f).1:=by
 rcases nR s f with⟨e,_⟩|⟨h1,h2,h3,e⟩
 .rw[e];exact h
 .rw[e];refine⟨h.1,by show(s.2.1++[(s.2.2.1,f.2)]).length<=1000;simp;omega,λg hg=>?_⟩;have hg:g∈s.2.1++[(s.2.2.1,f.2)]:=hg;rcases arW.1 hg with hg|hg
  .exact h.2.2 g hg
  .have:g=(s.2.2.1,f.2):=by simpa using hg
   subst this;exact hf
theorem uO(s:bf)(id:Int):(fA s id=(s,false)/\¬(ak s=true/\0<=place s.2.1 id))\/
 ∃n,n<s.2.1.length/\place s.2.1 id=n/\ak s=true/\fA s id=((s.1,s.2.1.eraseIdx n,s.2.2.1,()),true):=by
 rcases IG s.2.1 id with⟨h,_⟩|⟨n,hn,h,_,_⟩
 .left;refine⟨?_,λh'=>by omega⟩;unfold fA;rw[h];simp
 .cases ho:ak s with
  |false=>
   left;refine⟨?_,λh'=>by cases h'.1⟩;unfold fA;rw[ho];rfl
  |true=>right;refine⟨n,hn,h,rfl,?_⟩;unfold fA;rw[ho,h,arx (by omega),arI];rfl
theorem Xi{fs:List aI}{n i:Nat}:fileAt (fs.eraseIdx n) i=if i<n then fileAt fs i else fileAt fs (i+1):=by unfold fileAt;rw[arp,List.getElem?_eraseIdx];split<;>rw[arp]
theorem agf{s:bf}{n:Nat}(h:ak s=true)(hn:n<s.2.1.length):ak (s.1,s.2.1.eraseIdx n,s.2.2.1,())=true:=by
 obtain⟨h1,h2,h3,h4,h5⟩:=jE.1 h;have hlen:(s.2.1.eraseIdx n).length=s.2.1.length-1:=atS hn;refine jE.2 ⟨λi hi=>?_,h2,by show(s.2.1.eraseIdx n).length<=12;omega,h4,h5⟩;have hi:i<(s.2.1.eraseIdx n).length:=hi;refine kN.2 ?_;show dm s.1 (fileAt (s.2.1.eraseIdx n) i)=true/\(fileAt (s.2.1.eraseIdx n) i).1<s.2.2.1/\(0<i->(fileAt (s.2.1.eraseIdx n) (i-1)).1<(fileAt (s.2.1.eraseIdx n) i).1);rw[Xi,Xi];rcases arH i n with hlt|hge
 .rw[if_pos hlt];obtain⟨k1,k2,k3⟩:=kN.1 (h1 i (by omega));refine⟨k1,k2,λh0=>?_⟩;rw[if_pos (by omega)];exact k3 h0
 .rw[if_neg (by omega)];obtain⟨k1,k2,k3⟩:=kN.1 (h1 (i+1) (by omega));refine⟨k1,k2,λh0=>?_⟩;have k3:=k3 (by omega);rw[at6]at k3;split
  .have:=(kN.1 (h1 i (by omega))).2.2 h0;omega
  .rw[show i-1+1=i by omega];exact k3
theorem aea{s:bf}(id:Int)(h:ak s=true):ak (fA s id).1=true:=by
 rcases uO s id with⟨e,_⟩|⟨n,hn,_,ho,e⟩
 .rw[e];exact h
 .rw[e];exact agf ho hn
theorem afY{s:bf}(id:Int)(h:aU s):aU (fA s id).1:=by
 rcases uO s id with⟨e,_⟩|⟨n,hn,_,ho,e⟩
 .rw[e];exact h
 .rw[e];refine⟨h.1,?_,λg hg=>h.2.2 g (List.mem_of_mem_eraseIdx hg)⟩;show(s.2.1.eraseIdx n).length<=1000;have:=h.2.1;rw[atS hn];omega
theorem KR{s:List aI}{f:aI}(h:f∈s):∃i,i<s.length/\fileAt s i=f:=by obtain⟨i,hi,rfl⟩:=asb h;refine⟨i,hi,?_⟩;unfold fileAt;rw[arp,ars hi];rfl
theorem Dx{s:List aI}{i:Nat}(h:i<s.length):fileAt s i∈s:=getD_mem h
theorem alU(s:List aI)(id:Int):place s id<0↔∀f∈s,f.1≠id:=by
 rcases IG s id with⟨h,h2⟩|⟨n,hn,h,h2,_⟩
 .refine⟨λ_ f hf=>?_,λ_=>by omega⟩;obtain⟨i,hi,rfl⟩:=KR hf;exact h2 i hi
 .refine⟨λh'=>by omega,λh'=>(h' _ (Dx hn) h2).elim⟩
theorem Xj(s:bf)(id:Int):(fC s id).2=!decide (place s.2.1 id<0):=by unfold fC;cases decide (place s.2.1 id<0)<;>rfl
theorem aeQ(s:bf)(id:Int):(fC s id).2=true↔∃f∈s.2.1,f.1=id:=by
 rw[Xj,atC,ar1,alU];constructor
 .intro h;refine ar7 λhno=>h λf hf e=>hno ⟨f,hf,e⟩
 .rintro⟨f,hf,e⟩ h;exact h f hf e
theorem adi{s:bf}(h:ak s=true):∀(j i:Nat),i<j->j<s.2.1.length->(fileAt s.2.1 i).1<(fileAt s.2.1 j).1
 |0,i,hi,_=>by omega
 |j+1,i,hi,hj=>by
  have h1:=(kN.1 ((jE.1 h).1 (j+1) hj)).2.2 (by omega);rw[at6]at h1;rcases arH i j with h2|h2
  .have:=adi h j i h2 (by omega);omega
  .have:i=j:=by omega
   rw[this];exact h1
theorem ajh{s:bf}(h:ak s=true){f g:aI}(hf:f∈s.2.1)(hg:g∈s.2.1)(e:f.1=g.1):f=g:=by
 obtain⟨i,hi,rfl⟩:=KR hf;obtain⟨j,hj,rfl⟩:=KR hg;rcases atE i j with h1|h1|h1
 .have:=adi h j i h1 hj;omega
 .rw[h1]
 .have:=adi h i j h1 hi;omega
theorem L8{α:Type}{p:α->Bool}{d:α}:∀(l:List α)(n:Nat),n<=l.length->(∀i,i<n->p (l.getD i d)=true)->(n<l.length->p (l.getD n d)=false)->l.takeWhile p=l.take n/\l.dropWhile p=l.drop n
 |[],n,h,_,_=>by simp
 |x::r,0,_,_,h=>by
  have h:p x=false:=h (by simp);constructor<;>simp[h]
 |x::r,n+1,hn,h1,h2=>by have h0:p x=true:=h1 0 (by omega);have:=L8 r n (by simpa using hn) (λi hi=>h1 (i+1) (by omega)) λhlt=>h2 (by simpa using hlt);constructor<;>simp[h0,this.1,this.2]
theorem aiK{s:bf}{id:Int}(h:(fC s id).2=true):(fC s id).1∈s.2.1/\(fC s id).1.1=id:=by
 rw[Xj,atC,ar1]at h;rcases IG s.2.1 id with⟨h',_⟩|⟨n,hn,h',h2,_⟩
 .omega
 .have e:(fC s id).1=fileAt s.2.1 n:=by unfold fC;rw[arx h,h',arI];rfl
  rw[e];exact⟨Dx hn,h2⟩
theorem ahX{s:bf}{f:aI}(h:ak s=true)(hf:f∈s.2.1):fC s f.1=(f,true):=by have h2:(fC s f.1).2=true:=(aeQ s f.1).2 ⟨f,hf,rfl⟩;obtain⟨h3,h4⟩:=aiK h2;exact atO (ajh h h3 hf h4) h2
end Sp
namespace Sp
open Go Go.Fw
theorem Y6{α:Type}{p:α->Bool}{d:α}:∀(s:List α)(k:Int)(n:Nat),n<s.length->(∀i,i<n->p (s.getD i d)=false)->p (s.getD n d)=true->CQ p k s=k+n
 |[],_,n,h,_,_=>by simp at h
 |f::r,k,0,_,_,he=>by
  have he:p f=true:=he;show(bif p f then k else CQ p (k+1) r)=_;rw[he];simp
 |f::r,k,n+1,h,hne,he=>by have h0:p f=false:=hne 0 (by omega);show(bif p f then k else CQ p (k+1) r)=_;rw[h0];show CQ p (k+1) r=_;rw[Y6 r (k+1) n (by simpa using h) (λi hi=>hne (i+1) (by omega)) he];omega
theorem TL{α:Type}{p:α->Bool}{d:α}:∀(s:List α)(k:Int),(∀i,i<s.length->p (s.getD i d)=false)->CQ p k s=-1
 |[],_,_=>rfl
 |f::r,k,hne=>by have h0:p f=false:=hne 0 (by simp);show(bif p f then k else CQ p (k+1) r)=_;rw[h0];exact TL r (k+1) λi hi=>hne (i+1) (by simp;omega)
theorem afB{α:Type}{p:α->Bool}{d:α}{s:List α}{n:Nat}(h:n<s.length)(hne:∀i,i<n->p (s.getD i d)=false)(he:p (s.getD n d)=true):findAt p s=n:=by unfold findAt;rw[Y6 s 0 n h hne he];omega
theorem Y7{α:Type}{p:α->Bool}{d:α}{s:List α}(hne:∀i,i<s.length->p (s.getD i d)=false):findAt p s=-1:=TL s 0 hne
theorem GL{α:Type}(p:α->Bool)(d:α)(s:List α):(findAt p s=-1/\∀i,i<s.length->p (s.getD i d)=false)\/∃n,n<s.length/\findAt p s=n/\p (s.getD n d)=true/\∀i,i<n->p (s.getD i d)=false:=by
 by_cases h:∃n,n<s.length/\p (s.getD n d)=true
 .obtain⟨n,h1,h2,h3⟩:=least s.length (p:=λn=>p (s.getD n d)=true) h;have h3:∀i,i<n->p (s.getD i d)=false:=λi hi=>by simpa using h3 i hi
  exact .inr ⟨n,h1,afB h1 h3 h2,h2,h3⟩
 .have hne:∀i,i<s.length->p (s.getD i d)=false:=λi hi=>by
   cases hp:p (s.getD i d)with
   |false=>rfl
   |true=>exact(h ⟨i,hi,hp⟩).elim
  exact .inl ⟨Y7 hne,hne⟩
theorem IU:∀a:Bytes,Op.bytesLess a a=false
 |[]=>rfl
 |x::a=>by show(decide (x<x)||(x==x&&Op.bytesLess a a))=false;rw[IU a,arx (UInt8.lt_irrefl x),ar9];rfl
theorem Sl:∀a b:Bytes,Op.bytesLess a b=false->a≠b->Op.bytesLess b a=true
 |[],[],_,h=>(h rfl).elim
 |x::a,[],_,_=>rfl
 |[],y::b,h,_=>by cases h
 |x::a,y::b,h,hne=>by
  have h:(decide (x<y)||(x==y&&Op.bytesLess a b))=false:=h;show(decide (y<x)||(y==x&&Op.bytesLess b a))=true;rw[asW,ar1]at h;by_cases e:x=y
  .subst e;have h2:Op.bytesLess a b=false:=by simpa using h.2
   rw[Sl a b h2 (λe=>hne (by rw[e]))];simp
  .have:y<x:=by have h1:¬x.toNat<y.toNat:=λhh=>h.1 (auo.2 hh);have h2:x.toNat≠y.toNat:=λhh=>e (UInt8.toNat_inj.1 hh);exact auo.2 (by omega)
   rw[aru this];rfl
theorem alV{x y:UInt8}{a b:Bytes}:Op.bytesLess (x::a) (y::b)=true↔x.toNat<y.toNat\/(x=y/\Op.bytesLess a b=true):=by show(decide (x<y)||(x==y&&Op.bytesLess a b))=true↔_;rw[asv,arD,ark,arA,auo]
theorem Dw:∀a b c:Bytes,Op.bytesLess a b=true->Op.bytesLess b c=true->Op.bytesLess a c=true
 |_,[],_,h,_=>by cases h':(‹Bytes›:Bytes)<;>simp_all [Op.bytesLess]
 |_,_::_,[],_,h=>by cases h
 |[],_::_,_::_,_,_=>rfl
 |x::a,y::b,z::c,h1,h2=>by
  rw[alV]at h1 h2 ⊢;rcases h1 with h1|⟨rfl,h1⟩
  .rcases h2 with h2|⟨rfl,h2⟩
   .exact .inl (by omega)
   .exact .inl h1
  .rcases h2 with h2|⟨rfl,h2⟩
   .exact .inl h2
   .exact .inr ⟨rfl,Dw a b c h1 h2⟩
theorem Qr{a b:Bytes}(h:Op.bytesLess a b=true):a≠b:=λe=>by rw[e,IU]at h;cases h
theorem akD{a b:Bytes}(h:Op.bytesLess a b=true):Op.bytesLess b a=false:=by
 cases hb:Op.bytesLess b a with
 |false=>rfl
 |true=>have:=Dw a b a h hb;rw[IU]at this;cases this
theorem aaw(a b:Bytes):(!(Op.bytesLess a b||a==b))=Op.bytesLess b a:=by
 cases h:Op.bytesLess a b with
 |true=>rw[akD h];rfl
 |false=>
  by_cases e:a=b
  .subst e;rw[IU];simp
  .rw[Sl a b h e];simp[e]
theorem MS{s:List dD}:dF s=true↔(∀i,i<s.length->jh s i=true)/\s.length<=5:=by unfold dF;rw[ark,O4,arD];exact atl λ_=>by omega
theorem JC{s:List dD}{i:Nat}:jh s i=true↔jd (fieldAt s i).1=true/\(1<=(fieldAt s i).2.1/\(fieldAt s i).2.1<=2)/\(0<i->Op.bytesLess (fieldAt s (i-1)).1 (fieldAt s i).1=true):=by
 unfold jh;rw[ark,ark,ark,arD,arD,and_assoc];refine atl λ_=>atl λ_=>?_;by_cases h:0<i
 .simp[h]
 .simp[h]
theorem ahO{s:List dD}{name:Bytes}(h:dF s=true):(decide (kindOf s name=0))=decide (fieldPlace s name<0):=by
 rcases GL (λf:dD=>f.1==name) ([],0,()) s with⟨e,hn⟩|⟨n,hn,e,he,hne⟩
 .have e:fieldPlace s name=-1:=e;rw[e,IB s λi hi=>by simpa using hn i hi];rfl
 .have e:fieldPlace s name=n:=e;have k:=(JC.1 ((MS.1 h).1 n hn)).2.1;unfold fieldAt at k;rw[e,NT s n hn (λi hi=>by simpa using hne i hi) (by simpa using he),arx (by omega),arx (by omega)]
end Sp
namespace Sp
open Go
def nameOf(d:List aN)(i:Nat):Bytes:=(dM d i).1
def fU(d:List aN)(i:Nat):List bM:=(dM d i).2.1
def qE(r:List dh)(i:Nat):dh:=r.getD i ([],[],())
def gZ(r:List dh)(i:Nat):List (Int×Unit):=(qE r i).2.1
def jL(d:List aN)(ay:List (Int×Unit)):Prop:=
 ay.length=d.length/\(∀i,i<d.length->0<=lv ay i/\lv ay i<=d.length)/\(iH (dK d) λi=>(lv ay i).toNat)/\∀M,iH (dK d) M->∀i,i<d.length->lv ay i<=M i
theorem Wn{d:List aN}{a b:List (Int×Unit)}(h1:jL d a)(h2:jL d b):a=b:=by
 refine alA (h1.1.trans h2.1.symm) λi hi=>?_;have hi:i<d.length:=by rw[← h1.1];exact hi
 have a1:=h1.2.2.2 _ h2.2.2.1 i hi;have a2:=h2.2.2.2 _ h1.2.2.1 i hi;have:=(h1.2.1 i hi).1;have:=(h2.2.1 i hi).1;omega
theorem akl{d:List aN}(h:∃M,iH (dK d) M/\∀i,i<d.length->M i<d.length):∃s,jL d s:=by
 have hE:=jX d;have hmin:∀i,∃m,(∃M,iH (dK d) M/\M i=m)/\∀M,iH (dK d) M->m<=M i:=λi=>by
  obtain⟨M0,h0,_⟩:=h;have:∀n,(∃M,iH (dK d) M/\M i=n)->∃m,(∃M,iH (dK d) M/\M i=m)/\∀M,iH (dK d) M->m<=M i:=by
   intro n
   induction n using Nat.strongRecOn with
   |_ n ih=>
    intro hn;by_cases hl:∃M,iH (dK d) M/\M i<n
    .obtain⟨M,h1,h2⟩:=hl;exact ih _ h2 ⟨M,h1,rfl⟩
    .exact⟨n,hn,λM hM=>Nat.le_of_not_lt λhlt=>hl ⟨M,hM,hlt⟩⟩
  exact this (M0 i) ⟨M0,h0,rfl⟩
 obtain⟨L,hL⟩:=Classical.axiomOfChoice hmin;have hfix:iH (dK d) L:=λe he=>by obtain⟨⟨M,h1,h2⟩,_⟩:=hL e.1;have a:=(hL e.2.1).2 M h1;have b:=h1 e he;rw[← h2];omega
 have hlv:∀i,i<d.length->lv ((List.range d.length).map λi=>((L i:Int),())) i=L i:=λi hi=>by unfold lv;rw[arp,asA,List.getElem?_range hi];rfl
 refine⟨(List.range d.length).map λi=>((L i:Int),()),by simp,λi hi=>?_,λe he=>?_,λM hM i hi=>?_⟩
 .rw[hlv i hi];obtain⟨M,h1,h2⟩:=h;have:=(hL i).2 M h1;have:=h2 i hi;omega
 .obtain⟨h1,h2,_⟩:=hE e he;have:=hfix e he;dsimp only;rw[hlv _ h1,hlv _ h2];omega
 .rw[hlv i hi];have:=(hL i).2 M hM;omega
def JD(d:List aN)(ay:List (Int×Unit))(s:Bytes):Nat:=(lv ay (aJ d s).toNat).toNat
def due(d:List aN)(nm:Bytes->Bool)(s:Bytes):Prop:=nm s=true/\∃i,i<d.length/\nameOf d i=s
theorem alW{d:List aN}(h:gy d=true){i:Nat}(hi:i<d.length):bF (fU d i)=true/\(0<i->Op.bytesLess (nameOf d (i-1)) (nameOf d i)=true):=by
 unfold gy at h;rw[ark]at h;have h1:lG d i=true:=by have:=h.1;unfold jc at this;exact arK.1 this i (ast.2 hi)
 unfold lG at h1;rw[ark,ark]at h1;refine⟨h1.1.2,λh0=>?_⟩;have:=h1.2;rw[aru h0]at this;simpa[nameOf]using this
theorem aeR{d:List aN}(h:gy d=true):∀(j i:Nat),i<j->j<d.length->Op.bytesLess (nameOf d i) (nameOf d j)=true
 |0,i,hi,_=>by omega
 |j+1,i,hi,hj=>by
  have h1:=(alW h hj).2 (by omega);rcases arH i j with h2|h2
  .exact Dw _ _ _ (aeR h j i h2 (by omega)) h1
  .have:i=j:=by omega
   subst this;exact h1
theorem aaQ{d:List aN}(h:gy d=true){i j:Nat}(hi:i<d.length)(hj:j<d.length)(e:nameOf d i=nameOf d j):i=j:=by
 rcases atE i j with h1|h1|h1
 .exact(Qr (aeR h j i h1 hj) e).elim
 .exact h1
 .exact(Qr (aeR h i j h1 hi) e.symm).elim
theorem Td{d:List aN}(h:gy d=true){i:Nat}(hi:i<d.length):aJ d (nameOf d i)=i:=by
 rcases Dy d (nameOf d i)with⟨_,h2⟩|⟨n,h1,h2,h3,_⟩
 .refine(h2 (dM d i) ?_ rfl).elim;unfold dM;rw[arp,ars hi];exact asF hi
 .rw[h2,aaQ h h1 hi h3]
theorem xH{d:List aN}(h:gy d=true){ay:List (Int×Unit)}{i:Nat}(hi:i<d.length):JD d ay (nameOf d i)=(lv ay i).toNat:=by unfold JD;rw[Td h hi];rfl
theorem aaR{fs:List aI}{d:List aN}(h:gy d=true){ay:List (Int×Unit)}(hl:jL d ay)(nm:Bytes->Bool):ags (Oe fs d) (due d nm) (JD d ay):=by
 intro s t _ ht;obtain⟨_,j,hj,rfl⟩:=ht;have edge:∀i,i<d.length->∀m b,(m=0/\b=false\/m=1/\b=true)->nameOf d j∈eU (fU d i) b->(lv ay j).toNat+m<=(lv ay i).toNat:=λi hi m b hm hd=>by
  refine hl.2.2.1 (i,j,m) (CB.2 ⟨hi,nameOf d j,?_,by rw[Td h hj];omega,by rw[Td h hj];rfl⟩);rcases hm with⟨a,b⟩|⟨a,b⟩
  .subst a b;exact .inl ⟨rfl,hd⟩
  .subst a b;exact .inr ⟨rfl,hd⟩
 refine⟨?_,?_⟩
 .rintro⟨i,hi,rfl,hd⟩;rw[show(dM d i).1=nameOf d i from rfl,xH h hi,xH h hj];exact edge i hi 0 false (.inl ⟨rfl,rfl⟩) hd
 .rintro⟨i,hi,rfl,hd⟩;rw[show(dM d i).1=nameOf d i from rfl,xH h hi,xH h hj];exact edge i hi 1 true (.inr ⟨rfl,rfl⟩) hd
def tJ(d:List aN)(out:List dh):Prop:=out.length=d.length/\∀i,i<d.length->(qE out i).1=nameOf d i
theorem IC:∀{r:List dh}{s:Bytes},(∀i,i<r.length->(qE r i).1≠s)->eG r s=[]
 |[],_,_=>rfl
 |x::r,s,h=>by have h0:x.1≠s:=h 0 (by simp);rw[eG,arn.2 h0];exact IC λi hi=>h (i+1) (by simpa using hi)
theorem V7:∀{r:List dh}{i:Nat},i<r.length->(∀j,j<i->(qE r j).1≠(qE r i).1)->eG r (qE r i).1=gZ r i
 |[],i,h,_=>by simp at h
 |x::r,0,_,_=>by
  show eG (x::r) x.1=x.2.1;rw[eG,arA.2 rfl];rfl
 |x::r,i+1,h,hn=>by have h0:x.1≠(qE r i).1:=hn 0 (by omega);show eG (x::r) (qE r i).1=gZ r i;rw[eG,arn.2 h0];exact V7 (by simpa using h) λj hj=>hn (j+1) (by omega)
theorem Ae{d:List aN}(h:gy d=true){out:List dh}(ho:tJ d out){i:Nat}(hi:i<d.length):eG out (nameOf d i)=gZ out i:=by rw[← ho.2 i hi];refine V7 (by rw[ho.1];exact hi) λj hj e=>?_;rw[ho.2 j (by omega),ho.2 i hi]at e;have:=aaQ h (by omega) hi e;omega
theorem Og{d:List aN}{out:List dh}(ho:tJ d out){s:Bytes}(hs:∀i,i<d.length->nameOf d i≠s):eG out s=[]:=
 IC λi hi=>by rw[ho.1]at hi;rw[ho.2 i hi];exact hs i hi
structure gX(fs:List aI)(d:List aN)(r:List dh)(nm:Bytes->Bool)(out:List dh):Prop where
 order:tJ d out
 kept:∀i,i<d.length->nm (nameOf d i)=false->gZ out i=eG r (nameOf d i)
 fix:∀i,i<d.length->nm (nameOf d i)=true->gZ out i=sel fs (fU d i) (bg out)
 ay:∃ay,jL d ay/\Eval (Oe fs d) (due d nm) (JD d ay) (bg out)
theorem XL{a b:List (Int×Unit)}(h:a=b)(x:Int):eF a x=eF b x:=by rw[h]
theorem anJ{d:List aN}{a b:List dh}(ha:tJ d a)(hb:tJ d b)(h:∀i,i<d.length->gZ a i=gZ b i):a=b:=by
 refine atK (ha.1.trans hb.1.symm) λi h1 h2=>?_;have hi:i<d.length:=by rw[← ha.1];exact h1
 have e1:=ha.2 i hi;have e2:=hb.2 i hi;have e3:=h i hi;unfold gZ at e3;unfold qE at e1 e2 e3;rw[arp,ars h1]at e1 e3;rw[arp,ars h2]at e2 e3;simp only[auj]at e1 e2 e3;exact atO (e1.trans e2.symm) (atO e3 rfl)
theorem MH{fs:List aI}{d:List aN}{r:List dh}{nm:Bytes->Bool}{a b:List dh}(h:gy d=true)(ha:gX fs d r nm a)(hb:gX fs d r nm b):a=b:=by
 obtain⟨l1,hl1,e1⟩:=ha.ay;obtain⟨l2,hl2,e2⟩:=hb.ay;have off:∀s,¬due d nm s->∀x,bg a s x=bg b s x:=λs hs x=>by
  by_cases hd:∃i,i<d.length/\nameOf d i=s
  .obtain⟨i,hi,rfl⟩:=hd;have hn:nm (nameOf d i)=false:=by rw[atn];exactλhn=>hs ⟨hn,i,hi,rfl⟩
   exact XL (by rw[Ae h ha.order hi,Ae h hb.order hi,ha.kept i hi hn,hb.kept i hi hn]) x
  .have hd':∀i,i<d.length->nameOf d i≠s:=λi hi e=>hd ⟨i,hi,e⟩;exact XL (by rw[Og ha.order hd',Og hb.order hd']) x
 have key:=aiH (U:=due d nm) e1 e2 (aaR h hl1 nm) (aaR h hl2 nm) (λ_ h=>h) (λ_ h=>h) (λ_ _ _ _=>Iff.rfl) (λ_ _ _ h=>h) (λ_ _ _ h=>h)
  λi _ j _=>Classical.or_iff_not_imp_left.2 (off j)
 have all:bg a=bg b:=by
  funext s x
  by_cases hs:due d nm s
  .exact key s hs x
  .exact off s hs x
 refine anJ ha.order hb.order λi hi=>?_;cases hn:nm (nameOf d i)with
 |false=>rw[ha.kept i hi hn,hb.kept i hi hn]
 |true=>rw[ha.fix i hi hn,hb.fix i hi hn,all]
def XM{ι α:Type}(S:Sys ι α)(N:ι->Prop)(ay:ι->Nat)(k:Nat)(X:Ext ι α):Prop:=
 ∀Y:Ext ι α,(∀i,¬(N i/\ay i=k)->∀x,Y i x=X i x)->(∀i,N i->ay i=k->∀x,S.T i Y x->Y i x=true)->∀i,N i->ay i=k->∀x,X i x=true->Y i x=true
open Classical in
theorem aeS{ι α:Type}{S:Sys ι α}{N:ι->Prop}{ay:ι->Nat}(hs:ags S N ay){m:Nat}{X X':Ext ι α}(h:∀i,¬(N i/\m<ay i)->∀x,X i x=X' i x)(hX:XM S N ay m X):XM S N ay m X':=by
 intro Y hY hp i hi hl x hx;have key:=hX (λi x=>if N i/\m<ay i then X i x else Y i x) (λj hj y=>?_) (λj hj hlj y hy=>?_) i hi hl x (by rw[h i (by omega)];exact hx)
 .rw[if_neg (by omega)]at key;exact key
 .by_cases hc:N j/\m<ay j
  .rw[if_pos hc]
  .rw[if_neg hc,hY j hj,h j hc]
 .rw[if_neg (by omega)];have same:∀t,(S.pos j t\/S.neg j t)->¬(N t/\m<ay t):=λt ht hc=>by
   rcases ht with ht|ht
   .have:=(hs j t hj hc.1).1 ht;omega
   .have:=(hs j t hj hc.1).2 ht;omega
  refine hp j hj hlj y (S.mono j _ Y (λt ht z hz=>?_) (λt ht z=>?_) y hy)
  .rw[if_neg (same t (.inl ht))]at hz;exact hz
  .rw[if_neg (same t (.inr ht))]
def canon(fs:List aI)(l:List (Int×Unit)):Prop:=l=(fs.filter λf=>eF l f.1).map λf=>(f.1,())
def distinct(fs:List aI):Prop:=∀f∈fs,∀g∈fs,f.1=g.1->f=g
theorem alX{fs:List aI}(hd:distinct fs)(q:List bM)(X:BX):canon fs (sel fs q X):=by
 show _=List.map _ (List.filter _ _)
 conv=>lhs;unfold sel
 congr 1;apply auI;intro f hf;rw[arR,FI,aeP];exact⟨λh=>⟨f,hf,rfl,h⟩,λ⟨g,hg,e,hm⟩=>by rw[hd f hf g hg e.symm];exact hm⟩
theorem afC{fs:List aI}{l:List (Int×Unit)}(h:canon fs l):l.length<=fs.length:=by rw[h,arB];exact asn _ _
theorem filter_lt{α:Type}{p q:α->Bool}(h:∀x,p x=true->q x=true):∀{l:List α},(∃x∈l,q x=true/\p x=false)->(l.filter p).length<(l.filter q).length
 |[],h'=>by obtain⟨x,hx,_⟩:=h';cases hx
 |y::r,h'=>by
  have le:(r.filter p).length<=(r.filter q).length:=by
   clear h'
   induction r with
   |nil=>exact arF _
   |cons z t ih=>
    cases hp:p z with
    |true=>rw[asz hp,asz (h z hp)];simpa using ih
    |false=>
     rw[asP (by simp[hp])];cases hq:q z with
     |true=>rw[asz hq];exact Nat.le_succ_of_le ih
     |false=>rw[asP (by simp[hq])];exact ih
  obtain⟨x,hx,hq,hp⟩:=h';rcases arU.1 hx with rfl|hx
  .rw[asz hq,asP (by simp[hp])];exact Nat.lt_succ_of_le le
  .have ih:=filter_lt h ⟨x,hx,hq,hp⟩;cases hp':p y with
   |true=>rw[asz hp',asz (h y hp')];simpa using ih
   |false=>
    rw[asP (by simp[hp'])];cases hq':q y with
    |true=>rw[asz hq'];exact ato ih
    |false=>rw[asP (by simp[hq'])];exact ih
theorem akE{fs:List aI}{a b:List (Int×Unit)}(ha:canon fs a)(hb:canon fs b)(h:∀x,eF a x=true->eF b x=true)(hne:b≠a):a.length<b.length:=by
 rw[ha,hb,arB,arB];refine filter_lt (p:=λf:aI=>eF a f.1) (q:=λf:aI=>eF b f.1) (λf=>h f.1) (ar7 λhno=>hne ?_);rw[ha,hb];congr 1;apply auI;intro f hf;cases hb':eF b f.1 with
 |false=>
  cases ha':eF a f.1 with
  |false=>rfl
  |true=>rw[h _ ha']at hb';cases hb'
 |true=>
  cases ha':eF a f.1 with
  |true=>rfl
  |false=>exact(hno ⟨f,hf,hb',ha'⟩).elim
structure mG(fs:List aI)(d:List aN)(r:List dh)(nm:Bytes->Bool)(ay:List (Int×Unit))(k:Nat)(out:List dh):Prop where
 order:tJ d out
 kept:∀i,i<d.length->nm (nameOf d i)=false->gZ out i=eG r (nameOf d i)
 later:∀i,i<d.length->nm (nameOf d i)=true->(k:Int)<lv ay i->gZ out i=[]
 done:∀i,i<d.length->nm (nameOf d i)=true->lv ay i<k->gZ out i=sel fs (fU d i) (bg out)
 Xk:∀m,m<k->XM (Oe fs d) (due d nm) (JD d ay) m (bg out)
 ahY:∀i,i<d.length->nm (nameOf d i)=true->lv ay i=k->∀x,eF (gZ out i) x=true->(x,())∈sel fs (fU d i) (bg out)
 least:XM (Oe fs d) (due d nm) (JD d ay) k (bg out)
 canon:∀i,i<d.length->nm (nameOf d i)=true->canon fs (gZ out i)
theorem amJ{fs:List aI}{d:List aN}{r:List dh}{nm:Bytes->Bool}{ay:List (Int×Unit)}(h:gy d=true)(hl:jL d ay){out:List dh}(ho:tJ d out)
 (h1:∀i,i<d.length->nm (nameOf d i)=false->gZ out i=eG r (nameOf d i)) (h2:∀i,i<d.length->nm (nameOf d i)=true->gZ out i=[]):mG fs d r nm ay 0 out where
 order:=ho
 kept:=h1
 later:=λi hi hn _=>h2 i hi hn
 done:=λi hi _ hlt=>by have:=(hl.2.1 i hi).1;omega
 Xk:=λm hm=>by omega
 ahY:=λi hi hn _ x hx=>by rw[h2 i hi hn]at hx;cases hx
 least:=λY _ _ s hs _ x hx=>by obtain⟨hn,i,hi,rfl⟩:=hs;have hx:eF (eG out (nameOf d i)) x=true:=hx;rw[Ae h ho hi,h2 i hi hn]at hx;cases hx
 canon:=λi hi hn=>by rw[h2 i hi hn];show[]=List.map _ (List.filter _ _);rw[List.filter_eq_nil_iff.2 (λf _=>by simp[eF])];rfl
theorem Oh{out:List dh}{i j:Nat}{x:dh}(hi:i<out.length):qE (out.set i x) j=if j=i then x else qE out j:=by
 unfold qE;rw[arp,atD];by_cases h:j=i
 .subst h;rw[if_pos rfl,if_pos hi,if_pos rfl];rfl
 .rw[if_neg (λe=>h e.symm),if_neg h,← arp]
theorem afD{d:List aN}{out:List dh}(ho:tJ d out){i:Nat}(hi:i<d.length)(l:List (Int×Unit)):tJ d (out.set i (nameOf d i,l,())):=by
 refine⟨by rw[arP];exact ho.1,λj hj=>?_⟩;rw[Oh (by rw[ho.1];exact hi)];split
 .next e=>rw[e]
 .exact ho.2 j hj
theorem alY{d:List aN}(h:gy d=true){out:List dh}(ho:tJ d out){i:Nat}(hi:i<d.length)(l:List (Int×Unit)):
 (∀x,bg (out.set i (nameOf d i,l,())) (nameOf d i) x=eF l x)/\∀s,s≠nameOf d i->∀x,bg (out.set i (nameOf d i,l,())) s x=bg out s x:=by
 have ho':=afD ho hi l;refine⟨λx=>?_,λs hs x=>?_⟩
 .refine XL ?_ x;rw[Ae h ho' hi];unfold gZ;rw[Oh (by rw[ho.1];exact hi),if_pos rfl]
 .refine XL ?_ x;by_cases hd:∃j,j<d.length/\nameOf d j=s
  .obtain⟨j,hj,rfl⟩:=hd;rw[Ae h ho' hj,Ae h ho hj];unfold gZ;rw[Oh (by rw[ho.1];exact hi),if_neg (λe=>hs (by rw[e]))]
  .have hd':∀i,i<d.length->nameOf d i≠s:=λi hi e=>hd ⟨i,hi,e⟩;rw[Og ho' hd',Og ho hd']
theorem agt{fs:List aI}{d:List aN}(h:gy d=true){i:Nat}(hi:i<d.length){X:BX}{x:Int}:(Oe fs d).T (nameOf d i) X x↔(x,())∈sel fs (fU d i) X:=by
 constructor
 .rintro⟨j,hj,e,hx⟩;have:=aaQ h hj hi e;subst this;exact hx
 .exactλhx=>⟨i,hi,rfl,hx⟩
theorem at_set{fs:List aI}{d:List aN}{r:List dh}{nm:Bytes->Bool}{ay:List (Int×Unit)}{k:Nat}{out:List dh}(h:gy d=true)(hl:jL d ay)(hf:distinct fs)(A:mG fs d r nm ay k out){i:Nat}(hi:i<d.length)(hn:nm (nameOf d i)=true)(hk:lv ay i=k):
 mG fs d r nm ay k (out.set i (nameOf d i,sel fs (fU d i) (bg out),()))/\(sel fs (fU d i) (bg out)≠gZ out i->(gZ out i).length<(sel fs (fU d i) (bg out)).length)/\(sel fs (fU d i) (bg out)).length<=fs.length:=by
 have hc:=alX hf (fU d i) (bg out);have hol:i<out.length:=by rw[A.order.1];exact hi
 have hs:=aaR (fs:=fs) h hl nm;have hd:due d nm (nameOf d i):=⟨hn,i,hi,rfl⟩;have hlv:JD d ay (nameOf d i)=k:=by rw[xH h hi,hk];rfl
 obtain⟨g1,g2⟩:=alY h A.order hi (sel fs (fU d i) (bg out));have up:∀s x,bg out s x=true->bg (out.set i (nameOf d i,sel fs (fU d i) (bg out),())) s x=true:=λs x hx=>by
  by_cases e:s=nameOf d i
  .subst e;rw[g1,FI];refine A.ahY i hi hn hk x ?_;have hx:eF (eG out (nameOf d i)) x=true:=hx;rw[Ae h A.order hi]at hx;exact hx
  .rw[g2 s e];exact hx
 have off:∀s,¬(due d nm s/\JD d ay s=k)->∀x,bg out s x=bg (out.set i (nameOf d i,sel fs (fU d i) (bg out),())) s x:=λs hs' x=>(g2 s (λe=>hs' (by rw[e];exact⟨hd,hlv⟩)) x).symm;have ids:∀j,gZ (out.set i (nameOf d i,sel fs (fU d i) (bg out),())) j=if j=i then sel fs (fU d i) (bg out)else gZ out j:=λj=>by unfold gZ;rw[Oh hol];split<;>rfl
 refine⟨⟨afD A.order hi _,λj hj Qz=>?_,λj hj Qz hlj=>?_,λj hj Qz hlj=>?_,λm hm=>?_,λj hj Qz hlj x hx=>?_,?_,λj hj Qz=>?_⟩,λhne=>?_,afC hc⟩
 .rw[ids,if_neg (λe=>by rw[e,hn]at Qz;cases Qz)];exact A.kept j hj Qz
 .rw[ids,if_neg (λe=>by rw[e,hk]at hlj;omega)];exact A.later j hj Qz hlj
 .rw[ids,if_neg (λe=>by rw[e,hk]at hlj;omega),A.done j hj Qz hlj];refine alS λb s hsd x=>off s (λhc=>?_) x;have hdj:due d nm (nameOf d j):=⟨Qz,j,hj,rfl⟩;have:=hs (nameOf d j) s hdj hc.1;have ap8:JD d ay (nameOf d j)<k:=by rw[xH h hj];have:=(hl.2.1 j hj).1;omega
  cases b with
  |false=>have:=this.1 ⟨j,hj,rfl,hsd⟩;omega
  |true=>have:=this.2 ⟨j,hj,rfl,hsd⟩;omega
 .exact aeS hs (λs hs'=>off s λhc=>hs' ⟨hc.1,by omega⟩) (A.Xk m hm)
 .have hT:(Oe fs d).T (nameOf d j) (bg out) x:=by
   rw[agt h hj];rw[ids]at hx;by_cases e:j=i
   .rw[if_pos e,FI]at hx;rw[e];exact hx
   .rw[if_neg e]at hx;exact A.ahY j hj Qz hlj x hx
  rw[← agt h hj];refine(Oe fs d).mono _ _ _ (λs _=>up s) (λs hsd=>off s λhc=>?_) x hT;have:=(hs (nameOf d j) s ⟨Qz,j,hj,rfl⟩ hc.1).2 hsd;have ap8:JD d ay (nameOf d j)=k:=by rw[xH h hj,hlj];rfl
  omega
 .intro Y hY hp s hsd hls x hx;have Ve:∀t,¬(due d nm t/\JD d ay t=k)->∀x,Y t x=bg out t x:=λt ht x=>(hY t ht x).trans (off t ht x).symm;have base:=A.least Y Ve hp;by_cases e:s=nameOf d i
  .subst e;rw[g1,FI,← agt h hi]at hx;refine hp _ hsd hls x ((Oe fs d).mono _ _ _ (λt _ y hy=>?_) (λt ht y=>?_) x hx)
   .by_cases ht:due d nm t/\JD d ay t=k
    .exact base t ht.1 ht.2 y hy
    .rw[Ve t ht];exact hy
   .refine(Ve t (λhc=>?_) y).symm;have:=(hs (nameOf d i) t hd hc.1).2 ht;omega
  .rw[g2 s e]at hx;exact base s hsd hls x hx
 .rw[ids];split
  .exact hc
  .exact A.canon j hj Qz
 .refine akE (A.canon i hi hn) hc (λx hx=>?_) hne;rw[FI];exact A.ahY i hi hn hk x hx
theorem at_next{fs:List aI}{d:List aN}{r:List dh}{nm:Bytes->Bool}{ay:List (Int×Unit)}{k:Nat}{out:List dh}(h:gy d=true)(A:mG fs d r nm ay k out)(hstill:∀i,i<d.length->nm (nameOf d i)=true->lv ay i=k->sel fs (fU d i) (bg out)=gZ out i):mG fs d r nm ay (k+1) out where
 order:=A.order
 kept:=A.kept
 later:=λi hi hn hlt=>A.later i hi hn (by omega)
 done:=λi hi hn hlt=>by
  by_cases e:lv ay i=k
  .exact(hstill i hi hn e).symm
  .exact A.done i hi hn (by omega)
 Xk:=λm hm=>by
  by_cases e:m=k
  .subst e;exact A.least
  .exact A.Xk m (by omega)
 ahY:=λi hi hn hl x hx=>by rw[A.later i hi hn (by omega)]at hx;cases hx
 least:=λY _ _ s hs hls x hx=>by obtain⟨hn,i,hi,rfl⟩:=hs;rw[xH h hi]at hls;have hx:eF (eG out (nameOf d i)) x=true:=hx;rw[Ae h A.order hi,A.later i hi hn (by omega)]at hx;cases hx
 canon:=A.canon
theorem at_end{fs:List aI}{d:List aN}{r:List dh}{nm:Bytes->Bool}{ay:List (Int×Unit)}{k:Nat}{out:List dh}(h:gy d=true)(hl:jL d ay)(A:mG fs d r nm ay k out)(hk:∀i,i<d.length->lv ay i<k):gX fs d r nm out where
 order:=A.order
 kept:=A.kept
 fix:=λi hi hn=>A.done i hi hn (hk i hi)
 ay:=⟨ay,hl,{
  fix:=λs hs x=>by obtain⟨hn,i,hi,rfl⟩:=hs;rw[agt h hi,← A.done i hi hn (hk i hi),← FI,← Ae h A.order hi];rfl
  least:=λm Y hY hp s hs hls=>by
   have hm:m<k:=by obtain⟨hn,i,hi,rfl⟩:=hs;rw[xH h hi]at hls;have:=hk i hi;have:=(hl.2.1 i hi).1;omega
   exact A.Xk m hm Y hY hp s hs hls}⟩
def room(n:Nat)(out:List dh):Nat:=(out.map λx=>n-x.2.1.length).sum
theorem aaS{n:Nat}:∀{out:List dh}{i:Nat}{x:dh},i<out.length->(gZ out i).length<x.2.1.length->x.2.1.length<=n->room n (out.set i x)<room n out
 |[],i,x,h,_,_=>by simp at h
 |y::r,0,x,_,h1,h2=>by
  have h1:y.2.1.length<x.2.1.length:=h1;show((x::r).map λx=>n-x.2.1.length).sum<((y::r).map λx=>n-x.2.1.length).sum;rw[arS,atw,arS,atw];omega
 |y::r,i+1,x,h,h1,h2=>by have ih:=aaS (out:=r) (i:=i) (x:=x) (by simpa using h) h1 h2;show((y::r.set i x).map λx=>n-x.2.1.length).sum<((y::r).map λx=>n-x.2.1.length).sum;rw[arS,atw,arS,atw];unfold room at ih;omega
end Sp
namespace Sp
open Go
abbrev II:=Bytes×List (Int×Unit)×List (Int×Unit)×Unit
abbrev jG:=List dD×List aI×Int×List aN×List dh×Unit
instance:DecidableEq (List (Int×Unit)):=inferInstance
instance:DecidableEq dh:=inferInstance
instance:DecidableEq (List dh):=inferInstance
instance:DecidableEq (List dh×Unit):=inferInstance
instance:DecidableEq (List aN×List dh×Unit):=inferInstance
instance:DecidableEq (Int×List aN×List dh×Unit):=inferInstance
instance:DecidableEq (List aI×Int×List aN×List dh×Unit):=inferInstance
instance aq7:DecidableEq jG:=(inferInstance:DecidableEq (List dD×List aI×Int×List aN×List dh×Unit))
def gm(l:LS)(s:Bytes):Bool:=l.any λx=>x.1==s
theorem aan{l:LS}{s:Bytes}:gm l s=true↔(s,())∈l:=by unfold gm;rw[atr];exact⟨λ⟨y,hy,h⟩=>by rw[← arA.1 h];exact hy,λh=>⟨_,h,arA.2 rfl⟩⟩
def aY(r:List dh):Prop:=r.length<=1000/\∀x∈r,x.2.1.length<=1000
def dX(c:jG):bf:=(c.1,c.2.1,c.2.2.1,())
def je(c:jG):List aN:=c.2.2.2.1
def CJ(c:jG):List dh:=c.2.2.2.2.1
def kJ(c:jG):Prop:=aU (dX c)/\aX (je c)/\aY (CJ c)
def ao6(f:aI):Prop:=f.2.2.2.2.1.length<=500
def ao1(c:jG):Prop:=∀f∈c.2.1,ao6 f
def iw(d:List aN):LS:=d.map λx=>(x.1,())
def UU(d:List aN)(m:Int):Prop:=m<=1000/\∀ay,au d=true->jL d ay->∀i,i<d.length->lv ay i<=m
open Classical in
noncomputable def iM (c:jG):Bool:=au (je c)&&ak (dX c)&&decide (gX c.2.1 (je c) [] (λ_=>true) (CJ c))
def aco(q:List bM):List Bytes:=(q.filter yZ).map λn=>n.2.2.2.1
inductive Reach(d:List aN)(P:Bytes->Prop):Bytes->Prop where
 |base {s}:P s->Reach d P s
 |step {s i}:Reach d P s->i<d.length->s∈aco (fU d i)->Reach d P (nameOf d i)
open Classical in
def without(a b:List (Int×Unit)):List (Int×Unit):=a.filter λx=>!eF b x.1
def qV(a:List dh)(x:dh):II:=(x.1,without x.2.1 (eG a x.1),without (eG a x.1) x.2.1,())
def xk(y:II):Bool:=decide (0<y.2.1.length+y.2.2.1.length)
def Iq(a b:List dh):List II:=(b.map (qV a)).filter xk
def turned(c:jG)(s:bf)(d:List aN)(nm:Bytes->Bool)(c':jG)(df:List II)(ok:Bool):Prop:=
 ok=(au d&&ak s)/\(ok=true->dX c'=s/\je c'=d/\gX s.2.1 d (CJ c) nm (CJ c')/\df=Iq (CJ c) (CJ c'))/\(ok=false->c'=c/\df=[])
def Xr(c:jG):Prop:=kJ c/\c.1=usual/\0<c.2.1.length/\iM c=true
def Io(fs:List aI)(d:List aN)(r:List dh)(nm:Bytes->Bool)(ay:List (Int×Unit))(k:Nat)(Xl:List dh)(i:Nat)(c:Bool)(out:List dh):Prop:=
 mG fs d r nm ay k out/\(c=true->room fs.length out<room fs.length Xl)/\
  (c=false->out=Xl/\∀j,j<i->j<d.length->nm (nameOf d j)=true->lv ay j=k->sel fs (fU d j) (bg out)=gZ out j)
theorem zx{fs:List aI}{d:List aN}{r:List dh}{nm:Bytes->Bool}{ay:List (Int×Unit)}{k i:Nat}{Xl out:List dh}{c:Bool}(h:Io fs d r nm ay k Xl i c out)(hs:nm (nameOf d i)=true->lv ay i=k->sel fs (fU d i) (bg out)=gZ out i):Io fs d r nm ay k Xl (i+1) c out:=
 ⟨h.1,h.2.1,λhc=>⟨(h.2.2 hc).1,λj hj hd hn hl=>by
   rcases arH j i with h'|h'
   .exact(h.2.2 hc).2 j h' hd hn hl
   .have:j=i:=by omega
    subst this;exact hs hn hl⟩⟩
theorem aak{fs:List aI}{d:List aN}{r:List dh}{nm:Bytes->Bool}{ay:List (Int×Unit)}{k i:Nat}{Xl out:List dh}{c:Bool}(hd:gy d=true)(hl:jL d ay)(hf:distinct fs)(h:Io fs d r nm ay k Xl i c out)(hi:i<d.length)(hn:nm (nameOf d i)=true)(hk:lv ay i=k)(hne:sel fs (fU d i) (bg out)≠gZ out i):
 Io fs d r nm ay k Xl (i+1) true (out.set i ((qE out i).1,sel fs (fU d i) (bg out),())):=by
 obtain⟨A,h1,h2⟩:=h;rw[A.order.2 i hi];obtain⟨g1,g2,g3⟩:=at_set hd hl hf A hi hn hk;refine⟨g1,λ_=>?_,λh=>by cases h⟩;have hr:room fs.length (out.set i (nameOf d i,sel fs (fU d i) (bg out),()))<room fs.length out:=aaS (by rw[A.order.1];exact hi) (g2 hne) g3;cases c with
 |true=>have:=h1 rfl;omega
 |false=>rw[(h2 rfl).1]at hr ⊢;exact hr
theorem OQ{fs:List aI}{d:List aN}{r:List dh}{nm:Bytes->Bool}{ay:List (Int×Unit)}{k:Nat}{out:List dh}(A:mG fs d r nm ay k out)(hd:d.length<=1000)(hf:fs.length<=1000)(hr:aY r):aY out:=by
 refine⟨by rw[A.order.1];exact hd,λx hx=>?_⟩;obtain⟨i,hi,rfl⟩:=asb hx;have hi':i<d.length:=by rw[← A.order.1];exact hi
 have e:(out[i]).2.1=gZ out i:=by unfold gZ qE;rw[arp,ars hi];rfl
 rw[e];cases hn:nm (nameOf d i)with
 |true=>exact arM (afC (A.canon i hi' hn)) hf
 |false=>
  rw[A.kept i hi' hn];have:∀l:List dh,(∀x∈l,x.2.1.length<=1000)->(eG l (nameOf d i)).length<=1000:=by
   intro l
   induction l with
   |nil=>exactλ_=>ar0 _
   |cons x t ih=>
    intro hl;rw[eG];cases x.1==nameOf d i with
    |true=>exact hl x arC
    |false=>exact ih λy hy=>hl y (arE _ hy)
  exact this r hr.2
def pz(r:List dh)(nm:Bytes->Bool)(x:aN):dh:=(x.1,bif nm x.1 then[]else eG r x.1,())
theorem aaT{d:List aN}{r:List dh}{nm:Bytes->Bool}{i:Nat}(hi:i<d.length):qE (d.map (pz r nm)) i=pz r nm (dM d i):=by unfold qE dM;rw[arp,arp,asA,ars hi];rfl
theorem IE{fs:List aI}{d:List aN}{r:List dh}{nm:Bytes->Bool}{ay:List (Int×Unit)}(hd:gy d=true)(hl:jL d ay):mG fs d r nm ay 0 (d.map (pz r nm)):=by
 refine amJ hd hl ⟨by simp,λi hi=>?_⟩ (λi hi hn=>?_) λi hi hn=>?_
 .rw[aaT hi];rfl
 .unfold gZ;rw[aaT hi];show(bif nm (nameOf d i)then[]else eG r (nameOf d i))=_;rw[hn];rfl
 .unfold gZ;rw[aaT hi];show(bif nm (nameOf d i)then[]else eG r (nameOf d i))=_;rw[hn];rfl
theorem Sj{s:bf}(h:ak s=true):∀(j i:Nat),i<j->j<s.2.1.length->(fileAt s.2.1 i).1<(fileAt s.2.1 j).1:=by
 intro j
 induction j with
 |zero=>intro i hi;omega
 |succ j ih=>
  intro i hi hj;have h1:jM s (j+1)=true:=by unfold ak at h;rw[ark,ark,ark]at h;have:=h.1.1.1;unfold jc at this;exact arK.1 this (j+1) (ast.2 hj)
  have h2:(fileAt s.2.1 j).1<(fileAt s.2.1 (j+1)).1:=by unfold jM at h1;rw[ark]at h1;have:=h1.2;rw[aru (Nat.succ_pos j)]at this;simpa using this
  rcases arH i j with h3|h3
  .exact Int.lt_trans (ih i h3 (by omega)) h2
  .have:i=j:=by omega
   subst this;exact h2
theorem ug{s:bf}(h:ak s=true):distinct s.2.1:=by
 intro f hf g hg e;obtain⟨i,hi,rfl⟩:=asb hf;obtain⟨j,hj,rfl⟩:=asb hg;have at_:∀k(hk:k<s.2.1.length),fileAt s.2.1 k=s.2.1[k]:=λk hk=>by unfold fileAt;rw[arp,ars hk];rfl
 rcases atE i j with h1|h1|h1
 .have:=Sj h j i h1 hj;rw[at_ i hi,at_ j hj]at this;omega
 .subst h1;rfl
 .have:=Sj h i j h1 hi;rw[at_ i hi,at_ j hj]at this;omega
theorem YX{fs:List aI}{d:List aN}{r r':List dh}{nm nm':Bytes->Bool}{out:List dh}(h:gX fs d r nm out)(hn:∀i,i<d.length->nm (nameOf d i)=nm' (nameOf d i))(hr:∀i,i<d.length->nm (nameOf d i)=false->eG r (nameOf d i)=eG r' (nameOf d i)):gX fs d r' nm' out:=by
 have hd:∀s,due d nm s↔due d nm' s:=λs=>by
  constructor
  .rintro⟨a,i,hi,rfl⟩;exact⟨by rw[← hn i hi];exact a,i,hi,rfl⟩
  .rintro⟨a,i,hi,rfl⟩;exact⟨by rw[hn i hi];exact a,i,hi,rfl⟩
 obtain⟨ay,h1,h2⟩:=h.ay;exact⟨h.order,λi hi h'=>by rw[← hn i hi]at h';rw[h.kept i hi h',hr i hi h'],λi hi h'=>h.fix i hi (by rw[hn i hi];exact h'),ay,h1,
  λs hs=>h2.fix s ((hd s).2 hs),λk Y hY hp s hs=>h2.least k Y (λt ht=>hY t λh'=>ht ⟨(hd t).2 h'.1,h'.2⟩) (λt ht=>hp t ((hd t).1 ht)) s ((hd s).2 hs)⟩
theorem akF{fs:List aI}{d:List aN}{r:List dh}{nm:Bytes->Bool}{ay:List (Int×Unit)}{k:Nat}(hd:gy d=true)(hl:jL d ay)(hf:distinct fs):∀(n:Nat)(out:List dh),room fs.length out<=n->mG fs d r nm ay k out->∃out',mG fs d r nm ay (k+1) out':=by
 intro n
 induction n using Nat.strongRecOn with
 |_ n ih=>
  intro out hn A;by_cases hs:∀i,i<d.length->nm (nameOf d i)=true->lv ay i=k->sel fs (fU d i) (bg out)=gZ out i
  .exact⟨out,at_next hd A hs⟩
  .obtain⟨i,hi⟩:=Classical.not_forall.1 hs;have h1:i<d.length:=ar7 λh=>hi λh'=>(h h').elim;have h2:nm (nameOf d i)=true:=ar7 λh=>hi λ_ h'=>(h h').elim;have h3:lv ay i=k:=ar7 λh=>hi λ_ _ h'=>(h h').elim;have h4:sel fs (fU d i) (bg out)≠gZ out i:=λh=>hi λ_ _ _=>h;obtain⟨g1,g2,g3⟩:=at_set hd hl hf A h1 h2 h3;have hr:room fs.length (out.set i (nameOf d i,sel fs (fU d i) (bg out),()))<room fs.length out:=aaS (by rw[A.order.1];exact h1) (g2 h4) g3;exact ih _ (by omega) _ (arF _) g1
theorem RU{fs:List aI}{d:List aN}(r:List dh)(nm:Bytes->Bool){ay:List (Int×Unit)}(hd:gy d=true)(hl:jL d ay)(hf:distinct fs):∃out,gX fs d r nm out:=by
 have:∀k,∃out,mG fs d r nm ay k out:=λk=>by
  induction k with
  |zero=>exact⟨_,IE hd hl⟩
  |succ k ih=>obtain⟨out,A⟩:=ih;exact akF hd hl hf _ out (arF _) A
 obtain⟨out,A⟩:=this (d.length+1);exact⟨out,at_end hd hl A λi hi=>by have:=(hl.2.1 i hi).2;omega⟩
end Sp
namespace Sp
open Go
end Sp
namespace Sp
open Go
def Xm(as:List aW):Prop:=as.Pairwise λx y=>Op.bytesLess x.1 y.1=true
theorem ahZ{α:Type}{R:α->α->Prop}(ht:∀a b c,R a b->R b c->R a c)(d:α):∀(l:List α),(∀i,i+1<l.length->R (l.getD i d) (l.getD (i+1) d))->l.Pairwise R
 |[],_=>List.Pairwise.nil
 |[x],_=>List.pairwise_singleton _ _
 |x::y::r,h=>by
  have ih:=ahZ ht d (y::r) λi hi=>h (i+1) (by simpa using hi);have h0:R x y:=h 0 (by simp);refine asx.2 ⟨λz hz=>?_,ih⟩;rcases arU.1 hz with rfl|hz
  .exact h0
  .exact ht _ _ _ h0 ((asx.1 ih).1 z hz)
theorem A7{fs:List dD}{as:List aW}:ja fs as=true↔(∀a∈as,fZ fs a.1 a.2.1 a.2.2.1 a.2.2.2.1=true)/\Xm as:=by
 have at_:∀i(hi:i<as.length),bI as i=as[i]:=λi hi=>by unfold bI;rw[arp,ars hi];rfl
 unfold ja;rw[show(jc as.length (jB fs as)=true)↔∀i,i<as.length->jB fs as i=true from by unfold jc;rw[arK];exact⟨λh i hi=>h i (ast.2 hi),λh i hi=>h i (ast.1 hi)⟩];have one:∀i,jB fs as i=true↔fZ fs (bI as i).1 (bI as i).2.1 (bI as i).2.2.1 (bI as i).2.2.2.1=true/\(0<i->Op.bytesLess (bI as (i-1)).1 (bI as i).1=true):=λi=>by
  unfold jB;rw[ark];refine atl λ_=>?_;by_cases h0:0<i
  .rw[aru h0];simp[h0]
  .rw[arx h0];simp[h0]
 constructor
 .intro h;refine⟨λa ha=>?_,?_⟩
  .obtain⟨i,hi,rfl⟩:=asb ha;have:=((one i).1 (h i hi)).1;rw[at_ i hi]at this;exact this
  .refine ahZ (R:=λx y:aW=>Op.bytesLess x.1 y.1=true) (λa b c h1 h2=>Dw _ _ _ h1 h2) ([],0,0,[],()) as λi hi=>?_;exact((one (i+1)).1 (h (i+1) hi)).2 (by omega)
 .rintro⟨h1,h2⟩ i hi;refine(one i).2 ⟨?_,λh0=>?_⟩
  .rw[at_ i hi];exact h1 _ (asF hi)
  .rw[at_ i hi,at_ (i-1) (by omega)];exact atZ.1 h2 (i-1) i (by omega) hi (by omega)
theorem Oi{α:Type}{p:α->Bool}:∀{l:List α}{x:α},x∈l.takeWhile p->p x=true/\x∈l
 |[],_,h=>by cases h
 |y::r,x,h=>by
  rw[asY]at h;split at h
  .next hp=>
   rcases arU.1 h with rfl|h
   .exact⟨hp,arC⟩
   .exact⟨(Oi h).1,arE _ (Oi h).2⟩
  .cases h
theorem ah0{α:Type}[BEq α][LawfulBEq α]:∀(a b:List α),a.Nodup->(∀x∈a,x∈b)->a.length<=b.length
 |[],_,_,_=>ar0 _
 |x::r,b,hn,h=>by
  rw[auX]at hn;have hx:=h x arC;have ih:=ah0 r (b.erase x) hn.2 λy hy=>by
   have hne:y≠x:=λe=>by subst e;exact hn.1 hy
   rw[List.mem_erase_of_ne hne];exact h y (arE _ hy)
  rw[List.length_erase_of_mem hx]at ih;have:0<b.length:=List.length_pos_of_mem hx;rw[arq];omega
theorem adk:∀{fs:List dD}{s:Bytes},kindOf fs s≠0->s∈fs.map λf=>f.1
 |[],_,h=>(h rfl).elim
 |f::r,s,h=>by
  rw[kindOf]at h;by_cases e:f.1=s
  .rw[arS,e];exact arC
  .rw[arx e]at h;rw[arS];exact arE _ (adk h)
theorem ahK{fs:List dD}{as:List aW}(h:ja fs as=true):as.length<=fs.length:=by
 obtain⟨h1,h2⟩:=A7.1 h;have:=ah0 (as.map λa=>a.1) (fs.map λf=>f.1) ?_ λs hs=>?_
 .rw[arB,arB]at this;exact this
 .unfold List.Nodup;rw[auH];exact h2.imp λ{a b} hab=>Qr hab
 .obtain⟨a,ha,rfl⟩:=asK.1 hs;have hm:=h1 a ha;unfold fZ at hm;simp only[ark,arD,atC,ar1]at hm;exact adk (by rw[← hm.2];exact hm.1.2)
end Sp
namespace Sp
open Go
theorem anf{α:Type}(p:α->Bool):∀l:List α,l.dropWhile p=l.drop (l.takeWhile p).length
 |[]=>rfl
 |x::r=>by
  rw[aus,asY];cases p x with
  |true=>simp only[if_true,arq,List.drop_succ_cons];exact anf p r
  |false=>rfl
theorem ane{α:Type}(p:α->Bool):∀l:List α,l.takeWhile p=l.take (l.takeWhile p).length
 |[]=>rfl
 |x::r=>by
  rw[asY];cases p x with
  |true=>simp only[if_true,arq,atU];exact congrArg (x::·) (ane p r)
  |false=>rfl
theorem afv{α:Type}(p:α->Bool)(d:α):∀(l:List α)(k:Nat),k<=l.length->(∀i,i<k->p (l.getD i d)=true)->(k<l.length->p (l.getD k d)=false)->(l.takeWhile p).length=k
 |[],0,_,_,_=>rfl
 |[],_+1,h,_,_=>by simp at h
 |x::r,0,_,_,h=>by
  have:p x=false:=h (by simp);rw[asY,this];rfl
 |x::r,k+1,hk,h1,h2=>by have:p x=true:=h1 0 (by omega);rw[asY,this];simp only[if_true,arq];rw[afv p d r k (by simpa using hk) (λi hi=>h1 (i+1) (by omega)) λh=>h2 (by simpa using h)]
theorem amD{fs:List aI}{d:List aN}{r out:List dh}(h:gX fs d r (gm (iw d)) out):gX fs d [] (λ_=>true) out:=by
 have e:∀i,i<d.length->gm (iw d) (nameOf d i)=true:=λi hi=>by rw[aan];unfold iw;exact asK.2 ⟨dM d i,by unfold dM;rw[arp,ars hi];exact asF hi,rfl⟩
 exact YX h (λi hi=>e i hi) λi hi h'=>by rw[e i hi]at h';cases h'
def became(c:jG)(s:bf)(d:List aN)(ok0:Bool)(c':jG)(df:List II)(ok:Bool):Prop:=
 ok=ok0/\(ok=true->dX c'=s/\je c'=d/\iM c'=true/\df=Iq (CJ c) (CJ c'))/\(ok=false->c'=c/\df=[])
def aoi(c:jG):Prop:=∀f∈c.2.1,f.2.2.2.2.1.length<=400
def Ot(c:jG):Prop:=kJ c/\aoi c/\(je c).length<=10
def named(f:aI)(w:Bytes):aI:=(f.1,f.2.1,f.2.2.1,f.2.2.2.1,dO f.2.2.2.2.1 [110] 2 0 w,())
def amK(c:jG)(u id:Int):Bool:=(fC (dX c) id).2&&amH (fC (dX c) id).1 u
end Sp
namespace Sp
open Go
def AO(s:Bytes):Int:=s.foldl (λn b=>10*n+((b.toNat:Int)-48)) 0
def jb(s:Bytes):Bool:=Ar (AO s)&&(Lib.itoa (AO s)==s)
def parseNum(s:Bytes):Int:=bif jb s then AO s else 0
end Sp
namespace Sp
open Go
theorem Rl(u:Nat):Lib.itoa (u:Int)=Lib.decDigits u:=by unfold Lib.itoa;rw[if_neg (by omega)];simp
theorem TM(s:Bytes)(d:UInt8):AO (s++[d])=10*AO s+((d.toNat:Int)-48):=by simp[AO,List.foldl_append]
theorem byte_of(d:Nat)(h:d<10):(UInt8.ofNat (48+d)).toNat=48+d:=by rw[aty];omega
theorem QB(s:List UInt8):∀(acc:Nat)(n:Nat),Lib.decFrom acc s=some n->∀d,d<10->Lib.decFrom acc (s++[UInt8.ofNat (48+d)])=some (n*10+d):=by
 intro acc n h d hd
 induction s generalizing acc with
 |nil=>
  simp only[Lib.decFrom,Option.some.injEq]at h;subst h;have:∀d:Fin 10,Lib.digitVal (UInt8.ofNat (48+d.val))=some d.val:=by decide
  have h2:=this ⟨d,hd⟩;simp only[asE,Lib.decFrom];rw[h2]
 |cons a r ih=>
  simp only[as1,Lib.decFrom]at h ⊢;cases hv:Lib.digitVal a with
  |none=>rw[hv]at h;simp at h
  |some x=>rw[hv]at h;simp only at h ⊢;exact ih _ h
theorem vU:∀(k u:Nat),u<10 ^ (k+1)->AO (Lib.decDigits u)=u/\Lib.decFrom 0 (Lib.decDigits u)=some u/\(∀b∈Lib.decDigits u,48<=b.toNat/\b.toNat<=57)/\Lib.decDigits u≠[]/\(Lib.decDigits u).length<=k+1
 |0,u,h=>by
  have h:u<10:=by simpa using h
  rw[Lib.decDigits_one h];have hb:=byte_of u h;have:=QB [] 0 0 rfl u h;refine⟨?_,?_,λb hm=>?_,List.cons_ne_nil _ _,arF _⟩
  .have:=TM [] (UInt8.ofNat (48+u));rw[asE]at this;rw[this,hb];show 10*0+_=_;omega
  .rw[asE,atg,arQ]at this;exact this
  .rw[asq]at hm;subst hm;omega
 |k+1,u,h=>by
  by_cases h1:u<10
  .have:=vU 0 u (by simpa using h1);exact⟨this.1,this.2.1,this.2.2.1,this.2.2.2.1,by omega⟩
  .have hd:u / 10<10 ^ (k+1):=by rw[Nat.pow_succ]at h;omega
   obtain⟨i1,i2,i3,i4,i5⟩:=vU k (u / 10) hd;have e:Lib.decDigits u=Lib.decDigits (u / 10)++[UInt8.ofNat (48+u%10)]:=by
    conv=>lhs;rw[Lib.decDigits,dif_neg h1]
   have hm:u%10<10:=aub _ (by decide);have hb:=byte_of (u%10) hm;rw[e];refine⟨by rw[TM,i1,hb];omega,?_,λb hb2=>?_,by simp,by simp;omega⟩
   .rw[QB _ _ _ i2 _ hm];congr 1;omega
   .rcases arW.1 hb2 with h2|h2
    .exact i3 b h2
    .rw[asq]at h2;subst h2;omega
theorem Du{n:Int}:Ar n=true↔0<=n/\n<=1000000000:=by unfold Ar;rw[ark,arD,arD]
theorem zq{n:Int}(h:Ar n=true):AO (Lib.itoa n)=n/\Lib.atoi (Lib.itoa n)=some n/\(∀b∈Lib.itoa n,48<=b.toNat/\b.toNat<=57)/\Lib.itoa n≠[]/\(Lib.itoa n).length<=10:=by
 obtain⟨h0,h1⟩:=Du.1 h;obtain⟨u,rfl⟩:=atu h0;have hu:u<10 ^ (9+1):=by omega
 rw[Rl];obtain⟨i1,i2,i3,i4,i5⟩:=vU 9 u hu;refine⟨i1,?_,i3,i4,i5⟩;cases hd:Lib.decDigits u with
 |nil=>exact absurd hd i4
 |cons b r=>
  have hb:=i3 b (by rw[hd];simp);rw[hd]at i2;have n45:(b==45)=false:=by rw[arn];intro e;subst e;revert hb;decide
  have n43:(b==43)=false:=by rw[arn];intro e;subst e;revert hb;decide
  simp only[Lib.atoi,n45,n43,Lib.decNat,asU,atH,List.isEmpty_cons,i2,aso]
theorem O6{s:Bytes}:jb s=true↔Ar (AO s)=true/\Lib.itoa (AO s)=s:=by unfold jb;rw[ark,arA]
theorem abD{s:Bytes}{n:Int}(h:Ar n=true)(e:Lib.itoa n=s):jb s=true/\parseNum s=n:=by
 have hv:AO s=n:=by rw[← e];exact(zq h).1
 have:jb s=true:=O6.2 ⟨by rw[hv];exact h,by rw[hv];exact e⟩;exact⟨this,by unfold parseNum;rw[this];exact hv⟩
theorem akG{n:Int}(h:Ar n=true):jb (Lib.itoa n)=true/\parseNum (Lib.itoa n)=n:=abD h rfl
theorem rV{s:Bytes}(h:jb s=true):Lib.itoa (parseNum s)=s/\Ar (parseNum s)=true:=by
 have e:parseNum s=AO s:=by unfold parseNum;rw[h];rfl
 rw[e];exact⟨(O6.1 h).2,(O6.1 h).1⟩
theorem IA{s:Bytes}(h:jb s=false):parseNum s=0:=by unfold parseNum;rw[h];rfl
theorem agh{s:Bytes}(h:jb s=true):s.length<=10:=by
 have:=(zq (rV h).2).2.2.2.2
 rwa [(rV h).1]at this
theorem ahu{s:Bytes}(h:10<s.length):jb s=false:=by
 cases hp:jb s with
 |false=>rfl
 |true=>have:=agh hp;omega
end Sp
namespace Sp
open Go
def fJ(n:Int):Bytes:=bif decide (0<=n)&&decide (n<=999)then(Lib.itoa n).map λb=>UInt8.ofNat (b.toNat+49)else[]
def isLet(b:UInt8):Bool:=decide (97<=b.toNat)&&decide (b.toNat<=106)
def jg(s:Bytes):Bytes:=s.map λb=>UInt8.ofNat (b.toNat-49)
def dR(s:Bytes):Int×Bool:=bif s.all isLet&&(jb (jg s)&&decide (parseNum (jg s)<=999))then(parseNum (jg s),true)else(0,false)
def bQ(v:qR)(to:Int):qR×Bool:=
 bif dA v.1 v.2.1 v.2.2.1&&(!(v.1==0)&&(to==1||to==2))then
  (bif v.1==to then(v,true)else bif to==2 then((2,0,fJ v.2.1,()),true)else bif (dR v.2.2.1).2 then((1,(dR v.2.2.1).1,[],()),true)else((0,0,[],()),false))
 else((0,0,[],()),false)
def fE(name:Bytes)(kind:Int)(f:dD):dD:=bif f.1==name then(f.1,kind,())else f
def dB(name:Bytes)(kind:Int)(f:aI):aI:=
 bif (aF f.2.2.2.2.1 name).1==0 then f else
  (f.1,f.2.1,f.2.2.1,f.2.2.2.1,dO f.2.2.2.2.1 name (bQ (aF f.2.2.2.2.1 name) kind).1.1 (bQ (aF f.2.2.2.2.1 name) kind).1.2.1 (bQ (aF f.2.2.2.2.1 name) kind).1.2.2.1,())
def dL(name:Bytes)(kind:Int)(f:aI):Bool:=!((aF f.2.2.2.2.1 name).1==0)&&!(bQ (aF f.2.2.2.2.1 name) kind).2
def aP(s:bf)(name:Bytes)(kind:Int):bf×List (Int×Unit)×Bool:=
 bif ak s&&(!decide (fieldPlace s.1 name<0)&&(kind==1||kind==2))then
  ((s.1.map (fE name kind),s.2.1.map (dB name kind),s.2.2.1,()),(s.2.1.filter (dL name kind)).map (λf=>(f.1,())),true)
 else(s,[],false)
theorem afE{b:UInt8}(h:48<=b.toNat/\b.toNat<=57):(UInt8.ofNat (b.toNat+49)).toNat=b.toNat+49:=by rw[aty];exact atd (by omega)
theorem aeI{n:Int}(h0:0<=n)(h1:n<=999):dR (fJ n)=(n,true)/\fO (fJ n)=true:=by
 have hu:Ar n=true:=Du.2 ⟨h0,by omega⟩;obtain⟨_,_,hd,hne,_⟩:=zq hu;have he:fJ n=(Lib.itoa n).map λb=>UInt8.ofNat (b.toNat+49):=by unfold fJ;rw[aru h0,aru h1];rfl
 have hback:jg (fJ n)=Lib.itoa n:=by unfold jg;rw[he,asV];refine(asR λb hb=>?_).trans (atA _);show UInt8.ofNat ((UInt8.ofNat (b.toNat+49)).toNat-49)=b;rw[afE (hd b hb),at6];exact UInt8.ofNat_toNat
 have hlet:(fJ n).all isLet=true:=by rw[arK,he];intro x hx;obtain⟨b,hb,rfl⟩:=asK.1 hx;have:=hd b hb;unfold isLet;rw[afE this,aru (by omega),aru (by omega)];rfl
 obtain⟨p1,p2⟩:=akG hu;refine⟨?_,?_⟩
 .unfold dR;rw[hlet,hback,p1,p2,aru h1];rfl
 .have hlen:(Lib.itoa n).length<=3:=by obtain⟨u,rfl⟩:=atu h0;rw[Rl];exact(vU 2 u (by omega)).2.2.2.2
  have hpos:0<(Lib.itoa n).length:=atW.2 hne;have hl:(fJ n).length=(Lib.itoa n).length:=by rw[he,arB]
  unfold fO;rw[hl];have hlow:lower (fJ n)=true:=by unfold lower;rw[arK];intro x hx;have:=arK.1 hlet x hx;unfold isLet at this;simp only[ark,arD]at this;simp only[ark,arD];omega
  rw[hlow,aru (show(1:Int)<=((Lib.itoa n).length:Int) by omega),aru (by omega)];rfl
end Sp
namespace Sp
open Go
theorem aom{n:Int}(h0:0<=n)(h1:n<=999):dA 1 n []=true:=by unfold dA;rw[arx (show ¬(1:Int)=0 by decide),aru (show(1:Int)=1 from rfl),aru h0,aru h1];rfl
theorem aon{n:Int}(h0:0<=n)(h1:n<=999):dA 2 0 (fJ n)=true:=by unfold dA;rw[arx (show ¬(2:Int)=0 by decide),arx (show ¬(2:Int)=1 by decide),aru (show(2:Int)=2 from rfl),(aeI h0 h1).2];rfl
theorem ao7{n:Int}(h0:0<=n)(h1:n<=999):bQ (1,n,[],()) 2=((2,0,fJ n,()),true):=by unfold bQ;rw[aom h0 h1];rfl
theorem ao8{n:Int}(h0:0<=n)(h1:n<=999):bQ (2,0,fJ n,()) 1=((1,n,[],()),true):=by unfold bQ;rw[aon h0 h1,(aeI h0 h1).1];rfl
end Sp
namespace Sp
open Go
end Sp
namespace Sp
open Go
abbrev IV:=Bool×List aW×Unit
def MV:IV:=(false,[],())
def ah1(l:List aW)(x:aW):Bool:=l.any λy=>y.1==x.1
def aoo(l:List aW)(x:aW):Bool:=l.any λy=>y.1==x.1&&!decide (y.2=x.2)
def xI(name:Bytes)(y:aW):Bool:=Op.bytesLess y.1 name
def Xn(l:List aW)(x:aW):List aW:=l.takeWhile (xI x.1)++x::l.dropWhile (xI x.1)
def ah2(a:List aW):List aW->List aW->Option (List aW)
 |acc,[]=>some acc
 |acc,x::r=>bif aoo a x then none else bif ah1 a x then ah2 a acc r else ah2 a (Xn acc x) r
def ao9:Option (List aW)->IV
 |some l=>(true,l,())
 |none=>MV
def aop(a b:IV):IV:=bif a.1&&b.1 then ao9 (ah2 a.2.1 a.2.1 b.2.1)else MV
def ap9(a b:IV):IV:=bif a.1==b.1 then MV else bif a.1 then a else b
def QC(q:List bM)(f:aI)(X:BX)(a:Nat)(m:Bool):IV:=
 if val q f X a=m then(true,[],())
 else if(nodeAt q a).1=5 then(if h:(nodeAt q a).2.1.toNat<a then QC q f X (nodeAt q a).2.1.toNat (!m)else MV)
 else if ji (nodeAt q a)=true then(if h:(nodeAt q a).2.1.toNat<a/\(nodeAt q a).2.2.1.toNat<a then
  (bif ((nodeAt q a).1==6)==m then aop (QC q f X (nodeAt q a).2.1.toNat m) (QC q f X (nodeAt q a).2.2.1.toNat m)
   else ap9 (QC q f X (nodeAt q a).2.1.toNat m) (QC q f X (nodeAt q a).2.2.1.toNat m))else MV)
 else if(nodeAt q a).1=3/\m=true then(true,[((nodeAt q a).2.2.2.1,(nodeAt q a).2.2.2.2.1,(nodeAt q a).2.2.2.2.2.1,(nodeAt q a).2.2.2.2.2.2.1,())],())
 else if(nodeAt q a).1=2/\m=false then(true,[((nodeAt q a).2.2.2.1,0,0,[],())],())
 else MV
termination_by a
decreasing_by all_goals omega
theorem alZ(l:List aW)(x:aW):(Xn l x).Perm (x::l):=by
 unfold Xn;have h:=List.perm_middle (a:=x) (l₁:=l.takeWhile (xI x.1)) (l₂:=l.dropWhile (xI x.1))
 rwa [as7]at h
theorem amL{l:List aW}{x:aW}(h:Xm l)(hx:ah1 l x=false):Xm (Xn l x):=by
 unfold Xn;have g:=h;unfold Xm at g;have e:=as7 (p:=xI x.1) (l:=l);rw[← e,ata]at g;have ne:∀y∈l,y.1≠x.1:=λy hy he=>by unfold ah1 at hx;rw[atn]at hx;exact hx (atr.2 ⟨y,hy,arA.2 he⟩)
 have lo:∀a∈l.takeWhile (xI x.1),Op.bytesLess a.1 x.1=true:=λa ha=>(Oi ha).1;have hi:∀a∈l.dropWhile (xI x.1),Op.bytesLess x.1 a.1=true:=by
  have hd:=g.2.1;cases hl:l.dropWhile (xI x.1)with
  |nil=>exactλa ha=>by cases ha
  |cons y r=>
   have hy:xI x.1 y=false:=by have:=List.head_dropWhile_not (xI x.1) (l:=l) (by rw[hl];simp);simp only[hl,List.head_cons]at this;exact this
   have hym:y∈l:=(List.dropWhile_sublist _).subset (by rw[hl];exact arC);have hy:Op.bytesLess x.1 y.1=true:=by have:=aaw y.1 x.1;rw[show Op.bytesLess y.1 x.1=false from hy,arn.2 (ne y hym)]at this;exact this.symm
   rw[hl]at hd;intro a ha;rcases arU.1 ha with rfl|ha
   .exact hy
   .exact Dw _ _ _ hy ((asx.1 hd).1 a ha)
 unfold Xm;rw[ata];refine⟨g.1,asx.2 ⟨hi,g.2.1⟩,λa ha b hb=>?_⟩;rcases arU.1 hb with rfl|hb
 .exact lo a ha
 .exact g.2.2 a ha b hb
end Sp
namespace Sp
open Go
def akH(x:aW):qR:=bif x.2.1==0 then(0,0,[],())else x.2
def aoq(a l:List aW):List aW:=l.foldl (λa x=>dO a x.1 x.2.1 x.2.2.1 x.2.2.2.1) a
def adl(a:List aW):Prop:=Xm a/\∀x∈a,x.2.1≠0
theorem Y8{x:aW}{t:Bytes}(h:x.1≠t):∀(p:List aW){q:List aW},aF (p++x::q) t=aF (p++q) t
 |[],q=>by show aF (x::q) t=aF q t;rw[aF,arn.2 h];rfl
 |y::p,q=>by show aF (y::(p++x::q)) t=aF (y::(p++q)) t;rw[aF,aF,Y8 h p]
theorem MW{x:aW}:∀(p:List aW){q:List aW},(∀y∈p,y.1≠x.1)->aF (p++x::q) x.1=x.2
 |[],q,_=>by show aF (x::q) x.1=x.2;rw[aF,as2];rfl
 |y::p,q,h=>by show aF (y::(p++x::q)) x.1=_;rw[aF,arn.2 (h y arC)];exact MW p λz hz=>h z (arE _ hz)
theorem O7(name t:Bytes):∀(a:List aW),aF (a.filter (fQ name)) t=if t=name then(0,0,[],())else aF a t
 |[]=>by split<;>rfl
 |x::r=>by
  have ih:=O7 name t r;by_cases hx:x.1=name
  .rw[asP (by unfold fQ;simp[hx]),ih];split
   .rfl
   .next hne=>rw[aF,arn.2 (show x.1≠t fromλe=>hne (e.symm.trans hx))];rfl
  .rw[asz (by unfold fQ;simp[hx]),aF,aF,ih];by_cases e:x.1=t
   .rw[arA.2 e];exact(if_neg λe2=>hx (e.trans e2)).symm
   .rw[arn.2 e];rfl
theorem ah3{l:List aW}{x:aW}(h:∀y∈l,y.1≠x.1):yU l x=Xn l x:=by
 have e:∀(l:List aW),(∀y∈l,y.1≠x.1)->l.takeWhile (iC x.1)=l.takeWhile (xI x.1)/\l.dropWhile (iC x.1)=l.dropWhile (xI x.1):=by
  intro l
  induction l with
  |nil=>exactλ_=>⟨rfl,rfl⟩
  |cons y r ih=>
   intro h;obtain⟨i1,i2⟩:=ih λz hz=>h z (arE _ hz);have hy:iC x.1 y=xI x.1 y:=by unfold iC xI;rw[arn.2 (h y arC),auE]
   rw[asY,asY,aus,aus,hy,i1,i2];exact⟨rfl,rfl⟩
 unfold yU Xn;rw[(e l h).1,(e l h).2]
theorem Oj{a:List aW}{name:Bytes}:∀y∈a.filter (fQ name),y.1≠name:=λy hy=>by have:=(asX.1 hy).2;unfold fQ at this;simpa using this
theorem Y9(a:List aW)(x:aW)(t:Bytes):aF (dO a x.1 x.2.1 x.2.2.1 x.2.2.2.1) t=if t=x.1 then akH x else aF a t:=by
 unfold dO akH;by_cases hk:x.2.1=0
 .rw[aru hk,arA.2 hk];exact O7 x.1 t a
 .rw[arx hk,arn.2 hk];show aF (yU (a.filter (fQ x.1)) x) t=_;rw[ah3 Oj];unfold Xn;split
  .next e=>rw[e];exact MW _ λy hy=>Oj y (Oi hy).2
  .next e=>rw[Y8 λh=>e h.symm,as7,O7,if_neg e]
theorem ah4{a:List aW}(h:adl a)(x:aW):adl (dO a x.1 x.2.1 x.2.2.1 x.2.2.2.1):=by
 unfold dO;have g:Xm (a.filter (fQ x.1)):=List.Pairwise.filter _ h.1;by_cases hk:x.2.1=0
 .rw[aru hk];exact⟨g,λy hy=>h.2 y (asX.1 hy).1⟩
 .rw[arx hk];show adl (yU (a.filter (fQ x.1)) x);rw[ah3 Oj];refine⟨amL g ?_,λy hy=>?_⟩
  .rw[atn];intro hx;obtain⟨y,my,he⟩:=atr.1 hx;exact Oj y my (arA.1 he)
  .rcases arU.1 ((alZ _ x).mem_iff.1 hy)with rfl|hy
   .exact hk
   .exact h.2 y (asX.1 hy).1
theorem Xo{a:List aW}(h:adl a)(x:aW):x∈a↔x.2.1≠0/\aF a x.1=x.2:=by
 constructor
 .intro hx;refine⟨h.2 x hx,?_⟩;obtain⟨p,q,rfl⟩:=List.append_of_mem hx;have:=h.1;unfold Xm at this;rw[ata]at this;exact MW p λy hy=>Qr (this.2.2 y hy x arC)
 .rintro⟨h0,he⟩;have:∀(l:List aW),aF l x.1=x.2->x∈l:=by
   intro l
   induction l with
   |nil=>
    intro e;have e:((0,0,[],()):qR)=x.2:=e;exact(h0 (by rw[← e])).elim
   |cons y r ih=>
    intro e;rw[aF]at e;by_cases hy:y.1=x.1
    .rw[arA.2 hy]at e;have e:y.2=x.2:=e;rw[show x=y from atO hy.symm e.symm];exact arC
    .rw[arn.2 hy]at e;exact arE _ (ih e)
  exact this a he
theorem ah5{fs:List dD}{a:List aW}(h:ja fs a=true):adl a:=by obtain⟨h1,h2⟩:=A7.1 h;refine⟨h2,λx hx e=>?_⟩;have:=h1 x hx;unfold fZ at this;rw[aru e]at this;simp at this
def al0(l:List aW)(i:Nat):List aW:=l.take i++l.drop (i+1)
def edited(f:aI)(l:List aW):aI:=(f.1,f.2.1,f.2.2.1,f.2.2.2.1,aoq f.2.2.2.2.1 l,())
theorem WY{fs:List dD}{f:aI}(h:dm fs f=true):ja fs f.2.2.2.2.1=true:=by unfold dm at h;simp only[ark]at h;exact h.1.1.1.1
end Sp
namespace Sp
open Go
theorem yY{s:bf}:ak s=true↔(∀f∈s.2.1,dm s.1 f=true/\f.1<s.2.2.1)/\(s.2.1.Pairwise λf g=>f.1<g.1)/\dF s.1=true/\s.2.1.length<=12/\1<=s.2.2.1/\s.2.2.1<=61:=by
 have at_:∀i(hi:i<s.2.1.length),fileAt s.2.1 i=s.2.1[i]:=λi hi=>by unfold fileAt;rw[arp,ars hi];rfl
 constructor
 .intro h;obtain⟨h1,h2,h3,h4,h5⟩:=jE.1 h;refine⟨λf hf=>?_,?_,h2,h3,h4,h5⟩
  .obtain⟨i,hi,rfl⟩:=KR hf;obtain⟨k1,k2,_⟩:=kN.1 (h1 i hi);exact⟨k1,k2⟩
  .refine atZ.2 λi j hi hj hij=>?_;have:=adi h j i hij hj
   rwa [at_ i hi,at_ j hj]at this
 .rintro⟨h1,h2,h3⟩;refine jE.2 ⟨λi hi=>kN.2 ⟨(h1 _ (Dx hi)).1,(h1 _ (Dx hi)).2,λh0=>?_⟩,h3⟩;rw[at_ i hi,at_ (i-1) (by omega)];exact atZ.1 h2 (i-1) i (by omega) hi (by omega)
open Classical in
noncomputable def al1 (fs:List aI) (d:List aN):List dh:=if h:∃out,gX fs d [] (λ_=>true) out then h.choose else[]
theorem akv{d:List aN}(h:au d=true):gy d=true:=by unfold au at h;rw[ark]at h;exact h.1
noncomputable def anK (s:bf) (d:List aN) (u:Int) (name:Bytes):List (Int×Unit):=eG (al1 (visible s u).2.1 d) name
noncomputable def listed (s:bf) (d:List aN) (u:Int) (name:Bytes) (id:Int):Bool:=eF (anK s d u name) id
def ajp(d:List aN)(name:Bytes):aN×Bool:=bif decide (aJ d name<0)then(([],[],()),false)else(dM d (aJ d name).toNat,true)
def aor(s:bf)(u id:Int):aI:=(fC (visible s u) id).1
def apa(q:List bM)(f:aI)(X:BX)(m:Bool):IV:=bif bF q then QC q f X (q.length-1) m else MV
noncomputable def akI (c:jG) (u:Int) (name:Bytes) (id:Int) (b:Bool):IV:=
 apa (ajp (je c) name).1.2.1 (aor (dX c) u id) (bg (al1 (visible (dX c) u).2.1 (je c))) b
def ah6(c:jG)(id:Int)(l:List aW):bf×Bool:=aiG (dX c) (edited (fC (dX c) id).1 l)
noncomputable def needed (c:jG) (u:Int) (name:Bytes) (id:Int) (b:Bool) (l:List aW) (i:Nat):Bool:=
 (ah6 c id (al0 l i)).2&&!(listed (ah6 c id (al0 l i)).1 (je c) u name id==b)
noncomputable def aos (c:jG) (u:Int) (name:Bytes) (id:Int) (b:Bool) (w:IV):Bool:=
 w.1&&((ah6 c id w.2.1).2&&((listed (ah6 c id w.2.1).1 (je c) u name id==b)&&jc w.2.1.length (needed c u name id b w.2.1)))
noncomputable def aqa (c:jG) (u:Int) (name:Bytes) (id:Int) (b:Bool):Bool:=
 (iM c&&(amK c u id&&(ajp (je c) name).2))&&aos c u name id b (akI c u name id b)
def written(c:jG)(u:Int)(name:Bytes)(id:Int)(b:Bool)(c':jG)(set:List aW)(ok:Bool):Prop:=
 ok=aqa c u name id b/\(ok=true->dX c'=(ah6 c id (akI c u name id b).2.1).1/\je c'=je c/\iM c'=true/\set=(akI c u name id b).2.1)/\(ok=false->c'=c/\set=[])
end Sp
namespace Sp
open Go
theorem PY{s:Bytes}(h:(dR s).2=true):fJ (dR s).1=s/\0<=(dR s).1/\(dR s).1<=999/\s.length<=3:=by
 have hc:(s.all isLet&&(jb (jg s)&&decide (parseNum (jg s)<=999)))=true:=by
  cases hx:(s.all isLet&&(jb (jg s)&&decide (parseNum (jg s)<=999)))with
  |true=>rfl
  |false=>unfold dR at h;rw[hx]at h;cases h
 have e:(dR s).1=parseNum (jg s):=by unfold dR;rw[hc];rfl
 rw[ark,ark,arD,arK]at hc;obtain⟨h1,h2,h3⟩:=hc;obtain⟨g1,g2⟩:=rV h2;have g3:=(Du.1 g2).1;rw[e];have eb:fJ (parseNum (jg s))=s:=by unfold fJ;rw[aru g3,aru h3,g1];show(jg s).map _=s;unfold jg;rw[asV];refine(asR λb hb=>?_).trans (atA _);have:=h1 b hb;unfold isLet at this;simp only[ark,arD]at this;show UInt8.ofNat ((UInt8.ofNat (b.toNat-49)).toNat+49)=b;rw[aty,atd (by omega),show b.toNat-49+49=b.toNat by omega];exact UInt8.ofNat_toNat
 refine⟨eb,g3,h3,?_⟩;have hl:(jg s).length=s.length:=by unfold jg;rw[arB]
 rw[← hl,← g1];obtain⟨u,hu⟩:=atu g3;rw[hu,Rl];exact(vU 2 u (by omega)).2.2.2.2
theorem alN{s:Bytes}(h:∀n:Int,0<=n->n<=999->fJ n≠s):dR s=(0,false):=by
 cases hd:(dR s).2 with
 |true=>obtain⟨e,h0,h1,_⟩:=PY hd;exact(h _ h0 h1 e).elim
 |false=>
  unfold dR at hd ⊢;cases hx:(s.all isLet&&(jb (jg s)&&decide (parseNum (jg s)<=999)))with
  |true=>rw[hx]at hd;cases hd
  |false=>rfl
theorem aeJ{v:qR}{to:Int}(h:(bQ v to).2=true):dA v.1 v.2.1 v.2.2.1=true/\v.1≠0/\(to=1\/to=2)/\(v.1=to/\(bQ v to).1=v\/v.1≠to/\to=2/\(bQ v to).1=(2,0,fJ v.2.1,())\/v.1≠to/\to=1/\(dR v.2.2.1).2=true/\(bQ v to).1=(1,(dR v.2.2.1).1,[],())):=by
 unfold bQ at h ⊢;cases hx:(dA v.1 v.2.1 v.2.2.1&&(!(v.1==0)&&(to==1||to==2)))with
 |false=>rw[hx]at h;cases h
 |true=>
  rw[hx]at h;have hh:=hx;rw[ark,ark,asv,arA,arA]at hh;refine⟨hh.1,by simpa using hh.2.1,hh.2.2,?_⟩;dsimp only[cond_true]at h ⊢;cases h1:v.1==to with
  |true=>exact .inl ⟨arA.1 h1,rfl⟩
  |false=>
   rw[h1]at h;have n1:=arn.1 h1;cases h2:to==2 with
   |true=>exact .inr (.inl ⟨n1,arA.1 h2,rfl⟩)
   |false=>
    rw[h2]at h;cases h3:(dR v.2.2.1).2 with
    |false=>rw[h3]at h;cases h
    |true=>exact .inr (.inr ⟨n1,hh.2.2.resolve_right (arn.1 h2),rfl,rfl⟩)
theorem Xa{v:qR}{to:Int}(h:(bQ v to).2=false):(bQ v to).1=(0,0,[],()):=by
 unfold bQ at h ⊢;cases hx:(dA v.1 v.2.1 v.2.2.1&&(!(v.1==0)&&(to==1||to==2)))with
 |false=>rfl
 |true=>
  rw[hx]at h;dsimp only[cond_true]at h ⊢;cases h1:v.1==to with
  |true=>rw[h1]at h;cases h
  |false=>
   rw[h1]at h;cases h2:to==2 with
   |true=>rw[h2]at h;cases h
   |false=>
    rw[h2]at h;cases h3:(dR v.2.2.1).2 with
    |true=>rw[h3]at h;cases h
    |false=>rfl
theorem aku{n:Int}{s:Bytes}(h:dA 1 n s=true):0<=n/\n<=999/\s=[]:=by unfold dA at h;simp at h;exact⟨h.1.1,h.1.2,h.2⟩
theorem aoj{n:Int}{s:Bytes}(h:dA 2 n s=true):fO s=true/\n=0:=by unfold dA at h;simp at h;exact h
theorem Sv{k n:Int}{s:Bytes}(h:dA k n s=true):k=0\/k=1\/k=2:=by
 unfold dA at h;by_cases h0:k=0
 .exact .inl h0
 by_cases h1:k=1
 .exact .inr (.inl h1)
 by_cases h2:k=2
 .exact .inr (.inr h2)
 rw[arx h0,arx h1,arx h2]at h;cases h
theorem anL{v:qR}{to:Int}(h:(bQ v to).2=true):(bQ v to).1.1=to/\dA (bQ v to).1.1 (bQ v to).1.2.1 (bQ v to).1.2.2.1=true:=by
 obtain⟨h1,h2,h3,⟨a,e⟩|⟨a,b,e⟩|⟨a,b,c,e⟩⟩:=aeJ h
 .rw[e];exact⟨a,h1⟩
 .rw[e,b];have:v.1=1:=by rcases Sv h1 with x|x|x<;>omega
  rw[this]at h1;exact⟨rfl,aon (aku h1).1 (aku h1).2.1⟩
 .rw[e,b];obtain⟨_,g1,g2,_⟩:=PY c;exact⟨rfl,aom g1 g2⟩
theorem alP{v:qR}{to:Int}(h:(bQ v to).2=true):bQ (bQ v to).1 v.1=(v,true):=by
 obtain⟨h1,h2,h3,⟨a,e⟩|⟨a,b,e⟩|⟨a,b,c,e⟩⟩:=aeJ h
 .rw[e];have h3':v.1=1\/v.1=2:=by rw[a];exact h3
  unfold bQ;rw[h1,arn.2 h2,show((v.1==1)||(v.1==2))=true from by rw[asv,arA,arA];exact h3',as2];rfl
 .rw[e];obtain⟨k,n,s,⟨⟩⟩:=v;dsimp only at h1 h2 a ⊢;have hk:k=1:=by rcases Sv h1 with x|x|x<;>omega
  subst hk;obtain⟨g1,g2,rfl⟩:=aku h1;exact ao8 g1 g2
 .rw[e];obtain⟨k,n,s,⟨⟩⟩:=v;dsimp only at h1 h2 a c ⊢;have hk:k=2:=by rcases Sv h1 with x|x|x<;>omega
  subst hk;obtain⟨_,rfl⟩:=aoj h1;obtain⟨g0,g1,g2,_⟩:=PY c;rw[ao7 g1 g2,g0]
theorem Tf(name:Bytes)(kind:Int)(f:dD):(fE name kind f).1=f.1:=by unfold fE;cases f.1==name<;>rfl
theorem Xp{name s:Bytes}{kind:Int}(h:s≠name):∀(fs:List dD),kindOf (fs.map (fE name kind)) s=kindOf fs s
 |[]=>rfl
 |f::r=>by
  rw[arS,kindOf,kindOf,Tf,Xp h r];by_cases e:f.1=s
  .rw[aru e];unfold fE;rw[arn.2 (λe2=>h (e.symm.trans e2))];rfl
  .rw[arx e];rfl
theorem O8{name:Bytes}{kind:Int}:∀(fs:List dD),kindOf fs name≠0->kindOf (fs.map (fE name kind)) name=kind
 |[],h=>(h rfl).elim
 |f::r,h=>by
  rw[arS,kindOf,Tf];rw[kindOf]at h;by_cases e:f.1=name
  .rw[aru e];unfold fE;rw[arA.2 e];rfl
  .rw[arx e]at h ⊢;exact O8 r h
theorem Xq{fs:List dD}{name:Bytes}{kind:Int}(h:dF fs=true)(hk:kind=1\/kind=2):dF (fs.map (fE name kind))=true:=by
 obtain⟨h1,h2⟩:=MS.1 h;have at_:∀i,i<fs.length->fieldAt (fs.map (fE name kind)) i=fE name kind (fieldAt fs i):=λi hi=>by unfold fieldAt;rw[arp,ars (by rw[arB];exact hi),arp,ars hi];simp
 refine MS.2 ⟨λi hi=>?_,by rw[arB];exact h2⟩;rw[arB]at hi;obtain⟨g1,g2,g3⟩:=JC.1 (h1 i hi);refine JC.2 ?_;rw[at_ i hi,Tf];refine⟨g1,?_,λh0=>?_⟩
 .unfold fE;cases (fieldAt fs i).1==name with
  |false=>exact g2
  |true=>show 1<=kind/\kind<=2;omega
 .rw[at_ (i-1) (by omega),Tf];exact g3 h0
theorem TN{fs:List dD}{name:Bytes}{kind:Int}{x:aW}(h:x.1≠name):fZ (fs.map (fE name kind)) x.1 x.2.1 x.2.2.1 x.2.2.2.1=fZ fs x.1 x.2.1 x.2.2.1 x.2.2.2.1:=by unfold fZ;rw[Xp h]
theorem adn(name:Bytes)(kind:Int)(f:aI):(dB name kind f).1=f.1:=by unfold dB;cases (aF f.2.2.2.2.1 name).1==0<;>rfl
theorem akJ{fs:List dD}{name:Bytes}{kind:Int}{f:aI}(h:dm fs f=true)(hs:dF fs=true)(hk:kind=1\/kind=2)(hn:kindOf fs name≠0):dm (fs.map (fE name kind)) (dB name kind f)=true:=by
 have ha:=WY h;have akK:=ah5 ha;obtain⟨a1,a2⟩:=A7.1 ha;have key:ja (fs.map (fE name kind)) (dB name kind f).2.2.2.2.1=true:=by
  unfold dB;by_cases h0:(aF f.2.2.2.2.1 name).1=0
  .rw[arA.2 h0];refine A7.2 ⟨λx hx=>?_,a2⟩;rw[TN]
   .exact a1 x hx
   .intro e;have:=(Xo akK x).1 hx;rw[e]at this;rw[this.2]at h0;exact this.1 h0
  .rw[arn.2 h0];dsimp only[cond_false];have n2:=ah4 akK (name,(bQ (aF f.2.2.2.2.1 name) kind).1.1,(bQ (aF f.2.2.2.2.1 name) kind).1.2.1,(bQ (aF f.2.2.2.2.1 name) kind).1.2.2.1,());refine A7.2 ⟨λx hx=>?_,n2.1⟩;obtain⟨x1,x2⟩:=(Xo n2 x).1 hx;rw[Y9]at x2;by_cases e:x.1=name
   .rw[if_pos e]at x2;have hc:(bQ (aF f.2.2.2.2.1 name) kind).2=true:=by
     cases hc:(bQ (aF f.2.2.2.2.1 name) kind).2 with
     |true=>rfl
     |false=>unfold akH at x2;rw[Xa hc]at x2;exact(x1 (by rw[← x2];rfl)).elim
    obtain⟨k1,k2⟩:=anL hc;have:x.2=(bQ (aF f.2.2.2.2.1 name) kind).1:=by rw[← x2];unfold akH;dsimp only;rw[k1,arn.2 (by omega)];exact atO k1.symm rfl
    unfold fZ;rw[e,O8 fs hn,this,k2,k1,arx (show ¬kind=0 by omega),aru rfl];rfl
   .rw[if_neg e]at x2;rw[TN e];exact a1 x ((Xo akK x).2 ⟨x1,x2⟩)
 have hp:=h;unfold dm at h ⊢;rw[ha,hs]at h;rw[key,Xq hs hk];unfold dB;cases (aF f.2.2.2.2.1 name).1==0<;>exact h
theorem afx{s:bf}{name:Bytes}{kind:Int}(h:(aP s name kind).2.2=true):ak s=true/\kindOf s.1 name≠0/\(kind=1\/kind=2)/\aP s name kind=((s.1.map (fE name kind),s.2.1.map (dB name kind),s.2.2.1,()),(s.2.1.filter (dL name kind)).map (λf=>(f.1,())),true):=by
 unfold aP at h ⊢;cases hx:(ak s&&(!decide (fieldPlace s.1 name<0)&&(kind==1||kind==2)))with
 |false=>rw[hx]at h;cases h
 |true=>rw[ark,ark,asv,arA,arA]at hx;obtain⟨h1,h2,h3⟩:=hx;refine⟨h1,?_,h3,rfl⟩;have:=ahO (name:=name) (yY.1 h1).2.2.1;intro e;rw[aru e]at this;rw[← this]at h2;cases h2
theorem Oa{s:bf}{name:Bytes}{kind:Int}(h:(aP s name kind).2.2=false):aP s name kind=(s,[],false):=by
 unfold aP at h ⊢;cases hx:(ak s&&(!decide (fieldPlace s.1 name<0)&&(kind==1||kind==2)))with
 |false=>rfl
 |true=>rw[hx]at h;cases h
theorem FH{s:bf}{name:Bytes}{kind:Int}(h:(aP s name kind).2.2=true):ak (aP s name kind).1=true/\kindOf (aP s name kind).1.1 name=kind/\
 ∀x∈(aP s name kind).2.1,aF (fC (aP s name kind).1 x.1).1.2.2.2.2.1 name=(0,0,[],()):=by
 obtain⟨h1,h2,h3,e⟩:=afx h;obtain⟨k1,k2,k3,k4,k5⟩:=yY.1 h1;rw[e];have hok:ak (s.1.map (fE name kind),s.2.1.map (dB name kind),s.2.2.1,())=true:=by
  refine yY.2 ⟨λf hf=>?_,?_,Xq k3 h3,by show(s.2.1.map (dB name kind)).length<=12;rw[arB];exact k4,k5⟩
  .obtain⟨g,hg,rfl⟩:=asK.1 hf;rw[adn];exact⟨akJ (k1 g hg).1 k3 h3 h2,(k1 g hg).2⟩
  .show List.Pairwise _ (s.2.1.map (dB name kind));rw[auH];exact k2.imp λ{a b} hab=>by rw[adn,adn];exact hab
 refine⟨hok,O8 s.1 h2,λx hx=>?_⟩;obtain⟨f,hf,rfl⟩:=asK.1 hx;obtain⟨f1,f2⟩:=asX.1 hf;have hm:dB name kind f∈(s.1.map (fE name kind),s.2.1.map (dB name kind),s.2.2.1,()).2.1:=asK.2 ⟨f,f1,rfl⟩;have ef:=ahX hok hm;rw[adn]at ef;dsimp only;rw[ef];unfold dL at f2;rw[ark]at f2;have g1:(aF f.2.2.2.2.1 name).1≠0:=by simpa using f2.1
 have g2:(bQ (aF f.2.2.2.2.1 name) kind).2=false:=by simpa using f2.2
 unfold dB;rw[arn.2 g1];dsimp only[cond_false];rw[Xa g2];exact(Y9 f.2.2.2.2.1 (name,0,0,[],()) name).trans (if_pos rfl)
end Sp
namespace Go.Fw
open Go
theorem ahA{α:Type}{l:List α}{lo:Nat}{news:List α}(h:lo+news.length<=l.length):(eH l lo news).length=l.length:=by unfold eH;simp only[arv,aro,arY];omega
theorem afr{α:Type}{l:List α}{lo k:Nat}{news:List α}(hk:k<=lo)(h:lo<=l.length):(eH l lo news).take k=l.take k:=by unfold eH;rw[ar6,asB (by rw[aro];omega),atc,asT hk]
theorem eqL{α β:Type}(e:α->α->Bool)(he:∀x y,e x y=false↔x=y)(d:α)(a b:List α)[Decidable (a=b)](t:β)(hlen:a.length<=maxLen){K:Bool×Unit->Prop}(hK:K (decide (a=b),())):
 bif ((a.length:Int)) !=(b.length:Int)then K (false,())else
 ∃(I:(Int×Unit)×Unit->Prop),∃(μ:(Int×Unit)×Unit->Nat),I (((0:Int),()),())/\∀(y:(Int×Unit)×Unit),I y->
  bif decide (y.fst.fst<(a.length:Int))then
   ((0:Int)<=y.fst.fst/\y.fst.fst<(a.length:Int))/\((0:Int)<=y.fst.fst/\y.fst.fst<(b.length:Int))/\
     (bif e (a.getD (Int.toNat y.fst.fst) d) (b.getD (Int.toNat y.fst.fst) d)then K (false,())
     else t=t/\I ((IntKind.i64.wrap (y.fst.fst+(1:Int)),()),())/\μ ((IntKind.i64.wrap (y.fst.fst+(1:Int)),()),())<μ y)
  else K (true,()):=by
 rw[maxLen_eq]at hlen;refine af (λh=>?_) λh=>?_
 .have h:(a.length:Int)≠b.length:=by simpa using h
  rw[arx λe=>h (by rw[e])]at hK;exact hK
 .have h:(a.length:Int)=b.length:=by simpa using h
  exact Qb e he d a b t hlen (by omega) (λe=>by rw[arx e]at hK;exact hK) λe=>by rw[aru e]at hK;exact hK
theorem amz{α β:Type}(e:α->α->Bool)(he:∀x y,e x y=false↔x=y)(d:α)(a b:List α)[Decidable (a=b)](t:β)(hlen:a.length<=maxLen){K:Bool×Unit->Prop}(hK:K (decide (a=b),())):
 bif ((a.length:Int)) !=(b.length:Int)then K (false,())else
 ∃(I:(Int×Unit)×Unit->Prop),∃(μ:(Int×Unit)×Unit->Nat),I (((0:Int),()),())/\∀(y:(Int×Unit)×Unit),I y->
  bif decide (y.fst.fst<(a.length:Int))then
   ((0:Int)<=y.fst.fst/\y.fst.fst<(a.length:Int))/\((0:Int)<=y.fst.fst/\y.fst.fst<(b.length:Int))/\True/\
     (bif e (a.getD (Int.toNat y.fst.fst) d) (b.getD (Int.toNat y.fst.fst) d)then K (false,())
     else t=t/\I ((IntKind.i64.wrap (y.fst.fst+(1:Int)),()),())/\μ ((IntKind.i64.wrap (y.fst.fst+(1:Int)),()),())<μ y)
  else K (true,()):=by
 rw[maxLen_eq]at hlen;refine af (λh=>?_) λh=>?_
 .have h:(a.length:Int)≠b.length:=by simpa using h
  rw[arx λe=>h (by rw[e])]at hK;exact hK
 .have h:(a.length:Int)=b.length:=by simpa using h
  exact ZO e he d a b t hlen (by omega) (λe=>by rw[arx e]at hK;exact hK) λe=>by rw[aru e]at hK;exact hK
theorem WE{α β:Type}(p:α->Bool)(d:α)(a:List α)(t:β)(hlen:a.length<=maxLen){K:Int×Unit->Prop}(hK:K (Sp.findAt p a,())):
 ∃(I:(Int×Unit)×Unit->Prop),∃(μ:(Int×Unit)×Unit->Nat),I (((0:Int),()),())/\∀(y:(Int×Unit)×Unit),I y->
  bif decide (y.fst.fst<(a.length:Int))then
   ((0:Int)<=y.fst.fst/\y.fst.fst<(a.length:Int))/\True/\
     (bif p (a.getD (Int.toNat y.fst.fst) d)then K (y.fst.fst,())
     else t=t/\I ((IntKind.i64.wrap (y.fst.fst+(1:Int)),()),())/\μ ((IntKind.i64.wrap (y.fst.fst+(1:Int)),()),())<μ y)
  else K ((-1:Int),()):=by
 rw[maxLen_eq]at hlen;refine iJ a.length hlen (λn=>∀i,i<n->p (a.getD i d)=false) (λi hi=>by omega) (λI μ n hn hJ next=>?_) λI μ hJ=>?_
 .dsimp only;refine dG (by omega) ⟨⟨by omega,by omega⟩,trivial,af (λh=>?_) λh=>⟨rfl,next λi hi=>?_⟩⟩
  .rw[Sp.afB hn hJ h]at hK;exact hK
  .rcases arH i n with h'|h'
   .exact hJ i h'
   .have:i=n:=by omega
    rw[this];exact h
 .dsimp only;refine dH (by omega) ?_;rw[Sp.Y7 hJ]at hK;exact hK
theorem alB{α β:Type}(p:α->Bool)(d:α)(a:List α)(t:β)(hlen:a.length<=maxLen){K:Int×Unit->Prop}(hK:K (Sp.findAt p a,())):
 ∃(I:(Int×Unit)×Unit->Prop),∃(μ:(Int×Unit)×Unit->Nat),I (((0:Int),()),())/\∀(y:(Int×Unit)×Unit),I y->
  bif decide (y.fst.fst<(a.length:Int))then
   ((0:Int)<=y.fst.fst/\y.fst.fst<(a.length:Int))/\
     (bif p (a.getD (Int.toNat y.fst.fst) d)then K (y.fst.fst,())
     else t=t/\I ((IntKind.i64.wrap (y.fst.fst+(1:Int)),()),())/\μ ((IntKind.i64.wrap (y.fst.fst+(1:Int)),()),())<μ y)
  else K ((-1:Int),()):=by
 obtain⟨I,μ,h0,h1⟩:=WE p d a t hlen hK;refine⟨I,μ,h0,λy hy=>?_⟩;have:=h1 y hy;revert this;cases decide (y.fst.fst<(a.length:Int))with
 |true=>exactλh=>⟨h.1,h.2.2⟩
 |false=>exact id
theorem ajf{α β:Type}(p:α->Bool)(d:α)(s:List α)(t:β)(hlen:s.length<=4611686018427387903){K:(List α×Unit)×Unit->Prop}(hK:K ((s.filter λx=>!p x,()),())):
 bif Sp.findAt p s==(-1:Int)then K ((s,()),())else
 ∃(I:(Int×Int×Unit)×List α×Unit->Prop),∃(μ:(Int×Int×Unit)×List α×Unit->Nat),
  I ((Sp.findAt p s,IntKind.i64.wrap (Sp.findAt p s+(1:Int)),()),s,())/\∀(y:(Int×Int×Unit)×List α×Unit),I y->
    bif decide (y.fst.snd.fst<(↑(List.length y.snd.fst):Int))then
     ((0:Int)<=y.fst.snd.fst/\y.fst.snd.fst<(↑(List.length y.snd.fst):Int))/\Int.toNat y.fst.snd.fst<List.length y.snd.fst/\True/\
       (bif !p (List.getD y.snd.fst (Int.toNat y.fst.snd.fst) d)then
         ((0:Int)<=y.fst.fst/\y.fst.fst<(↑(List.length y.snd.fst):Int))/\Int.toNat y.fst.fst<List.length y.snd.fst/\t=t/\
           I ((IntKind.i64.wrap (y.fst.fst+(1:Int)),IntKind.i64.wrap (y.fst.snd.fst+(1:Int)),()),List.set y.snd.fst (Int.toNat y.fst.fst) (List.getD y.snd.fst (Int.toNat y.fst.snd.fst) d),())/\
           μ ((IntKind.i64.wrap (y.fst.fst+(1:Int)),IntKind.i64.wrap (y.fst.snd.fst+(1:Int)),()),List.set y.snd.fst (Int.toNat y.fst.fst) (List.getD y.snd.fst (Int.toNat y.fst.snd.fst) d),())<μ y
       else t=t/\I ((y.fst.fst,IntKind.i64.wrap (y.fst.snd.fst+(1:Int)),()),y.snd.fst,())/\μ ((y.fst.fst,IntKind.i64.wrap (y.fst.snd.fst+(1:Int)),()),y.snd.fst,())<μ y)
    else
     (0:Nat)<List.length y.snd.fst/\((0:Int)<=y.fst.fst/\y.fst.fst<=(↑(List.length y.snd.fst):Int))/\
       (0:Nat)+Int.toNat y.fst.fst+(List.length y.snd.fst-Int.toNat y.fst.fst)<=List.length y.snd.fst/\
         ((0:Nat)<(eH y.snd.fst ((0:Nat)+Int.toNat y.fst.fst) (List.replicate (List.length y.snd.fst-Int.toNat y.fst.fst) d)).length/\
           List.length y.snd.fst<=(eH y.snd.fst ((0:Nat)+Int.toNat y.fst.fst) (List.replicate (List.length y.snd.fst-Int.toNat y.fst.fst) d)).length)/\
           ((0:Int)<=y.fst.fst/\y.fst.fst<=(↑(List.take (List.length y.snd.fst) (eH y.snd.fst ((0:Nat)+Int.toNat y.fst.fst) (List.replicate (List.length y.snd.fst-Int.toNat y.fst.fst) d))).length:Int))/\
             K ((List.take (Int.toNat y.fst.fst) (List.take (List.length y.snd.fst) (eH y.snd.fst ((0:Nat)+Int.toNat y.fst.fst) (List.replicate (List.length y.snd.fst-Int.toNat y.fst.fst) d))),()),()):=by
 rcases Sp.GL p d s with⟨e,hno⟩|⟨n,hn,e,he,hne⟩
 .rw[e];have:s.filter (λx=>!p x)=s:=aut.2 λx hx=>by obtain⟨i,hi,rfl⟩:=asb hx;have:=hno i hi;rw[arp,ars hi]at this;exact congrArg Bool.not this
  rw[this]at hK;exact hK
 .rw[e];have e1:(((n:Nat):Int)==-1)=false:=by rw[arn];omega
  rw[e1];have w1:∀k:Nat,k<=4611686018427387903->IntKind.i64.wrap ((k:Int)+1)=((k+1:Nat):Int):=λk hk=>fD _ (by omega);rw[w1 n (by omega)];refine⟨λy=>∃(i j:Nat)(l:List α),y=(((i:Int),(j:Int),()),l,())/\i<j/\j<=s.length/\l.length=s.length/\l.take i=(s.take j).filter (λx=>!p x)/\∀t,j<=t->l.getD t d=s.getD t d,
   λy=>((s.length:Int)-y.1.2.1).toNat,⟨n,n+1,s,rfl,by omega,by omega,rfl,?_,λ_ _=>rfl⟩,?_⟩
  .rw[Sp.take_succ' s n d hn,as5,atP];have h1:(!p (s.getD n d))=false:=congrArg Bool.not he;rw[h1];have h2:(s.take n).filter (λx=>!p x)=s.take n:=aut.2 λx hx=>by
    obtain⟨i,hi,rfl⟩:=asb hx;have hi':i<n:=by rw[aro]at hi;omega
    have:=hne i hi';rw[arp,ars (by omega)]at this;rw[List.getElem_take];exact congrArg Bool.not this
   rw[h2];simp
  .rintro y ⟨i,j,l,rfl,hij,hj,hl,ht,hs⟩;dsimp only;refine af (λh=>?_) λh=>?_
   .have h:j<s.length:=by have h:=asM h;omega
    have hsj:=hs j (arF _);rw[arI,arI,hsj,w1 i (by omega),w1 j (by omega)];refine⟨⟨by omega,by omega⟩,by omega,trivial,af (λh2=>⟨⟨by omega,by omega⟩,by omega,rfl,⟨i+1,j+1,_,rfl,by omega,by omega,by rw[arP];exact hl,?_,λt ht=>?_⟩,by omega⟩) λh2=>⟨rfl,⟨i,j+1,l,rfl,by omega,by omega,hl,?_,λt ht=>hs t (by omega)⟩,by omega⟩⟩
    .rw[Sp.take_succ' _ i d (by rw[arP];omega),Sp.take_succ' s j d h,as5,atP,List.take_set_of_le (arF _),ht];have h3:(!p (s.getD j d))=true:=h2;rw[h3,arp,atD,if_pos rfl,if_pos (by omega)];rfl
    .rw[arp,atD,if_neg (by omega),← arp];exact hs t (by omega)
    .rw[Sp.take_succ' s j d h,as5,atP,ht];have h3:(!p (s.getD j d))=false:=h2;rw[h3];simp
   .have h:j=s.length:=by have h:=of_decide_eq_false h;omega
    rw[arI,arQ];have l1:(eH l i (List.replicate (l.length-i) d)).length=l.length:=ahA (by rw[aul];omega);refine⟨by omega,⟨by omega,by omega⟩,by omega,⟨by rw[l1];omega,by rw[l1];omega⟩,⟨by omega,by rw[aro,l1];omega⟩,?_⟩;rw[atc,asT (by omega),afr (arF _) (by omega),ht,h,arZ];exact hK
end Go.Fw
namespace Go.Fw
open Go
theorem aof{α β:Type}(p:α->Bool)(d:α)(a:List α)(t:β)(hlen:a.length<=maxLen){K:Bool×Unit->Prop}(hK:K (a.any p,())):
 ∃(I:(Int×Unit)×Unit->Prop),∃(μ:(Int×Unit)×Unit->Nat),I (((0:Int),()),())/\∀(y:(Int×Unit)×Unit),I y->
  bif decide (y.fst.fst<(a.length:Int))then
   ((0:Int)<=y.fst.fst/\y.fst.fst<(a.length:Int))/\
     (bif p (a.getD (Int.toNat y.fst.fst) d)then K (true,())
     else t=t/\I ((IntKind.i64.wrap (y.fst.fst+(1:Int)),()),())/\μ ((IntKind.i64.wrap (y.fst.fst+(1:Int)),()),())<μ y)
  else K (false,()):=by
 rw[maxLen_eq]at hlen;refine iJ a.length hlen (λn=>∀i,i<n->p (a.getD i d)=false) (λi hi=>by omega) (λI μ n hn hJ next=>?_) λI μ hJ=>?_
 .dsimp only;refine dG (by omega) ⟨⟨by omega,by omega⟩,af (λh=>?_) λh=>⟨rfl,next λi hi=>?_⟩⟩
  .have:a.any p=true:=atr.2 ⟨a.getD n d,by rw[arp,ars hn];exact asF hn,h⟩;rw[this]at hK;exact hK
  .rcases arH i n with h'|h'
   .exact hJ i h'
   .have:i=n:=by omega
    rw[this];exact h
 .dsimp only;refine dH (by omega) ?_;have:a.any p=false:=by rw[atB];intro x hx;obtain⟨i,hi,rfl⟩:=asb hx;have:=hJ i hi;rw[arp,ars hi]at this;simpa using this
  rw[this]at hK;exact hK
theorem ahG{α:Type}(p:α->Bool)(s:List α):decide (Sp.findAt p s>=0)=s.any p:=by
 cases hs:s with
 |nil=>rfl
 |cons d r=>
  rw[← hs];rcases Sp.GL p d s with⟨e,h⟩|⟨n,hn,e,h1,h2⟩
  .rw[e,arx (by omega)]
   symm
   rw[atB];intro x hx;obtain⟨i,hi,rfl⟩:=asb hx;have:=h i hi;rw[arp,ars hi]at this;simpa using this
  .rw[e,aru (by omega)]
   symm
   exact atr.2 ⟨s.getD n d,by rw[arp,ars hn];exact asF hn,h1⟩
theorem OV{α:Type}(p:α->Bool)(d:α)(l:List α){n:Nat}(h:n<l.length):(l.take (n+1)).filter p=(l.take n).filter p++(bif p (l.getD n d)then[l.getD n d]else[]):=by rw[Sp.take_succ' l n d h,as5,atP];cases p (l.getD n d)<;>rfl
theorem aad{α β δ:Type}(p:α->Bool)(g:α->β)(d:α)(a:List α)(t:δ){A:Int->Prop}(hA:∀n:Nat,n<a.length->A n)(hlen:a.length<=4000000){K:List β×Unit->Prop}(hK:K ((a.filter p).map g,())):
 ∃(I:(Unit×Int×Unit)×List β×Unit->Prop),∃(μ:(Unit×Int×Unit)×List β×Unit->Nat),I (((),(0:Int),()),[],())/\∀(y:(Unit×Int×Unit)×List β×Unit),I y->
  bif decide (y.1.2.1<(a.length:Int))then
   ((0:Int)<=y.1.2.1/\y.1.2.1<(a.length:Int))/\A y.1.2.1/\
     (bif p (a.getD (Int.toNat y.1.2.1) d)then List.length y.2.1+1<=big/\t=t/\I (((),IntKind.i64.wrap (y.1.2.1+(1:Int)),()),y.2.1++[g (a.getD (Int.toNat y.1.2.1) d)],())/\μ (((),IntKind.i64.wrap (y.1.2.1+(1:Int)),()),y.2.1++[g (a.getD (Int.toNat y.1.2.1) d)],())<μ y
     else t=t/\I (((),IntKind.i64.wrap (y.1.2.1+(1:Int)),()),y.2)/\μ (((),IntKind.i64.wrap (y.1.2.1+(1:Int)),()),y.2)<μ y)
  else K y.2:=by
 refine eP (λi(x:List β)=>(((),i,()),x,())) (λy=>y.1.2.1) (λ_ _=>rfl) a.length (by omega) (λn l=>l=((a.take n).filter p).map g) (by simp) (λI μ n l hn hJ next=>?_) λI μ l hJ=>?_
 .subst hJ;have hl:(((a.take n).filter p).map g).length<=n:=by have:=asn p (a.take n);rw[arB];rw[aro]at this;omega
  have step:=OV p d a hn;dsimp only;refine dG (by omega) ⟨⟨by omega,by omega⟩,hA n hn,af (λh=>⟨by rw[bW];omega,rfl,next _ ?_⟩) λh=>⟨rfl,next _ ?_⟩⟩
  .have h:p (a.getD n d)=true:=h;rw[step,h,asJ];rfl
  .have h:p (a.getD n d)=false:=h;rw[step,h,asJ];simp
 .subst hJ;dsimp only;refine dH (by omega) ?_;rw[arZ];exact hK
theorem aog{α β δ:Type}(g:α->β)(d:α)(a:List α)(t:δ)(hlen:a.length<=4000000){K:List β×Unit->Prop}(hK:K (a.map g,())):
 ∃(I:(Unit×Int×Unit)×List β×Unit->Prop),∃(μ:(Unit×Int×Unit)×List β×Unit->Nat),I (((),(0:Int),()),[],())/\∀(y:(Unit×Int×Unit)×List β×Unit),I y->
  bif decide (y.1.2.1<(a.length:Int))then
   ((0:Int)<=y.1.2.1/\y.1.2.1<(a.length:Int))/\
     List.length y.2.1+1<=big/\t=t/\I (((),IntKind.i64.wrap (y.1.2.1+(1:Int)),()),y.2.1++[g (a.getD (Int.toNat y.1.2.1) d)],())/\μ (((),IntKind.i64.wrap (y.1.2.1+(1:Int)),()),y.2.1++[g (a.getD (Int.toNat y.1.2.1) d)],())<μ y
  else K y.2:=by
 obtain⟨I,μ,h0,h1⟩:=aad (λ_=>true) g d a t (A:=λ_=>True) (λ_ _=>trivial) hlen (K:=K) (by rw[aut.2 λ_ _=>rfl];exact hK);refine⟨I,μ,h0,λy hy=>?_⟩;have:=h1 y hy;revert this;cases decide (y.1.2.1<(a.length:Int))with
 |true=>exactλh=>⟨h.1,h.2.2⟩
 |false=>exact id
end Go.Fw
