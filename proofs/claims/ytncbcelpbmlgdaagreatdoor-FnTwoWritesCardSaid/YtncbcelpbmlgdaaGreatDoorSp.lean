import Derived.Test.YtncbcelpbmlgdaaGreatDoorFwA
import Derived.Lib.ItoaNum
import Derived.Lib.ItoaLen
import Derived.Lib.Join
import Derived.Test.YtncbcelpbmlgdaaGreatDoorFwC
import Derived.Lib.Fields
import Derived.Lib.Atoi
import Derived.Lib.SplitLaws
namespace Sp
open Go
abbrev Bytes:=List UInt8
abbrev LI:=List (Int×Unit)
abbrev LS:=List (Bytes×Unit)
theorem take_succ'{α:Type}(a:List α)(n:Nat)(d:α)(h:n<a.length):a.take (n+1)=a.take n++[a.getD n d]:=by rw[apX h,aoN,aoQ h];rfl
def Yz(l:LI):Prop:=∀x∈l,-9223372036854775808<=x.1/\x.1<=9223372036854775807
theorem Yz.take{a:LI}(h:Yz a)(n:Nat):Yz (a.take n):=λx hx=>h x (aqp hx)
theorem Yz.get{a:LI}(h:Yz a){n:Nat}(hn:n<a.length)(d:Int×Unit):(Lib.itoa (a.getD n d).1).length<=21:=by
 have:a.getD n d∈a:=by rw[aoN,aoQ hn,aq3];exact ap2 hn
 exact Lib.itoa_length_le _ (h _ this).1 (h _ this).2
theorem ZE(c:Nat):Lib.decDigits c=(if c / 10=0 then[]else Lib.decDigits (c / 10))++[UInt8.ofNat (48+c%10)]:=by
 conv=>lhs;rw[Lib.decDigits]
 by_cases h:c<10
 .rw[dif_pos h,if_pos (by omega),arP h];rfl
 .rw[dif_neg h,if_neg (by omega)]
end Sp
namespace Sp
open Go
set_option synthInstance.maxSize 100000
set_option synthInstance.maxHeartbeats 1000000
abbrev Ac:=Int×Int×Bytes×Unit
abbrev bT:=Bytes×Int×Int×Bytes×Unit
abbrev ax:=Int×Int×Int×Bytes×Int×Int×Bytes×Unit
abbrev aT:=Int×Int×Bool×Int×List bT×Unit
abbrev bf:=Bytes×List ax×Unit
abbrev xH:=Int×Int×Int×Bool×Int×List bT×Int×Bytes×List ax×Unit
instance:DecidableEq Ac:=inferInstance
instance:DecidableEq bT:=inferInstance
instance:DecidableEq ax:=inferInstance
instance:DecidableEq aT:=inferInstance
instance:DecidableEq bf:=inferInstance
instance:DecidableEq (Int×bf):=inferInstance
instance:DecidableEq (List bT×Int×bf):=inferInstance
instance:DecidableEq (Bool×Int×List bT×Int×bf):=inferInstance
instance anT:DecidableEq xH:=(inferInstance:DecidableEq (Int×Int×Int×Bool×Int×List bT×Int×bf))
instance:DecidableEq (List xH):=inferInstance
instance:DecidableEq (List xH×Bytes×Int×Unit):=inferInstance
def lower(s:Bytes):Bool:=s.all λc=>decide (97<=c.toNat)&&decide (c.toNat<=122)
def aS(s:Bytes):Bool:=lower s&&decide (1<=(s.length:Int))&&decide ((s.length:Int)<=6)
def dO(n:Int):Bool:=decide (0<=n)&&decide (n<=1000000000)
def idxFrom:Int->LI->Int
 |_,[]=>-1
 |k,x::r=>if dO x.1 then idxFrom (k+1) r else k
def idxOf(l:LI):Int:=idxFrom 0 l
def aje(k:Int)(nc:Nat):Bool:=decide (1<=k)&&decide (k<=8)&&decide ((nc:Int)<=6)
def Oe(k u:Int)(nc:Nat)(n:Bytes)(a:Int):Bytes:=
 bif !(aje k nc)then[]else
 bif (decide ((nc:Int)>0)&&decide (k>2))then[]else
 bif (k==1&&(dO u&&(a==0&&n==[])))then[99,111,109,109,105,116,32]++Lib.itoa u else
 bif (k==2&&(dO u&&(dO a&&n==[])))then[99,114,97,115,104,32]++Lib.itoa u++[32]++Lib.itoa a else
 bif (k==3&&(dO u&&(aS n&&a==0)))then[119,97,116,99,104,32]++Lib.itoa u++[32]++n else
 bif (k==4&&(u==0&&(dO a&&n==[])))then[112,105,110,32]++Lib.itoa a else
 bif (k==5&&(u==0&&(dO a&&n==[])))then[117,110,112,105,110,32]++Lib.itoa a else
 bif (k==6&&(u==0&&(a==0&&n==[])))then[99,111,108,108,101,99,116]else
 bif (k==7&&(dO u&&(dO a&&aS n)))then[97,100,100,32]++Lib.itoa u++[32]++n++[32]++Lib.itoa a else
 bif (k==8&&(dO u&&(dO a&&aS n)))then[114,101,109,111,118,101,32]++Lib.itoa u++[32]++n++[32]++Lib.itoa a else[]
end Sp
namespace Sp
open Go
abbrev dH:=Bytes×Int×Unit
abbrev gI:=List dH×List aT×Int×Unit
instance:DecidableEq dH:=inferInstance
instance:DecidableEq (List dH):=inferInstance
instance:DecidableEq (List aT):=inferInstance
instance:DecidableEq (List aT×Int×Unit):=inferInstance
instance aoj:DecidableEq gI:=(inferInstance:DecidableEq (List dH×List aT×Int×Unit))
def usual:List dH:=[([97],1,()),([98],1,()),([110],2,()),([116],2,())]
def Gj(f:aT):Prop:=f.2.2.2.2.1.length<=1000
def J8(s:gI):Prop:=s.1.length<=1000/\s.2.1.length<=1000/\∀f∈s.2.1,Gj f
def iI(n:Nat)(f:Nat->Bool):Bool:=(List.range n).all f
def bZ(s:Bytes):Bool:=lower s&&decide (1<=(s.length:Int))&&decide ((s.length:Int)<=1)
def bn(k n:Int)(s:Bytes):Bool:=
 bif decide (k=0)then decide (n=0)&&decide (s=[])
 else bif decide (k=1)then decide (0<=n)&&decide (n<=999)&&decide (s=[])
 else bif decide (k=2)then aS s&&decide (n=0)
 else false
def kindOf:List dH->Bytes->Int
 |[],_=>0
 |f::r,s=>bif decide (f.1=s)then f.2.1 else kindOf r s
def fieldAt(fs:List dH)(i:Nat):dH:=fs.getD i ([],0,())
def iY(fs:List dH)(i:Nat):Bool:=
 bZ (fieldAt fs i).1&&(decide (1<=(fieldAt fs i).2.1)&&decide ((fieldAt fs i).2.1<=2))&&!(decide (0<i)&&!Op.bytesLess (fieldAt fs (i-1)).1 (fieldAt fs i).1)
def dP(fs:List dH):Bool:=iI fs.length (iY fs)&&decide ((fs.length:Int)<=5)
def iy(fs:List dH)(name:Bytes)(k n:Int)(s:Bytes):Bool:=bn k n s&&!decide (k=0)&&decide (k=kindOf fs name)
def bG(as:List bT)(i:Nat):bT:=as.getD i ([],0,0,[],())
def jf(fs:List dH)(as:List bT)(i:Nat):Bool:=
 iy fs (bG as i).1 (bG as i).2.1 (bG as i).2.2.1 (bG as i).2.2.2.1&&!(decide (0<i)&&!Op.bytesLess (bG as (i-1)).1 (bG as i).1)
def nY(fs:List dH)(as:List bT):Bool:=iI as.length (jf fs as)
def cZ(fs:List dH)(f:aT):Bool:=
 nY fs f.2.2.2.2.1&&dP fs&&(decide (1<=f.1)&&decide (f.1<=60))&&(decide (0<=f.2.1)&&decide (f.2.1<=2))&&(decide (0<=f.2.2.2.1)&&decide (f.2.2.2.1<=60))
def fileAt(fs:List aT)(i:Nat):aT:=fs.getD i (0,0,false,0,[],())
def jX(s:gI)(i:Nat):Bool:=
 cZ s.1 (fileAt s.2.1 i)&&decide ((fileAt s.2.1 i).1<s.2.2.1)&&!(decide (0<i)&&!decide ((fileAt s.2.1 (i-1)).1<(fileAt s.2.1 i).1))
def eF(s:gI):Bool:=
 iI s.2.1.length (jX s)&&dP s.1&&decide ((s.2.1.length:Int)<=12)&&(decide (1<=s.2.2.1)&&decide (s.2.2.1<=61))
def BB:Int->List aT->Int->Int
 |_,[],_=>-1
 |k,f::r,id=>bif decide (f.1=id)then k else BB (k+1) r id
def place(fs:List aT)(id:Int):Int:=BB 0 fs id
def akH(f:aT)(u:Int):Bool:=(decide (0<=u)&&decide (u<=2))&&(decide (f.2.1=u)||f.2.2.1)
def ajf(f:aT)(u:Int):Bool:=(decide (0<=u)&&decide (u<=2))&&decide (f.2.1=u)
def unlink(fs:List aT)(f:aT):aT:=(f.1,f.2.1,f.2.2.1,(bif decide (place fs f.2.2.2.1<0)then 0 else f.2.2.2.1),f.2.2.2.2.1,())
def visible(s:gI)(u:Int):gI:=
 let fs:=s.2.1.filter (akH · u)
 (s.1,fs.map (unlink fs),s.2.2.1,())
def alu:aT:=(0,0,false,0,[],())
def Og(s:gI)(id:Int):aT×Bool:=
 bif decide (place s.2.1 id<0)then(alu,false)else(fileAt s.2.1 (place s.2.1 id).toNat,true)
def nH(name:Bytes)(b:bT):Bool:=!(b.1==name)
def nZ(name:Bytes)(b:bT):Bool:=Op.bytesLess b.1 name||b.1==name
def Tq(as:List bT)(a:bT):List bT:=as.takeWhile (nZ a.1)++a::as.dropWhile (nZ a.1)
def oO(as:List bT)(name:Bytes)(k n:Int)(s:Bytes):List bT:=
 bif decide (k=0)then as.filter (nH name)else Tq (as.filter (nH name)) (name,k,n,s,())
def dV(s:gI)(f:aT):gI×Int×Bool:=
 let g:aT:=(s.2.2.1,f.2)
 bif eF s&&decide ((s.2.1.length:Int)<12)&&cZ s.1 g then((s.1,s.2.1++[g],s.2.2.1+1,()),s.2.2.1,true)else(s,0,false)
def aeB(s:gI)(f:aT):gI×Bool:=
 bif eF s&&!decide (place s.2.1 f.1<0)&&cZ s.1 f then((s.1,s.2.1.set (place s.2.1 f.1).toNat f,s.2.2.1,()),true)else(s,false)
def sample(n:Int):gI:=(dV (usual,[],1,()) (0,0,false,0,oO [] [97] 1 n [],())).1
def adA{α:Type}(p:α->Bool):Int->List α->Int
 |_,[]=>-1
 |k,f::r=>bif p f then k else adA p (k+1) r
def findAt{α:Type}(p:α->Bool)(l:List α):Int:=adA p 0 l
def fieldPlace(l:List dH)(name:Bytes):Int:=findAt (λf=>f.1==name) l
end Sp
namespace Sp
theorem adB:∀(n m:Nat)(L:Nat->Nat),(∀k,k<m->∃j,j<n/\L j=k)->m<=n
 |0,m,L,h=>by
  rcases aqm m with h0|h0
  .omega
  .obtain⟨j,hj,_⟩:=h 0 h0;omega
 |n+1,m,L,h=>by
  by_cases hv:L n<m
  .have:=adB n (m-1) (λj=>if L n<L j then L j-1 else L j) λk hk=>by
    by_cases h1:k<L n
    .obtain⟨j,hj,e⟩:=h k (by omega);have:j≠n:=λe2=>by subst e2;omega
     exact⟨j,by omega,by show(if _ then _ else _)=_;rw[if_neg (by omega)];exact e⟩
    .obtain⟨j,hj,e⟩:=h (k+1) (by omega);have:j≠n:=λe2=>by subst e2;omega
     exact⟨j,by omega,by show(if _ then _ else _)=_;rw[if_pos (by omega)];omega⟩
   omega
  .have:=adB n m L λk hk=>by
    obtain⟨j,hj,e⟩:=h k hk;have:j≠n:=λe2=>by subst e2;omega
    exact⟨j,by omega,e⟩
   omega
abbrev Oh:=List (Nat×Nat×Nat)
def ig(E:Oh)(L:Nat->Nat):Prop:=∀e∈E,L e.2.1+e.2.2<=L e.1
def ZO(E:Oh)(n:Nat):Prop:=∀e∈E,e.1<n/\e.2.1<n/\e.2.2<=1
def sumTo(n:Nat)(L:Nat->Nat):Nat:=match n with|0=>0|n+1=>sumTo n L+L n
theorem sumTo_le{L M:Nat->Nat}:∀n,(∀i,i<n->L i<=M i)->sumTo n L<=sumTo n M
 |0,_=>aoP _
 |n+1,h=>Nat.add_le_add (sumTo_le n λi hi=>h i (by omega)) (h n (by omega))
theorem adC{L M:Nat->Nat}:∀n,(∀i,i<n->L i<=M i)->(∃i,i<n/\L i<M i)->sumTo n L<sumTo n M
 |0,_,⟨i,hi,_⟩=>by omega
 |n+1,h,⟨i,hi,hl⟩=>by
  have h1:=sumTo_le n λj hj=>h j (aqU hj);show sumTo n L+L n<sumTo n M+M n;by_cases e:i=n
  .subst e;omega
  .have:=adC n (λj hj=>h j (aqU hj)) ⟨i,by omega,hl⟩;have:=h n (by omega);omega
theorem LK{E:Oh}{n:Nat}(hE:ZO E n):∀(s:Nat)(L:Nat->Nat),sumTo n L<=s->ig E L->∃M,ig E M/\∀i,i<n->M i<n
 |s,L,hs,hL=>by
  by_cases hall:∀i,i<n->L i<n
  .exact⟨L,hL,hall⟩
  .obtain⟨i,hi⟩:=Classical.not_forall.1 hall;have hi1:i<n/\n<=L i:=by
    by_cases h1:i<n
    .exact⟨h1,Nat.le_of_not_lt λh2=>hi λ_=>h2⟩
    .exact(hi λh2=>(h1 h2).elim).elim
   have anL:∃k,k<n/\∀j,j<n->L j≠k:=by
    refine apW λhno=>?_;have:=adB n (n+1) (λj=>min (L j) n) λk hk=>by
     by_cases h1:k<n
     .refine apW λh2=>hno ⟨k,h1,λj hj e=>h2 ⟨j,hj,?_⟩⟩;show min (L j) n=k;omega
     .exact⟨i,hi1.1,by show min (L i) n=k;omega⟩
    omega
   obtain⟨k,hk,hno⟩:=anL;have hlt:sumTo n (λj=>if k<L j then L j-1 else L j)<sumTo n L:=by
    refine adC n (λj _=>?_) ⟨i,hi1.1,?_⟩
    .show(if _ then _ else _)<=_;split
     .exact Nat.sub_le _ _
     .exact aoP _
    .show(if _ then _ else _)<_;rw[if_pos (by omega)];omega
   match s,hs with
   |0,hs=>omega
   |s+1,hs=>refine LK hE s (λj=>if k<L j then L j-1 else L j) (by omega) λe he=>?_;have h1:=hL e he;obtain⟨h2,h3,h4⟩:=hE e he;have n1:=hno e.1 h2;have n2:=hno e.2.1 h3;show(if k<L e.2.1 then L e.2.1-1 else L e.2.1)+e.2.2<=(if k<L e.1 then L e.1-1 else L e.1);split<;>split<;>omega
theorem G8{E:Oh}{n:Nat}(hE:ZO E n)(h:∃L,ig E L):∃M,ig E M/\∀i,i<n->M i<n:=by obtain⟨L,hL⟩:=h;exact LK hE (sumTo n L) L (aoP _) hL
structure Raises(E:Oh)(n:Nat)(R:(Nat->Nat)->Nat->Nat):Prop where
 up:∀L i,L i<=R L i
 fix:∀L,(∀i,i<n->R L i=L i)->ig E L
 below:∀L M,ig E M->(∀i,i<n->L i<=M i)->∀i,i<n->R L i<=M i
 same:∀L L',(∀i,i<n->L i=L' i)->∀i,i<n->R L i=R L' i
end Sp
namespace Sp
open Go
abbrev aQ:=List dH×List aT×Int×List bf×Unit
abbrev alv:=Int×List dH×List aT×Int×List bf×Int×Unit
instance:DecidableEq (List ax):=inferInstance
instance:DecidableEq bf:=inferInstance
instance:DecidableEq (List bf):=inferInstance
instance:DecidableEq (List bf×Unit):=inferInstance
instance:DecidableEq (Int×List bf×Unit):=inferInstance
instance:DecidableEq (List aT×Int×List bf×Unit):=inferInstance
instance aoo:DecidableEq aQ:=(inferInstance:DecidableEq (List dH×List aT×Int×List bf×Unit))
instance:DecidableEq (List bf×Int×Unit):=inferInstance
instance:DecidableEq (Int×List bf×Int×Unit):=inferInstance
instance:DecidableEq (List aT×Int×List bf×Int×Unit):=inferInstance
instance:DecidableEq (List dH×List aT×Int×List bf×Int×Unit):=inferInstance
instance aox:DecidableEq alv:=(inferInstance:DecidableEq (Int×List dH×List aT×Int×List bf×Int×Unit))
instance:DecidableEq (List alv):=inferInstance
def nodeAt(q:List ax)(i:Nat):ax:=q.getD i (0,0,0,[],0,0,[],())
def iw(n:ax):Bool:=n.1==6||n.1==7
def nI(n:ax):Bool:=n.1==8||n.1==9
def dM(n:ax)(a:Int):Bool:=
 let kids:=decide (0<=n.2.1)&&decide (n.2.1<=a-1)&&decide (0<a)
 let two:=decide (0<=n.2.2.1)&&decide (n.2.2.1<=a-1)
 let bare:=n.2.2.2.1==[]&&(n.2.2.2.2.1==0&&(n.2.2.2.2.2.1==0&&n.2.2.2.2.2.2.1==[]))
 let flat:=n.2.1==0&&n.2.2.1==0
 let valued:=bn n.2.2.2.2.1 n.2.2.2.2.2.1 n.2.2.2.2.2.2.1
 let void:=n.2.2.2.2.1==0&&(n.2.2.2.2.2.1==0&&n.2.2.2.2.2.2.1==[])
 bif n.1==1 then flat&&bare else bif n.1==2 then flat&&void&&bZ n.2.2.2.1 else
 bif n.1==3 then flat&&bZ n.2.2.2.1&&valued&&!(n.2.2.2.2.1==0)else bif n.1==4 then flat&&bZ n.2.2.2.1&&valued&&n.2.2.2.2.1==1 else
 bif n.1==5 then kids&&n.2.2.1==0&&bare else bif n.1==6||n.1==7 then kids&&two&&bare else
 bif n.1==8||n.1==9 then flat&&void&&aS n.2.2.2.1 else false
def refsOf(a:Int)(n:ax):Nat:=(bif (iw n||n.1==5)&&n.2.1==a then 1 else 0)+(bif iw n&&n.2.2.1==a then 1 else 0)
def fK(q:List ax)(a:Int):Nat:=(q.map (refsOf a)).sum
def jI(q:List ax)(i:Nat):Bool:=dM (nodeAt q i) i&&!(decide ((i:Int)<(q.length:Int)-1)&&!(fK q i==1))
def ay(q:List ax):Bool:=iI q.length (jI q)&&(decide (1<=(q.length:Int))&&decide ((q.length:Int)<=9))
def bQ(d:List bf)(i:Nat):bf:=d.getD i ([],[],())
def jC(d:List bf)(i:Nat):Bool:=aS (bQ d i).1&&ay (bQ d i).2.1&&!(decide (0<i)&&!Op.bytesLess (bQ d (i-1)).1 (bQ d i).1)
def lF(d:List bf):Bool:=iI d.length (jC d)&&decide ((d.length:Int)<=5)
def jm(q:List ax)(i:Nat)(out:List (Bool×Unit)):List (Bool×Unit):=
 let n:=nodeAt q i
 bif n.1==5 then out.set n.2.1.toNat (true,())else bif iw n then(out.set n.2.1.toNat ((out.getD i (false,())).1,())).set n.2.2.1.toNat ((out.getD i (false,())).1,())else out
def gQ(q:List ax):Nat->List (Bool×Unit)->List (Bool×Unit)
 |0,out=>out
 |n+1,out=>gQ q n (jm q n out)
def negated(q:List ax):List (Bool×Unit):=bif ay q then gQ q q.length (List.replicate q.length (false,()))else[]
def dI(q:List ax)(neg:Bool):List Bytes:=(List.range (negated q).length).filterMap λi=>bif nI (nodeAt q i)&&((negated q).getD i (false,())).1==neg then some (nodeAt q i).2.2.2.1 else none
def qw:Int->List bf->Bytes->Int
 |_,[],_=>-1
 |k,x::r,s=>bif x.1==s then k else qw (k+1) r s
def aB(d:List bf)(s:Bytes):Int:=qw 0 d s
def bV(d:List bf):Oh:=
 (List.range d.length).flatMap λi=>
   ((dI (bQ d i).2.1 false).filterMap λs=>bif decide (0<=aB d s)then some (i,(aB d s).toNat,0)else none)++
   ((dI (bQ d i).2.1 true).filterMap λs=>bif decide (0<=aB d s)then some (i,(aB d s).toNat,1)else none)
open Classical in
noncomputable def fB (d:List bf):Bool:=lF d&&decide (∃L,ig (bV d) L)
def yO(x:aQ):gI:=(x.1,x.2.1,x.2.2.1,())
noncomputable def bK (x:aQ):Bool:=eF (yO x)&&fB x.2.2.2.1
def iH(r:LS)(l:List Bytes):Prop:=r.length<=1000/\∀s,(s,())∈r↔s∈l
def sF(d:List bf)(aH:List (Int×Unit))(more:Int):LS->Int
 |[]=>0
 |x::r=>max (bif decide (0<=aB d x.1)then(aH.getD (aB d x.1).toNat (0,())).1+more else 0) (sF d aH more r)
def Js(l:LS)(s:Bytes):LS:=
 let n:=(l.takeWhile λx=>Op.bytesLess x.1 s).length
 bif decide (n<l.length)&&(l.getD n ([],())).1==s then l else l.take n++[(s,())]++l.drop n
def raised(d:List bf)(aH r:List (Int×Unit)):Prop:=
 r.length=d.length/\(∀i,i<d.length->(aH.getD i (0,())).1<=(r.getD i (0,())).1)/\(∀B:Int,(∀i,i<d.length->(aH.getD i (0,())).1<=B)->∀i,i<d.length->(r.getD i (0,())).1<=B+5000)/\
 ((∀i,i<d.length->(r.getD i (0,())).1=(aH.getD i (0,())).1)->ig (bV d) λi=>(aH.getD i (0,())).1.toNat)/\
 ∀M,ig (bV d) M->(∀i,i<d.length->(aH.getD i (0,())).1<=M i)->∀i,i<d.length->(r.getD i (0,())).1<=M i
def jR(d:List bf):Prop:=d.length<=1000/\∀x∈d,x.2.1.length<=1000
def gq(x:aQ):Prop:=J8 (yO x)/\jR x.2.2.2.1
end Sp
namespace Sp
open Go
end Sp
namespace Sp
open Go
theorem Si(s:Bytes):∀(d:List bf)(k:Int),(qw k d s=-1/\∀x∈d,x.1≠s)\/∃n,n<d.length/\qw k d s=k+n/\(bQ d n).1=s/\∀i,i<n->(bQ d i).1≠s
 |[],k=>.inl ⟨rfl,λx hx=>by cases hx⟩
 |x::r,k=>by
  by_cases h:x.1=s
  .right;refine⟨0,by simp,?_,h,λi hi=>by omega⟩;rw[qw,apf.2 h];simp
  .rcases Si s r (k+1)with⟨h1,h2⟩|⟨n,h1,h2,h3,h4⟩
   .left;refine⟨by rw[qw,aoL.2 h];exact h1,λy hy=>?_⟩;rcases aoU.1 hy with rfl|hy
    .exact h
    .exact h2 y hy
   .right;refine⟨n+1,by simp;omega,by rw[qw,aoL.2 h];show qw (k+1) r s=_;omega,h3,λi hi=>?_⟩;cases i with
    |zero=>exact h
    |succ i=>exact h4 i (by omega)
theorem DN(d:List bf)(s:Bytes):(aB d s=-1/\∀x∈d,x.1≠s)\/∃n,n<d.length/\aB d s=n/\(bQ d n).1=s/\∀i,i<n->(bQ d i).1≠s:=by
 rcases Si s d 0 with h|⟨n,h1,h2,h3⟩
 .exact .inl h
 .exact .inr ⟨n,h1,by show qw 0 d s=_;omega,h3⟩
theorem D7{d:List bf}{s:Bytes}(h:0<=aB d s):aB d s<d.length:=by rcases DN d s with⟨h1,_⟩|⟨n,h1,h2,_⟩<;>omega
theorem Bo{d:List bf}{i j m:Nat}:(i,j,m)∈bV d↔i<d.length/\∃s,((m=0/\s∈dI (bQ d i).2.1 false)\/(m=1/\s∈dI (bQ d i).2.1 true))/\0<=aB d s/\j=(aB d s).toNat:=by
 unfold bV;rw[arT];constructor
 .rintro⟨k,hk,h⟩;rw[apw]at hk;rcases apc.1 h with h|h
  all_goals
   obtain⟨s,hs,e⟩:=aqn.1 h;rw[cond_eq_ite]at e;split at e
   .next hp=>have hp:0<=aB d s:=ap1 hp;cases e;exact⟨hk,s,by first|exact .inl ⟨rfl,hs⟩|exact .inr ⟨rfl,hs⟩,hp,rfl⟩
   .cases e
 .rintro⟨hi,s,h|h,hp,rfl⟩
  .obtain⟨rfl,hs⟩:=h;refine⟨i,apw.2 hi,apc.2 (.inl (aqn.2 ⟨s,hs,?_⟩))⟩;rw[aoZ hp];rfl
  .obtain⟨rfl,hs⟩:=h;refine⟨i,apw.2 hi,apc.2 (.inr (aqn.2 ⟨s,hs,?_⟩))⟩;rw[aoZ hp];rfl
theorem jH(d:List bf):ZO (bV d) d.length:=by
 rintro⟨i,j,m⟩ he;obtain⟨h1,s,h2,h3,h4⟩:=Bo.1 he;have:=D7 h3;refine⟨h1,?_,?_⟩
 .show j<_;omega
 .show m<=1;rcases h2 with⟨h,_⟩|⟨h,_⟩<;>omega
def lv(l:List (Int×Unit))(i:Nat):Int:=(l.getD i (0,())).1
theorem ac2{l:List (Int×Unit)}{i:Nat}(hi:i<l.length)(x:Int)(k:Nat):lv (l.set i (x,())) k=if k=i then x else lv l k:=by
 unfold lv;rw[aoN,aoN];by_cases h:k=i
 .subst h;rw[apZ hi,if_pos rfl];rfl
 .rw[apH (λe=>h e.symm),if_neg h]
theorem adu{l:List (Int×Unit)}{i:Nat}(hi:i<l.length):(lv l i,())∈l:=by unfold lv;rw[aoN,aoQ hi];exact ap2 hi
theorem ahH{l:List (Int×Unit)}{p:Int->Prop}(h:∀i,i<l.length->p (lv l i)):∀x∈l,p x.1:=by intro x hx;obtain⟨i,hi,e⟩:=ap0 hx;have:=h i hi;unfold lv at this;rw[aoN,aoQ hi]at this;rw[← e];exact this
theorem alh{a b:List (Int×Unit)}(hl:a.length=b.length)(h:∀i,i<a.length->lv a i=lv b i):a=b:=by refine aq1 hl λi h1 h2=>?_;have:=h i h1;unfold lv at this;rw[aoN,aoN,aoQ h1,aoQ h2]at this;exact arR this rfl
structure Dw(d:List bf)(aH cur:List (Int×Unit))(g:Int)(P:Nat×Nat×Nat->Prop):Prop where
 len:cur.length=d.length
 up:∀i,i<d.length->lv aH i<=lv cur i
 grow:∀B,(∀i,i<d.length->lv aH i<=B)->∀i,i<d.length->lv cur i<=B+g
 fix:(∀i,i<d.length->lv cur i=lv aH i)->∀e,P e->lv aH e.2.1+e.2.2<=lv aH e.1
 below:∀M,ig (bV d) M->(∀i,i<d.length->lv aH i<=M i)->∀i,i<d.length->lv cur i<=M i
theorem Dw.start{d:List bf}{aH:List (Int×Unit)}(h:aH.length=d.length):Dw d aH aH 0 λ_=>False:=
 ⟨h,λ_ _=>apM _,λB hB i hi=>by have:=hB i hi;omega,λ_ e he=>he.elim,λ_ _ h=>h⟩
theorem Dw.weaken{d:List bf}{aH cur:List (Int×Unit)}{g g':Int}{P P':Nat×Nat×Nat->Prop}(h:Dw d aH cur g P)(hg:g<=g')(hP:∀e,P' e->P e):Dw d aH cur g' P':=
 ⟨h.len,h.up,λB hB i hi=>by have:=h.grow B hB i hi;omega,λhx e he=>h.fix hx e (hP e he),h.below⟩
theorem Dw.still{d:List bf}{aH cur:List (Int×Unit)}{g:Int}{P:Nat×Nat×Nat->Prop}(h:Dw d aH cur g P){i j m:Nat}(he:(i,j,m)∈bV d)(hle:lv cur j+m<=lv cur i):Dw d aH cur g λe=>P e\/e=(i,j,m):=by
 obtain⟨h1,h2,_⟩:=jH d _ he;refine⟨h.len,h.up,h.grow,λhx e hp=>?_,h.below⟩;rcases hp with hp|rfl
 .exact h.fix hx e hp
 .have a:=hx i h1;have b:=hx j h2;show lv aH j+m<=lv aH i;omega
theorem Dw.set{d:List bf}{aH cur:List (Int×Unit)}{g:Int}{P:Nat×Nat×Nat->Prop}(h:Dw d aH cur g P){i j m:Nat}(he:(i,j,m)∈bV d)(hlt:lv cur i<lv cur j+m):Dw d aH (cur.set i (lv cur j+m,())) (g+m) λe=>P e\/e=(i,j,m):=by
 obtain⟨h1,h2,_⟩:=jH d _ he;have h1:i<d.length:=h1;have h2:j<d.length:=h2;have hl:=h.len;have hs:=λk=>ac2 (l:=cur) (i:=i) (by omega) (lv cur j+m) k;refine⟨by simp;omega,λk hk=>?_,λB hB k hk=>?_,λhx e hp=>?_,λM hM hb k hk=>?_⟩
 .rw[hs];have a:=h.up k hk;split
  .next e=>subst e;omega
  .exact a
 .rw[hs];have a:=h.grow B hB k hk;have b:=h.grow B hB j h2;split<;>omega
 .have:=hx i h1;rw[hs,if_pos rfl]at this;have:=h.up i h1;omega
 .rw[hs];split
  .next e=>subst e;have a:=h.below M hM hb j h2;have b:=hM _ he;have b:M j+m<=M k:=b;omega
  .exact h.below M hM hb k hk
theorem Dw.raised{d:List bf}{aH cur:List (Int×Unit)}{g:Int}{P:Nat×Nat×Nat->Prop}(h:Dw d aH cur g P)(hg:g<=5000)(hP:∀e∈bV d,P e)(h0:∀i,i<d.length->0<=lv aH i):raised d aH cur:=by refine⟨h.len,h.up,λB hB i hi=>by have:=h.grow B hB i hi;show lv cur i<=_;omega,λhx e he=>?_,h.below⟩;have a:=h.fix hx e (hP e he);obtain⟨h1,h2,_⟩:=jH d _ he;have b:=h0 _ h1;have c:=h0 _ h2;show(lv aH e.2.1).toNat+e.2.2<=(lv aH e.1).toNat;omega
theorem YA(d:List bf)(aH:List (Int×Unit))(hl:aH.length=d.length):∀(E:Oh),(∀e∈E,e∈bV d)->∃cur:List (Int×Unit),cur.length=d.length/\(∀i,i<d.length->lv aH i<=lv cur i/\(lv cur i=lv aH i\/∃e∈E,e.1=i/\lv cur i=lv aH e.2.1+e.2.2))/\∀e∈E,lv aH e.2.1+e.2.2<=lv cur e.1
 |[],_=>⟨aH,hl,λi hi=>⟨apM _,.inl rfl⟩,λe he=>by cases he⟩
 |e::E,hE=>by
  obtain⟨cur,h1,h2,h3⟩:=YA d aH hl E λx hx=>hE x (aoR _ hx);obtain⟨g1,g2,_⟩:=jH d e (hE e aoT);by_cases h:lv cur e.1<lv aH e.2.1+e.2.2
  .have hs:=λk=>ac2 (l:=cur) (i:=e.1) (by omega) (lv aH e.2.1+e.2.2) k;refine⟨cur.set e.1 (lv aH e.2.1+e.2.2,()),by simp;omega,λi hi=>?_,λx hx=>?_⟩
   .rw[hs];have:=h2 i hi;split
    .next hi'=>exact⟨by rw[hi']at this ⊢;omega,.inr ⟨e,aoT,hi'.symm,rfl⟩⟩
    .refine⟨this.1,this.2.imp_right λ⟨x,hx,hy⟩=>⟨x,aoR _ hx,hy⟩⟩
   .rw[hs];rcases aoU.1 hx with rfl|hx
    .rw[if_pos rfl];omega
    .have:=h3 x hx;split
     .next he=>rw[he]at this;omega
     .exact this
  .refine⟨cur,h1,λi hi=>?_,λx hx=>?_⟩
   .have:=h2 i hi;exact⟨this.1,this.2.imp_right λ⟨x,hx,hy⟩=>⟨x,aoR _ hx,hy⟩⟩
   .rcases aoU.1 hx with rfl|hx
    .omega
    .exact h3 x hx
theorem aez(d:List bf)(aH:List (Int×Unit))(hl:aH.length=d.length)(h0:∀i,i<d.length->0<=lv aH i):∃cur,raised d aH cur:=by
 obtain⟨cur,h1,h2,h3⟩:=YA d aH hl (bV d) λ_ h=>h;refine⟨cur,h1,λi hi=>(h2 i hi).1,λB hB i hi=>?_,λhx e he=>?_,λM hM hb i hi=>?_⟩
 .show lv cur i<=_;rcases(h2 i hi).2 with h|⟨e,he,rfl,h⟩
  .rw[h];have:=hB i hi;show(aH.getD i (0,())).1<=_;omega
  .obtain⟨_,g2,g3⟩:=jH d e he;have:lv aH e.2.1<=B:=hB _ g2;omega
 .obtain⟨g1,g2,_⟩:=jH d e he;have a:=h3 e he;have b:=h0 _ g1;have c:=h0 _ g2;have x:lv cur e.1=lv aH e.1:=hx _ g1;show(lv aH e.2.1).toNat+e.2.2<=(lv aH e.1).toNat;omega
 .show lv cur i<=_;rcases(h2 i hi).2 with h|⟨e,he,rfl,h⟩
  .rw[h];exact hb i hi
  .obtain⟨_,g2,_⟩:=jH d e he;have a:lv aH e.2.1<=M e.2.1:=hb _ g2;have b:=hM e he;omega
theorem Bl{d:List bf}{aH:List (Int×Unit)}{more:Int}:∀(r:LS)(B:Int),sF d aH more r<=B↔0<=B/\∀x∈r,0<=aB d x.1->lv aH (aB d x.1).toNat+more<=B
 |[],B=>by simp[sF]
 |x::r,B=>by
  have ih:=Bl (d:=d) (aH:=aH) (more:=more) r B;rw[sF];have e:∀a b:Int,max a b<=B↔a<=B/\b<=B:=λa b=>by omega
  rw[e,ih];simp only[aoU,forall_eq_or_imp];by_cases h:0<=aB d x.1
  .rw[aoZ h];show lv aH _+more<=B/\_↔_;constructor
   .exactλ⟨a,b,c⟩=>⟨b,λ_=>a,c⟩
   .exactλ⟨a,b,c⟩=>⟨b h,a,c⟩
  .rw[ao1 h];show(0:Int)<=B/\_↔_;constructor
   .exactλ⟨a,b,c⟩=>⟨b,λh'=>(h h').elim,c⟩
   .exactλ⟨a,b,c⟩=>⟨a,a,c⟩
def sW(l:List (Int×Unit)):Nat->Int
 |0=>0
 |n+1=>sW l n+lv l n
theorem V9{a b:List (Int×Unit)}:∀n,(∀i,i<n->lv a i<=lv b i)->sW a n<=sW b n
 |0,_=>apM _
 |n+1,h=>Int.add_le_add (V9 n λi hi=>h i (by omega)) (h n (by omega))
theorem V8{a b:List (Int×Unit)}:∀n,(∀i,i<n->lv a i<=lv b i)->(∃i,i<n/\lv a i<lv b i)->sW a n<sW b n
 |0,_,⟨i,hi,_⟩=>by omega
 |n+1,h,⟨i,hi,hl⟩=>by
  have h1:=V9 n λj hj=>h j (aqU hj);show sW a n+lv a n<sW b n+lv b n;by_cases e:i=n
  .subst e;omega
  .have:=V8 n (λj hj=>h j (aqU hj)) ⟨i,by omega,hl⟩;have:=h n (by omega);omega
theorem JG{a:List (Int×Unit)}{b:Nat}:∀n:Nat,(∀i,i<n->lv a i<=b)->sW a n<=(n*b:Nat)
 |0,_=>by simp[sW]
 |n+1,h=>by have h1:=JG n λi hi=>h i (aqU hi);have h2:=h n (by omega);show sW a n+lv a n<=((n+1)*b:Nat);rw[Nat.succ_mul];omega
theorem Rf{a:List (Int×Unit)}:∀n:Nat,(∀i,i<n->0<=lv a i)->0<=sW a n
 |0,_=>apM _
 |n+1,h=>Int.add_nonneg (Rf n λi hi=>h i (by omega)) (h n (by omega))
theorem mV{d:List bf}:fB d=true↔lF d=true/\∃L,ig (bV d) L:=by unfold fB;simp
theorem X9{d:List bf}(h:lF d=true):d.length<=5:=by unfold lF at h;simp only[aoJ,aoS]at h;omega
end Sp
namespace Sp
abbrev Ext(ι α:Type):=ι->α->Bool
structure Sys(ι α:Type) where
 T:ι->Ext ι α->α->Prop
 pos:ι->ι->Prop
 neg:ι->ι->Prop
 mono:∀i X Y,(∀j,pos i j->∀x,X j x=true->Y j x=true)->(∀j,neg i j->∀x,X j x=Y j x)->∀x,T i X x->T i Y x
def amB{ι α:Type}(S:Sys ι α)(N:ι->Prop)(aH:ι->Nat):Prop:=∀i j,N i->N j->(S.pos i j->aH j<=aH i)/\(S.neg i j->aH j<aH i)
structure Eval{ι α:Type}(S:Sys ι α)(N:ι->Prop)(aH:ι->Nat)(X:Ext ι α):Prop where
 fix:∀i,N i->∀x,X i x=true↔S.T i X x
 least:∀k(Y:Ext ι α),(∀i,¬(N i/\aH i=k)->∀x,Y i x=X i x)->(∀i,N i->aH i=k->∀x,S.T i Y x->Y i x=true)->∀i,N i->aH i=k->∀x,X i x=true->Y i x=true
open Classical in
theorem anU{ι α:Type}{P:ι->Prop}{A B:Ext ι α}:∃Y:Ext ι α,(∀i x,Y i x=true↔A i x=true/\(P i->B i x=true))/\∀i,¬P i->∀x,Y i x=A i x:=by have h:∀i x,decide (A i x=true/\(P i->B i x=true))=true↔A i x=true/\(P i->B i x=true):=λi x=>decide_eq_true_iff;refine⟨λi x=>decide (A i x=true/\(P i->B i x=true)),h,λi hi x=>?_⟩;rw[apn,h];exact⟨λh=>h.1,λh=>⟨h,λh'=>(hi h').elim⟩⟩
end Sp
namespace Sp
open Go
abbrev uo:=Bytes×List (Int×Unit)×Unit
abbrev BX:=Ext Bytes Int
def DR:List bT->Bytes->Ac
 |[],_=>(0,0,[],())
 |a::r,s=>bif a.1==s then(a.2.1,a.2.2.1,a.2.2.2.1,())else DR r s
def Sj:List uo->Bytes->List (Int×Unit)
 |[],_=>[]
 |x::r,s=>bif x.1==s then x.2.1 else Sj r s
def abK(l:List (Int×Unit))(x:Int):Bool:=l.any λy=>y.1==x
def Oi(r:List uo):BX:=λs x=>abK (Sj r s) x
def AY(n:ax)(f:aT)(X:BX):Bool:=
 bif n.1==2 then !((DR f.2.2.2.2.1 n.2.2.2.1).1==0)else
 bif n.1==3 then decide (DR f.2.2.2.2.1 n.2.2.2.1=(n.2.2.2.2.1,n.2.2.2.2.2.1,n.2.2.2.2.2.2.1,()))else
 bif n.1==4 then(DR f.2.2.2.2.1 n.2.2.2.1).1==1&&decide ((DR f.2.2.2.2.1 n.2.2.2.1).2.1<n.2.2.2.2.2.1)else
 bif n.1==8 then X n.2.2.2.1 f.1 else
 bif n.1==9 then !(f.2.2.2.1==0)&&X n.2.2.2.1 f.2.2.2.1 else true
def val(q:List ax)(f:aT)(X:BX)(a:Nat):Bool:=
 if(nodeAt q a).1=5 then(if h:(nodeAt q a).2.1.toNat<a then !val q f X (nodeAt q a).2.1.toNat else true)
 else if(nodeAt q a).1=6 then(if h:(nodeAt q a).2.1.toNat<a/\(nodeAt q a).2.2.1.toNat<a then val q f X (nodeAt q a).2.1.toNat&&val q f X (nodeAt q a).2.2.1.toNat else true)
 else if(nodeAt q a).1=7 then(if h:(nodeAt q a).2.1.toNat<a/\(nodeAt q a).2.2.1.toNat<a then val q f X (nodeAt q a).2.1.toNat||val q f X (nodeAt q a).2.2.1.toNat else true)
 else AY (nodeAt q a) f X
termination_by a
decreasing_by all_goals omega
theorem ah8(q:List ax)(f:aT)(X:BX)(a:Nat):val q f X a=
 if(nodeAt q a).1=5 then(if h:(nodeAt q a).2.1.toNat<a then !val q f X (nodeAt q a).2.1.toNat else true)
 else if(nodeAt q a).1=6 then(if h:(nodeAt q a).2.1.toNat<a/\(nodeAt q a).2.2.1.toNat<a then val q f X (nodeAt q a).2.1.toNat&&val q f X (nodeAt q a).2.2.1.toNat else true)
 else if(nodeAt q a).1=7 then(if h:(nodeAt q a).2.1.toNat<a/\(nodeAt q a).2.2.1.toNat<a then val q f X (nodeAt q a).2.1.toNat||val q f X (nodeAt q a).2.2.1.toNat else true)
 else AY (nodeAt q a) f X:=by rw[val]
def Hy(q:List ax)(f:aT)(X:BX):Bool:=ay q&&val q f X (q.length-1)
def sel(fs:List aT)(q:List ax)(X:BX):List (Int×Unit):=(fs.filter λf=>Hy q f X).map λf=>(f.1,())
def qi(q:List ax)(i:Nat):Bool:=((negated q).getD i (false,())).1
theorem jg{q:List ax}(h:ay q=true){i:Nat}(hi:i<q.length):dM (nodeAt q i) i=true/\((i:Int)<(q.length:Int)-1->fK q i=1):=by
 unfold ay at h;rw[aoJ]at h;have h1:jI q i=true:=by have:=h.1;unfold iI at this;exact ao4.1 this i (apw.2 hi)
 unfold jI at h1;rw[aoJ]at h1;refine⟨h1.1,λhl=>?_⟩;have h2:=h1.2;rw[aoZ hl]at h2;simpa using h2
theorem fG{q:List ax}(h:ay q=true):1<=q.length/\q.length<=9:=by unfold ay at h;simp only[aoJ,aoS]at h;omega
theorem U8{n:ax}{a:Nat}(h:dM n a=true)(hn:n.1=5\/n.1=6\/n.1=7):0<=n.2.1/\n.2.1.toNat<a:=by unfold dM at h;rcases hn with e|e|e<;>simp[e]at h<;>omega
theorem FV{n:ax}{a:Nat}(h:dM n a=true)(hn:n.1=6\/n.1=7):0<=n.2.2.1/\n.2.2.1.toNat<a:=by unfold dM at h;rcases hn with e|e<;>simp[e]at h<;>omega
theorem afc{α:Type}(g:α->Nat):∀(l:List α),(l.map g).sum=1->∀i j,i<l.length->j<l.length->i≠j->∀d,1<=g (l.getD i d)->g (l.getD j d)=0
 |[],_,i,_,hi,_,_,_,_=>by simp at hi
 |x::r,h,i,j,hi,hj,hne,d,hg=>by
  rw[ao3,apI]at h;have mem:∀(l:List α) k,k<l.length->g (l.getD k d)<=(l.map g).sum:=by
   intro l
   induction l with
   |nil=>intro k hk;simp at hk
   |cons y t ih=>
    intro k hk;rw[ao3,apI];cases k with
    |zero=>exact Nat.le_add_right _ _
    |succ k=>exact aoW (ih k (by simpa using hk)) (Nat.le_add_left _ _)
  cases i with
  |zero=>
   cases j with
   |zero=>exact(hne rfl).elim
   |succ j=>
    have h1:1<=g x:=hg;have:=mem r j (by simpa using hj);show g (r.getD j d)=0;omega
  |succ i=>
   have h1:1<=g (r.getD i d):=hg;have h2:=mem r i (by simpa using hi);cases j with
   |zero=>show g x=0;omega
   |succ j=>exact afc g r (by omega) i j (by simpa using hi) (by simpa using hj) (by omega) d hg
theorem CY{q:List ax}{p:Nat}:∀(n:Nat)(out:List (Bool×Unit)),(∀i,i<n->((nodeAt q i).1=5\/iw (nodeAt q i)=true->(nodeAt q i).2.1.toNat≠p)/\(iw (nodeAt q i)=true->(nodeAt q i).2.2.1.toNat≠p))->
 (gQ q n out).getD p (false,())=out.getD p (false,())
 |0,_,_=>rfl
 |n+1,out,h=>by
  have ih:=CY n (jm q n out) λi hi=>h i (by omega);show(gQ q n (jm q n out)).getD p (false,())=_;rw[ih];have hs:∀(l:List (Bool×Unit)) k x,k≠p->(l.set k x).getD p (false,())=l.getD p (false,()):=λl k x hk=>by rw[aoN,apH hk,← aoN]
  obtain⟨h1,h2⟩:=h n (by omega);unfold jm;dsimp only;cases e5:((nodeAt q n).1==5)with
  |true=>exact hs _ _ _ (h1 (.inl (apf.1 e5)))
  |false=>
   cases e2:iw (nodeAt q n)with
   |true=>exact(hs _ _ _ (h2 e2)).trans (hs _ _ _ (h1 (.inr e2)))
   |false=>rfl
theorem xG(q:List ax):∀(n:Nat)(out:List (Bool×Unit)),(gQ q n out).length=out.length
 |0,_=>rfl
 |n+1,out=>by show(gQ q n (jm q n out)).length=_;rw[xG q n];unfold jm;dsimp only;cases (nodeAt q n).1==5<;>cases iw (nodeAt q n)<;>simp
theorem jY{n:ax}:iw n=true↔n.1=6\/n.1=7:=by unfold iw;simp
theorem OW(q:List ax):∀(k m:Nat)(out:List (Bool×Unit)),∃mid:List (Bool×Unit),mid.length=out.length/\gQ q (m+k) out=gQ q m mid
 |0,_,out=>⟨out,rfl,rfl⟩
 |k+1,m,out=>by
  obtain⟨mid,h1,h2⟩:=OW q k m (jm q (m+k) out);have hl:(jm q (m+k) out).length=out.length:=by unfold jm;dsimp only;cases (nodeAt q (m+k)).1==5<;>cases iw (nodeAt q (m+k))<;>simp
  exact⟨mid,h1.trans hl,h2⟩
theorem kM{q:List ax}(h:ay q=true){i:Nat}(hi:i<q.length):((nodeAt q i).1=5\/iw (nodeAt q i)=true->0<=(nodeAt q i).2.1/\(nodeAt q i).2.1.toNat<i)/\(iw (nodeAt q i)=true->0<=(nodeAt q i).2.2.1/\(nodeAt q i).2.2.1.toNat<i):=by
 have h1:=(jg h hi).1;refine⟨λh2=>?_,λh2=>FV h1 (jY.1 h2)⟩;rcases h2 with h2|h2
 .exact U8 h1 (.inl h2)
 .exact U8 h1 (.inr (jY.1 h2))
theorem agB{q:List ax}(h:ay q=true){i j p:Nat}(hi:i<q.length)(hj:j<q.length)(hne:i≠j)(hp:p<i)(hr:1<=refsOf p (nodeAt q i)):refsOf p (nodeAt q j)=0:=
 afc (refsOf p) q ((jg h (by omega)).2 (by omega)) i j hi hj hne _ hr
theorem aeC{p:Nat}{n:ax}(h:refsOf p n=0)(h0:((n.1=5\/iw n=true)->0<=n.2.1)/\(iw n=true->0<=n.2.2.1)):(n.1=5\/iw n=true->n.2.1.toNat≠p)/\(iw n=true->n.2.2.1.toNat≠p):=by
 unfold refsOf at h;refine⟨λh1 h2=>?_,λh1 h2=>?_⟩
 .have h3:=h0.1 h1;have h4:((iw n||n.1==5)&&n.2.1==(p:Int))=true:=by
   have:(iw n||n.1==5)=true:=by rcases h1 with h1|h1<;>simp[h1]
   rw[this];simp;omega
  rw[h4]at h;simp at h
 .have h3:=h0.2 h1;have h4:(iw n&&n.2.2.1==(p:Int))=true:=by rw[h1];simp;omega
  rw[h4]at h;simp at h
theorem U9{p:Nat}{n:ax}(h:n.1=5\/iw n=true)(h0:0<=n.2.1)(e:n.2.1.toNat=p):1<=refsOf p n:=by
 unfold refsOf;have h4:((iw n||n.1==5)&&n.2.1==(p:Int))=true:=by
  have:(iw n||n.1==5)=true:=by rcases h with h1|h1<;>simp[h1]
  rw[this];simp;omega
 rw[h4];simp
theorem adD{p:Nat}{n:ax}(h:iw n=true)(h0:0<=n.2.2.1)(e:n.2.2.1.toNat=p):1<=refsOf p n:=by
 unfold refsOf;have h4:(iw n&&n.2.2.1==(p:Int))=true:=by rw[h];simp;omega
 rw[h4];simp
theorem Oj{l:List (Bool×Unit)}{k p:Nat}{x:Bool×Unit}(hk:k<l.length):(l.set k x).getD p (false,())=if k=p then x else l.getD p (false,()):=by
 rw[aoN,List.getElem?_set];by_cases h:k=p
 .subst h;simp[hk]
 .simp[h]
theorem Ol{q:List ax}(h:ay q=true){i:Nat}(hi:i<q.length):
 ((nodeAt q i).1=5->qi q (nodeAt q i).2.1.toNat=true)/\(iw (nodeAt q i)=true->qi q (nodeAt q i).2.1.toNat=qi q i/\qi q (nodeAt q i).2.2.1.toNat=qi q i):=by
 have hn:negated q=gQ q q.length (List.replicate q.length (false,())):=by unfold negated;rw[h];rfl
 obtain⟨mid,hm1,hm2⟩:=OW q (q.length-(i+1)) (i+1) (List.replicate q.length (false,()));rw[show i+1+(q.length-(i+1))=q.length by omega,← hn]at hm2;have hml:mid.length=q.length:=by rw[hm1];simp
 have hm3:negated q=gQ q i (jm q i mid):=hm2;obtain⟨k1,k2⟩:=kM h hi;have keep:∀p,p<i->1<=refsOf p (nodeAt q i)->qi q p=((jm q i mid).getD p (false,())).1:=λp hp hr=>by
  unfold qi;rw[hm3,CY i];intro j hj;have hjl:j<q.length:=by omega
  obtain⟨g1,g2⟩:=kM h hjl;exact aeC (agB h hi hjl (by omega) hp hr) ⟨λz=>(g1 z).1,λz=>(g2 z).1⟩
 have self:qi q i=(mid.getD i (false,())).1:=by unfold qi;rw[hm2,CY (i+1)];intro j hj;obtain⟨g1,g2⟩:=kM h (show j<q.length by omega);exact⟨λz=>by have:=(g1 z).2;omega,λz=>by have:=(g2 z).2;omega⟩
 refine⟨λh5=>?_,λh2=>?_⟩
 .obtain⟨a,b⟩:=k1 (.inl h5);rw[keep _ b (U9 (.inl h5) a rfl)];unfold jm;dsimp only;rw[apf.2 h5];show((mid.set _ (true,())).getD _ (false,())).1=true;rw[Oj (by omega),if_pos rfl]
 .obtain⟨a,b⟩:=k1 (.inr h2);obtain⟨a',b'⟩:=k2 h2;have h5:((nodeAt q i).1==5)=false:=by rcases jY.1 h2 with e|e<;>rw[e]<;>rfl
  rw[keep _ b (U9 (.inr h2) a rfl),keep _ b' (adD h2 a' rfl),self];unfold jm;dsimp only;rw[h5,h2];show(((mid.set _ ((mid.getD i (false,())).1,())).set _ ((mid.getD i (false,())).1,())).getD _ (false,())).1=_/\(((mid.set _ ((mid.getD i (false,())).1,())).set _ ((mid.getD i (false,())).1,())).getD _ (false,())).1=_;rw[Oj (by rw[aqf];omega),Oj (by omega),Oj (by rw[aqf];omega),if_pos rfl,if_pos rfl];exact⟨by split<;>rfl,rfl⟩
theorem YB{q:List ax}(h:ay q=true):qi q (q.length-1)=false:=by
 have hn:negated q=gQ q q.length (List.replicate q.length (false,())):=by unfold negated;rw[h];rfl
 have hl:=fG h;unfold qi;rw[hn,CY q.length]
 .rw[aoN,aqO];split<;>rfl
 .intro j hj;obtain⟨g1,g2⟩:=kM h hj;exact⟨λz=>by have:=(g1 z).2;omega,λz=>by have:=(g2 z).2;omega⟩
theorem WU{q:List ax}(h:ay q=true){i:Nat}(hi:i<q.length)(hd:nI (nodeAt q i)=true):(nodeAt q i).2.2.2.1∈dI q (qi q i):=by
 have hl:(negated q).length=q.length:=by unfold negated;rw[h];show(gQ _ _ _).length=_;rw[xG];simp
 unfold dI;rw[aqn];refine⟨i,apw.2 (by omega),?_⟩;unfold qi;rw[hd];simp
theorem ajg{q:List ax}{f:aT}{X Y:BX}(h:ay q=true)(hp:∀s∈dI q false,∀x,X s x=true->Y s x=true)(hn:∀s∈dI q true,∀x,X s x=Y s x):
 ∀a,a<q.length->(qi q a=false->val q f X a=true->val q f Y a=true)/\(qi q a=true->val q f X a=val q f Y a):=by
 intro a
 induction a using Nat.strongRecOn with
 |_ a ih=>
  intro ha;obtain⟨k1,k2⟩:=kM h ha;obtain⟨n1,n2⟩:=Ol h ha;rw[ah8 q f X a,ah8 q f Y a];by_cases h5:(nodeAt q a).1=5
  .have hk:=k1 (.inl h5);have i1:=(ih _ hk.2 (by omega)).2 (n1 h5);rw[if_pos h5,if_pos h5,dif_pos hk.2,dif_pos hk.2,i1];exact⟨λ_=>id,λ_=>rfl⟩
  rw[if_neg h5,if_neg h5];by_cases h6:(nodeAt q a).1=6
  .have h2:iw (nodeAt q a)=true:=jY.2 (.inl h6);have hk:=k1 (.inr h2);have hk':=k2 h2;have i1:=ih _ hk.2 (by omega);have i2:=ih _ hk'.2 (by omega);rw[(n2 h2).1]at i1;rw[(n2 h2).2]at i2;rw[if_pos h6,if_pos h6,dif_pos ⟨hk.2,hk'.2⟩,dif_pos ⟨hk.2,hk'.2⟩];refine⟨λhf hv=>?_,λht=>by rw[i1.2 ht,i2.2 ht]⟩;rw[aoJ]at hv ⊢;exact⟨i1.1 hf hv.1,i2.1 hf hv.2⟩
  rw[if_neg h6,if_neg h6];by_cases h7:(nodeAt q a).1=7
  .have h2:iw (nodeAt q a)=true:=jY.2 (.inr h7);have hk:=k1 (.inr h2);have hk':=k2 h2;have i1:=ih _ hk.2 (by omega);have i2:=ih _ hk'.2 (by omega);rw[(n2 h2).1]at i1;rw[(n2 h2).2]at i2;rw[if_pos h7,if_pos h7,dif_pos ⟨hk.2,hk'.2⟩,dif_pos ⟨hk.2,hk'.2⟩];refine⟨λhf hv=>?_,λht=>by rw[i1.2 ht,i2.2 ht]⟩;rw[apO]at hv ⊢;exact hv.imp (i1.1 hf) (i2.1 hf)
  rw[if_neg h7,if_neg h7];by_cases h8:(nodeAt q a).1=8
  .have hm:=WU h ha (by unfold nI;simp[h8]);unfold AY;simp only[h8];refine⟨λhf hv=>?_,λht=>?_⟩
   .rw[hf]at hm;exact hp _ hm _ hv
   .rw[ht]at hm;exact hn _ hm _
  by_cases h9:(nodeAt q a).1=9
  .have hm:=WU h ha (by unfold nI;simp[h9]);unfold AY;simp only[h9];refine⟨λhf hv=>?_,λht=>?_⟩
   .rw[hf]at hm;have hv:(!((f.2.2.2.1==0))&&X (nodeAt q a).2.2.2.1 f.2.2.2.1)=true:=hv;rw[aoJ]at hv;show(!((f.2.2.2.1==0))&&Y (nodeAt q a).2.2.2.1 f.2.2.2.1)=true;rw[aoJ];exact⟨hv.1,hp _ hm _ hv.2⟩
   .rw[ht]at hm;show(!((f.2.2.2.1==0))&&X (nodeAt q a).2.2.2.1 f.2.2.2.1)=(!((f.2.2.2.1==0))&&Y (nodeAt q a).2.2.2.1 f.2.2.2.1);rw[hn _ hm]
  .have:AY (nodeAt q a) f X=AY (nodeAt q a) f Y:=by unfold AY;rw[aoL.2 h8,aoL.2 h9];rfl
   rw[this];exact⟨λ_=>id,λ_=>rfl⟩
theorem adE{q:List ax}{f:aT}{X Y:BX}(hp:∀s∈dI q false,∀x,X s x=true->Y s x=true)(hn:∀s∈dI q true,∀x,X s x=Y s x)(hm:Hy q f X=true):Hy q f Y=true:=by unfold Hy at hm ⊢;rw[aoJ]at hm ⊢;have hl:=fG hm.1;exact⟨hm.1,(ajg hm.1 hp hn _ (by omega)).1 (YB hm.1) hm.2⟩
theorem afd{fs:List aT}{q:List ax}{X:BX}{x:Int}:(x,())∈sel fs q X↔∃f∈fs,f.1=x/\Hy q f X=true:=by
 unfold sel;rw[apU];constructor
 .rintro⟨f,hf,e⟩;rw[aq9]at hf;exact⟨f,hf.1,congrArg Prod.fst e,hf.2⟩
 .rintro⟨f,hf,rfl,hm⟩;exact⟨f,aq9.2 ⟨hf,hm⟩,rfl⟩
def agC(fs:List aT)(d:List bf):Sys Bytes Int where
 T:=λs X x=>∃i,i<d.length/\(bQ d i).1=s/\(x,())∈sel fs (bQ d i).2.1 X
 pos:=λs t=>∃i,i<d.length/\(bQ d i).1=s/\t∈dI (bQ d i).2.1 false
 neg:=λs t=>∃i,i<d.length/\(bQ d i).1=s/\t∈dI (bQ d i).2.1 true
 mono:=λs X Y hp hn x⟨i,hi,e,hx⟩=>⟨i,hi,e,by obtain⟨f,hf,e2,hm⟩:=afd.1 hx;exact afd.2 ⟨f,hf,e2,adE (λt ht=>hp t ⟨i,hi,e,ht⟩) (λt ht=>hn t ⟨i,hi,e,ht⟩) hm⟩⟩
end Sp
namespace Go.Fw
open Go
end Go.Fw
namespace Go.Fw
open Go
theorem eX{p:Prop}[Decidable p]{A B:Prop}(h:p)(a:A):cond (decide p) A B:=by rw[aoZ h];exact a
theorem eY{p:Prop}[Decidable p]{A B:Prop}(h:¬p)(b:B):cond (decide p) A B:=by rw[ao1 h];exact b
theorem kK{B:((Int×Unit)×Unit->Prop)->((Int×Unit)×Unit->Nat)->(Int×Unit)×Unit->Prop}(len:Nat)(hlen:len<=9223372036854775807)(J:Nat->Prop)(h0:J 0)
 (hstep:∀I μ(n:Nat),n<len->J n->(J (n+1)->I ((IntKind.i64.wrap ((n:Int)+1),()),())/\μ ((IntKind.i64.wrap ((n:Int)+1),()),())<μ (((n:Int),()),()))->B I μ (((n:Int),()),()))
 (hend:∀I μ,J len->B I μ (((len:Int),()),())):∃I,∃μ,I (((0:Int),()),())/\∀y,I y->B I μ y:=by
 refine⟨λy=>∃n:Nat,y.1.1=n/\n<=len/\J n,λy=>((len:Int)-y.1.1).toNat,⟨0,rfl,apb _,h0⟩,?_⟩;rintro⟨⟨_,⟨⟩⟩,⟨⟩⟩ ⟨n,rfl,hn,hJ⟩;rcases apa n len with h|h
 .refine hstep _ _ n h hJ λhJ'=>?_;have e:IntKind.i64.wrap ((n:Int)+1)=((n+1:Nat):Int):=fJ _ (by omega);rw[e];exact⟨⟨n+1,rfl,h,hJ'⟩,by show((len:Int)-(n+1:Nat)).toNat<((len:Int)-n).toNat;omega⟩
 .have:n=len:=by omega
  subst this;exact hend _ _ hJ
theorem fZ{Y S:Type}(mk:Int->S->Y)(idx:Y->Int)(hidx:∀i s,idx (mk i s)=i){B:(Y->Prop)->(Y->Nat)->Y->Prop}(len:Nat)(hlen:len<=9223372036854775807)(J:Nat->S->Prop){s0:S}(h0:J 0 s0)
 (hstep:∀I μ(n:Nat)(s:S),n<len->J n s->(∀s',J (n+1) s'->I (mk (IntKind.i64.wrap ((n:Int)+1)) s')/\μ (mk (IntKind.i64.wrap ((n:Int)+1)) s')<μ (mk n s))->B I μ (mk n s))
 (hend:∀I μ s,J len s->B I μ (mk len s)):∃I,∃μ,I (mk 0 s0)/\∀y,I y->B I μ y:=by
 refine⟨λy=>∃(n:Nat)(s:S),y=mk n s/\n<=len/\J n s,λy=>((len:Int)-idx y).toNat,⟨0,s0,rfl,apb _,h0⟩,?_⟩;rintro _ ⟨n,s,rfl,hn,hJ⟩;rcases apa n len with h|h
 .refine hstep _ _ n s h hJ λs' hJ'=>?_;have e:IntKind.i64.wrap ((n:Int)+1)=((n+1:Nat):Int):=fJ _ (by omega);rw[e];refine⟨⟨n+1,s',rfl,h,hJ'⟩,?_⟩;show((len:Int)-idx (mk (n+1:Nat) s')).toNat<((len:Int)-idx (mk n s)).toNat;rw[hidx,hidx];omega
 .have:n=len:=by omega
  subst this;exact hend _ _ s hJ
theorem wZ{len:Nat}{f:Nat->Bool}{n:Nat}(hn:n<len)(h:f n=false):Sp.iI len f=false:=by unfold Sp.iI;rw[List.all_eq_false];exact⟨n,apw.2 hn,by rw[h];simp⟩
theorem lI{len:Nat}{f:Nat->Bool}(h:∀i,i<len->f i=true):Sp.iI len f=true:=by unfold Sp.iI;rw[ao4];exactλi hi=>h i (apw.1 hi)
theorem JO{len:Nat}{f:Nat->Bool}:Sp.iI len f=true↔∀i,i<len->f i=true:=by unfold Sp.iI;rw[ao4];exact⟨λh i hi=>h i (apw.2 hi),λh i hi=>h i (apw.1 hi)⟩
theorem dK{n:Nat}{f:Nat->Bool}(h:∀i,i<n->f i=true)(hn:f n=true):∀i,i<n+1->f i=true:=λi hi=>by
 rcases apa i n with h'|h'
 .exact h i h'
 .have:i=n:=by omega
  rw[this];exact hn
theorem iW{b:Bool}(h:(!b)=true):b=false:=by cases b<;>first|rfl|cases h
theorem fC{b:Bool}(h:(!b)=false):b=true:=by cases b<;>first|rfl|cases h
theorem fV{p:Prop}[Decidable p](h:decide p=true):p:=ap1 h
theorem gK{p:Prop}[Decidable p](h:decide p=false):¬p:=of_decide_eq_false h
theorem xE{n:Nat}(h:0<n)(hn:n<=9223372036854775807):IntKind.i64.wrap ((n:Int)-1)=((n-1:Nat):Int):=by rw[fJ _ (by omega)];omega
theorem Sl{α:Type}{d:α}{a b:List α}(hl:a.length=b.length)(h:∀i,i<a.length->a.getD i d=b.getD i d):a=b:=by refine aq1 hl λi h1 h2=>?_;have:=h i h1;rw[aoN,aoN,aoQ h1,aoQ h2]at this;simpa using this
theorem Lc{α β:Type}(e:α->α->Bool)(he:∀x y,e x y=false↔x=y)(d:α)(a b:List α)(t:β)(hlen:a.length<=9223372036854775807)(hl:a.length=b.length){K:Bool×Unit->Prop}(hF:a≠b->K (false,()))(hT:a=b->K (true,())):
 ∃(I:(Int×Unit)×Unit->Prop),∃(μ:(Int×Unit)×Unit->Nat),I (((0:Int),()),())/\∀(y:(Int×Unit)×Unit),I y->
  bif decide (y.fst.fst<(a.length:Int))then
   ((0:Int)<=y.fst.fst/\y.fst.fst<(a.length:Int))/\((0:Int)<=y.fst.fst/\y.fst.fst<(b.length:Int))/\
     (bif e (a.getD (Int.toNat y.fst.fst) d) (b.getD (Int.toNat y.fst.fst) d)then K (false,())
     else t=t/\I ((IntKind.i64.wrap (y.fst.fst+(1:Int)),()),())/\μ ((IntKind.i64.wrap (y.fst.fst+(1:Int)),()),())<μ y)
  else K (true,()):=by
 refine kK a.length hlen (λn=>∀i,i<n->a.getD i d=b.getD i d) (λi hi=>by omega) (λI μ n hn hJ next=>?_) λI μ hJ=>(by dsimp only;exact eY (by omega) (hT (Sl hl hJ)));dsimp only;refine eX (by omega) ⟨⟨by omega,by omega⟩,⟨by omega,by omega⟩,af (λh=>hF λh'=>?_) λh=>⟨rfl,next λi hi=>?_⟩⟩
 .subst h';have:=(he (a.getD n d) (a.getD n d)).2 rfl;have h:e (a.getD n d) (a.getD n d)=true:=h;rw[this]at h;cases h
 .rcases apa i n with h'|h'
  .exact hJ i h'
  .have:i=n:=by omega
   rw[this];exact(he _ _).1 h
theorem acY{α β:Type}(e:α->α->Bool)(he:∀x y,e x y=false↔x=y)(d:α)(a b:List α)(t:β)(hlen:a.length<=9223372036854775807)(hl:a.length=b.length){K:Bool×Unit->Prop}(hF:a≠b->K (false,()))(hT:a=b->K (true,())):
 ∃(I:(Int×Unit)×Unit->Prop),∃(μ:(Int×Unit)×Unit->Nat),I (((0:Int),()),())/\∀(y:(Int×Unit)×Unit),I y->
  bif decide (y.fst.fst<(a.length:Int))then
   ((0:Int)<=y.fst.fst/\y.fst.fst<(a.length:Int))/\((0:Int)<=y.fst.fst/\y.fst.fst<(b.length:Int))/\True/\
     (bif e (a.getD (Int.toNat y.fst.fst) d) (b.getD (Int.toNat y.fst.fst) d)then K (false,())
     else t=t/\I ((IntKind.i64.wrap (y.fst.fst+(1:Int)),()),())/\μ ((IntKind.i64.wrap (y.fst.fst+(1:Int)),()),())<μ y)
  else K (true,()):=by
 refine kK a.length hlen (λn=>∀i,i<n->a.getD i d=b.getD i d) (λi hi=>by omega) (λI μ n hn hJ next=>?_) λI μ hJ=>(by dsimp only;exact eY (by omega) (hT (Sl hl hJ)));dsimp only;refine eX (by omega) ⟨⟨by omega,by omega⟩,⟨by omega,by omega⟩,trivial,af (λh=>hF λh'=>?_) λh=>⟨rfl,next λi hi=>?_⟩⟩
 .subst h';have:=(he (a.getD n d) (a.getD n d)).2 rfl;have h:e (a.getD n d) (a.getD n d)=true:=h;rw[this]at h;cases h
 .rcases apa i n with h'|h'
  .exact hJ i h'
  .have:i=n:=by omega
   rw[this];exact(he _ _).1 h
end Go.Fw
namespace Sp
open Go Go.Fw
theorem QW{name:Bytes}:∀(s:List dH)(n:Nat),n<s.length->(∀i,i<n->(s.getD i ([],0,())).1≠name)->(s.getD n ([],0,())).1=name->kindOf s name=(s.getD n ([],0,())).2.1
 |[],n,h,_,_=>by simp at h
 |f::r,0,_,_,he=>by
  have he:f.1=name:=he;show(bif decide (f.1=name)then f.2.1 else kindOf r name)=f.2.1;rw[aoZ he];rfl
 |f::r,n+1,h,hne,he=>by have h0:f.1≠name:=hne 0 (by omega);show(bif decide (f.1=name)then f.2.1 else kindOf r name)=_;rw[ao1 h0];exact QW r n (by simpa using h) (λi hi=>hne (i+1) (by omega)) he
theorem JF{name:Bytes}:∀(s:List dH),(∀i,i<s.length->(s.getD i ([],0,())).1≠name)->kindOf s name=0
 |[],_=>rfl
 |f::r,hne=>by have h0:f.1≠name:=hne 0 (by simp);show(bif decide (f.1=name)then f.2.1 else kindOf r name)=_;rw[ao1 h0];exact JF r λi hi=>hne (i+1) (by simp;omega)
theorem Sm{id:Int}:∀(s:List aT)(k:Int)(n:Nat),n<s.length->(∀i,i<n->(fileAt s i).1≠id)->(fileAt s n).1=id->BB k s id=k+n
 |[],_,n,h,_,_=>by simp at h
 |f::r,k,0,_,_,he=>by
  have he:f.1=id:=he;show(bif decide (f.1=id)then k else BB (k+1) r id)=_;rw[aoZ he];simp
 |f::r,k,n+1,h,hne,he=>by have h0:f.1≠id:=hne 0 (by omega);show(bif decide (f.1=id)then k else BB (k+1) r id)=_;rw[ao1 h0];show BB (k+1) r id=_;rw[Sm r (k+1) n (by simpa using h) (λi hi=>hne (i+1) (by omega)) he];omega
theorem WJ{id:Int}{s:List aT}{n:Nat}(h:n<s.length)(hne:∀i,i<n->(fileAt s i).1≠id)(he:(fileAt s n).1=id):place s id=n:=by unfold place;rw[Sm s 0 n h hne he];omega
theorem U3{s:List dH}{n:Nat}(h:n<s.length)(hn:iY s n=false):dP s=false:=by unfold dP;rw[wZ h hn];rfl
theorem agD{fs:List dH}{s:List bT}{n:Nat}(h:n<s.length)(hn:jf fs s n=false):nY fs s=false:=wZ h hn
theorem aaB{fs:List dH}{f:aT}{n:Nat}(h:n<f.2.2.2.2.1.length)(hn:jf fs f.2.2.2.2.1 n=false):cZ fs f=false:=by unfold cZ;rw[agD h hn];rfl
theorem XW{s:gI}{n:Nat}(h:n<s.2.1.length)(hn:jX s n=false):eF s=false:=by unfold eF;rw[wZ h hn];rfl
theorem vU{s:gI}{i:Nat}:jX s i=true↔cZ s.1 (fileAt s.2.1 i)=true/\(fileAt s.2.1 i).1<s.2.2.1/\(0<i->(fileAt s.2.1 (i-1)).1<(fileAt s.2.1 i).1):=by
 unfold jX;rw[aoJ,aoJ,aoS,and_assoc];refine aqs λ_=>aqs λ_=>?_;by_cases h:0<i
 .simp[h]
 .simp[h]
theorem uf{s:gI}:eF s=true↔(∀i,i<s.2.1.length->jX s i=true)/\dP s.1=true/\s.2.1.length<=12/\1<=s.2.2.1/\s.2.2.1<=61:=by
 unfold eF;rw[aoJ,aoJ,aoJ,aoJ,aoS,aoS,aoS,JO];constructor
 .rintro⟨⟨⟨h1,h2⟩,h3⟩,h4,h5⟩;exact⟨h1,h2,by omega,h4,h5⟩
 .rintro⟨h1,h2,h3,h4,h5⟩;exact⟨⟨⟨h1,h2⟩,by omega⟩,h4,h5⟩
theorem ah9{fs:List dH}{f:aT}(h:cZ fs f=true):1<=f.1/\f.1<=60:=by unfold cZ at h;simp only[aoJ,aoS]at h;exact h.1.1.2
theorem JX{fs:List aT}{g:aT}{i:Nat}(h:i<fs.length):fileAt (fs++[g]) i=fileAt fs i:=by unfold fileAt;rw[aoN,apt h,← aoN]
theorem aeD{fs:List aT}{g:aT}:fileAt (fs++[g]) fs.length=g:=by unfold fileAt;rw[aoN,apk (aoP _)];simp
theorem adF{s:gI}{g:aT}(h:eF s=true)(hl:s.2.1.length<12)(hg:cZ s.1 g=true)(hid:g.1=s.2.2.1):eF (s.1,s.2.1++[g],s.2.2.1+1,())=true:=by
 obtain⟨h1,h2,h3,h4,h5⟩:=uf.1 h;have hg1:=ah9 hg;refine uf.2 ⟨λi hi=>?_,h2,by show(s.2.1++[g]).length<=12;simp;omega,by show 1<=s.2.2.1+1;omega,by show s.2.2.1+1<=61;omega⟩;have hi:i<(s.2.1++[g]).length:=hi;rw[aoK,aoO,ao5]at hi;refine vU.2 ?_;show cZ s.1 (fileAt (s.2.1++[g]) i)=true/\(fileAt (s.2.1++[g]) i).1<s.2.2.1+1/\(0<i->(fileAt (s.2.1++[g]) (i-1)).1<(fileAt (s.2.1++[g]) i).1);rcases apa i s.2.1.length with hlt|hge
 .obtain⟨k1,k2,k3⟩:=vU.1 (h1 i hlt);rw[JX hlt];refine⟨k1,by omega,λh0=>?_⟩;rw[JX (by omega)];exact k3 h0
 .have e:i=s.2.1.length:=by omega
  subst e;rw[aeD];refine⟨hg,by omega,λh0=>?_⟩;rw[JX (by omega)];have:=(vU.1 (h1 (s.2.1.length-1) (by omega))).2.1;omega
theorem qI(s:gI)(f:aT):(dV s f=(s,0,false)/\¬(eF s=true/\s.2.1.length<12/\cZ s.1 (s.2.2.1,f.2)=true))\/
 (eF s=true/\s.2.1.length<12/\cZ s.1 (s.2.2.1,f.2)=true/\dV s f=((s.1,s.2.1++[(s.2.2.1,f.2)],s.2.2.1+1,()),s.2.2.1,true)):=by
 by_cases h:eF s=true/\s.2.1.length<12/\cZ s.1 (s.2.2.1,f.2)=true
 .right;refine⟨h.1,h.2.1,h.2.2,?_⟩;unfold dV;dsimp only;rw[h.1,h.2.2,aoZ (by omega)];rfl
 .left;refine⟨?_,h⟩;have:(eF s&&decide ((s.2.1.length:Int)<12)&&cZ s.1 (s.2.2.1,f.2))=false:=by
   cases hb:(eF s&&decide ((s.2.1.length:Int)<12)&&cZ s.1 (s.2.2.1,f.2))with
   |false=>rfl
   |true=>simp only[aoJ,aoS]at hb;exact(h ⟨hb.1.1,by omega,hb.2⟩).elim
  unfold dV;dsimp only;rw[this];rfl
theorem ZP{s:gI}(f:aT)(h:eF s=true):eF (dV s f).1=true:=by
 rcases qI s f with⟨e,_⟩|⟨h1,h2,h3,e⟩
 .rw[e];exact h
 .rw[e];exact adF h1 h2 h3 rfl
theorem agE{s:List aT}{f:aT}(h:f∈s):∃i,i<s.length/\fileAt s i=f:=by obtain⟨i,hi,rfl⟩:=ap0 h;refine⟨i,hi,?_⟩;unfold fileAt;rw[aoN,aoQ hi];rfl
theorem YC{s:List aT}{i:Nat}(h:i<s.length):fileAt s i∈s:=getD_mem h
theorem aia{s:gI}(h:eF s=true):∀(j i:Nat),i<j->j<s.2.1.length->(fileAt s.2.1 i).1<(fileAt s.2.1 j).1
 |0,i,hi,_=>by omega
 |j+1,i,hi,hj=>by
  have h1:=(vU.1 ((uf.1 h).1 (j+1) hj)).2.2 (by omega);rw[Nat.add_sub_cancel]at h1;rcases apa i j with h2|h2
  .have:=aia h j i h2 (by omega);omega
  .have:i=j:=by omega
   rw[this];exact h1
theorem G7{α:Type}{p:α->Bool}{d:α}:∀(l:List α)(n:Nat),n<=l.length->(∀i,i<n->p (l.getD i d)=true)->(n<l.length->p (l.getD n d)=false)->l.takeWhile p=l.take n/\l.dropWhile p=l.drop n
 |[],n,h,_,_=>by simp
 |x::r,0,_,_,h=>by
  have h:p x=false:=h (by simp);constructor<;>simp[h]
 |x::r,n+1,hn,h1,h2=>by have h0:p x=true:=h1 0 (by omega);have:=G7 r n (by simpa using hn) (λi hi=>h1 (i+1) (by omega)) λhlt=>h2 (by simpa using hlt);constructor<;>simp[h0,this.1,this.2]
end Sp
namespace Sp
open Go Go.Fw
theorem Va:∀a:Bytes,Op.bytesLess a a=false
 |[]=>rfl
 |x::a=>by show(decide (x<x)||(x==x&&Op.bytesLess a a))=false;rw[Va a,ao1 (UInt8.lt_irrefl x),aqd];rfl
theorem aib{x y:UInt8}{a b:Bytes}:Op.bytesLess (x::a) (y::b)=true↔x.toNat<y.toNat\/(x=y/\Op.bytesLess a b=true):=by show(decide (x<y)||(x==y&&Op.bytesLess a b))=true↔_;rw[apO,aoS,aoJ,apf,UInt8.lt_iff_toNat_lt]
theorem Om:∀a b c:Bytes,Op.bytesLess a b=true->Op.bytesLess b c=true->Op.bytesLess a c=true
 |_,[],_,h,_=>by cases h':(‹Bytes›:Bytes)<;>simp_all [Op.bytesLess]
 |_,_::_,[],_,h=>by cases h
 |[],_::_,_::_,_,_=>rfl
 |x::a,y::b,z::c,h1,h2=>by
  rw[aib]at h1 h2 ⊢;rcases h1 with h1|⟨rfl,h1⟩
  .rcases h2 with h2|⟨rfl,h2⟩
   .exact .inl (by omega)
   .exact .inl h1
  .rcases h2 with h2|⟨rfl,h2⟩
   .exact .inl h2
   .exact .inr ⟨rfl,Om a b c h1 h2⟩
theorem akI{a b:Bytes}(h:Op.bytesLess a b=true):a≠b:=λe=>by rw[e,Va]at h;cases h
theorem adG{s:List dH}:dP s=true↔(∀i,i<s.length->iY s i=true)/\s.length<=5:=by unfold dP;rw[aoJ,JO,aoS];exact aqs λ_=>by omega
end Sp
namespace Sp
open Go
def nameOf(d:List bf)(i:Nat):Bytes:=(bQ d i).1
def Gh(d:List bf)(i:Nat):List ax:=(bQ d i).2.1
def ajX(r:List uo)(i:Nat):uo:=r.getD i ([],[],())
def Oo(r:List uo)(i:Nat):List (Int×Unit):=(ajX r i).2.1
def Iu(d:List bf)(aH:List (Int×Unit)):Prop:=
 aH.length=d.length/\(∀i,i<d.length->0<=lv aH i/\lv aH i<=d.length)/\(ig (bV d) λi=>(lv aH i).toNat)/\∀M,ig (bV d) M->∀i,i<d.length->lv aH i<=M i
theorem agk{d:List bf}(h:∃M,ig (bV d) M/\∀i,i<d.length->M i<d.length):∃s,Iu d s:=by
 have hE:=jH d;have hmin:∀i,∃m,(∃M,ig (bV d) M/\M i=m)/\∀M,ig (bV d) M->m<=M i:=λi=>by
  obtain⟨M0,h0,_⟩:=h;have:∀n,(∃M,ig (bV d) M/\M i=n)->∃m,(∃M,ig (bV d) M/\M i=m)/\∀M,ig (bV d) M->m<=M i:=by
   intro n
   induction n using Nat.strongRecOn with
   |_ n ih=>
    intro hn;by_cases hl:∃M,ig (bV d) M/\M i<n
    .obtain⟨M,h1,h2⟩:=hl;exact ih _ h2 ⟨M,h1,rfl⟩
    .exact⟨n,hn,λM hM=>Nat.le_of_not_lt λhlt=>hl ⟨M,hM,hlt⟩⟩
  exact this (M0 i) ⟨M0,h0,rfl⟩
 obtain⟨L,hL⟩:=Classical.axiomOfChoice hmin;have hfix:ig (bV d) L:=λe he=>by obtain⟨⟨M,h1,h2⟩,_⟩:=hL e.1;have a:=(hL e.2.1).2 M h1;have b:=h1 e he;rw[← h2];omega
 have hlv:∀i,i<d.length->lv ((List.range d.length).map λi=>((L i:Int),())) i=L i:=λi hi=>by unfold lv;rw[aoN,apB,List.getElem?_range hi];rfl
 refine⟨(List.range d.length).map λi=>((L i:Int),()),by simp,λi hi=>?_,λe he=>?_,λM hM i hi=>?_⟩
 .rw[hlv i hi];obtain⟨M,h1,h2⟩:=h;have:=(hL i).2 M h1;have:=h2 i hi;omega
 .obtain⟨h1,h2,_⟩:=hE e he;have:=hfix e he;dsimp only;rw[hlv _ h1,hlv _ h2];omega
 .rw[hlv i hi];have:=(hL i).2 M hM;omega
def ajh(d:List bf)(aH:List (Int×Unit))(s:Bytes):Nat:=(lv aH (aB d s).toNat).toNat
def due(d:List bf)(nm:Bytes->Bool)(s:Bytes):Prop:=nm s=true/\∃i,i<d.length/\nameOf d i=s
def aaN(d:List bf)(out:List uo):Prop:=out.length=d.length/\∀i,i<d.length->(ajX out i).1=nameOf d i
structure ajY(fs:List aT)(d:List bf)(r:List uo)(nm:Bytes->Bool)(out:List uo):Prop where
 order:aaN d out
 kept:∀i,i<d.length->nm (nameOf d i)=false->Oo out i=Sj r (nameOf d i)
 fix:∀i,i<d.length->nm (nameOf d i)=true->Oo out i=sel fs (Gh d i) (Oi out)
 aH:∃aH,Iu d aH/\Eval (agC fs d) (due d nm) (ajh d aH) (Oi out)
def Tz{ι α:Type}(S:Sys ι α)(N:ι->Prop)(aH:ι->Nat)(k:Nat)(X:Ext ι α):Prop:=
 ∀Y:Ext ι α,(∀i,¬(N i/\aH i=k)->∀x,Y i x=X i x)->(∀i,N i->aH i=k->∀x,S.T i Y x->Y i x=true)->∀i,N i->aH i=k->∀x,X i x=true->Y i x=true
open Classical in
theorem akJ{ι α:Type}{S:Sys ι α}{N:ι->Prop}{aH:ι->Nat}(hs:amB S N aH){m:Nat}{X X':Ext ι α}(h:∀i,¬(N i/\m<aH i)->∀x,X i x=X' i x)(hX:Tz S N aH m X):Tz S N aH m X':=by
 intro Y hY hp i hi hl x hx;have key:=hX (λi x=>if N i/\m<aH i then X i x else Y i x) (λj hj y=>?_) (λj hj hlj y hy=>?_) i hi hl x (by rw[h i (by omega)];exact hx)
 .rw[if_neg (by omega)]at key;exact key
 .by_cases hc:N j/\m<aH j
  .rw[if_pos hc]
  .rw[if_neg hc,hY j hj,h j hc]
 .rw[if_neg (by omega)];have same:∀t,(S.pos j t\/S.neg j t)->¬(N t/\m<aH t):=λt ht hc=>by
   rcases ht with ht|ht
   .have:=(hs j t hj hc.1).1 ht;omega
   .have:=(hs j t hj hc.1).2 ht;omega
  refine hp j hj hlj y (S.mono j _ Y (λt ht z hz=>?_) (λt ht z=>?_) y hy)
  .rw[if_neg (same t (.inl ht))]at hz;exact hz
  .rw[if_neg (same t (.inr ht))]
def canon(fs:List aT)(l:List (Int×Unit)):Prop:=l=(fs.filter λf=>abK l f.1).map λf=>(f.1,())
structure anV(fs:List aT)(d:List bf)(r:List uo)(nm:Bytes->Bool)(aH:List (Int×Unit))(k:Nat)(out:List uo):Prop where
 order:aaN d out
 kept:∀i,i<d.length->nm (nameOf d i)=false->Oo out i=Sj r (nameOf d i)
 later:∀i,i<d.length->nm (nameOf d i)=true->(k:Int)<lv aH i->Oo out i=[]
 done:∀i,i<d.length->nm (nameOf d i)=true->lv aH i<k->Oo out i=sel fs (Gh d i) (Oi out)
 aok:∀m,m<k->Tz (agC fs d) (due d nm) (ajh d aH) m (Oi out)
 aoy:∀i,i<d.length->nm (nameOf d i)=true->lv aH i=k->∀x,abK (Oo out i) x=true->(x,())∈sel fs (Gh d i) (Oi out)
 least:Tz (agC fs d) (due d nm) (ajh d aH) k (Oi out)
 canon:∀i,i<d.length->nm (nameOf d i)=true->canon fs (Oo out i)
def room(n:Nat)(out:List uo):Nat:=(out.map λx=>n-x.2.1.length).sum
end Sp
namespace Sp
open Go
abbrev DT:=List dH×List aT×Int×List bf×List uo×Unit
instance:DecidableEq (List (Int×Unit)):=inferInstance
instance:DecidableEq uo:=inferInstance
instance:DecidableEq (List uo):=inferInstance
instance:DecidableEq (List uo×Unit):=inferInstance
instance:DecidableEq (List bf×List uo×Unit):=inferInstance
instance:DecidableEq (Int×List bf×List uo×Unit):=inferInstance
instance:DecidableEq (List aT×Int×List bf×List uo×Unit):=inferInstance
instance aoz:DecidableEq DT:=(inferInstance:DecidableEq (List dH×List aT×Int×List bf×List uo×Unit))
def EG(c:DT):gI:=(c.1,c.2.1,c.2.2.1,())
def FY(c:DT):List bf:=c.2.2.2.1
def anM(c:DT):List uo:=c.2.2.2.2.1
open Classical in
noncomputable def ajZ (c:DT):Bool:=fB (FY c)&&eF (EG c)&&decide (ajY c.2.1 (FY c) [] (λ_=>true) (anM c))
def aji(f g:aT):List Bytes:=((f.2.2.2.2.1++g.2.2.2.2.1).map λa=>a.1).filter λs=>!decide (DR f.2.2.2.2.1 s=DR g.2.2.2.2.1 s)
def akK(q:List ax):List Bytes:=(q.filter λn=>n.1==2||(n.1==3||n.1==4)).map λn=>n.2.2.2.1
def alx(q:List ax):List Bytes:=(q.filter nI).map λn=>n.2.2.2.1
def linked(q:List ax):Bool:=q.any λn=>n.1==9
inductive Reach(d:List bf)(P:Bytes->Prop):Bytes->Prop where
 |base {s}:P s->Reach d P s
 |step {s i}:Reach d P s->i<d.length->s∈alx (Gh d i)->Reach d P (nameOf d i)
def ajj(d:List bf)(f g:aT)(s:Bytes):Prop:=
 ∃i,i<d.length/\nameOf d i=s/\(f.1≠g.1\/(∃t,t∈akK (Gh d i)/\t∈aji f g)\/(linked (Gh d i)=true/\f.2.2.2.1≠g.2.2.2.1))
def Aff(d:List bf)(f g:aT):Bytes->Prop:=Reach d (ajj d f g)
open Classical in
noncomputable def aoA (d:List bf) (f g:aT) (s:Bytes):Bool:=decide (Aff d f g s)
end Sp
namespace Sp
open Go
end Sp
namespace Sp
open Go
def anN(as:List bT):Prop:=as.Pairwise λx y=>Op.bytesLess x.1 y.1=true
theorem WV{α:Type}{R:α->α->Prop}(ht:∀a b c,R a b->R b c->R a c)(d:α):∀(l:List α),(∀i,i+1<l.length->R (l.getD i d) (l.getD (i+1) d))->l.Pairwise R
 |[],_=>List.Pairwise.nil
 |[x],_=>List.pairwise_singleton _ _
 |x::y::r,h=>by
  have ih:=WV ht d (y::r) λi hi=>h (i+1) (by simpa using hi);have h0:R x y:=h 0 (by simp);refine aql.2 ⟨λz hz=>?_,ih⟩;rcases aoU.1 hz with rfl|hz
  .exact h0
  .exact ht _ _ _ h0 ((aql.1 ih).1 z hz)
theorem Vb{fs:List dH}{as:List bT}:nY fs as=true↔(∀a∈as,iy fs a.1 a.2.1 a.2.2.1 a.2.2.2.1=true)/\anN as:=by
 have at_:∀i(hi:i<as.length),bG as i=as[i]:=λi hi=>by unfold bG;rw[aoN,aoQ hi];rfl
 unfold nY;rw[show(iI as.length (jf fs as)=true)↔∀i,i<as.length->jf fs as i=true from by unfold iI;rw[ao4];exact⟨λh i hi=>h i (apw.2 hi),λh i hi=>h i (apw.1 hi)⟩];have one:∀i,jf fs as i=true↔iy fs (bG as i).1 (bG as i).2.1 (bG as i).2.2.1 (bG as i).2.2.2.1=true/\(0<i->Op.bytesLess (bG as (i-1)).1 (bG as i).1=true):=λi=>by
  unfold jf;rw[aoJ];refine aqs λ_=>?_;by_cases h0:0<i
  .rw[aoZ h0];simp[h0]
  .rw[ao1 h0];simp[h0]
 constructor
 .intro h;refine⟨λa ha=>?_,?_⟩
  .obtain⟨i,hi,rfl⟩:=ap0 ha;have:=((one i).1 (h i hi)).1;rw[at_ i hi]at this;exact this
  .refine WV (R:=λx y:bT=>Op.bytesLess x.1 y.1=true) (λa b c h1 h2=>Om _ _ _ h1 h2) ([],0,0,[],()) as λi hi=>?_;exact((one (i+1)).1 (h (i+1) hi)).2 (by omega)
 .rintro⟨h1,h2⟩ i hi;refine(one i).2 ⟨?_,λh0=>?_⟩
  .rw[at_ i hi];exact h1 _ (ap2 hi)
  .rw[at_ i hi,at_ (i-1) (by omega)];exact aqE.1 h2 (i-1) i (by omega) hi (by omega)
theorem adH{α:Type}[BEq α][LawfulBEq α]:∀(a b:List α),a.Nodup->(∀x∈a,x∈b)->a.length<=b.length
 |[],_,_,_=>apb _
 |x::r,b,hn,h=>by
  rw[List.nodup_cons]at hn;have hx:=h x aoT;have ih:=adH r (b.erase x) hn.2 λy hy=>by
   have hne:y≠x:=λe=>by subst e;exact hn.1 hy
   rw[List.mem_erase_of_ne hne];exact h y (aoR _ hy)
  rw[List.length_erase_of_mem hx]at ih;have:0<b.length:=List.length_pos_of_mem hx;rw[aoO];omega
theorem Oq:∀{fs:List dH}{s:Bytes},kindOf fs s≠0->s∈fs.map λf=>f.1
 |[],_,h=>(h rfl).elim
 |f::r,s,h=>by
  rw[kindOf]at h;by_cases e:f.1=s
  .rw[ao3,e];exact aoT
  .rw[ao1 e]at h;rw[ao3];exact aoR _ (Oq h)
theorem ajk{fs:List dH}{as:List bT}(h:nY fs as=true):as.length<=fs.length:=by
 obtain⟨h1,h2⟩:=Vb.1 h;have:=adH (as.map λa=>a.1) (fs.map λf=>f.1) ?_ λs hs=>?_
 .rw[ao0,ao0]at this;exact this
 .unfold List.Nodup;rw[arL];exact h2.imp λ{a b} hab=>akI hab
 .obtain⟨a,ha,rfl⟩:=apU.1 hs;have hm:=h1 a ha;unfold iy at hm;simp only[aoJ,aoS,aqv,aps]at hm;exact Oq (by rw[← hm.2];exact hm.1.2)
end Sp
namespace Sp
open Go
def named(f:aT)(w:Bytes):aT:=(f.1,f.2.1,f.2.2.1,f.2.2.2.1,oO f.2.2.2.2.1 [110] 2 0 w,())
def ajl(c:DT)(u id:Int):Bool:=(Og (EG c) id).2&&ajf (Og (EG c) id).1 u
end Sp
namespace Sp
open Go
def kL(b:UInt8):Bool:=decide (32<=b.toNat)&&decide (b.toNat<=126)
def P8(s:Bytes):Bool:=s.all λb=>decide (b.toNat<128)
def wordsOf(s:Bytes):LS:=(Lib.fields s).map (·,())
def l9(s:Bytes):Bool:=decide ((s.length:Int)<=600)&&s.all kL&&decide (((Lib.fields s).length:Int)<=24)
def ni(s:Bytes):LS:=bif l9 s then wordsOf s else[]
def jl(s:Bytes):Int:=s.foldl (λn b=>10*n+((b.toNat:Int)-48)) 0
def aU(s:Bytes):Bool:=dO (jl s)&&(Lib.itoa (jl s)==s)
def parseNum(s:Bytes):Int:=bif aU s then jl s else 0
def wordAt(w:LS)(i:Int):Bytes:=bif decide (i>=(w.length:Int))then[]else(w.getD i.toNat ([],())).1
def kT(w:LS):Bytes:=Lib.join (w.map (·.1)) [32]
def numAt(w:LS)(i:Int):Int:=parseNum (wordAt w i)
def abL(w:LS):Int×Int×Bytes×Int:=
 bif wordAt w 0==[99,111,109,109,105,116]then(1,numAt w 1,[],0)else
 bif wordAt w 0==[99,114,97,115,104]then(2,numAt w 1,[],numAt w 2)else
 bif wordAt w 0==[119,97,116,99,104]then(3,numAt w 1,wordAt w 2,0)else
 bif wordAt w 0==[112,105,110]then(4,0,[],numAt w 1)else
 bif wordAt w 0==[117,110,112,105,110]then(5,0,[],numAt w 1)else
 bif wordAt w 0==[99,111,108,108,101,99,116]then(6,0,[],0)else
 bif wordAt w 0==[97,100,100]then(7,numAt w 1,wordAt w 2,numAt w 3)else
 bif wordAt w 0==[114,101,109,111,118,101]then(8,numAt w 1,wordAt w 2,numAt w 3)else(0,0,[],0)
def akL(x:Int×Int×Bytes×Int):Bytes:=Oe x.1 x.2.1 0 x.2.2.1 x.2.2.2
end Sp
namespace Sp
open Go
theorem ajm(u:Nat):Lib.itoa (u:Int)=Lib.decDigits u:=by unfold Lib.itoa;rw[if_neg (by omega)];simp
theorem Au(s:Bytes)(d:UInt8):jl (s++[d])=10*jl s+((d.toNat:Int)-48):=by simp[jl,List.foldl_append]
theorem byte_of(d:Nat)(h:d<10):(UInt8.ofNat (48+d)).toNat=48+d:=by rw[UInt8.toNat_ofNat'];omega
theorem LM(s:List UInt8):∀(acc:Nat)(n:Nat),Lib.decFrom acc s=some n->∀d,d<10->Lib.decFrom acc (s++[UInt8.ofNat (48+d)])=some (n*10+d):=by
 intro acc n h d hd
 induction s generalizing acc with
 |nil=>
  simp only[Lib.decFrom,Option.some.injEq]at h;subst h;have:∀d:Fin 10,Lib.digitVal (UInt8.ofNat (48+d.val))=some d.val:=by decide
  have h2:=this ⟨d,hd⟩;simp only[apD,Lib.decFrom];rw[h2]
 |cons a r ih=>
  simp only[apQ,Lib.decFrom]at h ⊢;cases hv:Lib.digitVal a with
  |none=>rw[hv]at h;simp at h
  |some x=>rw[hv]at h;simp only at h ⊢;exact ih _ h
theorem ET:∀(k u:Nat),u<10 ^ (k+1)->jl (Lib.decDigits u)=u/\Lib.decFrom 0 (Lib.decDigits u)=some u/\(∀b∈Lib.decDigits u,48<=b.toNat/\b.toNat<=57)/\Lib.decDigits u≠[]/\(Lib.decDigits u).length<=k+1
 |0,u,h=>by
  have h:u<10:=by simpa using h
  rw[Lib.decDigits_one h];have hb:=byte_of u h;have:=LM [] 0 0 rfl u h;refine⟨?_,?_,λb hm=>?_,arn _ _,aoP _⟩
  .have:=Au [] (UInt8.ofNat (48+u));rw[apD]at this;rw[this,hb];show 10*0+_=_;omega
  .rw[apD,aqJ,apg]at this;exact this
  .rw[ao7]at hm;subst hm;omega
 |k+1,u,h=>by
  by_cases h1:u<10
  .have:=ET 0 u (by simpa using h1);exact⟨this.1,this.2.1,this.2.2.1,this.2.2.2.1,by omega⟩
  .have hd:u / 10<10 ^ (k+1):=by rw[Nat.pow_succ]at h;omega
   obtain⟨i1,i2,i3,i4,i5⟩:=ET k (u / 10) hd;have e:Lib.decDigits u=Lib.decDigits (u / 10)++[UInt8.ofNat (48+u%10)]:=by
    conv=>lhs;rw[Lib.decDigits,dif_neg h1]
   have hm:u%10<10:=arv _ (by decide);have hb:=byte_of (u%10) hm;rw[e];refine⟨by rw[Au,i1,hb];omega,?_,λb hb2=>?_,by simp,by simp;omega⟩
   .rw[LM _ _ _ i2 _ hm];congr 1;omega
   .rcases apc.1 hb2 with h2|h2
    .exact i3 b h2
    .rw[ao7]at h2;subst h2;omega
theorem gG{n:Int}:dO n=true↔0<=n/\n<=1000000000:=by unfold dO;rw[aoJ,aoS,aoS]
theorem fU{n:Int}(h:dO n=true):jl (Lib.itoa n)=n/\Lib.atoi (Lib.itoa n)=some n/\(∀b∈Lib.itoa n,48<=b.toNat/\b.toNat<=57)/\Lib.itoa n≠[]/\(Lib.itoa n).length<=10:=by
 obtain⟨h0,h1⟩:=gG.1 h;obtain⟨u,rfl⟩:=Int.eq_ofNat_of_zero_le h0;have hu:u<10 ^ (9+1):=by omega
 rw[ajm];obtain⟨i1,i2,i3,i4,i5⟩:=ET 9 u hu;refine⟨i1,?_,i3,i4,i5⟩;cases hd:Lib.decDigits u with
 |nil=>exact absurd hd i4
 |cons b r=>
  have hb:=i3 b (by rw[hd];simp);rw[hd]at i2;have n45:(b==45)=false:=by rw[aoL];intro e;subst e;revert hb;decide
  have n43:(b==43)=false:=by rw[aoL];intro e;subst e;revert hb;decide
  simp only[Lib.atoi,n45,n43,Lib.decNat,ap9,aqY,List.isEmpty_cons,i2,apF]
theorem zY{s:Bytes}:aU s=true↔dO (jl s)=true/\Lib.itoa (jl s)=s:=by unfold aU;rw[aoJ,apf]
theorem MV{s:Bytes}{n:Int}(h:dO n=true)(e:Lib.itoa n=s):aU s=true/\parseNum s=n:=by
 have hv:jl s=n:=by rw[← e];exact(fU h).1
 have:aU s=true:=zY.2 ⟨by rw[hv];exact h,by rw[hv];exact e⟩;exact⟨this,by unfold parseNum;rw[this];exact hv⟩
theorem nJ{n:Int}(h:dO n=true):aU (Lib.itoa n)=true/\parseNum (Lib.itoa n)=n:=MV h rfl
theorem jv{s:Bytes}(h:aU s=true):Lib.itoa (parseNum s)=s/\dO (parseNum s)=true:=by
 have e:parseNum s=jl s:=by unfold parseNum;rw[h];rfl
 rw[e];exact⟨(zY.1 h).2,(zY.1 h).1⟩
theorem Ar(s:Bytes):dO (parseNum s)=true:=by
 cases h:aU s with
 |true=>exact(jv h).2
 |false=>unfold parseNum;rw[h];rfl
theorem xC{s:Bytes}(h:aU s=false):parseNum s=0:=by unfold parseNum;rw[h];rfl
theorem abt{s:Bytes}(h:aU s=true):s.length<=10:=by
 have:=(fU (jv h).2).2.2.2.2
 rwa [(jv h).1]at this
theorem QO{s:Bytes}(h:10<s.length):aU s=false:=by
 cases hp:aU s with
 |false=>rfl
 |true=>have:=abt hp;omega
theorem LQ{s:Bytes}(h:aU s=true):∀b∈s,48<=b.toNat/\b.toNat<=57:=by
 have:=(fU (jv h).2).2.2.1
 rwa [(jv h).1]at this
end Sp
namespace Sp
open Go
def Ot(x:Bytes):Prop:=x≠[]/\∀b∈x,Lib.isSp b=false
theorem EU:∀(x cur l:Bytes),(∀b∈x,Lib.isSp b=false)->Lib.fieldsGo cur (x++l)=Lib.fieldsGo (cur++x) l
 |[],cur,l,_=>by rw[ape,apD]
 |b::x,cur,l,h=>by rw[apQ,Lib.fieldsGo_more _ _ _ (h b aoT),EU x _ l (λc hc=>h c (aoR _ hc)),aoX];rfl
theorem OX:∀(r:List Bytes)(x:Bytes),x≠[]->(∀y∈r,Ot y)->Lib.fieldsGo x (Lib.joinTail [32] r)=x::r
 |[],x,hx,_=>by
  cases x with
  |nil=>exact absurd rfl hx
  |cons _ _=>simp[Lib.joinTail,Lib.fieldsGo]
 |y::r,x,hx,h=>by
  have hy:=h y aoT;have e:Lib.joinTail [32] (y::r)=32::(y++Lib.joinTail [32] r):=by simp[Lib.joinTail]
  rw[e,Lib.fieldsGo_end x 32 _ (by decide) hx,EU y [] _ hy.2,apD,OX r y hy.1 λz hz=>h z (aoR _ hz)]
theorem Vd:∀ws:List Bytes,(∀x∈ws,Ot x)->Lib.fields (Lib.join ws [32])=ws
 |[],_=>rfl
 |x::r,h=>by have hx:=h x aoT;unfold Lib.fields;rw[Lib.join_cons,EU x [] _ hx.2,apD,OX r x hx.1 λz hz=>h z (aoR _ hz)]
theorem map_unit:∀w:LS,(w.map (·.1)).map (·,())=w
 |[]=>rfl
 |(_,())::r=>by rw[ao3,ao3,map_unit r]
theorem adI(ws:List Bytes)(h:∀x∈ws,Ot x):wordsOf (Lib.join ws [32])=ws.map (·,()):=by unfold wordsOf;rw[Vd ws h]
theorem YD{n:Int}(h:dO n=true):Ot (Lib.itoa n):=by
 obtain⟨_,_,h3,h4,_⟩:=fU h;refine⟨h4,λb hb=>?_⟩;have:=h3 b hb;unfold Lib.isSp;have ne:∀c:UInt8,c.toNat<48->(b==c)=false:=λc hc=>by rw[aoL];intro e;subst e;omega
 rw[ne 9 (by decide),ne 10 (by decide),ne 11 (by decide),ne 12 (by decide),ne 13 (by decide),ne 32 (by decide)];rfl
theorem aeE{s:Bytes}(h:aS s=true):Ot s:=by
 unfold aS lower at h;rw[aoJ,aoJ,ao4,aoS,aoS]at h;refine⟨λe=>by subst e;simp at h,λb hb=>?_⟩;have:=h.1.1 b hb;rw[aoJ,aoS,aoS]at this;unfold Lib.isSp;have ne:∀c:UInt8,c.toNat<97->(b==c)=false:=λc hc=>by rw[aoL];intro e;subst e;omega
 rw[ne 9 (by decide),ne 10 (by decide),ne 11 (by decide),ne 12 (by decide),ne 13 (by decide),ne 32 (by decide)];rfl
def adJ:Bytes:=[99,111,109,109,105,116]
def afe:Bytes:=[99,114,97,115,104]
def aff:Bytes:=[119,97,116,99,104]
def aj0:Bytes:=[112,105,110]
def afg:Bytes:=[117,110,112,105,110]
def aaO:Bytes:=[99,111,108,108,101,99,116]
def aj1:Bytes:=[97,100,100]
def adK:Bytes:=[114,101,109,111,118,101]
theorem NQ(x y:Bytes):Lib.join [x,y] [32]=x++32::y:=by rw[Lib.join_cons];simp[Lib.joinTail]
theorem Yh(x y z:Bytes):Lib.join [x,y,z] [32]=x++32::(y++32::z):=by rw[Lib.join_cons];simp[Lib.joinTail]
end Sp
namespace Sp
open Go
theorem ajn(w:LS):abL w=
 (bif wordAt w 0==adJ then(1,numAt w 1,[],0)else bif wordAt w 0==afe then(2,numAt w 1,[],numAt w 2)else bif wordAt w 0==aff then(3,numAt w 1,wordAt w 2,0)else
   bif wordAt w 0==aj0 then(4,0,[],numAt w 1)else bif wordAt w 0==afg then(5,0,[],numAt w 1)else bif wordAt w 0==aaO then(6,0,[],0)else
   bif wordAt w 0==aj1 then(7,numAt w 1,wordAt w 2,numAt w 3)else bif wordAt w 0==adK then(8,numAt w 1,wordAt w 2,numAt w 3)else(0,0,[],0)):=rfl
theorem ah2(w:LS)(i:Int)(h:wordAt w i=Lib.itoa (numAt w i)):aU (wordAt w i)=true:=by rw[h];exact(nJ (Ar _)).1
end Sp
namespace Sp
open Go
theorem agq(b:UInt8):(decide ((32:Int)<=IntKind.i64.wrap (b.toNat:Int))&&decide (IntKind.i64.wrap (b.toNat:Int)<=126))=kL b:=by
 have e:IntKind.i64.wrap (b.toNat:Int)=b.toNat:=by rw[IntKind.wrap_i64];have:=b.toNat_lt;omega
 rw[e];unfold kL;congr 1
 .exact decide_eq_decide.2 (by omega)
 .exact decide_eq_decide.2 (by omega)
theorem wR{b:UInt8}:kL b=true↔32<=b.toNat/\b.toNat<=126:=by unfold kL;rw[aoJ,aoS,aoS]
theorem adf{p:UInt8->Bool}{s:Bytes}(h:∀i,i<s.length->p (s.getD i 0)=true):s.all p=true:=by
 rw[ao4];intro x hx;obtain⟨i,hi,rfl⟩:=aqr.1 hx;have:=h i hi
 rwa [aoN,aoQ hi]at this
theorem WC{p:UInt8->Bool}{s:Bytes}(h:s.all p=true){i:Nat}(hi:i<s.length):p (s.getD i 0)=true:=by rw[aoN,aoQ hi];exact ao4.1 h _ (ap2 hi)
theorem ZQ{b:UInt8}(h:kL b=true):Lib.isSp b=(b==32):=by
 have h:=wR.1 h;unfold Lib.isSp;have ne:∀c:UInt8,c.toNat<32->(b==c)=false:=λc hc=>by rw[aoL];intro e;subst e;omega
 rw[ne 9 (by decide),ne 10 (by decide),ne 11 (by decide),ne 12 (by decide),ne 13 (by decide)];rfl
theorem ai3{s:Bytes}(h:s.all kL=true):P8 s=true:=by unfold P8;rw[ao4]at h ⊢;intro b hb;have:=wR.1 (h b hb);rw[aoS];omega
theorem ug{s:Bytes}:l9 s=true↔s.length<=600/\s.all kL=true/\(Lib.fields s).length<=24:=by
 unfold l9;rw[aoJ,aoJ,aoS,aoS];constructor
 .rintro⟨⟨h1,h2⟩,h3⟩;exact⟨by omega,h2,by omega⟩
 .rintro⟨h1,h2,h3⟩;exact⟨⟨by omega,h2⟩,by omega⟩
theorem aaH{s:Bytes}(h:l9 s=true):(ni s,l9 s,())=(wordsOf s,true,()):=by unfold ni;rw[h];rfl
theorem AU{s:Bytes}(h:¬(s.length<=600/\s.all kL=true/\(Lib.fields s).length<=24)):(ni s,l9 s,())=(([]:LS),false,()):=by
 have:l9 s=false:=by
  cases hs:l9 s with
  |false=>rfl
  |true=>exact(h (ug.1 hs)).elim
 unfold ni;rw[this];rfl
theorem vM(s:Bytes):(wordsOf s).length=(Lib.fields s).length:=by unfold wordsOf;rw[ao0]
def splitAt(s:Bytes)(n b:Nat)(out:LS):Prop:=
 b<=n/\n<=s.length+1/\out.length<=n/\(∀i,i<n->i<s.length->kL (s.getD i 0)=true)/\
 (n<=s.length->out.map (·.1)++Lib.fieldsGo ((s.take n).drop b) (s.drop n)=Lib.fields s)/\(n=s.length+1->out.map (·.1)=Lib.fields s)
theorem ac9(s:Bytes):splitAt s 0 0 []:=⟨aoP _,apb _,aoP _,λi hi=>absurd hi (apP _),λ_=>by simp[Lib.fields],λh=>by omega⟩
theorem ade{s:Bytes}{n b:Nat}{out:LS}(h:splitAt s n b out)(hn:n<s.length)(ho:kL (s.getD n 0)=true)(hc:s.getD n 0≠32):splitAt s (n+1) b out:=by
 obtain⟨h1,h2,h3,h4,h5,h6⟩:=h;refine⟨by omega,by omega,by omega,λi hi hi2=>?_,λ_=>?_,λh=>by omega⟩
 .rcases apa i n with h|h
  .exact h4 i h hi2
  · rwa [show i=n by omega]
 .rw[← h5 (by omega),Fw.drop_cons s n 0 hn,Lib.fieldsGo_more _ _ _ (by rw[ZQ ho];exact aoL.2 hc)];congr 2;rw[List.take_add_one,aoQ hn,aoN,aoQ hn,aq3];show List.drop b (List.take n s++[s[n]])=_;rw[ap8 (by rw[ao2];omega)]
theorem ada{s:Bytes}{n b:Nat}{out:LS}(h:splitAt s n b out)(hn:n<=s.length)(hb:b<n)(ho:n<s.length->kL (s.getD n 0)=true/\s.getD n 0=32):
 splitAt s (n+1) (n+1) (out++[((s.take n).drop b,())]):=by
 obtain⟨h1,h2,h3,h4,h5,h6⟩:=h;have hne:(s.take n).drop b≠[]:=λe=>by have:=congrArg List.length e;simp at this;omega
 refine⟨aoP _,by omega,by simp;omega,λi hi hi2=>?_,λhl=>?_,λhl=>?_⟩
 .rcases apa i n with h|h
  .exact h4 i h hi2
  .rw[show i=n by omega];exact(ho (by omega)).1
 .have hn2:n<s.length:=by omega
  obtain⟨o1,o2⟩:=ho hn2;rw[← h5 hn,Fw.drop_cons s n 0 hn2,Lib.fieldsGo_end _ _ _ (by rw[ZQ o1,o2];rfl) hne,(aqi (by rw[ao2];omega):(s.take (n+1)).drop (n+1)=[]),apG,aoX];rfl
 .have hn2:n=s.length:=by omega
  rw[← h5 hn,aqi (by omega:s.length<=n),apG];cases hcur:(s.take n).drop b with
  |nil=>exact absurd hcur hne
  |cons _ _=>simp[Lib.fieldsGo]
theorem adb{s:Bytes}{n b:Nat}{out:LS}(h:splitAt s n b out)(hn:n<=s.length)(hb:¬b<n)(ho:n<s.length->kL (s.getD n 0)=true/\s.getD n 0=32):splitAt s (n+1) (n+1) out:=by
 obtain⟨h1,h2,h3,h4,h5,h6⟩:=h;have he:(s.take n).drop b=[]:=aqi (by rw[ao2];omega);refine⟨aoP _,by omega,by omega,λi hi hi2=>?_,λhl=>?_,λhl=>?_⟩
 .rcases apa i n with h|h
  .exact h4 i h hi2
  .rw[show i=n by omega];exact(ho (by omega)).1
 .have hn2:n<s.length:=by omega
  obtain⟨o1,o2⟩:=ho hn2;rw[← h5 hn,he,Fw.drop_cons s n 0 hn2,Lib.fieldsGo_sp _ _ (by rw[ZQ o1,o2];rfl),aqi (by rw[ao2];omega)]
 .rw[← h5 hn,he,aqi (by omega:s.length<=n)];simp[Lib.fieldsGo]
theorem aew{s:Bytes}{b:Nat}{out:LS}(h:splitAt s (s.length+1) b out):s.all kL=true/\out=wordsOf s:=by obtain⟨h1,h2,h3,h4,h5,h6⟩:=h;refine⟨adf λi hi=>h4 i (by omega) hi,?_⟩;unfold wordsOf;rw[← h6 rfl,map_unit]
def ZR(s:Bytes):Prop:=∀b∈s,48<=b.toNat/\b.toNat<=57
theorem He:∀(k:Nat)(s:Bytes),s.length=k->ZR s->0<=jl s/\jl s<(10:Int) ^ k
 |0,s,h,_=>by rw[apE.1 h];exact⟨apM _,by decide⟩
 |k+1,s,h,hd=>by
  have hne:s≠[]:=λe=>by rw[e]at h;cases h
  have e:s=s.take k++[s[k]'(by omega)]:=by
   conv=>lhs;rw[← aqk k s,ap6 (by omega:k<s.length),aqi (by omega:s.length<=k+1)]
  have hd1:ZR (s.take k):=λb hb=>hd b (aqp hb);obtain⟨i1,i2⟩:=He k (s.take k) (by rw[ao2];omega) hd1;have hb:=hd _ (ap2 (by omega:k<s.length));rw[e,Au,Int.pow_succ];omega
theorem aev{s:Bytes}{n:Nat}(hn:n<s.length):jl (s.take (n+1))=10*jl (s.take n)+(((s.getD n 0).toNat:Int)-48):=by rw[List.take_add_one,aoQ hn,aoN,aoQ hn];exact Au _ _
theorem ac8{s:Bytes}{n:Nat}(hn:n<s.length)(hl:s.length<=10)(hd:∀i,i<n->48<=(s.getD i 0).toNat/\(s.getD i 0).toNat<=57):0<=jl (s.take n)/\jl (s.take n)<1000000000:=by
 have hd:ZR (s.take n):=by
  intro b hb;obtain⟨i,hi,rfl⟩:=aqr.1 hb;have hi2:i<n:=by rw[ao2]at hi;omega
  have:=hd i hi2;rw[aoN,aoQ (by omega)]at this;simpa using this
 obtain⟨h1,h2⟩:=He n (s.take n) (by rw[ao2];omega) hd;refine⟨h1,Int.lt_of_lt_of_le h2 ?_⟩;have:n<=9:=by omega
 match n,this with
 |0,_|1,_|2,_|3,_|4,_|5,_|6,_|7,_|8,_|9,_=>decide
theorem I9{s:Bytes}{i:Nat}(hi:i<s.length)(h:¬(48<=(s.getD i 0).toNat/\(s.getD i 0).toNat<=57)):aU s=false:=by
 cases hp:aU s with
 |false=>rfl
 |true=>refine(h (LQ hp _ ?_)).elim;rw[aoN,aoQ hi];exact ap2 hi
theorem G9{s:Bytes}(h:aU s=false):((0:Int),false,())=(parseNum s,aU s,()):=by rw[xC h,h]
theorem yQ{w:LS}{i:Int}(h:i<(w.length:Int)):wordAt w i=(w.getD i.toNat ([],())).1:=by unfold wordAt;rw[ao1 (by omega)];rfl
theorem Bq{w:LS}{i:Int}(h:i>=(w.length:Int)):wordAt w i=[]:=by unfold wordAt;rw[aoZ h];rfl
theorem xI{b:Bool}{x y:Bytes}(h1:b=true->x.length<=60)(h2:y.length<=60):(bif b then x else y).length<=60:=by
 cases b with
 |true=>exact h1 rfl
 |false=>exact h2
theorem oh{n:Bytes}(h:aS n=true):n.length<=6:=by unfold aS at h;rw[aoJ,aoS]at h;omega
theorem abu(k u:Int)(nc:Nat)(n:Bytes)(a:Int):(Oe k u nc n a).length<=60:=by
 have z:([]:Bytes).length<=60:=by decide
 have hi:∀m:Int,dO m=true->(Lib.itoa m).length<=10:=λm h=>(fU h).2.2.2.2;unfold Oe;refine xI (λ_=>z) (xI (λ_=>z) (xI (λh=>?_) (xI (λh=>?_) (xI (λh=>?_) (xI (λh=>?_) (xI (λh=>?_) (xI (λh=>?_) (xI (λh=>?_) (xI (λh=>?_) z)))))))))
 all_goals simp only[aoJ]at h
 all_goals simp only[aoK,aoO,ao5]
 .have:=hi u h.2.1;omega
 .have:=hi u h.2.1;have:=hi a h.2.2.1;omega
 .have:=hi u h.2.1;have:=oh h.2.2.1;omega
 .have:=hi a h.2.2.1;omega
 .have:=hi a h.2.2.1;omega
 .omega
 .have:=hi u h.2.1;have:=hi a h.2.2.1;have:=oh h.2.2.2;omega
 .have:=hi u h.2.1;have:=hi a h.2.2.1;have:=oh h.2.2.2;omega
theorem D9:∀(l cur:Bytes)(x:Bytes),x∈Lib.fieldsGo cur l->x.length<=cur.length+l.length
 |[],cur,x,h=>by
  rw[Lib.fieldsGo]at h;split at h
  .cases h
  .simp at h;subst h;simp
 |b::l,cur,x,h=>by
  rw[Lib.fieldsGo]at h;split at h
  .split at h
   .have:=D9 l [] x h;simp at this ⊢;omega
   .rcases aoU.1 h with rfl|h
    .simp
    .have:=D9 l [] x h;simp at this ⊢;omega
  .have:=D9 l (cur++[b]) x h;simp at this ⊢;omega
theorem adr{s:Bytes}:∀x∈wordsOf s,x.1.length<=s.length:=by intro x hx;obtain⟨y,hy,rfl⟩:=apU.1 hx;have:=D9 s [] y hy;simpa using this
theorem Sr{w:LS}{m:Nat}(h:∀x∈w,x.1.length<=m)(i:Int):(wordAt w i).length<=m:=by
 unfold wordAt;cases decide (i>=(w.length:Int))with
 |true=>exact apb _
 |false=>
  show(w.getD i.toNat ([],())).1.length<=m;rw[aoN];cases hg:w[i.toNat]? with
  |none=>exact apb _
  |some x=>exact h x (apu hg)
theorem abv{w:LS}{m:Nat}(h:∀x∈w,x.1.length<=m):(abL w).2.2.1.length<=m:=by
 rw[ajn];cases wordAt w 0==adJ with
 |true=>exact apb _
 |false=>
 cases wordAt w 0==afe with
 |true=>exact apb _
 |false=>
 cases wordAt w 0==aff with
 |true=>exact Sr h 2
 |false=>
 cases wordAt w 0==aj0 with
 |true=>exact apb _
 |false=>
 cases wordAt w 0==afg with
 |true=>exact apb _
 |false=>
 cases wordAt w 0==aaO with
 |true=>exact apb _
 |false=>
 cases wordAt w 0==aj1 with
 |true=>exact Sr h 2
 |false=>
 cases wordAt w 0==adK with
 |true=>exact Sr h 2
 |false=>exact apb _
theorem Ve{m:Nat}:∀r:List Bytes,(∀x∈r,x.length<=m)->(Lib.joinTail [32] r).length<=r.length*(m+1)
 |[],_=>apb _
 |x::r,h=>by
  have e:Lib.joinTail [32] (x::r)=[32]++(x++Lib.joinTail [32] r):=by simp[Lib.joinTail]
  have h1:=h x aoT;have h2:=Ve r λy hy=>h y (aoR _ hy);have h3:(x::r).length*(m+1)=r.length*(m+1)+(m+1):=by rw[aoO,apq,arj]
  rw[e,aoK,aoK,h3];show 1+_<=_;omega
theorem adz{m:Nat}{w:LS}(h:∀x∈w,x.1.length<=m):(kT w).length<=w.length*(m+1):=by
 cases w with
 |nil=>exact apb _
 |cons x r=>
  unfold kT;rw[ao3,Lib.join_cons,aoK];have h1:=h x aoT;have h2:=Ve (m:=m) (r.map (·.1)) λy hy=>by obtain⟨z,hz,rfl⟩:=apU.1 hy;exact h z (aoR _ hz)
  rw[ao0]at h2;rw[aoO,apq,arj];omega
theorem aex{s:Bytes}(h:l9 s=true):ni s=wordsOf s/\(wordsOf s).length<=1000/\(kT (wordsOf s)).length<=2097152/\(abL (wordsOf s)).2.2.1.length<=1048576/\(akL (abL (wordsOf s))).length<=1048576:=by
 obtain⟨h1,_,h3⟩:=ug.1 h;have hw:∀x∈wordsOf s,x.1.length<=600:=λx hx=>aoW (adr x hx) h1;have hl:(wordsOf s).length<=24:=by rw[vM];exact h3
 refine⟨by unfold ni;rw[h];rfl,by omega,?_,aoW (abv hw) (by omega),aoW (abu _ _ _ _ _) (by omega)⟩;have:=adz hw;have h24:(wordsOf s).length*(600+1)<=24*(600+1):=ao8 _ hl;omega
end Sp
namespace Sp
open Go
inductive QT where
 |leaf (n:ax)
 |neg (t:QT)
 |two (op:Int) (a b:QT)
def fH(op:Int):Bytes:=
 bif op==1 then[97,108,108]else bif op==2 then[104,97,115]else bif op==3 then[101,113]else bif op==4 then[108,116]else
 bif op==5 then[110,111,116]else bif op==6 then[97,110,100]else bif op==7 then[111,114]else bif op==8 then[105,110]else
 bif op==9 then[108,105,110,107,101,100]else[63]
def dQ(w:Bytes):Int:=
 bif w==[97,108,108]then 1 else bif w==[104,97,115]then 2 else bif w==[101,113]then 3 else bif w==[108,116]then 4 else
 bif w==[110,111,116]then 5 else bif w==[97,110,100]then 6 else bif w==[111,114]then 7 else bif w==[105,110]then 8 else
 bif w==[108,105,110,107,101,100]then 9 else 0
def bU(s:Bytes):Ac×Bool:=
 bif aU s then(bif decide (parseNum s<=999)then((1,parseNum s,[],()),true)else((0,0,[],()),false))
 else bif s==[45]then((0,0,[],()),true)else bif aS s then((2,0,s,()),true)else((0,0,[],()),false)
def bF(v:Ac):Bytes:=
 bif !bn v.1 v.2.1 v.2.2.1 then[63]else bif v.1==1 then Lib.itoa v.2.1 else bif v.1==2 then v.2.2.1 else[45]
def QT.size:QT->Nat
 |.leaf _=>1
 |.neg t=>t.size+1
 |.two _ a b=>a.size+b.size+1
def post:QT->Nat->List ax
 |.leaf n,_=>[n]
 |.neg t,b=>post t b++[(5,((b+t.size:Nat):Int)-1,0,[],0,0,[],())]
 |.two op x y,b=>post x b++(post y (b+x.size)++[(op,((b+x.size:Nat):Int)-1,((b+x.size+y.size:Nat):Int)-1,[],0,0,[],())])
def jK(n:ax):List Bytes:=
 fH n.1::(bif n.1==2||(n.1==8||n.1==9)then[n.2.2.2.1]else bif n.1==3||n.1==4 then[n.2.2.2.1,bF n.2.2.2.2]else[])
def aK:QT->List Bytes
 |.leaf n=>jK n
 |.neg t=>fH 5::aK t
 |.two op a b=>fH op::(aK a++aK b)
def ls(w:List Bytes):LS:=w.map (·,())
def xg:QT->Prop
 |.leaf n=>n.1=1\/n.1=2\/n.1=3\/n.1=4\/n.1=8\/n.1=9
 |.neg t=>xg t
 |.two op a b=>(op=6\/op=7)/\xg a/\xg b
def Ad:QT->Prop
 |.leaf n=>dM n 0=true
 |.neg t=>Ad t
 |.two _ a b=>Ad a/\Ad b
theorem eH:∀(t:QT)(b:Nat),(post t b).length=t.size
 |.leaf _,_=>rfl
 |.neg t,b=>by rw[post,aoK,eH t b];rfl
 |.two op x y,b=>by rw[post,aoK,aoK,eH x b,eH y];rw[QT.size,aoO,ao5];omega
theorem size_pos:∀t:QT,0<t.size
 |.leaf _=>Nat.one_pos
 |.neg _=>ap5 _
 |.two _ _ _=>ap5 _
theorem zl(w:Bytes):dQ w=0\/((dQ w=1\/dQ w=2\/dQ w=3\/dQ w=4\/dQ w=5\/dQ w=6\/dQ w=7\/dQ w=8\/dQ w=9)/\fH (dQ w)=w):=by
 unfold dQ;cases h1:w==[97,108,108]with
 |true=>right;rw[apf.1 h1];decide
 |false=>
 cases h2:w==[104,97,115]with
 |true=>right;rw[apf.1 h2];decide
 |false=>
 cases h3:w==[101,113]with
 |true=>right;rw[apf.1 h3];decide
 |false=>
 cases h4:w==[108,116]with
 |true=>right;rw[apf.1 h4];decide
 |false=>
 cases h5:w==[110,111,116]with
 |true=>right;rw[apf.1 h5];decide
 |false=>
 cases h6:w==[97,110,100]with
 |true=>right;rw[apf.1 h6];decide
 |false=>
 cases h7:w==[111,114]with
 |true=>right;rw[apf.1 h7];decide
 |false=>
 cases h8:w==[105,110]with
 |true=>right;rw[apf.1 h8];decide
 |false=>
 cases h9:w==[108,105,110,107,101,100]with
 |true=>right;rw[apf.1 h9];decide
 |false=>left;rfl
theorem vV{op:Int}(h:op=1\/op=2\/op=3\/op=4\/op=5\/op=6\/op=7\/op=8\/op=9):dQ (fH op)=op:=by rcases h with rfl|rfl|rfl|rfl|rfl|rfl|rfl|rfl|rfl<;>decide
theorem ajo:dQ []=0:=by decide
def rd:Nat->LS->List ax->Bool×LS×List ax
 |0,w,q=>(false,w,q)
 |k+1,w,q=>
  bif dQ (wordAt w 0)==2||(dQ (wordAt w 0)==8||dQ (wordAt w 0)==9)then(true,(w.drop 1).drop 1,q++[(dQ (wordAt w 0),0,0,wordAt (w.drop 1) 0,0,0,[],())])
  else bif dQ (wordAt w 0)==3||dQ (wordAt w 0)==4 then
   ((bU (wordAt ((w.drop 1).drop 1) 0)).2,((w.drop 1).drop 1).drop 1,q++[(dQ (wordAt w 0),0,0,wordAt (w.drop 1) 0,(bU (wordAt ((w.drop 1).drop 1) 0)).1)])
  else bif dQ (wordAt w 0)==5 then
   ((rd k (w.drop 1) q).1,(rd k (w.drop 1) q).2.1,(rd k (w.drop 1) q).2.2++[(5,((rd k (w.drop 1) q).2.2.length:Int)-1,0,[],0,0,[],())])
  else bif dQ (wordAt w 0)==6||dQ (wordAt w 0)==7 then
   (bif (rd k (w.drop 1) q).1 then
     ((rd k (rd k (w.drop 1) q).2.1 (rd k (w.drop 1) q).2.2).1,(rd k (rd k (w.drop 1) q).2.1 (rd k (w.drop 1) q).2.2).2.1,
       (rd k (rd k (w.drop 1) q).2.1 (rd k (w.drop 1) q).2.2).2.2++[(dQ (wordAt w 0),((rd k (w.drop 1) q).2.2.length:Int)-1,((rd k (rd k (w.drop 1) q).2.1 (rd k (w.drop 1) q).2.2).2.2.length:Int)-1,[],0,0,[],())])
   else(false,(rd k (w.drop 1) q).2.1,(rd k (w.drop 1) q).2.2++[(dQ (wordAt w 0),((rd k (w.drop 1) q).2.2.length:Int)-1,((rd k (w.drop 1) q).2.2.length:Int)-1,[],0,0,[],())]))
  else(!(dQ (wordAt w 0)==0),w.drop 1,q++[(dQ (wordAt w 0),0,0,[],0,0,[],())])
theorem FZ(i:Int)(h:0<=i):wordAt [] i=[]:=Bq (by simpa using h)
theorem dR(x:Bytes×Unit)(w:LS):wordAt (x::w) 0=x.1:=by rw[yQ (by simp)];rfl
theorem ZG{w:LS}(h:dQ (wordAt w 0)≠0):∃r,w=(fH (dQ (wordAt w 0)),())::r/\w.drop 1=r:=by
 cases w with
 |nil=>exact(h (by rw[FZ 0 (apM _)];exact ajo)).elim
 |cons x r=>
  obtain⟨x,⟨⟩⟩:=x;rcases zl (wordAt ((x,())::r) 0)with e|⟨_,e⟩
  .exact(h e).elim
  .refine⟨r,?_,rfl⟩;rw[e,dR]
theorem Hq:∀(k:Nat)(w:LS)(q:List ax),(rd k w q).2.1.length<=w.length
 |0,w,q=>aoP _
 |k+1,w,q=>by
  have h1:=Hq k (w.drop 1) q;have h2:=Hq k (rd k (w.drop 1) q).2.1 (rd k (w.drop 1) q).2.2;have h3:(w.drop 1).length<=w.length:=by rw[apj];omega
  rw[rd];cases dQ (wordAt w 0)==2||(dQ (wordAt w 0)==8||dQ (wordAt w 0)==9)with
  |true=>show((w.drop 1).drop 1).length<=_;rw[apj];omega
  |false=>
  cases dQ (wordAt w 0)==3||dQ (wordAt w 0)==4 with
  |true=>show(((w.drop 1).drop 1).drop 1).length<=_;rw[apj,apj];omega
  |false=>
  cases dQ (wordAt w 0)==5 with
  |true=>exact aoW h1 h3
  |false=>
  cases dQ (wordAt w 0)==6||dQ (wordAt w 0)==7 with
  |true=>
   show(bif (rd k (w.drop 1) q).1 then _ else _:Bool×LS×List ax).2.1.length<=_;cases (rd k (w.drop 1) q).1 with
   |true=>exact aoW h2 (aoW h1 h3)
   |false=>exact aoW h1 h3
  |false=>exact h3
end Sp
namespace Sp
open Go
theorem amC{n:Int}{s:Bytes}(h:bn 1 n s=true):0<=n/\n<=999/\s=[]:=by unfold bn at h;simp at h;exact⟨h.1.1,h.1.2,h.2⟩
theorem amD{n:Int}{s:Bytes}(h:bn 2 n s=true):aS s=true/\n=0:=by unfold bn at h;simp at h;exact h
theorem agF{v:Ac}(h:bn v.1 v.2.1 v.2.2.1=true)(h0:v.1≠0):(∃n,v=(1,n,[],())/\0<=n/\n<=999)\/∃s,v=(2,0,s,())/\aS s=true:=by
 obtain⟨k,n,s,⟨⟩⟩:=v;by_cases h1:k=1
 .subst h1;obtain⟨a,b,c⟩:=amC h;have c:s=[]:=c;subst c;exact .inl ⟨n,rfl,a,b⟩
 by_cases h2:k=2
 .subst h2;obtain⟨a,b⟩:=amD h;have b:n=0:=b;subst b;exact .inr ⟨s,rfl,a⟩
 .unfold bn at h;dsimp only at h h0;rw[ao1 h0,ao1 h1,ao1 h2]at h;cases h
theorem agG{s:Bytes}(h:aS s=true):∃b r,s=b::r/\97<=b.toNat:=by
 unfold aS at h;rw[aoJ,aoJ,aoS]at h;cases s with
 |nil=>exact absurd h.1.2 (by decide)
 |cons b r=>refine⟨b,r,rfl,?_⟩;have h1:=h.1.1;unfold lower at h1;rw[apS,aoJ,aoJ,aoS]at h1;exact h1.1.1
theorem abw{s:Bytes}(h:aS s=true):aU s=false/\(s==[45])=false:=by
 obtain⟨b,r,rfl,hb⟩:=agG h;refine⟨?_,?_⟩
 .cases hp:aU (b::r)with
  |false=>rfl
  |true=>have:=LQ hp b aoT;omega
 .rw[aoL];intro e;have:b=45:=(List.cons.inj e).1;rw[this]at hb;exact absurd hb (by decide)
theorem aeF:aU []=false:=by
 cases h:aU []with
 |false=>rfl
 |true=>obtain⟨a,b⟩:=jv h;exact((YD b).1 a).elim
theorem JY{v:Ac}(h:bn v.1 v.2.1 v.2.2.1=true)(h0:v.1≠0):bU (bF v)=(v,true):=by
 unfold bF;rw[h];rcases agF h h0 with⟨n,rfl,a,b⟩|⟨s,rfl,a⟩
 .show bU (Lib.itoa n)=_;have hu:dO n=true:=by unfold dO;rw[aoZ a,aoZ (show n<=1000000000 by omega)];rfl
  obtain⟨q1,q2⟩:=nJ hu;unfold bU;rw[q1,q2,aoZ b];rfl
 .show bU s=_;obtain⟨q1,q2⟩:=abw a;unfold bU;rw[q1,q2,a];rfl
theorem aeG{s:Bytes}(h:bn (bU s).1.1 (bU s).1.2.1 (bU s).1.2.2.1=true)(h0:(bU s).1.1≠0):(bU s).2=true/\bF (bU s).1=s:=by
 unfold bF;rw[h];revert h0;unfold bU;cases h1:aU s with
 |true=>
  cases h2:decide (parseNum s<=999)with
  |true=>exactλ_=>⟨rfl,(jv h1).1⟩
  |false=>exactλh0=>(h0 rfl).elim
 |false=>
  cases h2:s==[45]with
  |true=>exactλh0=>(h0 rfl).elim
  |false=>
   cases h3:aS s with
   |true=>exactλ_=>⟨rfl,rfl⟩
   |false=>exactλh0=>(h0 rfl).elim
theorem ZT{s:Bytes}(h:bZ s=true):s≠[]:=by rintro rfl;exact absurd h (by decide)
theorem adL{s:Bytes}(h:aS s=true):s≠[]:=by rintro rfl;exact absurd h (by decide)
theorem zo{n:ax}{a:Int}(h:dM n a=true)(hw:n.1=1\/n.1=2\/n.1=3\/n.1=4\/n.1=8\/n.1=9):
 n=(1,0,0,[],0,0,[],())\/(∃op s,n=(op,0,0,s,0,0,[],())/\(op=2\/op=8\/op=9)/\s≠[])\/
 ∃op s v,n=(op,0,0,s,v)/\(op=3\/op=4)/\s≠[]/\bn v.1 v.2.1 v.2.2.1=true/\v.1≠0:=by
 obtain⟨op,l,r,s,k,m,t,⟨⟩⟩:=n;dsimp only at hw;rcases hw with rfl|rfl|rfl|rfl|rfl|rfl
 .left;have h:((l==0&&r==0)&&(s==[]&&(k==0&&(m==0&&t==[]))))=true:=h;simp only[aoJ,apf]at h;rw[h.1.1,h.1.2,h.2.1,h.2.2.1,h.2.2.2.1,h.2.2.2.2]
 .right;left;have h:((l==0&&r==0)&&(k==0&&(m==0&&t==[]))&&bZ s)=true:=h;simp only[aoJ,apf]at h;refine⟨2,s,?_,.inl rfl,ZT h.2⟩;rw[h.1.1.1,h.1.1.2,h.1.2.1,h.1.2.2.1,h.1.2.2.2]
 .right;right;have h:((l==0&&r==0)&&bZ s&&bn k m t&&!(k==0))=true:=h;simp only[aoJ,apf,aqv,aoL]at h;refine⟨3,s,(k,m,t,()),?_,.inl rfl,ZT h.1.1.2,h.1.2,h.2⟩;rw[h.1.1.1.1,h.1.1.1.2]
 .right;right;have h:((l==0&&r==0)&&bZ s&&bn k m t&&k==1)=true:=h;simp only[aoJ,apf]at h;refine⟨4,s,(k,m,t,()),?_,.inr rfl,ZT h.1.1.2,h.1.2,by dsimp only;omega⟩;rw[h.1.1.1.1,h.1.1.1.2]
 .right;left;have h:((l==0&&r==0)&&(k==0&&(m==0&&t==[]))&&aS s)=true:=h;simp only[aoJ,apf]at h;refine⟨8,s,?_,.inr (.inl rfl),adL h.2⟩;rw[h.1.1.1,h.1.1.2,h.1.2.1,h.1.2.2.1,h.1.2.2.2]
 .right;left;have h:((l==0&&r==0)&&(k==0&&(m==0&&t==[]))&&aS s)=true:=h;simp only[aoJ,apf]at h;refine⟨9,s,?_,.inr (.inr rfl),adL h.2⟩;rw[h.1.1.1,h.1.1.2,h.1.2.1,h.1.2.2.1,h.1.2.2.2]
theorem JZ{w:LS}(h:wordAt w 0≠[]):w=(wordAt w 0,())::w.drop 1:=by
 cases w with
 |nil=>exact(h (FZ 0 (apM _))).elim
 |cons x r=>obtain⟨x,⟨⟩⟩:=x;rw[dR];rfl
theorem TA:∀(k:Nat)(w:LS)(q:List ax),(rd k w q).1=true->∃t,xg t/\(rd k w q).2.2=q++post t q.length/\(Ad t->w=ls (aK t)++(rd k w q).2.1)
 |0,w,q,h=>by cases h
 |k+1,w,q,h=>by
  by_cases h0:dQ (wordAt w 0)=0
  .rw[rd,h0]at h;cases h
  obtain⟨r,e,e2⟩:=ZG h0;rcases zl (wordAt w 0)with c|⟨c,_⟩
  .exact(h0 c).elim
  rw[rd]at h ⊢;rw[e2]at h ⊢;generalize dQ (wordAt w 0)=op at h c e h0 ⊢;have agH:op=2\/op=8\/op=9->∃t,xg t/\q++[(op,0,0,wordAt r 0,0,0,[],())]=q++post t q.length/\(Ad t->w=ls (aK t)++r.drop 1):=λc=>by
   refine⟨.leaf (op,0,0,wordAt r 0,0,0,[],()),?_,rfl,λht=>?_⟩
   .show op=1\/op=2\/op=3\/op=4\/op=8\/op=9;omega
   .have ht:dM (op,0,0,wordAt r 0,0,0,[],()) 0=true:=ht;have hn:wordAt r 0≠[]:=by
     rcases zo ht (by dsimp only;omega)with x|⟨_,s,x,_,hs⟩|⟨op',s,v,x,hop,_⟩
     .have:=congrArg (·.1) x;dsimp only at this;omega
     .have:=congrArg (λn:ax=>n.2.2.2.1) x;dsimp only at this;rw[this];exact hs
     .have:=congrArg (·.1) x;dsimp only at this;omega
    rw[e,JZ hn];have hb:(op==2||(op==8||op==9))=true:=by rcases c with rfl|rfl|rfl<;>rfl
    show _=ls (fH op::(bif op==2||(op==8||op==9)then[wordAt ((wordAt r 0,())::r.drop 1) 0]else _))++_;rw[hb,dR];rfl
  have aj2:op=3\/op=4->∃t,xg t/\q++[(op,0,0,wordAt r 0,(bU (wordAt (r.drop 1) 0)).1)]=q++post t q.length/\(Ad t->w=ls (aK t)++(r.drop 1).drop 1):=λc=>by
   refine⟨.leaf (op,0,0,wordAt r 0,(bU (wordAt (r.drop 1) 0)).1),?_,rfl,λht=>?_⟩
   .show op=1\/op=2\/op=3\/op=4\/op=8\/op=9;omega
   .have ht:dM (op,0,0,wordAt r 0,(bU (wordAt (r.drop 1) 0)).1) 0=true:=ht;have hn:wordAt r 0≠[]/\(bU (wordAt (r.drop 1) 0)).2=true/\bF (bU (wordAt (r.drop 1) 0)).1=wordAt (r.drop 1) 0:=by
     rcases zo ht (by dsimp only;omega)with x|⟨op',s,x,hop,hs⟩|⟨op',s,v,x,hop,hs,hv,h1⟩
     .have:=congrArg (·.1) x;dsimp only at this;omega
     .have:=congrArg (·.1) x;dsimp only at this;omega
     .have x1:=congrArg (λn:ax=>n.2.2.2.1) x;have x2:=congrArg (λn:ax=>n.2.2.2.2) x;dsimp only at x1 x2;refine⟨by rw[x1];exact hs,aeG (by rw[x2];exact hv) (by rw[x2];exact h1)⟩
    have hw2:wordAt (r.drop 1) 0≠[]:=λe0=>by
     rw[e0]at hn;have:(bU []).2=false:=by unfold bU;rw[aeF];rfl
     rw[this]at hn;cases hn.2.1
    have hb:(op==2||(op==8||op==9))=false:=by rcases c with rfl|rfl<;>rfl
    have hb2:(op==3||op==4)=true:=by rcases c with rfl|rfl<;>rfl
    have e3:r=(wordAt r 0,())::(wordAt (r.drop 1) 0,())::(r.drop 1).drop 1:=by rw[← JZ hw2];exact JZ hn.1
    show _=ls (fH op::(bif op==2||(op==8||op==9)then _ else bif op==3||op==4 then[wordAt r 0,bF (bU (wordAt (r.drop 1) 0)).1]else _))++_;rw[hb,hb2,hn.2.2];exact e.trans (congrArg _ e3)
  have aly:(op=6\/op=7)->(rd k r q).1=true->(rd k (rd k r q).2.1 (rd k r q).2.2).1=true->∃t,xg t/\(rd k (rd k r q).2.1 (rd k r q).2.2).2.2++[(op,((rd k r q).2.2.length:Int)-1,((rd k (rd k r q).2.1 (rd k r q).2.2).2.2.length:Int)-1,[],0,0,[],())]=q++post t q.length/\(Ad t->w=ls (aK t)++(rd k (rd k r q).2.1 (rd k r q).2.2).2.1):=λc g1 g2=>by
   obtain⟨x,x1,x2,x3⟩:=TA k r q g1;obtain⟨y,y1,y2,y3⟩:=TA k _ _ g2;have lx:(rd k r q).2.2.length=q.length+x.size:=by rw[x2,aoK,eH]
   have ly:(rd k (rd k r q).2.1 (rd k r q).2.2).2.2.length=q.length+x.size+y.size:=by rw[y2,aoK,eH,lx]
   refine⟨.two op x y,⟨c,x1,y1⟩,?_,λht=>?_⟩
   .rw[ly,lx,y2,lx,x2];show _=q++(post x q.length++(post y (q.length+x.size)++[_]));rw[aoX,aoX]
   .obtain⟨t1,t2⟩:Ad x/\Ad y:=ht;rw[e];show _=ls (fH op::(aK x++aK y))++_;unfold ls;rw[ao3,apG,apQ,aoX];exact congrArg _ ((x3 t1).trans (congrArg _ (y3 t2)))
  rcases c with rfl|rfl|rfl|rfl|rfl|rfl|rfl|rfl|rfl
  .refine⟨.leaf (1,0,0,[],0,0,[],()),.inl rfl,rfl,λ_=>?_⟩;rw[e];rfl
  .exact agH (.inl rfl)
  .exact aj2 (.inl rfl)
  .exact aj2 (.inr rfl)
  .have h:(rd k r q).1=true:=h;obtain⟨x,x1,x2,x3⟩:=TA k r q h;have lx:(rd k r q).2.2.length=q.length+x.size:=by rw[x2,aoK,eH]
   refine⟨.neg x,x1,?_,λht=>?_⟩
   .show(rd k r q).2.2++[(5,((rd k r q).2.2.length:Int)-1,0,[],0,0,[],())]=q++(post x q.length++[_]);rw[lx,x2,aoX]
   .rw[e];show _=ls (fH 5::aK x)++(rd k r q).2.1;exact congrArg _ (x3 ht)
  .have h:(bif (rd k r q).1 then _ else _:Bool×LS×List ax).1=true:=h;cases g:(rd k r q).1 with
   |false=>rw[g]at h;cases h
   |true=>rw[g]at h;exact aly (.inl rfl) g h
  .have h:(bif (rd k r q).1 then _ else _:Bool×LS×List ax).1=true:=h;cases g:(rd k r q).1 with
   |false=>rw[g]at h;cases h
   |true=>rw[g]at h;exact aly (.inr rfl) g h
  .exact agH (.inr (.inl rfl))
  .exact agH (.inr (.inr rfl))
end Sp
namespace Sp
open Go
theorem alz(k:Nat)(r:LS)(q:List ax):rd (k+1) ((fH 1,())::r) q=(true,r,q++[(1,0,0,[],0,0,[],())]):=by rw[rd,dR,vV (.inl rfl)];rfl
theorem akM{op:Int}(c:op=2\/op=8\/op=9)(k:Nat)(r:LS)(q:List ax):rd (k+1) ((fH op,())::r) q=(true,r.drop 1,q++[(op,0,0,wordAt r 0,0,0,[],())]):=by rw[rd,dR,vV (by omega)];rcases c with rfl|rfl|rfl<;>rfl
theorem rd_val{op:Int}(c:op=3\/op=4)(k:Nat)(r:LS)(q:List ax):rd (k+1) ((fH op,())::r) q=((bU (wordAt (r.drop 1) 0)).2,(r.drop 1).drop 1,q++[(op,0,0,wordAt r 0,(bU (wordAt (r.drop 1) 0)).1)]):=by rw[rd,dR,vV (by omega)];rcases c with rfl|rfl<;>rfl
theorem rd_not(k:Nat)(r:LS)(q:List ax):rd (k+1) ((fH 5,())::r) q=((rd k r q).1,(rd k r q).2.1,(rd k r q).2.2++[(5,((rd k r q).2.2.length:Int)-1,0,[],0,0,[],())]):=by rw[rd,dR,vV (.inr (.inr (.inr (.inr (.inl rfl)))))];rfl
theorem alA{op:Int}(c:op=6\/op=7)(k:Nat)(r:LS)(q:List ax)(h:(rd k r q).1=true):rd (k+1) ((fH op,())::r) q=
 ((rd k (rd k r q).2.1 (rd k r q).2.2).1,(rd k (rd k r q).2.1 (rd k r q).2.2).2.1,(rd k (rd k r q).2.1 (rd k r q).2.2).2.2++[(op,((rd k r q).2.2.length:Int)-1,((rd k (rd k r q).2.1 (rd k r q).2.2).2.2.length:Int)-1,[],0,0,[],())]):=by
 rw[rd,dR,vV (by omega)];rcases c with rfl|rfl
 .show(bif (rd k r q).1 then _ else _:Bool×LS×List ax)=_;rw[h];rfl
 .show(bif (rd k r q).1 then _ else _:Bool×LS×List ax)=_;rw[h];rfl
theorem aic(x:Bytes)(a b:List Bytes)(r:LS):ls (x::(a++b))++r=(x,())::(ls a++(ls b++r)):=by unfold ls;rw[ao3,apG,apQ,aoX]
theorem F5{op:Int}{s:Bytes}(c:op=2\/op=8\/op=9):jK (op,0,0,s,0,0,[],())=[fH op,s]:=by rcases c with rfl|rfl|rfl<;>rfl
theorem Ji{op:Int}{s:Bytes}{v:Ac}(c:op=3\/op=4):jK (op,0,0,s,v)=[fH op,s,bF v]:=by rcases c with rfl|rfl<;>rfl
theorem Hz:∀(t:QT)(k:Nat)(rest:LS)(q:List ax),xg t->Ad t->(ls (aK t)++rest).length<k->rd k (ls (aK t)++rest) q=(true,rest,q++post t q.length)
 |_,0,_,_,_,_,h=>absurd h (apP _)
 |.leaf n,k+1,rest,q,hw,ho,_=>by
  have hw:n.1=1\/n.1=2\/n.1=3\/n.1=4\/n.1=8\/n.1=9:=hw;rcases zo ho hw with rfl|⟨op,s,rfl,c,hs⟩|⟨op,s,v,rfl,c,hs,hv,h0⟩
  .exact alz k rest q
  .show rd (k+1) (ls (jK _)++rest) q=_;rw[F5 c];show rd (k+1) ((fH op,())::(s,())::rest) q=_;rw[akM c,dR];rfl
  .show rd (k+1) (ls (jK _)++rest) q=_;rw[Ji c];show rd (k+1) ((fH op,())::(s,())::(bF v,())::rest) q=_;rw[rd_val c,dR];show((bU (wordAt ((bF v,())::rest) 0)).2,rest,q++[(op,0,0,s,(bU (wordAt ((bF v,())::rest) 0)).1)])=_;rw[dR,JY hv h0];rfl
 |.neg t,k+1,rest,q,hw,ho,h=>by
  have h:((fH 5,())::(ls (aK t)++rest)).length<k+1:=h;rw[aoO]at h;show rd (k+1) ((fH 5,())::(ls (aK t)++rest)) q=_;rw[rd_not,Hz t k rest q hw ho (by omega)];show(true,rest,(q++post t q.length)++[(5,((q++post t q.length).length:Int)-1,0,[],0,0,[],())])=(true,rest,q++(post t q.length++[_]));rw[aoK,eH,aoX]
 |.two op x y,k+1,rest,q,⟨c,w1,w2⟩,⟨o1,o2⟩,h=>by show rd (k+1) (ls (fH op::(aK x++aK y))++rest) q=_;have h:(ls (fH op::(aK x++aK y))++rest).length<k+1:=h;rw[aic]at h ⊢;rw[aoO]at h;have e1:=Hz x k (ls (aK y)++rest) q w1 o1 (by omega);rw[aoK]at h;have e2:=Hz y k rest (q++post x q.length) w2 o2 (by omega);rw[alA c k _ q (by rw[e1]),e1,e2];show(true,rest,((q++post x q.length)++post y (q++post x q.length).length)++[(op,((q++post x q.length).length:Int)-1,(((q++post x q.length)++post y (q++post x q.length).length).length:Int)-1,[],0,0,[],())])=(true,rest,q++(post x q.length++(post y (q.length+x.size)++[_])));rw[aoK,aoK,eH,eH,aoK,eH,aoX,aoX]
def rs:Nat->LS->List ax->List ax×Int
 |0,_,q=>(q,0)
 |d+1,w,q=>
  bif dQ (wordAt w 0)==0||decide ((q.length:Int)>9)then(q,0)
  else bif dQ (wordAt w 0)==2||(dQ (wordAt w 0)==8||dQ (wordAt w 0)==9)then(q++[(dQ (wordAt w 0),0,0,wordAt w 1,0,0,[],())],2)
  else bif dQ (wordAt w 0)==3||dQ (wordAt w 0)==4 then(q++[(dQ (wordAt w 0),0,0,wordAt w 1,(bU (wordAt w 2)).1)],3)
  else bif dQ (wordAt w 0)==5||(dQ (wordAt w 0)==6||dQ (wordAt w 0)==7)then
   (bif (rs d (w.drop 1) q).2==0 then((rs d (w.drop 1) q).1,0)
   else bif dQ (wordAt w 0)==5 then((rs d (w.drop 1) q).1++[(5,((rs d (w.drop 1) q).1.length:Int)-1,0,[],0,0,[],())],1+(rs d (w.drop 1) q).2)
   else bif (rs d (w.drop (1+(rs d (w.drop 1) q).2).toNat) (rs d (w.drop 1) q).1).2==0 then((rs d (w.drop (1+(rs d (w.drop 1) q).2).toNat) (rs d (w.drop 1) q).1).1,0)
   else((rs d (w.drop (1+(rs d (w.drop 1) q).2).toNat) (rs d (w.drop 1) q).1).1++[(dQ (wordAt w 0),((rs d (w.drop 1) q).1.length:Int)-1,((rs d (w.drop (1+(rs d (w.drop 1) q).2).toNat) (rs d (w.drop 1) q).1).1.length:Int)-1,[],0,0,[],())],
    1+(rs d (w.drop 1) q).2+(rs d (w.drop (1+(rs d (w.drop 1) q).2).toNat) (rs d (w.drop 1) q).1).2))
  else(q++[(dQ (wordAt w 0),0,0,[],0,0,[],())],1)
theorem Ae(x:Bytes×Unit)(r:LS)(i:Int)(h:0<=i):wordAt (x::r) (i+1)=wordAt r i:=by
 by_cases hi:i<(r.length:Int)
 .rw[yQ hi,yQ (by rw[aoO];omega),show(i+1).toNat=i.toNat+1 by omega];rfl
 .rw[Bq (show i>=(r.length:Int) by omega),Bq (by rw[aoO];omega)]
theorem agI(x:Bytes×Unit)(r:LS):wordAt (x::r) 2=wordAt (r.drop 1) 0:=by
 rw[show(2:Int)=1+1 from rfl,Ae x r 1 (by decide)];cases r with
 |nil=>rw[FZ 1 (by decide)];exact(FZ 0 (by decide)).symm
 |cons y r=>rw[show(1:Int)=0+1 from rfl,Ae y r 0 (by decide)];rfl
theorem Ou(x:Bytes×Unit)(r:LS):wordAt (x::r) 1=wordAt r 0:=Ae x r 0 (by decide)
theorem Ov:∀(t:QT)(d:Nat)(rest:LS)(q:List ax),xg t->Ad t->t.size<=d->q.length+t.size<=10->rs d (ls (aK t)++rest) q=(q++post t q.length,((aK t).length:Int))
 |t,0,_,_,_,_,h,_=>absurd (size_pos t) (by omega)
 |.leaf n,d+1,rest,q,hw,ho,_,hq=>by
  have hq1:q.length+1<=10:=hq;have hq2:decide ((q.length:Int)>9)=false:=ao1 (by omega);have hw:n.1=1\/n.1=2\/n.1=3\/n.1=4\/n.1=8\/n.1=9:=hw;rcases zo ho hw with rfl|⟨op,s,rfl,c,hs⟩|⟨op,s,v,rfl,c,hs,hv,h0⟩
  .show rs (d+1) ((fH 1,())::rest) q=_;rw[rs,dR,vV (.inl rfl),hq2];rfl
  .show rs (d+1) (ls (jK _)++rest) q=(_,((jK _).length:Int));rw[F5 c];show rs (d+1) ((fH op,())::(s,())::rest) q=_;rw[rs,Ou,dR,dR,vV (by omega),hq2];rcases c with rfl|rfl|rfl<;>rfl
  .show rs (d+1) (ls (jK _)++rest) q=(_,((jK _).length:Int));rw[Ji c];show rs (d+1) ((fH op,())::(s,())::(bF v,())::rest) q=_;rw[rs,Ou,agI,dR,dR,vV (by omega),hq2];have e:wordAt (List.drop 1 ((s,())::(bF v,())::rest)) 0=bF v:=dR _ _;rw[e,JY hv h0];rcases c with rfl|rfl<;>rfl
 |.neg t,d+1,rest,q,hw,ho,hd,hq=>by
  have hd:t.size+1<=d+1:=hd;have hq:q.length+(t.size+1)<=10:=hq;have hq':decide ((q.length:Int)>9)=false:=ao1 (by omega);have e:=Ov t d rest q hw ho (by omega) (by omega);have hl:0<(aK t).length:=by
   cases t with
   |leaf n=>exact ap5 _
   |neg t=>exact ap5 _
   |two op a b=>exact ap5 _
  show rs (d+1) ((fH 5,())::(ls (aK t)++rest)) q=_;rw[rs,dR,vV (.inr (.inr (.inr (.inr (.inl rfl))))),hq'];show(bif (rs d (ls (aK t)++rest) q).2==0 then _ else(_,1+(rs d (ls (aK t)++rest) q).2):List ax×Int)=_;rw[show List.drop 1 ((fH 5,())::(ls (aK t)++rest))=ls (aK t)++rest from rfl,e];rw[show(((aK t).length:Int)==0)=false from aoL.2 (by omega)];show((q++post t q.length)++[(5,((q++post t q.length).length:Int)-1,0,[],0,0,[],())],1+((aK t).length:Int))=(q++(post t q.length++[_]),(((aK t).length+1:Nat):Int));rw[aoK,eH,aoX,show(1+((aK t).length:Int))=(((aK t).length+1:Nat):Int) by omega]
 |.two op x y,d+1,rest,q,⟨c,w1,w2⟩,⟨o1,o2⟩,hd,hq=>by
  have hd:x.size+y.size+1<=d+1:=hd;have hq:q.length+(x.size+y.size+1)<=10:=hq;have sx:=size_pos x;have sy:=size_pos y;have hq':decide ((q.length:Int)>9)=false:=ao1 (by omega);have wl:∀t:QT,0<(aK t).length:=λt=>by
   cases t with
   |leaf n=>exact ap5 _
   |neg t=>exact ap5 _
   |two op a b=>exact ap5 _
  have l1:=wl x;have l2:=wl y;have e1:=Ov x d (ls (aK y)++rest) q w1 o1 (by omega) (by omega);have e2:=Ov y d rest (q++post x q.length) w2 o2 (by omega) (by rw[aoK,eH];omega);show rs (d+1) (ls (fH op::(aK x++aK y))++rest) q=_;rw[aic,rs,dR,vV (by omega),hq'];rw[show List.drop 1 ((fH op,())::(ls (aK x)++(ls (aK y)++rest)))=ls (aK x)++(ls (aK y)++rest)from rfl,e1];have ed:List.drop (1+((aK x).length:Int)).toNat ((fH op,())::(ls (aK x)++(ls (aK y)++rest)))=ls (aK y)++rest:=by rw[show(1+((aK x).length:Int)).toNat=(aK x).length+1 by omega,List.drop_succ_cons];exact List.drop_left' (by unfold ls;rw[ao0])
  dsimp only;rw[ed,e2];rw[show(((aK x).length:Int)==0)=false from aoL.2 (by omega),show(((aK y).length:Int)==0)=false from aoL.2 (by omega)];have fin:((q++post x q.length)++post y (q++post x q.length).length++[(op,((q++post x q.length).length:Int)-1,((q++post x q.length++post y (q++post x q.length).length).length:Int)-1,[],0,0,[],())],1+((aK x).length:Int)+((aK y).length:Int))=(q++post (.two op x y) q.length,((aK (.two op x y)).length:Int)):=by show _=(q++(post x q.length++(post y (q.length+x.size)++[_])),((fH op::(aK x++aK y)).length:Int));rw[aoK,aoK,eH,eH,aoK,eH,aoX,aoX,aoO,aoK];rw[show(1+((aK x).length:Int)+((aK y).length:Int))=(((aK x).length+(aK y).length+1:Nat):Int) by omega]
  rcases c with rfl|rfl<;>exact fin
end Sp
namespace Sp
open Go
end Sp
namespace Sp
open Go
def bJ:Nat->List ax->Int->List Bytes
 |0,_,_=>[]
 |k+1,q,i=>
  bif (nodeAt q i.toNat).1==5 then fH (nodeAt q i.toNat).1::bJ k q (nodeAt q i.toNat).2.1
  else bif (nodeAt q i.toNat).1==6||(nodeAt q i.toNat).1==7 then fH (nodeAt q i.toNat).1::(bJ k q (nodeAt q i.toNat).2.1++bJ k q (nodeAt q i.toNat).2.2.1)
  else jK (nodeAt q i.toNat)
def textOf(q:List ax):Bytes:=bif ay q then Lib.join (bJ 9 q ((q.length:Int)-1)) [32]else[]
theorem zq(l r:List ax)(n:ax):nodeAt (l++(n::r)) l.length=n:=by unfold nodeAt;rw[aoN,apk (aoP _),aqV];rfl
theorem Jj:∀(t:QT)(k:Nat)(l r:List ax),xg t->t.size<=k->bJ k (l++(post t l.length++r)) (((l.length+t.size:Nat):Int)-1)=aK t
 |t,0,_,_,_,h=>absurd (size_pos t) (by omega)
 |.leaf n,k+1,l,r,hw,_=>by
  have hw:n.1=1\/n.1=2\/n.1=3\/n.1=4\/n.1=8\/n.1=9:=hw;show bJ (k+1) (l++(n::r)) (((l.length+1:Nat):Int)-1)=jK n;rw[bJ,show((((l.length+1:Nat):Int)-1).toNat)=l.length by omega,zq];rw[show(n.1==5)=false from aoL.2 (by omega),show(n.1==6)=false from aoL.2 (by omega),show(n.1==7)=false from aoL.2 (by omega)];rfl
 |.neg t,k+1,l,r,hw,hk=>by
  have hk:t.size+1<=k+1:=hk;have ih:=Jj t k l ((5,((l.length+t.size:Nat):Int)-1,0,[],0,0,[],())::r) hw (by omega);have e:l++(post (.neg t) l.length++r)=l++(post t l.length++(((5,((l.length+t.size:Nat):Int)-1,0,[],0,0,[],()):ax)::r)):=by show l++((post t l.length++[_])++r)=_;rw[aoX];rfl
  have en:nodeAt (l++(post (.neg t) l.length++r)) (l.length+t.size)=(5,((l.length+t.size:Nat):Int)-1,0,[],0,0,[],()):=by rw[e,← aoX,show l.length+t.size=(l++post t l.length).length by rw[aoK,eH]];exact zq _ _ _
  rw[bJ,show((((l.length+(QT.neg t).size:Nat):Int)-1).toNat)=l.length+t.size by show(((l.length+(t.size+1):Nat):Int)-1).toNat=_;omega,en,e];show fH 5::bJ k _ _=fH 5::aK t;rw[ih]
 |.two op x y,k+1,l,r,⟨c,w1,w2⟩,hk=>by
  have hk:x.size+y.size+1<=k+1:=hk;generalize hn:((op,((l.length+x.size:Nat):Int)-1,((l.length+x.size+y.size:Nat):Int)-1,[],0,0,[],()):ax)=N;have e:l++(post (.two op x y) l.length++r)=l++(post x l.length++(post y (l.length+x.size)++(N::r))):=by show l++((post x l.length++(post y (l.length+x.size)++[_]))++r)=_;rw[hn,aoX,aoX];rfl
  have i1:=Jj x k l (post y (l.length+x.size)++(N::r)) w1 (by omega);have i2:=Jj y k (l++post x l.length) (N::r) w2 (by omega);rw[aoK,eH,aoX]at i2;have en:nodeAt (l++(post (.two op x y) l.length++r)) (l.length+x.size+y.size)=N:=by rw[e,← aoX,← aoX,show l.length+x.size+y.size=((l++post x l.length)++post y (l.length+x.size)).length by rw[aoK,aoK,eH,eH]];exact zq _ _ _
  rw[bJ,show((((l.length+(QT.two op x y).size:Nat):Int)-1).toNat)=l.length+x.size+y.size by show(((l.length+(x.size+y.size+1):Nat):Int)-1).toNat=_;omega,en,e];subst hn;dsimp only;rw[i1,i2];rcases c with rfl|rfl<;>rfl
theorem Ea{n:ax}(a:Int)(hw:n.1=1\/n.1=2\/n.1=3\/n.1=4\/n.1=8\/n.1=9):dM n a=dM n 0:=by obtain⟨op,l,r,s,v⟩:=n;dsimp only at hw;rcases hw with rfl|rfl|rfl|rfl|rfl|rfl<;>rfl
theorem YE:∀(t:QT)(b:Nat),xg t->(∀n∈post t b,∃a,dM n a=true)->Ad t
 |.leaf n,_,hw,h=>by
  obtain⟨a,ha⟩:=h n aoT;show dM n 0=true;rw[← Ea a hw];exact ha
 |.neg t,b,hw,h=>YE t b hw λn hn=>h n (apx _ hn)
 |.two op x y,b,⟨_,w1,w2⟩,h=>⟨YE x b w1 λn hn=>h n (apx _ hn),YE y _ w2 λn hn=>h n (apT _ (apx _ hn))⟩
theorem LU{t:QT}(hw:xg t)(h:ay (post t 0)=true):Ad t/\t.size<=9:=by refine⟨YE t 0 hw λn hn=>?_,by have:=(fG h).2;rwa [eH]at this⟩;obtain⟨i,hi,e⟩:=ap0 hn;refine⟨i,?_⟩;have:=(jg h hi).1;unfold nodeAt at this;rw[aoN,aoQ hi,e]at this;exact this
theorem adM:∀t:QT,∃x r,aK t=x::r/\x≠[]
 |.leaf n=>⟨_,_,rfl,agJ _⟩
 |.neg t=>⟨_,_,rfl,agJ _⟩
 |.two op x y=>⟨_,_,rfl,agJ _⟩
where agJ (op:Int):fH op≠[]:=by unfold fH;cases op==1<;>cases op==2<;>cases op==3<;>cases op==4<;>cases op==5<;>cases op==6<;>cases op==7<;>cases op==8<;>cases op==9<;>intro h<;>cases h
theorem aid{t:QT}(hw:xg t)(h:ay (post t 0)=true):textOf (post t 0)=Lib.join (aK t) [32]/\textOf (post t 0)≠[]:=by
 obtain⟨_,hs⟩:=LU hw h;have e:textOf (post t 0)=Lib.join (aK t) [32]:=by unfold textOf;rw[h,eH];have:=Jj t 9 [] [] hw hs;rw[ape,apD,ao5,apg]at this;show Lib.join (bJ 9 (post t 0) ((t.size:Int)-1)) [32]=_;rw[this]
 refine⟨e,?_⟩;obtain⟨x,r,ew,hx⟩:=adM t;rw[e,ew,Lib.join_cons];intro h0;exact hx (apz.1 h0).1
def tu(w:LS):Bool×LS×List ax:=rd (w.length+1) w []
def iP(s:Bytes):Bool:=l9 s&&((tu (wordsOf s)).1&&(!decide (((tu (wordsOf s)).2.1.length:Int)>0)&&ay (tu (wordsOf s)).2.2))
def gY(s:Bytes):List ax:=bif iP s then(tu (wordsOf s)).2.2 else[]
theorem ahU(w:List Bytes):(ls w).map (·.1)=w:=by unfold ls;rw[ap4];exact List.map_id' w
theorem YF(s:Bytes):iP s=true↔l9 s=true/\∃t,xg t/\ay (post t 0)=true/\wordsOf s=ls (aK t):=by
 unfold iP;rw[aoJ,aoJ,aoJ,aqv,aps];refine aqs λ_=>⟨λ⟨h1,h2,h3⟩=>?_,λ⟨t,hw,hq,e⟩=>?_⟩
 .obtain⟨t,hw,e,h⟩:=TA _ _ _ h1;have e:(tu (wordsOf s)).2.2=post t 0:=e;rw[e]at h3;have hr:(tu (wordsOf s)).2.1=[]:=apE.1 (by omega);have h:Ad t->wordsOf s=ls (aK t)++(tu (wordsOf s)).2.1:=h;exact⟨t,hw,h3,by rw[h (LU hw h3).1,hr,ape]⟩
 .have e1:=Hz t ((wordsOf s).length+1) [] [] hw (LU hw hq).1 (by rw[ape,← e];exact aqM _);rw[ape,← e]at e1;have e1:tu (wordsOf s)=(true,[],post t 0):=e1;rw[e1];exact⟨rfl,(by show ¬((0:Nat):Int)>0;decide),hq⟩
theorem adN{s:Bytes}{t:QT}(hw:xg t)(hq:ay (post t 0)=true)(e:wordsOf s=ls (aK t)):tu (wordsOf s)=(true,[],post t 0):=by have e1:=Hz t ((wordsOf s).length+1) [] [] hw (LU hw hq).1 (by rw[ape,← e];exact aqM _);rw[ape,← e]at e1;exact e1
theorem amE{s:Bytes}{t:QT}(hw:xg t)(hq:ay (post t 0)=true)(e:wordsOf s=ls (aK t)):rs 10 (wordsOf s) []=(post t 0,((wordsOf s).length:Int)):=by obtain⟨ho,hs⟩:=LU hw hq;have e1:=Ov t 10 [] [] hw ho (by omega) (by rw[ao5];omega);rw[ape,← e]at e1;rw[e1,e];unfold ls;rw[ao0];rfl
theorem YG{s:Bytes}(h:iP s=true):(rs 10 (wordsOf s) []).1=(tu (wordsOf s)).2.2/\gY s=(tu (wordsOf s)).2.2/\ay (gY s)=true:=by
 obtain⟨_,t,hw,hq,e⟩:=(YF s).1 h;have e2:gY s=(tu (wordsOf s)).2.2:=by unfold gY;rw[h];rfl
 rw[amE hw hq e,e2,adN hw hq e];exact⟨rfl,rfl,hq⟩
end Sp
namespace Sp
open Go
def ajp:Bytes:=[99,114,101,97,116,101]
def ajq:Bytes:=[117,112,100,97,116,101]
def ajr:Bytes:=[100,101,108,101,116,101]
def ajs:Bytes:=[100,101,102,105,110,101]
def agK:Bytes:=[117,110,100,101,102,105,110,101]
def LV:Bytes->Bytes->LS
 |cur,[]=>[(cur,())]
 |cur,b::l=>bif b==10 then(cur,())::LV [] l else LV (cur++[b]) l
end Sp
namespace Sp
open Go
def fine(x:Bytes):Prop:=Ot x/\x.all kL=true
theorem EH{n:Int}(h:dO n=true):fine (Lib.itoa n):=by refine⟨YD h,?_⟩;rw[ao4];intro b hb;have:=(fU h).2.2.1 b hb;exact wR.2 (by omega)
theorem afh:∀r:List Bytes,(∀x∈r,x.all kL=true)->(Lib.joinTail [32] r).all kL=true
 |[],_=>rfl
 |x::r,h=>by
  have e:Lib.joinTail [32] (x::r)=[32]++(x++Lib.joinTail [32] r):=by simp[Lib.joinTail]
  rw[e,ara,ara,h x aoT,afh r λy hy=>h y (aoR _ hy)];decide
theorem afi:∀ws:List Bytes,(∀x∈ws,x.all kL=true)->(Lib.join ws [32]).all kL=true
 |[],_=>rfl
 |x::r,h=>by rw[Lib.join_cons,ara,h x aoT,afh r λy hy=>h y (aoR _ hy)];rfl
theorem YH{ws:List Bytes}(h:∀x∈ws,fine x)(hl:(Lib.join ws [32]).length<=600)(hc:ws.length<=24):l9 (Lib.join ws [32])=true/\wordsOf (Lib.join ws [32])=ws.map (·,()):=by have hs:∀x∈ws,Ot x:=λx hx=>(h x hx).1;refine⟨ug.2 ⟨hl,afi ws λx hx=>(h x hx).2,by rw[Vd ws hs];exact hc⟩,adI ws hs⟩
theorem WW{n:Int}(h:dO n=true):(Lib.itoa n).length<=10:=(fU h).2.2.2.2
end Sp
namespace Sp
open Go
theorem afj{l:List bf}{i:Nat}(hi:i<l.length):bQ l i∈l:=by unfold bQ;rw[aoN,aoQ hi];exact ap2 hi
theorem akN{l:List bf}{y:bf}(hy:y∈l):∃i,i<l.length/\bQ l i=y:=by obtain⟨i,hi,e⟩:=ap0 hy;exact⟨i,hi,by unfold bQ;rw[aoN,aoQ hi];exact e⟩
theorem F6{d:List bf}:lF d=true↔(∀x∈d,aS x.1=true/\ay x.2.1=true)/\(d.Pairwise λx y=>Op.bytesLess x.1 y.1=true)/\d.length<=5:=by
 have one:∀i,jC d i=true↔(aS (bQ d i).1=true/\ay (bQ d i).2.1=true)/\(0<i->Op.bytesLess (bQ d (i-1)).1 (bQ d i).1=true):=λi=>by
  unfold jC;rw[aoJ,aoJ];refine aqs λ_=>?_;by_cases h0:0<i
  .rw[aoZ h0];simp[h0]
  .rw[ao1 h0];simp[h0]
 unfold lF;rw[aoJ,show(iI d.length (jC d)=true)↔∀i,i<d.length->jC d i=true from by unfold iI;rw[ao4];exact⟨λh i hi=>h i (apw.2 hi),λh i hi=>h i (apw.1 hi)⟩,aoS];constructor
 .rintro⟨h,hl⟩;refine⟨λx hx=>?_,?_,by omega⟩
  .obtain⟨i,hi,rfl⟩:=akN hx;exact((one i).1 (h i hi)).1
  .exact WV (R:=λx y:bf=>Op.bytesLess x.1 y.1=true) (λa b c h1 h2=>Om _ _ _ h1 h2) ([],[],()) d λi hi=>((one (i+1)).1 (h (i+1) hi)).2 (by omega)
 .rintro⟨h1,h2,hl⟩;refine⟨λi hi=>(one i).2 ⟨h1 _ (afj hi),λh0=>?_⟩,by omega⟩;have e:∀k(hk:k<d.length),bQ d k=d[k]:=λk hk=>by unfold bQ;rw[aoN,aoQ hk];rfl
  rw[e i hi,e (i-1) (by omega)];exact aqE.1 h2 (i-1) i (by omega) hi (by omega)
def CZ(x:xH):aT:=(x.2.1,x.2.2.1,x.2.2.2.1,x.2.2.2.2.1,x.2.2.2.2.2.1,())
def ZU(x:xH):Int:=x.2.2.2.2.2.2.1
def Eb(x:xH):bf:=(x.2.2.2.2.2.2.2.1,x.2.2.2.2.2.2.2.2.1,())
end Sp
namespace Sp
open Go
def EI(a:bT):Bool:=bZ a.1&&(bn a.2.1 a.2.2.1 a.2.2.2.1&&!(a.2.1==0))
def yS(f:aT):Bool:=f.2.2.2.2.1.all EI&&(dO f.1&&(dO f.2.1&&dO f.2.2.2.1))
def dJ:List bT->List Bytes
 |[]=>[]
 |a::r=>a.1::bF a.2::dJ r
def iT(f:aT):List Bytes:=Lib.itoa f.2.1::(bif f.2.2.1 then[115]else[111])::Lib.itoa f.2.2.2.1::dJ f.2.2.2.2.1
def noF:aT:=(0,0,false,0,[],())
def aie(q:List ax):Bool:=ay q&&decide (gY (textOf q)=q)
def agL(x:xH):Bool:=(Eb x).1==[]&&(Eb x).2.1.isEmpty
def ajt(x:xH):List Bytes:=
 bif x.1==1&&(yS (CZ x)&&((CZ x).1==0&&(ZU x==0&&agL x)))then ajp::iT (CZ x)
 else bif x.1==2&&(yS (CZ x)&&(ZU x==0&&agL x))then ajq::Lib.itoa (CZ x).1::iT (CZ x)
 else bif x.1==3&&(decide (CZ x=noF)&&(dO (ZU x)&&agL x))then[ajr,Lib.itoa (ZU x)]
 else bif x.1==4&&(decide (CZ x=noF)&&(ZU x==0&&(aS (Eb x).1&&aie (Eb x).2.1)))then ajs::(Eb x).1::bJ 9 (Eb x).2.1 (((Eb x).2.1.length:Int)-1)
 else bif x.1==5&&(decide (CZ x=noF)&&(ZU x==0&&(aS (Eb x).1&&(Eb x).2.1.isEmpty)))then[agK,(Eb x).1]
 else[]
def aaP(x:xH):Bytes:=Lib.join (ajt x) [32]
theorem jL{s:Bytes}(h:bZ s=true):aS s=true:=by unfold bZ at h;unfold aS;rw[aoJ,aoJ,aoS,aoS]at h ⊢;exact⟨h.1,by omega⟩
theorem qj{s:Bytes}(h:aS s=true):fine s:=by refine⟨aeE h,?_⟩;unfold aS lower at h;rw[aoJ,aoJ,ao4]at h;rw[ao4];intro b hb;have:=h.1.1 b hb;rw[aoJ,aoS,aoS]at this;rw[wR];omega
theorem adO{v:Ac}(h:bn v.1 v.2.1 v.2.2.1=true)(h0:v.1≠0):fine (bF v):=by
 unfold bF;rw[h];rcases agF h h0 with⟨n,rfl,a,b⟩|⟨s,rfl,a⟩
 .exact EH (by unfold dO;rw[aoZ a,aoZ (show n<=1000000000 by omega)];rfl)
 .exact qj a
theorem C9{a:bT}:EI a=true↔bZ a.1=true/\bn a.2.1 a.2.2.1 a.2.2.2.1=true/\a.2.1≠0:=by unfold EI;rw[aoJ,aoJ,aqv,aoL]
theorem tK{f:aT}:yS f=true↔(∀a∈f.2.2.2.2.1,EI a=true)/\dO f.1=true/\dO f.2.1=true/\dO f.2.2.2.1=true:=by unfold yS;rw[aoJ,aoJ,aoJ,ao4]
theorem YI:∀as:List bT,(∀a∈as,EI a=true)->∀y∈dJ as,fine y
 |[],_,y,hy=>by cases hy
 |a::r,h,y,hy=>by
  obtain⟨h1,h2,h3⟩:=C9.1 (h a aoT);rcases aoU.1 hy with rfl|hy
  .exact qj (jL h1)
  rcases aoU.1 hy with rfl|hy
  .exact adO h2 h3
  .exact YI r (λb hb=>h b (aoR _ hb)) y hy
theorem akO(b:Bool):fine (bif b then[115]else[111]):=by cases b<;>exact⟨⟨by decide,by decide⟩,by decide⟩
theorem aif{f:aT}(h:yS f=true):∀y∈iT f,fine y:=by
 obtain⟨h1,h2,h3,h4⟩:=tK.1 h;intro y hy;rcases aoU.1 hy with rfl|hy
 .exact EH h3
 rcases aoU.1 hy with rfl|hy
 .exact akO _
 rcases aoU.1 hy with rfl|hy
 .exact EH h4
 .exact YI _ h1 y hy
theorem aii{n:ax}(h:dM n 0=true)(hw:n.1=1\/n.1=2\/n.1=3\/n.1=4\/n.1=8\/n.1=9):n.1=1\/fine n.2.2.2.1:=by
 obtain⟨op,l,r,s,k,m,t,⟨⟩⟩:=n;dsimp only at hw ⊢;rcases hw with rfl|rfl|rfl|rfl|rfl|rfl
 .exact .inl rfl
 .have h:((l==0&&r==0)&&(k==0&&(m==0&&t==[]))&&bZ s)=true:=h;rw[aoJ]at h;exact .inr (qj (jL h.2))
 .have h:((l==0&&r==0)&&bZ s&&bn k m t&&!(k==0))=true:=h;rw[aoJ,aoJ,aoJ]at h;exact .inr (qj (jL h.1.1.2))
 .have h:((l==0&&r==0)&&bZ s&&bn k m t&&k==1)=true:=h;rw[aoJ,aoJ,aoJ]at h;exact .inr (qj (jL h.1.1.2))
 .have h:((l==0&&r==0)&&(k==0&&(m==0&&t==[]))&&aS s)=true:=h;rw[aoJ]at h;exact .inr (qj h.2)
 .have h:((l==0&&r==0)&&(k==0&&(m==0&&t==[]))&&aS s)=true:=h;rw[aoJ]at h;exact .inr (qj h.2)
theorem HY(op:Int):fine (fH op):=by unfold fH;cases op==1<;>cases op==2<;>cases op==3<;>cases op==4<;>cases op==5<;>cases op==6<;>cases op==7<;>cases op==8<;>cases op==9<;>exact⟨⟨by decide,by decide⟩,by decide⟩
theorem Af:∀t:QT,xg t->Ad t->∀y∈aK t,fine y
 |.leaf n,hw,ho,y,hy=>by
  have hg:=aii ho hw;have hy:y∈jK n:=hy;rcases zo ho hw with rfl|⟨op,s,rfl,c,hs⟩|⟨op,s,v,rfl,c,hs,hv,h0⟩
  .have:y=fH 1:=ao7.1 hy;rw[this];exact HY 1
  .rw[F5 c]at hy;rcases aoU.1 hy with rfl|hy
   .exact HY op
   .rw[ao7.1 hy];exact hg.resolve_left (by dsimp only;omega)
  .rw[Ji c]at hy;rcases aoU.1 hy with rfl|hy
   .exact HY op
   rcases aoU.1 hy with rfl|hy
   .exact hg.resolve_left (by dsimp only;omega)
   .rw[ao7.1 hy];exact adO hv h0
 |.neg t,hw,ho,y,hy=>by
  rcases aoU.1 (show y∈fH 5::aK t from hy)with rfl|hy
  .exact HY 5
  .exact Af t hw ho y hy
 |.two op a b,⟨_,w1,w2⟩,⟨o1,o2⟩,y,hy=>by
  rcases aoU.1 (show y∈fH op::(aK a++aK b)from hy)with rfl|hy
  .exact HY op
  rcases apc.1 hy with hy|hy
  .exact Af a w1 o1 y hy
  .exact Af b w2 o2 y hy
end Sp
namespace Sp
open Go
def jq:LS->List bT
 |[]=>[]
 |[x]=>[(x.1,(bU []).1)]
 |x::y::r=>(x.1,(bU y.1).1)::jq r
def qK:LS->Bool
 |[]=>true
 |[_]=>true
 |_::y::r=>(bU y.1).2&&qK r
def D6(id:Int)(r:LS):aT:=(id,numAt r 0,wordAt r 1==[115],numAt r 2,jq (r.drop 3),())
def iQ(w:LS):aT×Bool:=
 bif decide ((w.length:Int)<4)||!(w.length%2==0)then(noF,false)
 else(D6 (numAt w 0) (w.drop 1),(aU (wordAt w 0)&&(aU (wordAt w 1)&&aU (wordAt w 3)))&&qK (w.drop 4))
theorem F7:∀as:List bT,(∀a∈as,EI a=true)->jq (ls (dJ as))=as/\qK (ls (dJ as))=true/\(dJ as).length=2*as.length
 |[],_=>⟨rfl,rfl,rfl⟩
 |a::r,h=>by
  obtain⟨h1,h2,h3⟩:=C9.1 (h a aoT);obtain⟨i1,i2,i3⟩:=F7 r λb hb=>h b (aoR _ hb);have e:=JY (v:=a.2) h2 h3;refine⟨?_,?_,?_⟩
  .show(a.1,(bU (bF a.2)).1)::jq (ls (dJ r))=_;rw[e,i1]
  .show((bU (bF a.2)).2&&qK (ls (dJ r)))=true;rw[e,i2];rfl
  .show(dJ r).length+1+1=2*(r.length+1);omega
theorem word2(x:Bytes×Unit)(y:Bytes×Unit)(r:LS):wordAt (x::y::r) 1=y.1:=by rw[Ou,dR]
theorem aj6(x y z:Bytes×Unit)(r:LS):wordAt (x::y::z::r) 2=z.1:=by rw[show(2:Int)=1+1 from rfl,Ae _ _ 1 (by decide),word2]
theorem amF(x y z u:Bytes×Unit)(r:LS):wordAt (x::y::z::u::r) 3=u.1:=by rw[show(3:Int)=2+1 from rfl,Ae _ _ 2 (by decide),aj6]
theorem aaQ{f:aT}(h:yS f=true)(id:Int):D6 id (ls (iT f))=(id,f.2):=by
 obtain⟨h1,h2,h3,h4⟩:=tK.1 h;obtain⟨i0,o,s,l,as,⟨⟩⟩:=f;have e0:numAt (ls (iT (i0,o,s,l,as,()))) 0=o:=by show parseNum (wordAt ((Lib.itoa o,())::_) 0)=o;rw[dR];exact(nJ h3).2
 have e1:(wordAt (ls (iT (i0,o,s,l,as,()))) 1==[115])=s:=by show(wordAt ((Lib.itoa o,())::((bif s then[115]else[111]),())::_) 1==[115])=s;rw[word2];cases s<;>rfl
 have e2:numAt (ls (iT (i0,o,s,l,as,()))) 2=l:=by show parseNum (wordAt ((Lib.itoa o,())::((bif s then[115]else[111]),())::(Lib.itoa l,())::_) 2)=l;rw[aj6];exact(nJ h4).2
 have e3:jq ((ls (iT (i0,o,s,l,as,()))).drop 3)=as:=(F7 as h1).1;unfold D6;rw[e0,e1,e2,e3]
theorem agM{f:aT}(h:yS f=true):iQ ((Lib.itoa f.1,())::ls (iT f))=(f,true):=by
 obtain⟨h1,h2,h3,h4⟩:=tK.1 h;obtain⟨_,a2,a3⟩:=F7 _ h1;have hl:((Lib.itoa f.1,())::ls (iT f)).length=4+2*f.2.2.2.2.1.length:=by show((Lib.itoa f.1,())::((Lib.itoa f.2.1,())::((bif f.2.2.1 then[115]else[111]),())::(Lib.itoa f.2.2.2.1,())::ls (dJ f.2.2.2.2.1))).length=_;rw[aoO,aoO,aoO,aoO];unfold ls;rw[ao0];omega
 have e0:wordAt ((Lib.itoa f.1,())::ls (iT f)) 0=Lib.itoa f.1:=dR _ _;have e1:wordAt ((Lib.itoa f.1,())::ls (iT f)) 1=Lib.itoa f.2.1:=word2 _ _ _;have e3:wordAt ((Lib.itoa f.1,())::ls (iT f)) 3=Lib.itoa f.2.2.2.1:=amF _ _ _ _ _;have ev:qK (((Lib.itoa f.1,())::ls (iT f)).drop 4)=true:=a2;have ef:D6 (numAt ((Lib.itoa f.1,())::ls (iT f)) 0) (((Lib.itoa f.1,())::ls (iT f)).drop 1)=f:=by show D6 (numAt _ 0) (ls (iT f))=f;rw[aaQ h];unfold numAt;rw[e0,(nJ h2).2]
 unfold iQ;rw[hl,e0,e1,e3,ev,ef,(nJ h2).1,(nJ h3).1,(nJ h4).1,ao1 (by omega),show((4+2*f.2.2.2.2.1.length)%2==0)=true from apf.2 (by omega)];rfl
def passes(x:xH)(w:LS):Prop:=aaP x≠[]/\aaP x=kT w
end Sp
namespace Sp
open Go
def dm(b:UInt8):Bytes->Bytes->LS
 |cur,[]=>[(cur,())]
 |cur,x::l=>bif x==b then(cur,())::dm b [] l else dm b (cur++[x]) l
def pieces(b:UInt8)(s:Bytes):LS:=dm b [] s
theorem Sv:∀(l cur:Bytes),dm 10 cur l=LV cur l
 |[],_=>rfl
 |x::l,cur=>by
  show(bif x==10 then(cur,())::dm 10 [] l else dm 10 (cur++[x]) l)=bif x==10 then(cur,())::LV [] l else LV (cur++[x]) l
  rw[Sv l [],Sv l (cur++[x])]
theorem J3{b:UInt8}:∀(w cur l:Bytes),(∀x∈w,x≠b)->dm b cur (w++l)=dm b (cur++w) l
 |[],cur,l,_=>by rw[ape];rfl
 |x::w,cur,l,h=>by have hx:(x==b)=false:=aoL.2 (h x aoT);show(bif x==b then(cur,())::dm b [] (w++l)else dm b (cur++[x]) (w++l))=_;rw[hx];show dm b (cur++[x]) (w++l)=_;rw[J3 w (cur++[x]) l λy hy=>h y (aoR _ hy),aoX];rfl
theorem YJ{b:UInt8}{w:Bytes}(h:∀x∈w,x≠b)(l:Bytes):pieces b (w++b::l)=(w,())::pieces b l:=by unfold pieces;rw[J3 w [] (b::l) h,apD];show(bif b==b then _ else _)=_;rw[aqL];rfl
theorem Vf{b:UInt8}{w:Bytes}(h:∀x∈w,x≠b):pieces b w=[(w,())]:=by have:=J3 w [] [] h;rw[ape,apD]at this;exact this
theorem iZ(x y:Bytes)(r:List Bytes):Lib.join (x::y::r) [32]=x++32::Lib.join (y::r) [32]:=by rw[Lib.join_cons,Lib.join_cons];show x++([32]++y++Lib.joinTail [32] r)=_;rw[aoX];rfl
theorem Vg:∀(ws:List Bytes),ws≠[]->(∀w∈ws,∀x∈w,x≠32)->pieces 32 (Lib.join ws [32])=ls ws
 |[],h,_=>(h rfl).elim
 |[w],_,h=>by
  have e:Lib.join [w] [32]=w:=by rw[Lib.join_cons];exact ape w
  rw[e];exact Vf (h w aoT)
 |w::y::r,_,h=>by rw[iZ,YJ (h w aoT),Vg (y::r) (by simp) λv hv=>h v (aoR _ hv)];rfl
theorem Hw(b:UInt8):∀(l cur:Bytes),0<(dm b cur l).length
 |[],_=>Nat.one_pos
 |x::l,cur=>by
  show 0<(bif x==b then(cur,())::dm b [] l else dm b (cur++[x]) l).length;cases x==b with
  |true=>exact ap5 _
  |false=>exact Hw b l _
def eP:List bT->Bytes
 |[]=>[]
 |a::r=>32::(a.1++32::(bF a.2++eP r))
theorem Oa:∀as:List bT,Lib.joinTail [32] (dJ as)=eP as
 |[]=>rfl
 |a::r=>by show[32]++a.1++([32]++bF a.2++Lib.joinTail [32] (dJ r))=_;rw[Oa r];show _=32::(a.1++32::(bF a.2++eP r));simp
theorem ahX{as:List bT}{n:Nat}(h:n<as.length):eP (as.take (n+1))=eP (as.take n)++32::((as.getD n ([],0,0,[],())).1++32::bF (as.getD n ([],0,0,[],())).2):=by
 induction as generalizing n with
 |nil=>exact absurd h (apP _)
 |cons a r ih=>
  cases n with
  |zero=>
   show 32::(a.1++32::(bF a.2++[]))=[]++32::(a.1++32::bF a.2);rw[ape];rfl
  |succ n=>
   have h:n<r.length:=by rw[aoO]at h;omega
   show 32::(a.1++32::(bF a.2++eP (r.take (n+1))))=(32::(a.1++32::(bF a.2++eP (r.take n))))++_;rw[ih h];show _=32::(a.1++32::(bF a.2++eP (r.take n)))++32::((r.getD n ([],0,0,[],())).1++32::bF (r.getD n ([],0,0,[],())).2);simp
theorem aaL(f:aT):Lib.join (iT f) [32]=Lib.itoa f.2.1++32::((bif f.2.2.1 then[115]else[111])++32::(Lib.itoa f.2.2.2.1++eP f.2.2.2.2.1)):=by unfold iT;rw[iZ,iZ,Lib.join_cons,Oa]
def lK:Bytes:=[102,105,108,101]
def eG(f:aT):Bytes:=Lib.join (lK::Lib.itoa f.1::iT f) [32]
end Sp
namespace Sp
open Go
theorem join_one(x:Bytes):Lib.join [x] [32]=x:=by rw[Lib.join_cons];exact ape x
theorem adP:∀(a:List Bytes)(y:Bytes)(b:List Bytes),a≠[]->Lib.join (a++y::b) [32]=Lib.join a [32]++32::Lib.join (y::b) [32]
 |[],_,_,h=>(h rfl).elim
 |[x],y,b,_=>by rw[join_one];exact iZ x y b
 |x::z::a,y,b,_=>by show Lib.join (x::z::(a++y::b)) [32]=_;rw[iZ,iZ];have:=adP (z::a) y b (by simp);rw[show z::(a++y::b)=(z::a)++y::b from rfl,this,aoX];rfl
theorem Yi(x:Bytes){a:List Bytes}(h:a≠[]):Lib.join [x,Lib.join a [32]] [32]=Lib.join (x::a) [32]:=by
 cases a with
 |nil=>exact(h rfl).elim
 |cons y r=>rw[iZ,join_one,iZ]
theorem Yj(x:Bytes){a b:List Bytes}(h:a≠[])(g:b≠[]):Lib.join [x,Lib.join a [32],Lib.join b [32]] [32]=Lib.join (x::(a++b)) [32]:=by
 cases a with
 |nil=>exact(h rfl).elim
 |cons y r=>
  cases b with
  |nil=>exact(g rfl).elim
  |cons z s=>have:=adP (y::r) z s (by simp);rw[iZ,iZ,join_one];show _=Lib.join (x::y::(r++z::s)) [32];rw[iZ];show _=x++32::Lib.join ((y::r)++z::s) [32];rw[this]
theorem Gf(k:Nat)(q:List ax)(i:Int):bJ (k+1) q i≠[]:=by
 rw[bJ];cases (nodeAt q i.toNat).1==5 with
 |true=>exact arn _ _
 |false=>
  cases (nodeAt q i.toNat).1==6||(nodeAt q i.toNat).1==7 with
  |true=>exact arn _ _
  |false=>exact arn _ _
theorem ZV{n:ax}{a:Int}(h:dM n a=true)(c:n.1=5):0<=n.2.1/\n.2.1<a:=by obtain⟨op,l,r,s,k,m,t,⟨⟩⟩:=n;have c:op=5:=c;subst c;have h:((decide (0<=l)&&decide (l<=a-1)&&decide (0<a))&&r==0&&(s==[]&&(k==0&&(m==0&&t==[]))))=true:=h;rw[aoJ,aoJ,aoJ,aoJ,aoS,aoS]at h;have h1:=h.1.1.1;dsimp only;omega
theorem ZW{n:ax}{a:Int}(h:dM n a=true)(c:n.1=6\/n.1=7):(0<=n.2.1/\n.2.1<a)/\0<=n.2.2.1/\n.2.2.1<a:=by
 obtain⟨op,l,r,s,k,m,t,⟨⟩⟩:=n;have h:((decide (0<=l)&&decide (l<=a-1)&&decide (0<a))&&(decide (0<=r)&&decide (r<=a-1))&&(s==[]&&(k==0&&(m==0&&t==[]))))=true:=by
  rcases c with c|c
  .have c:op=6:=c;subst c;exact h
  .have c:op=7:=c;subst c;exact h
 simp only[aoJ,aoS]at h;have h1:=h.1.1.1;have h2:=h.1.2;dsimp only;omega
theorem yP{q:List ax}(h:ay q=true):∀(k j:Nat)(i:Int),0<=i->i.toNat<q.length->i.toNat<k->i.toNat<j->bJ k q i=bJ j q i
 |0,_,_,_,_,hk,_=>absurd hk (apP _)
 |_+1,0,_,_,_,_,hj=>absurd hj (apP _)
 |k+1,j+1,i,hi,hl,hk,hj=>by
  have hn:=(jg h hl).1;rw[bJ,bJ];cases c5:(nodeAt q i.toNat).1==5 with
  |true=>
   have hc:=ZV hn (apf.1 c5);show _::bJ k q _=_::bJ j q _;rw[yP h k j (nodeAt q i.toNat).2.1 hc.1 (by omega) (by omega) (by omega)]
  |false=>
  cases c6:(nodeAt q i.toNat).1==6||(nodeAt q i.toNat).1==7 with
  |true=>
   rw[apO,apf,apf]at c6;have hc:=ZW hn c6;show _::(bJ k q _++bJ k q _)=_::(bJ j q _++bJ j q _);rw[yP h k j (nodeAt q i.toNat).2.1 hc.1.1 (by omega) (by omega) (by omega),yP h k j (nodeAt q i.toNat).2.2.1 hc.2.1 (by omega) (by omega) (by omega)]
  |false=>rfl
def oN(w:List Bytes):Nat:=(w.map λx=>x.length+1).sum
theorem EJ:∀w:List Bytes,(Lib.join w [32]).length<=oN w
 |[]=>aoP _
 |[x]=>by rw[join_one];show x.length<=x.length+1+0;omega
 |x::y::r=>by have:=EJ (y::r);rw[iZ,aoK,aoO];show _<=x.length+1+oN (y::r);omega
theorem eU(x:Bytes)(r:List Bytes):oN (x::r)=x.length+1+oN r:=by unfold oN;rw[ao3,apI]
theorem adQ(a b:List Bytes):oN (a++b)=oN a+oN b:=by unfold oN;rw[apG,aqt]
theorem Sz(op:Int):(fH op).length<=6:=by unfold fH;cases op==1<;>cases op==2<;>cases op==3<;>cases op==4<;>cases op==5<;>cases op==6<;>cases op==7<;>cases op==8<;>cases op==9<;>decide
theorem afk{v:Ac}(h:bn v.1 v.2.1 v.2.2.1=true)(h0:v.1≠0):(bF v).length<=10:=by
 unfold bF;rw[h];rcases agF h h0 with⟨n,rfl,a,b⟩|⟨s,rfl,a⟩
 .exact WW (by unfold dO;rw[aoZ a,aoZ (show n<=1000000000 by omega)];rfl)
 .exact aoW (oh a) (by decide)
theorem adR{n:ax}(h:dM n 0=true)(hw:n.1=1\/n.1=2\/n.1=3\/n.1=4\/n.1=8\/n.1=9):oN (jK n)<=25:=by
 have hg:n.1=1\/n.2.2.2.1.length<=6:=by
  obtain⟨op,l,r,s,k,m,t,⟨⟩⟩:=n;dsimp only at hw ⊢;rcases hw with rfl|rfl|rfl|rfl|rfl|rfl
  .exact .inl rfl
  .have h:((l==0&&r==0)&&(k==0&&(m==0&&t==[]))&&bZ s)=true:=h;rw[aoJ]at h;exact .inr (oh (jL h.2))
  .have h:((l==0&&r==0)&&bZ s&&bn k m t&&!(k==0))=true:=h;rw[aoJ,aoJ,aoJ]at h;exact .inr (oh (jL h.1.1.2))
  .have h:((l==0&&r==0)&&bZ s&&bn k m t&&k==1)=true:=h;rw[aoJ,aoJ,aoJ]at h;exact .inr (oh (jL h.1.1.2))
  .have h:((l==0&&r==0)&&(k==0&&(m==0&&t==[]))&&aS s)=true:=h;rw[aoJ]at h;exact .inr (oh h.2)
  .have h:((l==0&&r==0)&&(k==0&&(m==0&&t==[]))&&aS s)=true:=h;rw[aoJ]at h;exact .inr (oh h.2)
 rcases zo h hw with rfl|⟨op,s,rfl,c,hs⟩|⟨op,s,v,rfl,c,hs,hv,h0⟩
 .decide
 .have hl:s.length<=6:=hg.resolve_left (by dsimp only;omega);have hk:=Sz op;rw[F5 c,eU,eU];show _+(_+0)<=25;omega
 .have hl:s.length<=6:=hg.resolve_left (by dsimp only;omega);have hk:=Sz op;have hq:=afk hv h0;rw[Ji c,eU,eU,eU];show _+(_+(_+0))<=25;omega
theorem EK{q:List ax}(h:ay q=true):∀(k:Nat)(i:Int),0<=i->i.toNat<q.length->oN (bJ k q i)+7<=24*2 ^ k
 |0,_,_,_=>by show 0+7<=24*1;decide
 |k+1,i,hi,hl=>by
  have hn:=(jg h hl).1;have hk:=Sz (nodeAt q i.toNat).1;have hp:1<=2 ^ k:=Nat.one_le_two_pow;have e2:2 ^ (k+1)=2*2 ^ k:=by rw[Nat.pow_succ,arz]
  rw[bJ];cases c5:(nodeAt q i.toNat).1==5 with
  |true=>
   have hc:=ZV hn (apf.1 c5);have ih:=EK h k (nodeAt q i.toNat).2.1 hc.1 (by omega);show oN (_::_)+7<=_;rw[eU];omega
  |false=>
  cases c6:(nodeAt q i.toNat).1==6||(nodeAt q i.toNat).1==7 with
  |true=>
   rw[apO,apf,apf]at c6;have hc:=ZW hn c6;have i1:=EK h k (nodeAt q i.toNat).2.1 hc.1.1 (by omega);have i2:=EK h k (nodeAt q i.toNat).2.2.1 hc.2.1 (by omega);show oN (_::(_++_))+7<=_;rw[eU,adQ];omega
  |false=>
   rw[aqb,aoL,aoL]at c6;have c5:=aoL.1 c5;have hw:(nodeAt q i.toNat).1=1\/(nodeAt q i.toNat).1=2\/(nodeAt q i.toNat).1=3\/(nodeAt q i.toNat).1=4\/(nodeAt q i.toNat).1=8\/(nodeAt q i.toNat).1=9:=by
    generalize nodeAt q i.toNat=n at hn c5 c6;obtain⟨op,l,r,s,k,m,t,⟨⟩⟩:=n;dsimp only at c5 c6 ⊢;by_cases a1:op=1
    .exact .inl a1
    by_cases a2:op=2
    .exact .inr (.inl a2)
    by_cases a3:op=3
    .exact .inr (.inr (.inl a3))
    by_cases a4:op=4
    .exact .inr (.inr (.inr (.inl a4)))
    by_cases a8:op=8
    .exact .inr (.inr (.inr (.inr (.inl a8))))
    by_cases a9:op=9
    .exact .inr (.inr (.inr (.inr (.inr a9))))
    unfold dM at hn;dsimp only at hn;rw[aoL.2 a1,aoL.2 a2,aoL.2 a3,aoL.2 a4,aoL.2 c5,aoL.2 c6.1,aoL.2 c6.2,aoL.2 a8,aoL.2 a9]at hn;cases hn
   have:=adR (by rw[← Ea _ hw];exact hn) hw;show oN (jK _)+7<=_;omega
theorem Yw(q:List ax):(textOf q).length<=12288:=by
 unfold textOf;cases h:ay q with
 |false=>exact apb _
 |true=>have hl:=fG h;have:=EK h 9 ((q.length:Int)-1) (by omega) (by omega);exact aoW (EJ _) (by show oN (bJ 9 q _)<=12288;omega)
end Sp
namespace Sp
open Go
end Sp
namespace Sp
open Go
theorem yT:∀t:QT,xg t->Ad t->(aK t).length<=2*t.size+1/\oN (aK t)<=32*t.size
 |.leaf n,hw,ho=>by
  have h:=adR ho hw;refine⟨?_,show oN (jK n)<=32*1 by omega⟩;show(jK n).length<=2*1+1;unfold jK;cases n.1==2||(n.1==8||n.1==9)with
  |true=>show 2<=3;decide
  |false=>
   cases n.1==3||n.1==4 with
   |true=>show 3<=3;decide
   |false=>show 1<=3;decide
 |.neg t,hw,ho=>by
  obtain⟨h1,h2⟩:=yT t hw ho;have:=Sz 5;refine⟨?_,?_⟩
  .show(aK t).length+1<=2*(t.size+1)+1;omega
  .show oN (fH 5::aK t)<=32*(t.size+1);rw[eU];omega
 |.two op a b,⟨_,w1,w2⟩,⟨o1,o2⟩=>by
  obtain⟨h1,h2⟩:=yT a w1 o1;obtain⟨h3,h4⟩:=yT b w2 o2;have:=Sz op;refine⟨?_,?_⟩
  .show(aK a++aK b).length+1<=2*(a.size+b.size+1)+1;rw[aoK];omega
  .show oN (fH op::(aK a++aK b))<=32*(a.size+b.size+1);rw[eU,adQ];omega
theorem N9:∀as:List bT,(∀a∈as,EI a=true)->oN (dJ as)<=18*as.length
 |[],_=>aoP _
 |a::r,h=>by obtain⟨h1,h2,h3⟩:=C9.1 (h a aoT);have i:=N9 r λb hb=>h b (aoR _ hb);have l1:=oh (jL h1);have l2:=afk (v:=a.2) h2 h3;show oN (a.1::bF a.2::dJ r)<=18*(r.length+1);rw[eU,eU];omega
theorem aij{f:aT}(h:yS f=true):oN (iT f)<=24+18*f.2.2.2.2.1.length/\(iT f).length=3+2*f.2.2.2.2.1.length:=by
 obtain⟨h1,h2,h3,h4⟩:=tK.1 h;have i:=N9 _ h1;have l1:=WW h3;have l2:=WW h4;have l3:(bif f.2.2.1 then[115]else[111]:Bytes).length=1:=by cases f.2.2.1<;>rfl
 refine⟨?_,?_⟩
 .show oN (Lib.itoa f.2.1::(bif f.2.2.1 then[115]else[111])::Lib.itoa f.2.2.2.1::dJ f.2.2.2.2.1)<=_;rw[eU,eU,eU];omega
 .show(dJ f.2.2.2.2.1).length+1+1+1=_;rw[(F7 _ h1).2.2];omega
end Sp
namespace Sp
open Go
end Sp
namespace Sp
open Go
end Sp
namespace Sp
open Go
theorem aey(w:LS)(a i:Int)(ha:0<=a)(hi:0<=i):wordAt (w.drop a.toNat) i=wordAt w (a+i):=by
 by_cases h:a+i<(w.length:Int)
 .rw[yQ h,yQ (by rw[apj];omega),aoN,apo,aoN,show a.toNat+i.toNat=(a+i).toNat by omega]
 .rw[Bq (show a+i>=(w.length:Int) by omega),Bq (by rw[apj];omega)]
theorem zn{n:Int}(h:(-9223372036854775808:Int)<=n/\n<=9223372036854775807):(Lib.itoa n).length<=21:=Lib.itoa_length_le n h.1 h.2
theorem ZM{as:List bT}{n:Nat}:(eP (as.take n)).length<=(eP as).length:=by
 induction as generalizing n with
 |nil=>rw[List.take_nil];exact aoP _
 |cons a r ih=>
  cases n with
  |zero=>exact apb _
  |succ n=>show(32::(a.1++32::(bF a.2++eP (r.take n)))).length<=(32::(a.1++32::(bF a.2++eP r))).length;have:=@ih n;simp only[aoO,aoK];omega
theorem adq{f:aT}(h1:(-9223372036854775808:Int)<=f.1/\f.1<=9223372036854775807)(h2:(-9223372036854775808:Int)<=f.2.1/\f.2.1<=9223372036854775807)(h3:(-9223372036854775808:Int)<=f.2.2.2.1/\f.2.2.2.1<=9223372036854775807):
 (eG f).length<=80+(eP f.2.2.2.2.1).length/\(Lib.join (iT f) [32]).length<=47+(eP f.2.2.2.2.1).length:=by
 have q1:=zn h1;have q2:=zn h2;have q3:=zn h3;have e0:(bif f.2.2.1 then[115]else[111]:Bytes).length=1:=by cases f.2.2.1<;>rfl
 have hb:(Lib.join (iT f) [32]).length<=47+(eP f.2.2.2.2.1).length:=by rw[aaL];simp only[aoO,aoK,e0];omega
 refine⟨?_,hb⟩;have e:eG f=lK++32::(Lib.itoa f.1++32::Lib.join (iT f) [32]):=by unfold eG;rw[iZ];unfold iT;rw[iZ]
 rw[e];simp only[aoO,aoK,show lK.length=4 from rfl];omega
end Sp
namespace Sp
open Go
theorem Vh:∀(sep:List UInt8)(k:Nat)(s:List UInt8),∃h t,Lib.splitK sep 0 k s=h::t
 |_,0,s=>⟨s,[],rfl⟩
 |sep,k+1,s=>by
  unfold Lib.splitK;split
  .exact⟨_,_,rfl⟩
  .exact⟨_,_,rfl⟩
theorem aju(b c:UInt8)(l h:List UInt8)(t:List (List UInt8))(hb:b≠c)(e:Lib.splitK [c] 0 (Lib.count l [c]) l=h::t):Lib.splitK [c] 0 (Lib.count (b::l) [c]) (b::l)=(b::h)::t:=by
 rw[Lib.count_cons_ne b c l hb];have hp:([c]:List UInt8).isPrefixOf (b::l)=false:=by simp[List.isPrefixOf,aqx hb]
 have hix:Lib.index (b::l) [c]=if Lib.index l [c]==-1 then -1 else Lib.index l [c]+1:=by rw[Lib.index,hp];simp
 cases hk:Lib.count l [c]with
 |zero=>rw[hk]at e;simp only[Lib.splitK,List.cons.injEq]at e ⊢;exact⟨⟨trivial,e.1⟩,e.2⟩
 |succ k=>
  rw[hk]at e;by_cases hm:Lib.index l [c]=-1
  .rw[Lib.count_miss hm]at hk;cases hk
  .have hge:=Lib.index_ge l [c];obtain⟨j,hj⟩:∃j:Nat,Lib.index l [c]=j:=⟨(Lib.index l [c]).toNat,by omega⟩;have hix':Lib.index (b::l) [c]=((j+1:Nat):Int):=by rw[hix,if_neg (λe=>hm (apf.1 e)),hj];omega
   simp only[Lib.splitK]at e ⊢;rw[hj,if_neg (λh=>by have:=apf.1 h;omega)]at e;rw[hix',if_neg (λh=>by have:=apf.1 h;omega)];simp only[List.cons.injEq,ao6]at e ⊢;refine⟨?_,?_⟩
   .rw[← e.1];rfl
   .rw[← e.2];rfl
theorem ajv(c:UInt8)(l:List UInt8):Lib.splitK [c] 0 (Lib.count (c::l) [c]) (c::l)=[]::Lib.splitK [c] 0 (Lib.count l [c]) l:=by
 rw[Lib.count_cons_eq,arw];have hix:Lib.index (c::l) [c]=((0:Nat):Int):=by rw[Lib.index];simp[List.isPrefixOf]
 simp only[Lib.splitK];rw[hix,if_neg (by simp)];rfl
end Sp
namespace Sp
open Go
theorem DU(c:UInt8):∀(l cur h:Bytes)(t:List Bytes),Lib.splitK [c] 0 (Lib.count l [c]) l=h::t->(dm c cur l).map (·.1)=(cur++h)::t
 |[],cur,h,t,e=>by
  have h0:Lib.count [] [c]=0:=Lib.count_one c [];rw[h0]at e;simp only[Lib.splitK,List.cons.injEq]at e;rw[← e.1,← e.2,ape];rfl
 |b::l,cur,h,t,e=>by
  obtain⟨h',t',e'⟩:=Vh [c] (Lib.count l [c]) l;by_cases hb:b=c
  .obtain rfl:b=c:=hb;rw[ajv,List.cons.injEq]at e;have hl:dm b cur (b::l)=(cur,())::dm b [] l:=by rw[dm,aqL];rfl
   rw[hl,ao3,DU b l [] h' t' e',← e.1,← e.2,e',ape,apD]
  .rw[aju b c l h' t' hb e',List.cons.injEq]at e;have hl:dm c cur (b::l)=dm c (cur++[b]) l:=by rw[dm,aoL.2 hb];rfl
   rw[hl,DU c l (cur++[b]) h' t' e',← e.1,← e.2,aoX];rfl
theorem acW(c:UInt8)(s:Bytes):(pieces c s).map (·.1)=Lib.split s [c]:=by obtain⟨h,t,e⟩:=Vh [c] (Lib.count s [c]) s;unfold pieces Lib.split;rw[DU c s [] h t e,e,apD]
theorem J4(c:UInt8):∀(l cur:Bytes)(x:Bytes×Unit),x∈dm c cur l->x.1.length<=cur.length+l.length
 |[],cur,x,h=>by
  simp only[dm,ao7]at h;subst h;simp
 |b::l,cur,x,h=>by
  rw[dm]at h;cases hb:b==c with
  |true=>
   rw[hb]at h;rcases aoU.1 h with rfl|h
   .simp
   .have:=J4 c l [] x h;simp at this ⊢;omega
  |false=>rw[hb]at h;have:=J4 c l (cur++[b]) x h;simp at this ⊢;omega
theorem yM{c:UInt8}{s:Bytes}:∀x∈pieces c s,x.1.length<=s.length:=λx hx=>by have:=J4 c s [] x hx;simpa using this
theorem H6(c:UInt8):∀(l cur:Bytes),(dm c cur l).length<=l.length+1
 |[],cur=>aoP _
 |b::l,cur=>by
  rw[dm];cases b==c with
  |true=>have:=H6 c l [];show _+1<=_;simp;omega
  |false=>have:=H6 c l (cur++[b]);show(dm c (cur++[b]) l).length<=_;simp;omega
theorem pieces_len(c:UInt8)(s:Bytes):(pieces c s).length<=s.length+1:=H6 c s []
end Sp
namespace Sp
open Go
theorem Jb{n:ax}{a:Int}(hn:dM n a=true):(n.1=1\/n.1=2\/n.1=3\/n.1=4\/n.1=8\/n.1=9)\/n.1=5\/n.1=6\/n.1=7:=by
 obtain⟨op,l,r,s,k,m,t,⟨⟩⟩:=n;dsimp only;by_cases a1:op=1
 .omega
 by_cases a2:op=2
 .omega
 by_cases a3:op=3
 .omega
 by_cases a4:op=4
 .omega
 by_cases a5:op=5
 .omega
 by_cases a6:op=6
 .omega
 by_cases a7:op=7
 .omega
 by_cases a8:op=8
 .omega
 by_cases a9:op=9
 .omega
 unfold dM at hn;dsimp only at hn;rw[aoL.2 a1,aoL.2 a2,aoL.2 a3,aoL.2 a4,aoL.2 a5,aoL.2 a6,aoL.2 a7,aoL.2 a8,aoL.2 a9]at hn;cases hn
theorem ae5{q:List ax}{i:Int}(k:Nat)(c:(nodeAt q i.toNat).1=1\/(nodeAt q i.toNat).1=2\/(nodeAt q i.toNat).1=3\/(nodeAt q i.toNat).1=4\/(nodeAt q i.toNat).1=8\/(nodeAt q i.toNat).1=9):bJ (k+1) q i=jK (nodeAt q i.toNat):=by rw[bJ,aoL.2 (show(nodeAt q i.toNat).1≠5 by omega),aoL.2 (show(nodeAt q i.toNat).1≠6 by omega),aoL.2 (show(nodeAt q i.toNat).1≠7 by omega)];rfl
theorem ahR{q:List ax}{i:Int}(h:ay q=true)(h0:0<=i)(hl:i<(q.length:Int))(c:(nodeAt q i.toNat).1=5):
 bJ (i.toNat+1) q i=fH 5::bJ ((nodeAt q i.toNat).2.1.toNat+1) q (nodeAt q i.toNat).2.1/\0<=(nodeAt q i.toNat).2.1/\(nodeAt q i.toNat).2.1<i:=by
 have hn:=(jg h (show i.toNat<q.length by omega)).1;have hk:=ZV hn c;have hk2:(nodeAt q i.toNat).2.1<i:=by have:=hk.2;omega
 refine⟨?_,hk.1,hk2⟩;rw[bJ,apf.2 c,c,yP h i.toNat ((nodeAt q i.toNat).2.1.toNat+1) (nodeAt q i.toNat).2.1 hk.1 (by omega) (by omega) (by omega)];rfl
theorem ahS{q:List ax}{i:Int}(h:ay q=true)(h0:0<=i)(hl:i<(q.length:Int))(c:(nodeAt q i.toNat).1=6\/(nodeAt q i.toNat).1=7):
 bJ (i.toNat+1) q i=fH (nodeAt q i.toNat).1::(bJ ((nodeAt q i.toNat).2.1.toNat+1) q (nodeAt q i.toNat).2.1++bJ ((nodeAt q i.toNat).2.2.1.toNat+1) q (nodeAt q i.toNat).2.2.1)/\
  (0<=(nodeAt q i.toNat).2.1/\(nodeAt q i.toNat).2.1<i)/\0<=(nodeAt q i.toNat).2.2.1/\(nodeAt q i.toNat).2.2.1<i:=by
 have hn:=(jg h (show i.toNat<q.length by omega)).1;have hk:=ZW hn c;have e:((i.toNat:Nat):Int)=i:=by omega
 rw[e]at hk;refine⟨?_,hk.1,hk.2⟩;have hc:((nodeAt q i.toNat).1==6||(nodeAt q i.toNat).1==7)=true:=by rcases c with c|c<;>rw[c]<;>rfl
 rw[bJ,aoL.2 (show(nodeAt q i.toNat).1≠5 by omega),hc,yP h i.toNat ((nodeAt q i.toNat).2.1.toNat+1) (nodeAt q i.toNat).2.1 hk.1.1 (by omega) (by omega) (by omega),
  yP h i.toNat ((nodeAt q i.toNat).2.2.1.toNat+1) (nodeAt q i.toNat).2.2.1 hk.2.1 (by omega) (by omega) (by omega)]
 rfl
theorem adg{q:List ax}{i:Int}(h:ay q=true)(h0:0<=i)(hl:i<(q.length:Int)):(Lib.join (bJ (i.toNat+1) q i) [32]).length<=12288:=by
 have:=(fG h).2;have hw:=EK h (i.toNat+1) i h0 (by omega);have hp:2 ^ (i.toNat+1)<=2 ^ 9:=Nat.pow_le_pow_right (by decide) (by omega);refine aoW (EJ _) ?_;have e:(2:Nat) ^ 9=512:=by decide
 omega
def LD(w:Bytes):Nat->Int
 |0=>0
 |k+1=>bif w==fH ((k:Int)+1)then(k:Int)+1 else LD w k
theorem agr(w:Bytes):LD w 9=dQ w:=by
 rcases zl w with h|⟨h,e⟩
 .have no:∀op:Int,(op=1\/op=2\/op=3\/op=4\/op=5\/op=6\/op=7\/op=8\/op=9)->(w==fH op)=false:=λop ho=>aoL.2 λe=>by rw[e,vV ho]at h;omega
  rw[h];simp only[LD];rw[no _ (by decide),no _ (by decide),no _ (by decide),no _ (by decide),no _ (by decide),no _ (by decide),no _ (by decide),no _ (by decide),no _ (by decide)];rfl
 .rw[← e];rcases h with h|h|h|h|h|h|h|h|h<;>rw[h]<;>decide
theorem ags(w:Bytes):0<=dQ w/\dQ w<=9:=by rcases zl w with h|⟨h,_⟩<;>omega
theorem Yo{as:List bT}{n:Nat}(h:n<as.length):dJ (as.take (n+1))=dJ (as.take n)++[(as.getD n ([],0,0,[],())).1,bF (as.getD n ([],0,0,[],())).2]:=by
 induction as generalizing n with
 |nil=>exact absurd h (apP _)
 |cons a r ih=>
  cases n with
  |zero=>rfl
  |succ n=>
   have h:n<r.length:=by rw[aoO]at h;omega
   show a.1::bF a.2::dJ (r.take (n+1))=a.1::bF a.2::(dJ (r.take n)++_);rw[ih h];rfl
theorem DL:∀as:List bT,(dJ as).length=2*as.length
 |[]=>rfl
 |a::r=>by show(dJ r).length+1+1=2*(r.length+1);rw[DL r];omega
end Sp
namespace Sp
open Go
def EL(q:List ax):QT->Nat->Prop
 |.leaf n,i=>nodeAt q i=n/\(n.1=1\/n.1=2\/n.1=3\/n.1=4\/n.1=8\/n.1=9)
 |.neg t,i=>(nodeAt q i).1=5/\EL q t (nodeAt q i).2.1.toNat
 |.two op a b,i=>(nodeAt q i).1=op/\(op=6\/op=7)/\EL q a (nodeAt q i).2.1.toNat/\EL q b (nodeAt q i).2.2.1.toNat
theorem YK{q:List ax}:∀(t:QT)(i:Nat),EL q t i->xg t
 |.leaf _,_,h=>h.2
 |.neg t,_,h=>YK t _ h.2
 |.two _ a b,_,h=>⟨h.2.1,YK a _ h.2.2.1,YK b _ h.2.2.2⟩
theorem akP{q:List ax}(h:ay q=true)(i:Nat)(hi:i<q.length):∃t,EL q t i:=by
 induction i using Nat.strongRecOn with
 |_ i ih=>
  obtain⟨g1,g2⟩:=kM h hi;rcases Jb (jg h hi).1 with c|c|c
  .exact⟨.leaf (nodeAt q i),rfl,c⟩
  .obtain⟨_,l⟩:=g1 (.inl c);obtain⟨t,ht⟩:=ih _ l (by omega);exact⟨.neg t,c,ht⟩
  .obtain⟨_,l1⟩:=g1 (.inr (jY.2 c));obtain⟨_,l2⟩:=g2 (jY.2 c);obtain⟨a,ha⟩:=ih _ l1 (by omega);obtain⟨b,hb⟩:=ih _ l2 (by omega);exact⟨.two (nodeAt q i).1 a b,rfl,c,ha,hb⟩
theorem YL{q:List ax}(h:ay q=true):∀(t:QT)(i:Nat),i<q.length->EL q t i->Ad t
 |.leaf n,i,hi,ht=>by
  obtain⟨rfl,c⟩:=ht;show dM (nodeAt q i) 0=true;rw[← Ea (i:Int) c];exact(jg h hi).1
 |.neg t,i,hi,ht=>YL h t _ (by have:=((kM h hi).1 (.inl ht.1)).2;omega) ht.2
 |.two op a b,i,hi,⟨e,c,ha,hb⟩=>by have c:iw (nodeAt q i)=true:=jY.2 (by rw[e];exact c);exact⟨YL h a _ (by have:=((kM h hi).1 (.inr c)).2;omega) ha,YL h b _ (by have:=((kM h hi).2 c).2;omega) hb⟩
theorem Ox{q:List ax}(h:ay q=true):∀(t:QT)(i k:Nat),i<q.length->i<k->EL q t i->bJ k q (i:Int)=aK t
 |_,_,0,_,hk,_=>absurd hk (apP _)
 |.leaf n,i,k+1,hi,hk,ht=>by
  obtain⟨rfl,c⟩:=ht;rw[bJ,ao6,show((nodeAt q i).1==5)=false from aoL.2 (by omega),show((nodeAt q i).1==6)=false from aoL.2 (by omega),show((nodeAt q i).1==7)=false from aoL.2 (by omega)];rfl
 |.neg t,i,k+1,hi,hk,⟨e,ht⟩=>by
  obtain⟨l0,l1⟩:=(kM h hi).1 (.inl e);have ih:=Ox h t _ k (by omega) (by omega) ht;rw[arD l0]at ih;rw[bJ,ao6,ih,e];rfl
 |.two op a b,i,k+1,hi,hk,⟨e,c,ha,hb⟩=>by have c2:iw (nodeAt q i)=true:=jY.2 (by rw[e];exact c);obtain⟨l0,l1⟩:=(kM h hi).1 (.inr c2);obtain⟨m0,m1⟩:=(kM h hi).2 c2;have i1:=Ox h a _ k (by omega) (by omega) ha;have i2:=Ox h b _ k (by omega) (by omega) hb;rw[arD l0]at i1;rw[arD m0]at i2;rw[bJ,ao6,i1,i2,e];rcases c with rfl|rfl<;>rfl
def vis(q:List ax):QT->Nat->List Nat
 |.leaf _,i=>[i]
 |.neg t,i=>i::vis q t (nodeAt q i).2.1.toNat
 |.two _ a b,i=>i::(vis q a (nodeAt q i).2.1.toNat++vis q b (nodeAt q i).2.2.1.toNat)
theorem TB{q:List ax}:∀(t:QT)(i:Nat),(vis q t i).length=t.size
 |.leaf _,_=>rfl
 |.neg t,_=>by rw[vis,aoO,TB t];rfl
 |.two _ a b,_=>by rw[vis,aoO,aoK,TB a,TB b];rfl
theorem LW{q:List ax}(h:ay q=true):∀(t:QT)(i:Nat),i<q.length->EL q t i->∀p∈vis q t i,p<=i
 |.leaf _,i,_,_,p,hp=>by rw[ao7.1 hp];exact aoP _
 |.neg t,i,hi,⟨e,ht⟩,p,hp=>by
  obtain⟨_,l1⟩:=(kM h hi).1 (.inl e);rcases aoU.1 hp with rfl|hp
  .exact aoP _
  .have:=LW h t _ (by omega) ht p hp;omega
 |.two op a b,i,hi,⟨e,c,ha,hb⟩,p,hp=>by
  have c2:iw (nodeAt q i)=true:=jY.2 (by rw[e];exact c);obtain⟨_,l1⟩:=(kM h hi).1 (.inr c2);obtain⟨_,m1⟩:=(kM h hi).2 c2;rcases aoU.1 hp with rfl|hp
  .exact aoP _
  rcases apc.1 hp with hp|hp
  .have:=LW h a _ (by omega) ha p hp;omega
  .have:=LW h b _ (by omega) hb p hp;omega
theorem SA{n:ax}(j:Nat)(c:n.1=1\/n.1=2\/n.1=3\/n.1=4\/n.1=8\/n.1=9):refsOf j n=0:=by unfold refsOf iw;rcases c with e|e|e|e|e|e<;>simp[e]
theorem WX{n:ax}(j:Nat)(c:n.1=5)(h0:0<=n.2.1):refsOf j n=if j=n.2.1.toNat then 1 else 0:=by
 unfold refsOf iw;by_cases e:j=n.2.1.toNat
 .have:n.2.1=(j:Int):=by omega
  simp[c,this]
 .have:(n.2.1==(j:Int))=false:=aoL.2 (by omega);simp[c,this,e]
theorem WY{n:ax}(j:Nat)(c:n.1=6\/n.1=7)(h0:0<=n.2.1)(h1:0<=n.2.2.1):refsOf j n=(if j=n.2.1.toNat then 1 else 0)+(if j=n.2.2.1.toNat then 1 else 0):=by
 unfold refsOf;rw[jY.2 c];have l:(n.2.1==(j:Int))=decide (j=n.2.1.toNat):=by rw[apn,apf,aoS];omega
 have r:(n.2.2.1==(j:Int))=decide (j=n.2.2.1.toNat):=by rw[apn,apf,aoS];omega
 rw[l,r];by_cases e1:j=n.2.1.toNat<;>by_cases e2:j=n.2.2.1.toNat<;>simp[e1,e2]
theorem Ec(j i:Nat)(l:List Nat):(i::l).count j=(if j=i then 1 else 0)+l.count j:=by
 rw[List.count_cons];by_cases e:j=i
 .subst e;simp;omega
 .rw[if_neg e,if_neg (by simpa usingλh=>e h.symm)];omega
theorem Oy{q:List ax}(h:ay q=true)(j:Nat):∀(t:QT)(i:Nat),i<q.length->EL q t i->(vis q t i).count j=(if j=i then 1 else 0)+((vis q t i).map λp=>refsOf j (nodeAt q p)).sum
 |.leaf n,i,_,ht=>by
  obtain⟨rfl,c⟩:=ht;rw[vis,Ec,ao3,apI,SA j c];simp
 |.neg t,i,hi,⟨e,ht⟩=>by
  obtain⟨l0,l1⟩:=(kM h hi).1 (.inl e);rw[vis,Ec,Oy h j t _ (by omega) ht,ao3,apI,WX j e l0]
 |.two op a b,i,hi,⟨e,c,ha,hb⟩=>by
  have c1:(nodeAt q i).1=6\/(nodeAt q i).1=7:=by rw[e];exact c
  have c2:iw (nodeAt q i)=true:=jY.2 c1;obtain⟨l0,l1⟩:=(kM h hi).1 (.inr c2);obtain⟨m0,m1⟩:=(kM h hi).2 c2;rw[vis,Ec,List.count_append,Oy h j a _ (by omega) ha,Oy h j b _ (by omega) hb,ao3,apI,apG,aqt,WY j c1 l0 m0];omega
theorem afl(f:Nat->Nat)(a:Nat):∀n,a<n->((List.range n).map λp=>(if p=a then 1 else 0)*f p).sum=f a
 |n+1,h=>by
  rw[aq8,apG,aqt,ao3,arA,apI,List.sum_nil];by_cases e:n=a
  .subst e;have z:∀m,m<=n->((List.range m).map λp=>(if p=n then 1 else 0)*f p).sum=0:=by
    intro m
    induction m with
    |zero=>intro _;rfl
    |succ m ih=>intro hm;rw[aq8,apG,aqt,ih (by omega),ao3,arA,apI,List.sum_nil,if_neg (by omega)];omega
   rw[z n (aoP _),if_pos rfl];omega
  .rw[afl f a n (by omega),if_neg e];omega
theorem sum_add(f g:Nat->Nat):∀l:List Nat,(l.map λp=>f p+g p).sum=(l.map f).sum+(l.map g).sum
 |[]=>rfl
 |a::l=>by rw[ao3,apI,sum_add f g l,ao3,apI,ao3,apI];omega
theorem SB(f:Nat->Nat)(n:Nat):∀l:List Nat,(∀p∈l,p<n)->(l.map f).sum=((List.range n).map λp=>l.count p*f p).sum
 |[],_=>by
  have:∀r:List Nat,(r.map λp=>([]:List Nat).count p*f p).sum=0:=by
   intro r
   induction r with
   |nil=>rfl
   |cons a r ih=>rw[ao3,apI,ih];simp
  rw[this];rfl
 |a::l,h=>by
  have e:(λp=>(a::l).count p*f p)=λp=>(if p=a then 1 else 0)*f p+l.count p*f p:=by
   funext p
   rw[Ec,apq]
  rw[e,sum_add,afl f a n (h a aoT),ao3,apI,SB f n l λp hp=>h p (aoR _ hp)]
theorem map_range(g:ax->Nat)(q:List ax):q.map g=(List.range q.length).map λp=>g (nodeAt q p):=by refine aq1 (by simp) λi h1 h2=>?_;rw[ao0]at h1;rw[ark,ark,List.getElem_range];unfold nodeAt;rw[aoN,aoQ h1];rfl
theorem Oz{f g:Nat->Nat}:∀l:List Nat,(∀p∈l,f p=g p)->(l.map f).sum=(l.map g).sum
 |[],_=>rfl
 |a::l,h=>by rw[ao3,apI,ao3,apI,h a aoT,Oz l λp hp=>h p (aoR _ hp)]
theorem aaR{q:List ax}(h:ay q=true){p j:Nat}(hp:p<q.length)(hj:p<=j):refsOf j (nodeAt q p)=0:=by
 obtain⟨g1,g2⟩:=kM h hp;rcases Jb (jg h hp).1 with c|c|c
 .exact SA j c
 .obtain⟨l0,l1⟩:=g1 (.inl c);rw[WX j c l0,if_neg (by omega)]
 .obtain⟨l0,l1⟩:=g1 (.inr (jY.2 c));obtain⟨m0,m1⟩:=g2 (jY.2 c);rw[WY j c l0 m0,if_neg (by omega),if_neg (by omega)]
theorem count_one{q:List ax}(h:ay q=true){t:QT}(ht:EL q t (q.length-1)):∀(m j:Nat),j<q.length->q.length-1-j=m->(vis q t (q.length-1)).count j=1:=by
 intro m;have hl:=fG h
 induction m using Nat.strongRecOn with
 |_ m ih=>
  intro j hj hm;rw[Oy h j t _ (by omega) ht,SB _ q.length _ λp hp=>by have:=LW h t _ (by omega) ht p hp;omega];have e:((List.range q.length).map λp=>(vis q t (q.length-1)).count p*refsOf j (nodeAt q p)).sum=((List.range q.length).map λp=>refsOf j (nodeAt q p)).sum:=by
   refine Oz _ λp hp=>?_;have hp:=apw.1 hp;rcases apa j p with g|g
   .rw[ih (q.length-1-p) (by omega) p hp rfl,arj]
   .rw[aaR h hp g,Nat.mul_zero]
  rw[e];by_cases c:j=q.length-1
  .rw[if_pos c];have z:((List.range q.length).map λp=>refsOf j (nodeAt q p)).sum=((List.range q.length).map λ_=>0).sum:=Oz _ λp hp=>aaR h (apw.1 hp) (by have:=apw.1 hp;omega);rw[z];have:∀r:List Nat,(r.map λ_=>0).sum=0:=by
    intro r
    induction r with
    |nil=>rfl
    |cons a r ih=>rw[ao3,apI,ih]
   rw[this]
  .rw[if_neg c];have:=(jg h hj).2 (by omega);unfold fK at this;rw[map_range]at this;rw[this]
theorem aik{q:List ax}(h:ay q=true){t:QT}(ht:EL q t (q.length-1)):t.size=q.length:=by
 have hl:=fG h;have e:=SB (λ_=>1) q.length (vis q t (q.length-1)) λp hp=>by have:=LW h t _ (by omega) ht p hp;omega
 have ones:∀r:List Nat,(r.map λ_=>1).sum=r.length:=by
  intro r
  induction r with
  |nil=>rfl
  |cons a r ih=>rw[ao3,apI,ih,aoO];omega
 rw[ones,TB,Oz (g:=λ_=>1) _ λp hp=>by rw[count_one h ht _ p (apw.1 hp) rfl],ones,List.length_range]at e;exact e
theorem J5{l r:List ax}{i:Nat}(h:i<l.length):nodeAt (l++r) i=nodeAt l i:=by unfold nodeAt;rw[aoN,apt h,← aoN]
theorem H7{l r:List ax}{i:Nat}(h:l.length<=i):nodeAt (l++r) i=nodeAt r (i-l.length):=by unfold nodeAt;rw[aoN,apk h,← aoN]
theorem alB{l a:Int}(h0:0<=l)(h1:l<=a-1):dM (5,l,0,[],0,0,[],()) a=true:=by
 have h2:0<a:=by omega
 unfold dM;simp[h0,h1,h2]
theorem ok_two{op l r a:Int}(c:op=6\/op=7)(h0:0<=l)(h1:l<=a-1)(g0:0<=r)(g1:r<=a-1):dM (op,l,r,[],0,0,[],()) a=true:=by
 have h2:0<a:=by omega
 unfold dM;rcases c with rfl|rfl<;>simp[h0,h1,h2,g0,g1]
theorem TD:∀(t:QT)(b i:Nat),xg t->Ad t->i<t.size->dM (nodeAt (post t b) i) ((b+i:Nat):Int)=true
 |.leaf n,b,i,hw,ho,hi=>by
  have hi:i<1:=hi;obtain rfl:i=0:=by omega
  show dM n _=true;rw[Ea _ hw];exact ho
 |.neg t,b,i,hw,ho,hi=>by
  have hi:i<t.size+1:=hi;have hp:=eH t b;have hs:=size_pos t;rw[post];rcases apa i t.size with g|g
  .rw[J5 (by omega)];exact TD t b i hw ho g
  .rw[H7 (by omega),hp,show i-t.size=0 by omega];exact alB (by omega) (by omega)
 |.two op x y,b,i,⟨c,w1,w2⟩,⟨o1,o2⟩,hi=>by
  have hi:i<x.size+y.size+1:=hi;have hp:=eH x b;have hp2:=eH y (b+x.size);have hs:=size_pos x;have hs2:=size_pos y;rw[post];rcases apa i x.size with g|g
  .rw[J5 (by omega)];exact TD x b i w1 o1 g
  .rw[H7 (by omega),hp];rcases apa (i-x.size) y.size with g2|g2
   .rw[J5 (by omega)];have:=TD y (b+x.size) (i-x.size) w2 o2 g2
    rwa [show b+x.size+(i-x.size)=b+i by omega]at this
   .rw[H7 (by omega),hp2,show i-x.size-y.size=0 by omega];exact ok_two c (by omega) (by omega) (by omega) (by omega)
theorem Jk:∀(t:QT)(b j:Nat),xg t->fK (post t b) j=if b<=j/\j+1<b+t.size then 1 else 0
 |.leaf n,b,j,hw=>by
  have:fK (post (.leaf n) b) j=refsOf j n+0:=rfl;rw[this,SA j hw,if_neg (by show ¬(b<=j/\j+1<b+1);omega)]
 |.neg t,b,j,hw=>by
  have hs:=size_pos t;have e:fK (post (.neg t) b) j=fK (post t b) j+(refsOf j (5,((b+t.size:Nat):Int)-1,0,[],0,0,[],())+0):=by unfold fK;rw[post,apG,aqt];rfl
  rw[e,Jk t b j hw,WX j rfl (by show 0<=((b+t.size:Nat):Int)-1;omega)];have e2:(((b+t.size:Nat):Int)-1).toNat=b+t.size-1:=by omega
  show _+((if j=(((b+t.size:Nat):Int)-1).toNat then 1 else 0)+0)=if b<=j/\j+1<b+(t.size+1)then 1 else 0
  rw[e2];split<;>split<;>split<;>omega
 |.two op x y,b,j,⟨c,w1,w2⟩=>by
  have hs:=size_pos x;have hs2:=size_pos y;have e:fK (post (.two op x y) b) j=fK (post x b) j+(fK (post y (b+x.size)) j+(refsOf j (op,((b+x.size:Nat):Int)-1,((b+x.size+y.size:Nat):Int)-1,[],0,0,[],())+0)):=by unfold fK;rw[post,apG,aqt,apG,aqt];rfl
  rw[e,Jk x b j w1,Jk y _ j w2,WY j c (by show 0<=((b+x.size:Nat):Int)-1;omega) (by show 0<=((b+x.size+y.size:Nat):Int)-1;omega)];have e2:(((b+x.size:Nat):Int)-1).toNat=b+x.size-1:=by omega
  have e3:(((b+x.size+y.size:Nat):Int)-1).toNat=b+x.size+y.size-1:=by omega
  show _+(_+((if j=(((b+x.size:Nat):Int)-1).toNat then 1 else 0)+(if j=(((b+x.size+y.size:Nat):Int)-1).toNat then 1 else 0)+0))=if b<=j/\j+1<b+(x.size+y.size+1)then 1 else 0
  rw[e2,e3];split<;>split<;>split<;>split<;>split<;>omega
theorem adS{t:QT}(hw:xg t)(ho:Ad t)(hs:t.size<=9):ay (post t 0)=true:=by
 have hp:=size_pos t;unfold ay;rw[eH,aoJ,aoJ,aoS,aoS];refine⟨?_,by omega,by omega⟩;unfold iI;rw[ao4];intro i hi;have hi:=apw.1 hi;have h1:=TD t 0 i hw ho hi;rw[apg]at h1;unfold jI;rw[h1,aqC,eH,Jk t 0 i hw];by_cases c:(i:Int)<(t.size:Int)-1
 .rw[if_pos (by omega)];simp
 .rw[ao1 c];rfl
theorem OA:∀(t:QT)(l r:List ax),xg t->EL (l++(post t l.length++r)) t (l.length+t.size-1)
 |.leaf n,l,r,hw=>by
  refine⟨?_,hw⟩;show nodeAt (l++(n::r)) l.length=n;exact zq l r n
 |.neg t,l,r,hw=>by
  have hs:=size_pos t;have e:l++(post (.neg t) l.length++r)=l++(post t l.length++(((5,((l.length+t.size:Nat):Int)-1,0,[],0,0,[],()):ax)::r)):=by show l++((post t l.length++[_])++r)=_;rw[aoX];rfl
  have en:nodeAt (l++(post (.neg t) l.length++r)) (l.length+t.size)=(5,((l.length+t.size:Nat):Int)-1,0,[],0,0,[],()):=by rw[e,← aoX,show l.length+t.size=(l++post t l.length).length by rw[aoK,eH]];exact zq _ _ _
  have ei:l.length+(QT.neg t).size-1=l.length+t.size:=by show l.length+(t.size+1)-1=_;omega
  have ih:=OA t l ((5,((l.length+t.size:Nat):Int)-1,0,[],0,0,[],())::r) hw;rw[← e]at ih;rw[ei];refine⟨by rw[en],?_⟩;rw[en];show EL _ t (((l.length+t.size:Nat):Int)-1).toNat;rw[show(((l.length+t.size:Nat):Int)-1).toNat=l.length+t.size-1 by omega];exact ih
 |.two op x y,l,r,⟨c,w1,w2⟩=>by
  have hs:=size_pos x;have hs2:=size_pos y;generalize hn:((op,((l.length+x.size:Nat):Int)-1,((l.length+x.size+y.size:Nat):Int)-1,[],0,0,[],()):ax)=N;have e:l++(post (.two op x y) l.length++r)=l++(post x l.length++(post y (l.length+x.size)++(N::r))):=by show l++((post x l.length++(post y (l.length+x.size)++[_]))++r)=_;rw[hn,aoX,aoX];rfl
  have i1:=OA x l (post y (l.length+x.size)++(N::r)) w1;have i2:=OA y (l++post x l.length) (N::r) w2;rw[aoK,eH,aoX]at i2;rw[← e]at i1 i2;have en:nodeAt (l++(post (.two op x y) l.length++r)) (l.length+x.size+y.size)=N:=by rw[e,← aoX,← aoX,show l.length+x.size+y.size=((l++post x l.length)++post y (l.length+x.size)).length by rw[aoK,aoK,eH,eH]];exact zq _ _ _
  have ei:l.length+(QT.two op x y).size-1=l.length+x.size+y.size:=by show l.length+(x.size+y.size+1)-1=_;omega
  rw[ei];refine⟨by rw[en,← hn],c,?_,?_⟩
  .rw[en,← hn];show EL _ x (((l.length+x.size:Nat):Int)-1).toNat;rw[show(((l.length+x.size:Nat):Int)-1).toNat=l.length+x.size-1 by omega];exact i1
  .rw[en,← hn];show EL _ y (((l.length+x.size+y.size:Nat):Int)-1).toNat;rw[show(((l.length+x.size+y.size:Nat):Int)-1).toNat=l.length+x.size+y.size-1 by omega];exact i2
def tD:QT->Bool->List (Bool×Bytes)
 |.leaf n,p=>bif nI n then[(p,n.2.2.2.1)]else[]
 |.neg t,_=>tD t true
 |.two _ a b,p=>tD a p++tD b p
theorem adT{n:ax}(c:n.1=5\/n.1=6\/n.1=7):nI n=false:=by unfold nI;rcases c with e|e|e<;>rw[e]<;>rfl
theorem YM{q:List ax}(h:ay q=true)(x:Bool×Bytes):∀(t:QT)(i:Nat),i<q.length->EL q t i->(x∈tD t (qi q i)↔∃p∈vis q t i,nI (nodeAt q p)=true/\x=(qi q p,(nodeAt q p).2.2.2.1))
 |.leaf n,i,hi,⟨e,c⟩=>by
  subst e;rw[tD];cases hn:nI (nodeAt q i)with
  |true=>exact⟨λhx=>⟨i,aoT,hn,ao7.1 hx⟩,λ⟨p,hp,_,e⟩=>by rw[ao7.1 hp]at e;rw[e];exact aoT⟩
  |false=>exact⟨λhx=>(List.not_mem_nil hx).elim,λ⟨p,hp,e,_⟩=>by rw[ao7.1 hp,hn]at e;cases e⟩
 |.neg t,i,hi,⟨e,ht⟩=>by
  obtain⟨l0,l1⟩:=(kM h hi).1 (.inl e);have ih:=YM h x t _ (by omega) ht;rw[(Ol h hi).1 e]at ih;rw[tD,vis,ih];refine⟨λ⟨p,hp,r⟩=>⟨p,aoR _ hp,r⟩,λ⟨p,hp,r⟩=>?_⟩;rcases aoU.1 hp with rfl|hp
  .rw[adT (.inl e)]at r;cases r.1
  .exact⟨p,hp,r⟩
 |.two op a b,i,hi,⟨e,c,ha,hb⟩=>by
  have c1:(nodeAt q i).1=6\/(nodeAt q i).1=7:=by rw[e];exact c
  have c2:iw (nodeAt q i)=true:=jY.2 c1;obtain⟨l0,l1⟩:=(kM h hi).1 (.inr c2);obtain⟨m0,m1⟩:=(kM h hi).2 c2;obtain⟨n1,n2⟩:=(Ol h hi).2 c2;have i1:=YM h x a _ (by omega) ha;have i2:=YM h x b _ (by omega) hb;rw[n1]at i1;rw[n2]at i2;rw[tD,vis,apc,i1,i2];refine⟨λhx=>?_,λ⟨p,hp,r⟩=>?_⟩
  .rcases hx with⟨p,hp,r⟩|⟨p,hp,r⟩
   .exact⟨p,aoR _ (apx _ hp),r⟩
   .exact⟨p,aoR _ (apT _ hp),r⟩
  .rcases aoU.1 hp with rfl|hp
   .rw[adT (.inr c1)]at r;cases r.1
   rcases apc.1 hp with hp|hp
   .exact .inl ⟨p,hp,r⟩
   .exact .inr ⟨p,hp,r⟩
theorem aaS{q:List ax}(h:ay q=true){t:QT}(ht:EL q t (q.length-1))(s:Bytes)(b:Bool):s∈dI q b↔(b,s)∈tD t false:=by
 have hl:=fG h;have hn:(negated q).length=q.length:=by unfold negated;rw[h];show(gQ _ _ _).length=_;rw[xG];simp
 have key:=YM h (b,s) t (q.length-1) (by omega) ht;rw[YB h]at key;rw[key];constructor
 .intro hs;unfold dI at hs;rw[aqn]at hs;obtain⟨i,hi,e⟩:=hs;have hi:i<q.length:=by rw[hn]at hi;exact apw.1 hi
  cases hc:nI (nodeAt q i)&&((negated q).getD i (false,())).1==b with
  |false=>rw[hc]at e;cases e
  |true=>rw[hc]at e;rw[aoJ]at hc;have e:(nodeAt q i).2.2.2.1=s:=Option.some.inj e;have hb:qi q i=b:=apf.1 hc.2;refine⟨i,List.count_pos_iff.1 (by rw[count_one h ht _ i hi rfl];decide),hc.1,by rw[hb,e]⟩
 .rintro⟨p,hp,hd,e⟩;have hp:p<q.length:=by have:=LW h t _ (by omega) ht p hp;omega
  have:=WU h hp hd;rw[show b=qi q p from congrArg (·.1) e,show s=(nodeAt q p).2.2.2.1 from congrArg (·.2) e];exact this
theorem Dc{q:List ax}(h:ay q=true):∃t,xg t/\Ad t/\t.size=q.length/\textOf q=Lib.join (aK t) [32]/\iP (textOf q)=true/\gY (textOf q)=post t 0/\ay (post t 0)=true/\∀s b,s∈dI (post t 0) b↔s∈dI q b:=by
 have hl:=fG h;obtain⟨t,ht⟩:=akP h (q.length-1) (by omega);have hw:=YK t _ ht;have ho:=YL h t _ (by omega) ht;have hz:=aik h ht;have hq:=adS hw ho (by omega);have hx:=Ox h t (q.length-1) 9 (by omega) (by omega) ht;have e:textOf q=Lib.join (aK t) [32]:=by unfold textOf;rw[h,show((q.length:Int)-1)=((q.length-1:Nat):Int) by omega,hx];rfl
 obtain⟨n1,n2⟩:=yT t hw ho;obtain⟨g1,g2⟩:=YH (Af t hw ho) (aoW (aoW (EJ _) n2) (by omega)) (by omega);have hp:iP (textOf q)=true:=(YF _).2 ⟨by rw[e];exact g1,t,hw,hq,by rw[e];exact g2⟩;have ep:gY (textOf q)=post t 0:=by rw[(YG hp).2.1,adN hw hq (by rw[e];exact g2)]
 refine⟨t,hw,ho,hz,e,hp,ep,hq,λs b=>?_⟩;have hi:=OA t [] [] hw;rw[ape,apD,ao5,apg]at hi;rw[aaS h ht,aaS hq (t:=t) (by rw[eH];exact hi)]
end Sp
namespace Sp
open Go
abbrev Ed:=Bool×List bT×Unit
def H8:Ed:=(false,[],())
def alC(l:List bT)(x:bT):Bool:=l.any λy=>y.1==x.1
def alD(l:List bT)(x:bT):Bool:=l.any λy=>y.1==x.1&&!decide (y.2=x.2)
def ail(name:Bytes)(y:bT):Bool:=Op.bytesLess y.1 name
def anO(l:List bT)(x:bT):List bT:=l.takeWhile (ail x.1)++x::l.dropWhile (ail x.1)
def adU(a:List bT):List bT->List bT->Option (List bT)
 |acc,[]=>some acc
 |acc,x::r=>bif alD a x then none else bif alC a x then adU a acc r else adU a (anO acc x) r
def amG:Option (List bT)->Ed
 |some l=>(true,l,())
 |none=>H8
def alE(a b:Ed):Ed:=bif a.1&&b.1 then amG (adU a.2.1 a.2.1 b.2.1)else H8
def anP(a b:Ed):Ed:=bif a.1==b.1 then H8 else bif a.1 then a else b
def LX(q:List ax)(f:aT)(X:BX)(a:Nat)(m:Bool):Ed:=
 if val q f X a=m then(true,[],())
 else if(nodeAt q a).1=5 then(if h:(nodeAt q a).2.1.toNat<a then LX q f X (nodeAt q a).2.1.toNat (!m)else H8)
 else if iw (nodeAt q a)=true then(if h:(nodeAt q a).2.1.toNat<a/\(nodeAt q a).2.2.1.toNat<a then
  (bif ((nodeAt q a).1==6)==m then alE (LX q f X (nodeAt q a).2.1.toNat m) (LX q f X (nodeAt q a).2.2.1.toNat m)
   else anP (LX q f X (nodeAt q a).2.1.toNat m) (LX q f X (nodeAt q a).2.2.1.toNat m))else H8)
 else if(nodeAt q a).1=3/\m=true then(true,[((nodeAt q a).2.2.2.1,(nodeAt q a).2.2.2.2.1,(nodeAt q a).2.2.2.2.2.1,(nodeAt q a).2.2.2.2.2.2.1,())],())
 else if(nodeAt q a).1=2/\m=false then(true,[((nodeAt q a).2.2.2.1,0,0,[],())],())
 else H8
termination_by a
decreasing_by all_goals omega
end Sp
namespace Sp
open Go
def alF(a l:List bT):List bT:=l.foldl (λa x=>oO a x.1 x.2.1 x.2.2.1 x.2.2.2.1) a
def aim(l:List bT)(i:Nat):List bT:=l.take i++l.drop (i+1)
def edited(f:aT)(l:List bT):aT:=(f.1,f.2.1,f.2.2.1,f.2.2.2.1,alF f.2.2.2.2.1 l,())
theorem adV{fs:List dH}{f:aT}(h:cZ fs f=true):nY fs f.2.2.2.2.1=true:=by unfold cZ at h;simp only[aoJ]at h;exact h.1.1.1.1
end Sp
namespace Sp
open Go
theorem adW{s:gI}:eF s=true↔(∀f∈s.2.1,cZ s.1 f=true/\f.1<s.2.2.1)/\(s.2.1.Pairwise λf g=>f.1<g.1)/\dP s.1=true/\s.2.1.length<=12/\1<=s.2.2.1/\s.2.2.1<=61:=by
 have at_:∀i(hi:i<s.2.1.length),fileAt s.2.1 i=s.2.1[i]:=λi hi=>by unfold fileAt;rw[aoN,aoQ hi];rfl
 constructor
 .intro h;obtain⟨h1,h2,h3,h4,h5⟩:=uf.1 h;refine⟨λf hf=>?_,?_,h2,h3,h4,h5⟩
  .obtain⟨i,hi,rfl⟩:=agE hf;obtain⟨k1,k2,_⟩:=vU.1 (h1 i hi);exact⟨k1,k2⟩
  .refine aqE.2 λi j hi hj hij=>?_;have:=aia h j i hij hj
   rwa [at_ i hi,at_ j hj]at this
 .rintro⟨h1,h2,h3⟩;refine uf.2 ⟨λi hi=>vU.2 ⟨(h1 _ (YC hi)).1,(h1 _ (YC hi)).2,λh0=>?_⟩,h3⟩;rw[at_ i hi,at_ (i-1) (by omega)];exact aqE.1 h2 (i-1) i (by omega) hi (by omega)
open Classical in
noncomputable def ain (fs:List aT) (d:List bf):List uo:=if h:∃out,ajY fs d [] (λ_=>true) out then h.choose else[]
noncomputable def akQ (s:gI) (d:List bf) (u:Int) (name:Bytes):List (Int×Unit):=Sj (ain (visible s u).2.1 d) name
noncomputable def listed (s:gI) (d:List bf) (u:Int) (name:Bytes) (id:Int):Bool:=abK (akQ s d u name) id
def afm(d:List bf)(name:Bytes):bf×Bool:=bif decide (aB d name<0)then(([],[],()),false)else(bQ d (aB d name).toNat,true)
def alG(s:gI)(u id:Int):aT:=(Og (visible s u) id).1
def amH(q:List ax)(f:aT)(X:BX)(m:Bool):Ed:=bif ay q then LX q f X (q.length-1) m else H8
noncomputable def agN (c:DT) (u:Int) (name:Bytes) (id:Int) (b:Bool):Ed:=
 amH (afm (FY c) name).1.2.1 (alG (EG c) u id) (Oi (ain (visible (EG c) u).2.1 (FY c))) b
def adX(c:DT)(id:Int)(l:List bT):gI×Bool:=aeB (EG c) (edited (Og (EG c) id).1 l)
noncomputable def needed (c:DT) (u:Int) (name:Bytes) (id:Int) (b:Bool) (l:List bT) (i:Nat):Bool:=
 (adX c id (aim l i)).2&&!(listed (adX c id (aim l i)).1 (FY c) u name id==b)
noncomputable def alH (c:DT) (u:Int) (name:Bytes) (id:Int) (b:Bool) (w:Ed):Bool:=
 w.1&&((adX c id w.2.1).2&&((listed (adX c id w.2.1).1 (FY c) u name id==b)&&iI w.2.1.length (needed c u name id b w.2.1)))
noncomputable def anQ (c:DT) (u:Int) (name:Bytes) (id:Int) (b:Bool):Bool:=
 (ajZ c&&(ajl c u id&&(afm (FY c) name).2))&&alH c u name id b (agN c u name id b)
def written(c:DT)(u:Int)(name:Bytes)(id:Int)(b:Bool)(c':DT)(set:List bT)(ok:Bool):Prop:=
 ok=anQ c u name id b/\(ok=true->EG c'=(adX c id (agN c u name id b).2.1).1/\FY c'=FY c/\ajZ c'=true/\set=(agN c u name id b).2.1)/\(ok=false->c'=c/\set=[])
end Sp
namespace Sp
open Go
def iJ:Bytes:=[102,105,101,108,100]
def tN:Bytes:=[110,101,120,116]
def jQ:Bytes:=[100,105,114]
def Jg:Bytes:=[105,110,116]
def pz:Bytes:=[115,116,114,105,110,103]
def cu(f:dH):Bytes:=bif !bZ f.1 then[]else bif f.2.1==1 then iJ++32::(f.1++32::Jg)else bif f.2.1==2 then iJ++32::(f.1++32::pz)else[]
def iE(n:Int):Bytes:=tN++32::Lib.itoa n
def iq(d:bf):Bytes:=jQ++32::(d.1++32::textOf d.2.1)
def jr(x:aQ):List Bytes:=x.1.map cu++(iE x.2.2.1::(x.2.1.map eG++x.2.2.2.1.map iq))
noncomputable def enc (x:aQ):LS:=bif bK x then ls (jr x)else[]
def dw:aQ:=([],[],0,[],())
def jP(x:aQ)(w:LS):aQ×Bool:=
 bif wordAt w 0==iJ&&decide ((w.length:Int)=3)then((x.1++[(wordAt w 1,(bif wordAt w 2==pz then 2 else 1),())],x.2.1,x.2.2.1,x.2.2.2.1,()),true)
 else bif wordAt w 0==tN&&decide ((w.length:Int)=2)then((x.1,x.2.1,parseNum (wordAt w 1),x.2.2.2.1,()),aU (wordAt w 1))
 else bif wordAt w 0==lK then((x.1,x.2.1++[(iQ (w.drop 1)).1],x.2.2.1,x.2.2.2.1,()),(iQ (w.drop 1)).2)
 else bif wordAt w 0==jQ&&decide (2<(w.length:Int))then((x.1,x.2.1,x.2.2.1,x.2.2.2.1++[(wordAt w 1,gY (kT (w.drop 2)),())],()),iP (kT (w.drop 2)))
 else(x,false)
def fD:aQ->LS->aQ×Bool
 |x,[]=>(x,true)
 |x,l::r=>bif (jP x (pieces 32 l.1)).2 then fD (jP x (pieces 32 l.1)).1 r else((jP x (pieces 32 l.1)).1,false)
noncomputable def ac3 (l:LS):aQ×Bool:=bif (fD dw l).2&&(bK (fD dw l).1&&decide (enc (fD dw l).1=l))then((fD dw l).1,true)else(dw,false)
def Jl(x:aQ)(w:LS):aQ:=
 bif wordAt w 0==iJ then(x.1++[(wordAt w 1,(bif wordAt w 2==Jg then 1 else 2),())],x.2.1,x.2.2.1,x.2.2.2.1,())
 else bif wordAt w 0==tN then(x.1,x.2.1,numAt w 1,x.2.2.2.1,())
 else bif wordAt w 0==lK then(x.1,x.2.1++[D6 (numAt w 1) (w.drop 2)],x.2.2.1,x.2.2.2.1,())
 else bif wordAt w 0==jQ then(x.1,x.2.1,x.2.2.1,x.2.2.2.1++[(wordAt w 1,(bif decide (2<(w.length:Int))then gY (kT (w.drop 2))else[]),())],())
 else x
def kR:aQ->LS->aQ
 |x,[]=>x
 |x,l::r=>kR (Jl x (ni l.1)) r
noncomputable def dec (l:LS):aQ×Bool:=bif bK (kR dw l)&&decide (enc (kR dw l)=l)then(kR dw l,true)else(dw,false)
def qY(d:bf):bf:=(d.1,gY (textOf d.2.1),())
def norm(x:aQ):aQ:=(x.1,x.2.1,x.2.2.1,x.2.2.2.1.map qY,())
theorem Df{ws:List Bytes}(h:∀x∈ws,fine x)(hl:oN ws<=600)(hc:ws.length<=24)(h0:ws≠[]):ni (Lib.join ws [32])=ls ws/\pieces 32 (Lib.join ws [32])=ls ws/\(Lib.join ws [32]).length<=600:=by have hb:=aoW (EJ ws) hl;obtain⟨g1,g2⟩:=YH h hb hc;refine⟨by unfold ni;rw[g1,g2];rfl,Vg ws h0 λw hw x hx e=>?_,hb⟩;have:=(h w hw).1.2 x hx;rw[e]at this;exact absurd this (by decide)
theorem aio{s:Bytes}(h:bZ s=true):fine s:=qj (jL h)
theorem WO{s:Bytes}(h:bZ s=true):s.length<=1:=by unfold bZ at h;simp only[aoJ,aoS]at h;omega
theorem SC(x y z:Bytes):x++32::(y++32::z)=Lib.join [x,y,z] [32]:=(Yh x y z).symm
theorem YN{f:dH}(h1:bZ f.1=true)(h2:f.2.1=1\/f.2.1=2)(x:aQ):
 jP x (pieces 32 (cu f))=((x.1++[f],x.2.1,x.2.2.1,x.2.2.2.1,()),true)/\Jl x (ni (cu f))=(x.1++[f],x.2.1,x.2.2.1,x.2.2.2.1,())/\(cu f).length<=600/\(∃ws:List Bytes,cu f=Lib.join ws [32]/\∀w∈ws,fine w):=by
 obtain⟨nm,k,⟨⟩⟩:=f;have hk:nm.length<=1:=WO h1;dsimp only at h1 h2;have hf:fine iJ:=⟨⟨by decide,by decide⟩,by decide⟩;have hn:=aio h1;rcases h2 with rfl|rfl
 .have e:cu (nm,1,())=Lib.join [iJ,nm,Jg] [32]:=by unfold cu;rw[h1,← SC];rfl
  have hi:fine Jg:=⟨⟨by decide,by decide⟩,by decide⟩;have all:∀w∈[iJ,nm,Jg],fine w:=λw hw=>by
   rcases aoU.1 hw with rfl|hw
   .exact hf
   rcases aoU.1 hw with rfl|hw
   .exact hn
   .rw[ao7.1 hw];exact hi
  obtain⟨a,b,c⟩:=Df all (by rw[eU,eU,eU];show 5+1+(nm.length+1+(3+1+0))<=600;omega) (by show 3<=24;omega) (by simp);rw[e,a,b];exact⟨rfl,rfl,c,_,rfl,all⟩
 .have e:cu (nm,2,())=Lib.join [iJ,nm,pz] [32]:=by unfold cu;rw[h1,← SC];rfl
  have hi:fine pz:=⟨⟨by decide,by decide⟩,by decide⟩;have all:∀w∈[iJ,nm,pz],fine w:=λw hw=>by
   rcases aoU.1 hw with rfl|hw
   .exact hf
   rcases aoU.1 hw with rfl|hw
   .exact hn
   .rw[ao7.1 hw];exact hi
  obtain⟨a,b,c⟩:=Df all (by rw[eU,eU,eU];show 5+1+(nm.length+1+(6+1+0))<=600;omega) (by show 3<=24;omega) (by simp);rw[e,a,b];exact⟨rfl,rfl,c,_,rfl,all⟩
theorem aaT{n:Int}(h:dO n=true)(x:aQ):
 jP x (pieces 32 (iE n))=((x.1,x.2.1,n,x.2.2.2.1,()),true)/\Jl x (ni (iE n))=(x.1,x.2.1,n,x.2.2.2.1,())/\(iE n).length<=600/\(∃ws:List Bytes,iE n=Lib.join ws [32]/\∀w∈ws,fine w):=by
 have e:iE n=Lib.join [tN,Lib.itoa n] [32]:=by rw[NQ];rfl
 have all:∀w∈[tN,Lib.itoa n],fine w:=λw hw=>by
  rcases aoU.1 hw with rfl|hw
  .exact⟨⟨by decide,by decide⟩,by decide⟩
  .rw[ao7.1 hw];exact EH h
 have hl:=(fU h).2.2.2.2;obtain⟨a,b,c⟩:=Df all (by rw[eU,eU];show 4+1+((Lib.itoa n).length+1+0)<=600;omega) (by show 2<=24;omega) (by simp);obtain⟨p1,p2⟩:=nJ h;rw[e,a,b];refine⟨?_,?_,c,_,rfl,all⟩
 .show((x.1,x.2.1,parseNum (Lib.itoa n),x.2.2.2.1,()),aU (Lib.itoa n))=_;rw[p1,p2]
 .show(x.1,x.2.1,parseNum (Lib.itoa n),x.2.2.2.1,())=_;rw[p2]
theorem aaU{f:aT}(h:yS f=true)(ha:f.2.2.2.2.1.length<=5)(x:aQ):
 jP x (pieces 32 (eG f))=((x.1,x.2.1++[f],x.2.2.1,x.2.2.2.1,()),true)/\Jl x (ni (eG f))=(x.1,x.2.1++[f],x.2.2.1,x.2.2.2.1,())/\(eG f).length<=600/\(∃ws:List Bytes,eG f=Lib.join ws [32]/\∀w∈ws,fine w):=by
 have hid:=(tK.1 h).2.1;have hl:=(fU hid).2.2.2.2;obtain⟨b1,b2⟩:=aij h;have all:∀w∈lK::Lib.itoa f.1::iT f,fine w:=λw hw=>by
  rcases aoU.1 hw with rfl|hw
  .exact⟨⟨by decide,by decide⟩,by decide⟩
  rcases aoU.1 hw with rfl|hw
  .exact EH hid
  .exact aif h w hw
 obtain⟨a,b,c⟩:=Df all (by rw[eU,eU];show 4+1+_<=600;omega) (by rw[aoO,aoO,b2];omega) (by simp);have e:eG f=Lib.join (lK::Lib.itoa f.1::iT f) [32]:=rfl;rw[e,a,b];refine⟨?_,?_,c,_,rfl,all⟩
 .show((x.1,x.2.1++[(iQ ((Lib.itoa f.1,())::ls (iT f))).1],x.2.2.1,x.2.2.2.1,()),(iQ ((Lib.itoa f.1,())::ls (iT f))).2)=_;rw[agM h]
 .show(x.1,x.2.1++[D6 (parseNum (Lib.itoa f.1)) (ls (iT f))],x.2.2.1,x.2.2.2.1,())=_;rw[(nJ hid).2,aaQ h]
theorem adY{d:bf}(h1:aS d.1=true)(h2:ay d.2.1=true)(x:aQ):
 jP x (pieces 32 (iq d))=((x.1,x.2.1,x.2.2.1,x.2.2.2.1++[qY d],()),true)/\Jl x (ni (iq d))=(x.1,x.2.1,x.2.2.1,x.2.2.2.1++[qY d],())/\(iq d).length<=600/\(∃ws:List Bytes,iq d=Lib.join ws [32]/\∀w∈ws,fine w):=by
 obtain⟨t,hw,ho,hz,ht,hp,hq,_,_⟩:=Dc h2;obtain⟨n1,n2⟩:=yT t hw ho;obtain⟨x0,r0,ew,_⟩:=adM t;have hl9:=(fG h2).2;have hv:=oh h1;have e:iq d=Lib.join (jQ::d.1::aK t) [32]:=by unfold iq;rw[ht,ew,iZ,iZ]
 have all:∀w∈jQ::d.1::aK t,fine w:=λw hw2=>by
  rcases aoU.1 hw2 with rfl|hw2
  .exact⟨⟨by decide,by decide⟩,by decide⟩
  rcases aoU.1 hw2 with rfl|hw2
  .exact qj h1
  .exact Af t hw ho w hw2
 obtain⟨a,b,c⟩:=Df all (by rw[eU,eU];show 3+1+_<=600;omega) (by rw[aoO,aoO];omega) (by simp);have ej:kT ((ls (jQ::d.1::aK t)).drop 2)=textOf d.2.1:=by rw[ht];show kT (ls (aK t))=_;unfold kT;rw[ahU]
 have hlen:2<((ls (jQ::d.1::aK t)).length:Int):=by unfold ls;rw[ao0,ew,aoO,aoO,aoO];omega
 rw[e,a,b];refine⟨?_,?_,c,_,rfl,all⟩
 .have:jP x (ls (jQ::d.1::aK t))=bif decide (2<((ls (jQ::d.1::aK t)).length:Int))then((x.1,x.2.1,x.2.2.1,x.2.2.2.1++[(d.1,gY (kT ((ls (jQ::d.1::aK t)).drop 2)),())],()),iP (kT ((ls (jQ::d.1::aK t)).drop 2)))else(x,false):=rfl
  rw[this,ej,aoZ hlen,hp];rfl
 .have:Jl x (ls (jQ::d.1::aK t))=(x.1,x.2.1,x.2.2.1,x.2.2.2.1++[(d.1,(bif decide (2<((ls (jQ::d.1::aK t)).length:Int))then gY (kT ((ls (jQ::d.1::aK t)).drop 2))else[]),())],()):=rfl;rw[this,ej,aoZ hlen];rfl
theorem OB:∀(a:LS)(x:aQ)(b:LS),(fD x a).2=true->fD x (a++b)=fD (fD x a).1 b
 |[],_,_,_=>rfl
 |l::r,x,b,h=>by
  rw[apQ,fD,fD];rw[fD]at h;cases hr:(jP x (pieces 32 l.1)).2 with
  |true=>rw[hr]at h;exact OB r _ b h
  |false=>rw[hr]at h;cases h
theorem WZ:∀(a:LS)(x:aQ)(b:LS),kR x (a++b)=kR (kR x a) b
 |[],_,_=>rfl
 |l::r,x,b=>by rw[apQ,kR,kR];exact WZ r _ b
theorem RJ(a b:List Bytes):ls (a++b)=ls a++ls b:=by unfold ls;rw[apG]
theorem YO:∀(fs:List dH)(x:aQ),(∀f∈fs,bZ f.1=true/\(f.2.1=1\/f.2.1=2))->fD x (ls (fs.map cu))=((x.1++fs,x.2.1,x.2.2.1,x.2.2.2.1,()),true)/\kR x (ls (fs.map cu))=(x.1++fs,x.2.1,x.2.2.1,x.2.2.2.1,())
 |[],x,_=>by rw[ape];exact⟨rfl,rfl⟩
 |f::r,x,h=>by
  obtain⟨a,b⟩:=h f aoT;obtain⟨h1,h2,_⟩:=YN a b x;obtain⟨i1,i2⟩:=YO r (x.1++[f],x.2.1,x.2.2.1,x.2.2.2.1,()) λg hg=>h g (aoR _ hg);refine⟨?_,?_⟩
  .show fD x ((cu f,())::ls (r.map cu))=_;rw[fD,h1];show fD _ _=_;rw[i1,aoX];rfl
  .show kR x ((cu f,())::ls (r.map cu))=_;rw[kR,h2,i2,aoX];rfl
theorem aaV:∀(fs:List aT)(x:aQ),(∀f∈fs,yS f=true/\f.2.2.2.2.1.length<=5)->fD x (ls (fs.map eG))=((x.1,x.2.1++fs,x.2.2.1,x.2.2.2.1,()),true)/\kR x (ls (fs.map eG))=(x.1,x.2.1++fs,x.2.2.1,x.2.2.2.1,())
 |[],x,_=>by rw[ape];exact⟨rfl,rfl⟩
 |f::r,x,h=>by
  obtain⟨a,b⟩:=h f aoT;obtain⟨h1,h2,_⟩:=aaU a b x;obtain⟨i1,i2⟩:=aaV r (x.1,x.2.1++[f],x.2.2.1,x.2.2.2.1,()) λg hg=>h g (aoR _ hg);refine⟨?_,?_⟩
  .show fD x ((eG f,())::ls (r.map eG))=_;rw[fD,h1];show fD _ _=_;rw[i1,aoX];rfl
  .show kR x ((eG f,())::ls (r.map eG))=_;rw[kR,h2,i2,aoX];rfl
theorem adZ:∀(ds:List bf)(x:aQ),(∀d∈ds,aS d.1=true/\ay d.2.1=true)->fD x (ls (ds.map iq))=((x.1,x.2.1,x.2.2.1,x.2.2.2.1++ds.map qY,()),true)/\kR x (ls (ds.map iq))=(x.1,x.2.1,x.2.2.1,x.2.2.2.1++ds.map qY,())
 |[],x,_=>by rw[show([]:List bf).map qY=[]from rfl,ape];exact⟨rfl,rfl⟩
 |d::r,x,h=>by
  obtain⟨a,b⟩:=h d aoT;obtain⟨h1,h2,_⟩:=adY a b x;obtain⟨i1,i2⟩:=adZ r (x.1,x.2.1,x.2.2.1,x.2.2.2.1++[qY d],()) λg hg=>h g (aoR _ hg);refine⟨?_,?_⟩
  .show fD x ((iq d,())::ls (r.map iq))=_;rw[fD,h1];show fD _ _=_;rw[i1,aoX];rfl
  .show kR x ((iq d,())::ls (r.map iq))=_;rw[kR,h2,i2,aoX];rfl
theorem wU{x:aQ}(h:bK x=true):(∀f∈x.1,bZ f.1=true/\(f.2.1=1\/f.2.1=2))/\(∀f∈x.2.1,yS f=true/\f.2.2.2.2.1.length<=5)/\dO x.2.2.1=true/\(∀d∈x.2.2.2.1,aS d.1=true/\ay d.2.1=true)/\x.1.length<=5/\x.2.1.length<=12/\x.2.2.2.1.length<=5:=by
 unfold bK at h;rw[aoJ]at h;obtain⟨hs,hd⟩:=h;obtain⟨s1,_,s3,s4,s5,s6⟩:=adW.1 hs;have s1:∀f∈x.2.1,cZ x.1 f=true/\f.1<x.2.2.1:=s1;have s3:dP x.1=true:=s3;have s4:x.2.1.length<=12:=s4;have s5:1<=x.2.2.1:=s5;have s6:x.2.2.1<=61:=s6;obtain⟨d1,_,d3⟩:=F6.1 (mV.1 hd).1;obtain⟨k1,k2⟩:=adG.1 s3;have kf:∀f∈x.1,bZ f.1=true/\(f.2.1=1\/f.2.1=2):=λf hf=>by obtain⟨i,hi,e⟩:=ap0 hf;have:=k1 i hi;unfold iY fieldAt at this;rw[aoN,aoQ hi,e]at this;simp only[aq3,aoJ,apO,apf,aoS]at this;exact⟨this.1.1,by omega⟩
 refine⟨kf,λf hf=>?_,gG.2 (by omega),d1,k2,s4,d3⟩;obtain⟨f1,_⟩:=s1 f hf;have fa:=adV f1;have hl:=ajk fa;refine⟨tK.2 ⟨λa ha=>?_,?_⟩,by omega⟩
 .have hm:=(Vb.1 fa).1 a ha;unfold iy at hm;simp only[aoJ,aqv,aoS,aps]at hm;obtain⟨⟨m1,m2⟩,m3⟩:=hm;have hk:=Oq (fs:=x.1) (s:=a.1) (by rw[← m3];exact m2);obtain⟨f',hf',e⟩:=apU.1 hk;exact C9.2 ⟨by rw[← e];exact(kf f' hf').1,m1,m2⟩
 .unfold cZ at f1;simp only[aoJ,aoS]at f1;refine⟨gG.2 ?_,gG.2 ?_,gG.2 ?_⟩<;>omega
theorem TF{x:aQ}(h:bK x=true):fD dw (ls (jr x))=(norm x,true)/\kR dw (ls (jr x))=norm x:=by
 obtain⟨p1,p2,p3,p4,_⟩:=wU h;obtain⟨fs,gs,n,ds,⟨⟩⟩:=x;obtain⟨a1,a2⟩:=YO fs dw p1;obtain⟨b1,b2,_⟩:=aaT p3 (([]:List dH)++fs,[],0,[],());obtain⟨c1,c2⟩:=aaV gs (([]:List dH)++fs,[],n,[],()) p2;obtain⟨d1,d2⟩:=adZ ds (([]:List dH)++fs,([]:List aT)++gs,n,[],()) p4;have e:ls (jr (fs,gs,n,ds,()))=ls (fs.map cu)++((iE n,())::(ls (gs.map eG)++ls (ds.map iq))):=by unfold jr;rw[RJ];show _++((iE n,())::ls (gs.map eG++ds.map iq))=_;rw[RJ]
 rw[e];constructor
 .rw[OB _ _ _ (by rw[a1]),a1,fD];have b1':jP (([]:List dH)++fs,[],0,[],()) (pieces 32 (iE n))=_:=b1;show(bif (jP (([]:List dH)++fs,[],0,[],()) (pieces 32 (iE n))).2 then fD (jP (([]:List dH)++fs,[],0,[],()) (pieces 32 (iE n))).1 _ else _)=_;rw[b1'];show fD (([]:List dH)++fs,[],n,[],()) _=_;rw[OB _ _ _ (by rw[c1]),c1];exact d1
 .rw[WZ,a2,kR];have b2':Jl (([]:List dH)++fs,[],0,[],()) (ni (iE n))=_:=b2;show kR (Jl (([]:List dH)++fs,[],0,[],()) (ni (iE n))) _=_;rw[b2',WZ];show kR (kR (([]:List dH)++fs,[],n,[],()) _) _=_;rw[c2];exact d2
theorem aeH{d:List bf}(h:lF d=true):lF (d.map qY)=true:=by
 obtain⟨h1,h2,h3⟩:=F6.1 h;refine F6.2 ⟨λx hx=>?_,?_,by rw[ao0];exact h3⟩
 .obtain⟨y,hy,rfl⟩:=apU.1 hx;obtain⟨t,_,_,_,_,_,ep,hq,_⟩:=Dc (h1 y hy).2;refine⟨(h1 y hy).1,?_⟩;show ay (gY (textOf y.2.1))=true;rw[ep];exact hq
 .rw[arL];exact h2
theorem SE(s:Bytes):∀(d:List bf)(k:Int),qw k (d.map qY) s=qw k d s
 |[],_=>rfl
 |x::r,k=>by rw[ao3,qw,qw,SE s r];show(bif x.1==s then k else _)=_;rfl
theorem agO{d:List bf}{i:Nat}(hi:i<d.length):bQ (d.map qY) i=qY (bQ d i):=by unfold bQ;rw[aoN,aoN,apB,aoQ hi];rfl
theorem agP{d:List bf}(h:lF d=true)(e:Nat×Nat×Nat):e∈bV (d.map qY)↔e∈bV d:=by
 obtain⟨h1,_,_⟩:=F6.1 h;unfold bV;rw[arT,arT,ao0];refine exists_congr λi=>aqs λhi=>?_;have hi:=apw.1 hi;obtain⟨t,_,_,_,_,_,ep,hq,anR⟩:=Dc (h1 _ (afj hi)).2;have eq:(bQ (d.map qY) i).2.1=post t 0:=by rw[agO hi];exact ep
 have pl:∀s,aB (d.map qY) s=aB d s:=λs=>SE s d 0;rw[eq,apc,apc];have one:∀(b:Bool)(k:Nat),(e∈(dI (post t 0) b).filterMap λs=>bif decide (0<=aB (d.map qY) s)then some (i,(aB (d.map qY) s).toNat,k)else none)↔
  e∈(dI (bQ d i).2.1 b).filterMap λs=>bif decide (0<=aB d s)then some (i,(aB d s).toNat,k)else none:=λb k=>by
  rw[aqn,aqn];refine exists_congr λs=>?_;rw[anR s b,pl s]
 rw[one false 0,one true 1]
theorem agQ{d:List bf}(h:fB d=true):fB (d.map qY)=true:=by obtain⟨h1,L,h2⟩:=mV.1 h;exact mV.2 ⟨aeH h1,L,λe he=>h2 e ((agP h1 e).1 he)⟩
theorem J6{x:aQ}(h:bK x=true):bK (norm x)=true:=by unfold bK at h ⊢;rw[aoJ]at h ⊢;exact⟨h.1,agQ h.2⟩
theorem aaW{x:aQ}(h:bK x=true):jr (norm x)=jr x:=by
 obtain⟨_,_,_,p4,_⟩:=wU h;unfold jr norm;dsimp only;have:(x.2.2.2.1.map qY).map iq=x.2.2.2.1.map iq:=by rw[ap4];refine aqh λd hd=>?_;obtain⟨t,hw,_,_,et,_,ep,hq,_⟩:=Dc (p4 d hd).2;show jQ++32::(d.1++32::textOf (gY (textOf d.2.1)))=_;rw[ep,(aid hw hq).1,← et];rfl
 rw[this]
theorem Aa{x:aQ}(h:bK x=true):enc x=ls (jr x):=by unfold enc;rw[h];rfl
theorem ahY{x:aQ}(h:bK x=false):enc x=[]:=by unfold enc;rw[h];rfl
theorem agR{x:aQ}(h:bK x=true):dec (enc x)=(norm x,true):=by unfold dec;rw[Aa h,(TF h).2,J6 h,Aa (J6 h),aaW h,aoZ rfl];rfl
theorem ad1{l:LS}(h:(dec l).2=true):bK (dec l).1=true/\enc (dec l).1=l/\norm (dec l).1=(dec l).1:=by
 unfold dec at h ⊢;cases hc:bK (kR dw l)&&decide (enc (kR dw l)=l)with
 |false=>rw[hc]at h;cases h
 |true=>rw[aoJ,aoS]at hc;refine⟨hc.1,hc.2,?_⟩;show norm (kR dw l)=kR dw l;have:=(TF hc.1).2;rw[← Aa hc.1,hc.2]at this;exact this.symm
theorem ajw{l:LS}(h:(dec l).2=false):dec l=(dw,false):=by
 unfold dec at h ⊢;cases hc:bK (kR dw l)&&decide (enc (kR dw l)=l)with
 |false=>rfl
 |true=>rw[hc]at h;cases h
theorem Wh(l:LS):ac3 l=dec l:=by
 unfold ac3 dec;cases h1:(fD dw l).2&&(bK (fD dw l).1&&decide (enc (fD dw l).1=l))with
 |true=>
  rw[aoJ,aoJ,aoS]at h1;obtain⟨a,b,c⟩:=h1;obtain⟨e1,e2⟩:=TF b;rw[← Aa b,c]at e1 e2;have e3:kR dw l=(fD dw l).1:=by rw[e2,show norm (fD dw l).1=(fD dw l).1 from(congrArg (·.1) e1).symm]
  rw[e3,b,c,aoZ rfl];rfl
 |false=>
  cases h2:bK (kR dw l)&&decide (enc (kR dw l)=l)with
  |false=>rfl
  |true=>
   rw[aoJ,aoS]at h2;obtain⟨b,c⟩:=h2;obtain⟨e1,e2⟩:=TF b;rw[← Aa b,c]at e1 e2;have e3:(fD dw l).1=kR dw l:=by rw[e1];exact e2.symm
   rw[e3,e1,b,c,aoZ rfl]at h1;cases h1
end Sp
namespace Sp
open Go
def sumOf(s:Bytes):Int:=s.foldl (λn b=>(33*n+(b.toNat:Int)).tmod 65521) 3
def linesT(ws:List Bytes):Bytes:=(ws.map (· ++[10])).flatten
def iF(n:Int)(x:aQ):Bytes:=linesT (Lib.itoa n::jr x)
noncomputable def slot (n:Int) (x:aQ):Bytes:=bif bK x&&(decide (1<=n)&&decide (n<=1000000000))then iF n x++(Lib.itoa (sumOf (iF n x))++[46])else[]
def inner(l:LS):LS:=(l.take (l.length-1)).drop 1
noncomputable def aF (s:Bytes):Int×aQ×Bool:=
 bif decide (2<=(pieces 10 s).length)&&((dec (inner (pieces 10 s))).2&&decide (slot (parseNum ((pieces 10 s).getD 0 ([],())).1) (dec (inner (pieces 10 s))).1=s))then(parseNum ((pieces 10 s).getD 0 ([],())).1,(dec (inner (pieces 10 s))).1,true)else(0,dw,false)
def Gq(l:LS):Prop:=l.length<=100/\∀x∈l,x.1.length<=1000
def bY(s:Bytes):Prop:=(pieces 10 s).length<=100/\∀x∈pieces 10 s,x.1.length<=1000
theorem RX(s:Bytes):0<=sumOf s/\sumOf s<65521:=by
 have:∀(s:Bytes)(n:Int),0<=n->n<65521->0<=s.foldl (λn b=>(33*n+(b.toNat:Int)).tmod 65521) n/\s.foldl (λn b=>(33*n+(b.toNat:Int)).tmod 65521) n<65521:=by
  intro s
  induction s with
  |nil=>exactλn h1 h2=>⟨h1,h2⟩
  |cons b r ih=>intro n h1 h2;rw[arV];exact ih _ (aru _ (by omega)) (arH _ (by decide))
 exact this s 3 (by decide) (by decide)
def nM(s:Bytes):Prop:=∀b∈s,b≠46
theorem AZ{n:Int}(h:dO n=true):nM (Lib.itoa n):=λb hb e=>by have:=(fU h).2.2.1 b hb;rw[e]at this;exact absurd this.1 (by decide)
theorem tV{s:Bytes}(h:aS s=true):nM s:=λb hb e=>by unfold aS lower at h;rw[aoJ,aoJ,ao4]at h;have:=h.1.1 b hb;rw[e]at this;exact absurd this (by decide)
theorem EM(op:Int):nM (fH op):=by unfold fH;cases op==1<;>cases op==2<;>cases op==3<;>cases op==4<;>cases op==5<;>cases op==6<;>cases op==7<;>cases op==8<;>cases op==9<;>(intro b hb;revert b;decide)
theorem ZX{v:Ac}(h:bn v.1 v.2.1 v.2.2.1=true)(h0:v.1≠0):nM (bF v):=by
 rcases agF h h0 with⟨n,rfl,h1,h2⟩|⟨s,rfl,hs⟩
 .have:bF (1,n,[],())=Lib.itoa n:=by unfold bF;rw[h];rfl
  rw[this];exact AZ (gG.2 (by omega))
 .have:bF (2,0,s,())=s:=by unfold bF;rw[h];rfl
  rw[this];exact tV hs
theorem DV:∀ws:List Bytes,(∀w∈ws,nM w)->nM (Lib.join ws [32])
 |[],_=>λb hb=>by cases hb
 |x::r,h=>by
  intro b hb;rw[Lib.join_cons]at hb;rcases apc.1 hb with hb|hb
  .exact h x aoT b hb
  .have tail:∀r:List Bytes,(∀w∈r,nM w)->nM (Lib.joinTail [32] r):=by
    intro r
    induction r with
    |nil=>intro _ b hb;cases hb
    |cons y t ih=>
     intro h b hb;rw[Lib.joinTail]at hb;rcases apc.1 hb with hb|hb
     .rcases apc.1 hb with hb|hb
      .rw[ao7.1 hb];decide
      .exact h y aoT b hb
     .exact ih (λw hw=>h w (aoR _ hw)) b hb
   exact tail r (λw hw=>h w (aoR _ hw)) b hb
theorem aaX:∀as:List bT,(∀a∈as,EI a=true)->∀w∈dJ as,nM w
 |[],_,w,hw=>by cases hw
 |a::r,h,w,hw=>by
  obtain⟨a1,a2,a3⟩:=C9.1 (h a aoT);rcases aoU.1 hw with rfl|hw
  .exact tV (jL a1)
  rcases aoU.1 hw with rfl|hw
  .exact ZX a2 a3
  .exact aaX r (λb hb=>h b (aoR _ hb)) w hw
theorem agS{n:ax}(h:dM n 0=true)(hw:n.1=1\/n.1=2\/n.1=3\/n.1=4\/n.1=8\/n.1=9):∀w∈jK n,nM w:=by
 obtain⟨op,l,r,s,v⟩:=n;unfold dM at h;rcases hw with rfl|rfl|rfl|rfl|rfl|rfl<;>simp at h<;>intro w hw2
 .rw[ao7.1 hw2];exact EM 1
 .rcases aoU.1 hw2 with rfl|hw2
  .exact EM 2
  .rw[ao7.1 hw2];exact tV (jL h.2)
 .rcases aoU.1 hw2 with rfl|hw2
  .exact EM 3
  rcases aoU.1 hw2 with rfl|hw2
  .exact tV (jL h.1.1.2)
  .rw[ao7.1 hw2];exact ZX h.1.2 h.2
 .rcases aoU.1 hw2 with rfl|hw2
  .exact EM 4
  rcases aoU.1 hw2 with rfl|hw2
  .exact tV (jL h.1.1.2)
  .rw[ao7.1 hw2];exact ZX h.1.2 (by rw[h.2];decide)
 .rcases aoU.1 hw2 with rfl|hw2
  .exact EM 8
  .rw[ao7.1 hw2];exact tV h.2
 .rcases aoU.1 hw2 with rfl|hw2
  .exact EM 9
  .rw[ao7.1 hw2];exact tV h.2
theorem Jm:∀t:QT,xg t->Ad t->∀w∈aK t,nM w
 |.leaf n,hw,ho,w,h=>agS ho hw w h
 |.neg t,hw,ho,w,h=>by
  rcases aoU.1 h with rfl|h
  .exact EM 5
  .exact Jm t hw ho w h
 |.two op a b,⟨_,w1,w2⟩,⟨o1,o2⟩,w,h=>by
  rcases aoU.1 h with rfl|h
  .exact EM op
  rcases apc.1 h with h|h
  .exact Jm a w1 o1 w h
  .exact Jm b w2 o2 w h
theorem BD{s:Bytes}(h:s.all (λb=>b !=46)=true):nM s:=λb hb e=>by have:=ao4.1 h b hb;rw[e]at this;exact absurd this (by decide)
def alI(l:Bytes):Prop:=l.length<=600/\(∀b∈l,b≠10)/\nM l
theorem abM{ws:List Bytes}(h:∀w∈ws,fine w):∀b∈Lib.join ws [32],b≠10:=λb hb e=>by have:=ao4.1 (afi ws λw hw=>(h w hw).2) b hb;rw[e]at this;exact absurd this (by decide)
theorem Bz{x:aQ}(h:bK x=true):(∀l∈jr x,alI l)/\(jr x).length<=23:=by
 obtain⟨p1,p2,p3,p4,p5,p6,p7⟩:=wU h;refine⟨λl hl=>?_,?_⟩
 .unfold jr at hl;rcases apc.1 hl with hl|hl
  .obtain⟨f,hf,rfl⟩:=apU.1 hl;obtain⟨k1,k2⟩:=p1 f hf;obtain⟨_,_,c,ws,e,hw⟩:=YN k1 k2 x;refine⟨c,by rw[e];exact abM hw,?_⟩;unfold cu;rw[k1];have d1:=tV (jL k1);rcases k2 with k|k<;>rw[k]
   .show nM (iJ++32::(f.1++32::Jg));rw[SC];refine DV _ λw hw=>?_;rcases aoU.1 hw with rfl|hw
    .exact BD rfl
    rcases aoU.1 hw with rfl|hw
    .exact d1
    .rw[ao7.1 hw];exact BD rfl
   .show nM (iJ++32::(f.1++32::pz));rw[SC];refine DV _ λw hw=>?_;rcases aoU.1 hw with rfl|hw
    .exact BD rfl
    rcases aoU.1 hw with rfl|hw
    .exact d1
    .rw[ao7.1 hw];exact BD rfl
  rcases aoU.1 hl with rfl|hl
  .obtain⟨_,_,c,ws,e,hw⟩:=aaT p3 x;refine⟨c,by rw[e];exact abM hw,?_⟩;unfold iE;rw[← NQ];refine DV _ λw hw=>?_;rcases aoU.1 hw with rfl|hw
   .exact BD rfl
   .rw[ao7.1 hw];exact AZ p3
  rcases apc.1 hl with hl|hl
  .obtain⟨f,hf,rfl⟩:=apU.1 hl;obtain⟨k1,k2⟩:=p2 f hf;obtain⟨_,_,c,ws,e,hw⟩:=aaU k1 k2 x;refine⟨c,by rw[e];exact abM hw,?_⟩;obtain⟨v1,v2,v3,v4⟩:=tK.1 k1;refine DV _ λw hw=>?_;rcases aoU.1 hw with rfl|hw
   .exact BD rfl
   rcases aoU.1 hw with rfl|hw
   .exact AZ v2
   rcases aoU.1 hw with rfl|hw
   .exact AZ v3
   rcases aoU.1 hw with rfl|hw
   .cases f.2.2.1<;>exact BD rfl
   rcases aoU.1 hw with rfl|hw
   .exact AZ v4
   .exact aaX _ v1 w hw
  .obtain⟨d,hd,rfl⟩:=apU.1 hl;obtain⟨k1,k2⟩:=p4 d hd;obtain⟨_,_,c,ws,e,hw⟩:=adY k1 k2 x;refine⟨c,by rw[e];exact abM hw,?_⟩;obtain⟨t,hwf,hot,_,ht,_⟩:=Dc k2;unfold iq;rw[ht,SC];refine DV _ λw hw=>?_;rcases aoU.1 hw with rfl|hw
   .exact BD rfl
   rcases aoU.1 hw with rfl|hw
   .exact tV k1
   .rw[ao7.1 hw];exact DV _ (Jm t hwf hot)
 .unfold jr;rw[aoK,aoO,aoK,ao0,ao0,ao0];omega
theorem OY:∀(ws:List Bytes)(t:Bytes),(∀w∈ws,∀b∈w,b≠10)->pieces 10 (linesT ws++t)=ls ws++pieces 10 t
 |[],_,_=>rfl
 |w::r,t,h=>by
  have e:linesT (w::r)++t=w++10::(linesT r++t):=by unfold linesT;simp
  rw[e,YJ (h w aoT),OY r t λv hv=>h v (aoR _ hv)];rfl
theorem Hu(s:Bytes):dO (sumOf s)=true:=by have:=RX s;exact gG.2 (by omega)
theorem BA{n:Int}{x:aQ}(h:bK x=true)(h1:1<=n)(h2:n<=1000000000):slot n x=iF n x++(Lib.itoa (sumOf (iF n x))++[46]):=by unfold slot;rw[h,aoZ h1,aoZ h2];rfl
theorem TG{n:Int}{x:aQ}(h:slot n x≠[]):bK x=true/\1<=n/\n<=1000000000:=by
 unfold slot at h;cases hc:bK x&&(decide (1<=n)&&decide (n<=1000000000))with
 |false=>rw[hc]at h;exact absurd rfl h
 |true=>rw[aoJ,aoJ,aoS,aoS]at hc;exact⟨hc.1,hc.2.1,hc.2.2⟩
theorem slot_ne{n:Int}{x:aQ}(h:bK x=true)(h1:1<=n)(h2:n<=1000000000):slot n x≠[]:=by rw[BA h h1 h2];simp
theorem afn{n:Int}(h:dO n=true):∀b∈Lib.itoa n,b≠10:=λb hb e=>by have:=(fU h).2.2.1 b hb;rw[e]at this;exact absurd this.1 (by decide)
theorem Vj{n:Int}{x:aQ}(h:bK x=true)(h1:1<=n)(h2:n<=1000000000):pieces 10 (slot n x)=ls (Lib.itoa n::jr x)++[(Lib.itoa (sumOf (iF n x))++[46],())]:=by
 have hn:dO n=true:=gG.2 (by omega);rw[BA h h1 h2];unfold iF;rw[OY _ _ λw hw=>?_,Vf λb hb=>?_]
 .rcases apc.1 hb with hb|hb
  .exact afn (Hu _) b hb
  .rw[ao7.1 hb];decide
 .rcases aoU.1 hw with rfl|hw
  .exact afn hn
  .exact((Bz h).1 w hw).2.1
theorem aip(a:Bytes×Unit)(l:LS)(b:Bytes×Unit):inner (a::(l++[b]))=l:=by unfold inner;rw[aoO,aoK,aoO,ao5,show l.length+(0+1)+1-1=l.length+1 by omega,aqg,List.drop_succ_cons,aqG,List.take_left]
theorem aiq{n:Int}{x:aQ}(h:bK x=true):slot n (norm x)=slot n x:=by unfold slot iF;rw[h,J6 h,aaW h]
theorem ad2{n:Int}{x:aQ}(h:bK x=true)(h1:1<=n)(h2:n<=1000000000):aF (slot n x)=(n,norm x,true):=by have hn:dO n=true:=gG.2 (by omega);unfold aF;rw[Vj h h1 h2];have e1:ls (Lib.itoa n::jr x)++[(Lib.itoa (sumOf (iF n x))++[46],())]=(Lib.itoa n,())::(ls (jr x)++[(Lib.itoa (sumOf (iF n x))++[46],())]):=rfl;rw[e1,aip,← Aa h,agR h];have e2:((Lib.itoa n,())::(enc x++[(Lib.itoa (sumOf (iF n x))++[46],())])).getD 0 ([],())=(Lib.itoa n,()):=rfl;rw[e2];dsimp only;rw[(nJ hn).2,aiq h,aoZ rfl,aoO,aoK,aoO,aoZ (by omega)];rfl
theorem Dh{s:Bytes}(h:(aF s).2.2=false):aF s=(0,dw,false):=by
 unfold aF at h ⊢;cases hc:decide (2<=(pieces 10 s).length)&&((dec (inner (pieces 10 s))).2&&decide (slot (parseNum ((pieces 10 s).getD 0 ([],())).1) (dec (inner (pieces 10 s))).1=s))with
 |false=>rfl
 |true=>rw[hc]at h;cases h
theorem SG{s:Bytes}(h:(aF s).2.2=true):bK (aF s).2.1=true/\1<=(aF s).1/\(aF s).1<=1000000000/\slot (aF s).1 (aF s).2.1=s/\norm (aF s).2.1=(aF s).2.1:=by
 unfold aF at h ⊢;cases hc:decide (2<=(pieces 10 s).length)&&((dec (inner (pieces 10 s))).2&&decide (slot (parseNum ((pieces 10 s).getD 0 ([],())).1) (dec (inner (pieces 10 s))).1=s))with
 |false=>rw[hc]at h;cases h
 |true=>
  rw[aoJ,aoJ,aoS,aoS]at hc;obtain⟨a,b,c⟩:=hc;have hs:s≠[]:=λe=>by rw[e]at a;exact absurd a (by decide)
  obtain⟨d1,d2,d3⟩:=TG (n:=parseNum ((pieces 10 s).getD 0 ([],())).1) (x:=(dec (inner (pieces 10 s))).1) (by rw[c];exact hs);exact⟨d1,d2,d3,c,(ad1 b).2.2⟩
theorem ajx{n:Int}{x:aQ}(h:bK x=true)(hn:dO n=true):nM (iF n x):=by
 intro b hb;unfold iF linesT at hb;obtain⟨l,hl,hb⟩:=List.mem_flatten.1 hb;obtain⟨w,hw,rfl⟩:=apU.1 hl;rcases apc.1 hb with hb|hb
 .rcases aoU.1 hw with rfl|hw
  .exact AZ hn b hb
  .exact((Bz h).1 w hw).2.2 b hb
 .rw[ao7.1 hb];decide
theorem aaY{n:Int}{x:aQ}{k:Nat}(hk:k<(slot n x).length):(aF ((slot n x).take k)).2.2=false:=by
 cases hc:(aF ((slot n x).take k)).2.2 with
 |false=>rfl
 |true=>
  obtain⟨a,b,c,d,_⟩:=SG hc;generalize (aF ((slot n x).take k)).1=m at b c d;generalize (aF ((slot n x).take k)).2.1=y at a d;have hne:slot n x≠[]:=λe=>by rw[e]at hk;exact absurd hk (apP _)
  obtain⟨h,h1,h2⟩:=TG hne;have hn:dO n=true:=gG.2 (by omega);rw[BA a b c]at d;have hl:k=(iF m y++(Lib.itoa (sumOf (iF m y))++[46])).length:=by rw[d,ao2];omega
  have hpos:0<k:=by rw[hl,aoK,aoK,aoO];omega
  have e46:(slot n x)[k-1]? =some 46:=by
   have:((slot n x).take k)[k-1]? =some 46:=by
    rw[← d,← aoX];have hl2:k=(iF m y++Lib.itoa (sumOf (iF m y))).length+1:=by rw[hl,← aoX,aoK];rfl
    rw[apk (by omega),show k-1-(iF m y++Lib.itoa (sumOf (iF m y))).length=0 by omega];rfl
   rwa [apY (by omega)]at this
  rw[BA h h1 h2,← aoX]at e46;rw[BA h h1 h2,← aoX]at hk;rw[apt (by simp at hk ⊢;omega)]at e46;have hm:=apu e46;rcases apc.1 hm with hm|hm
  .exact absurd rfl (ajx h hn 46 hm)
  .exact absurd rfl (AZ (Hu _) 46 hm)
noncomputable def latest (a b:Bytes):Int×aQ×Bool×Bool:=
 bif (aF b).2.2&&(!(aF a).2.2||decide ((aF a).1<(aF b).1))then((aF b).1,(aF b).2.1,true,false)else((aF a).1,(aF a).2.1,(aF a).2.2,(aF a).2.2)
theorem agn(a b:Bytes):0<=(latest a b).1/\(latest a b).1<=1000000000:=by
 have one:∀s,0<=(aF s).1/\(aF s).1<=1000000000:=λs=>by
  cases h:(aF s).2.2 with
  |false=>rw[Dh h];exact⟨by decide,by decide⟩
  |true=>obtain⟨_,b,c,_⟩:=SG h;omega
 unfold latest;cases (aF b).2.2&&(!(aF a).2.2||decide ((aF a).1<(aF b).1))with
 |false=>exact one a
 |true=>exact one b
def kept(keep:Int)(n:Nat):Nat:=(max 0 (min keep (n:Int))).toNat
noncomputable def bg (a b:Bytes) (x:aQ):Bytes:=slot ((latest a b).1+1) x
noncomputable def bP (a b:Bytes) (x:aQ) (keep:Int):(Bytes×Bytes×Unit)×Bool×Unit:=
 bif bg a b x==[]then((a,b,()),false,())else
 bif (latest a b).2.2.2 then((a,(bg a b x).take (kept keep (bg a b x).length),()),(bg a b x).take (kept keep (bg a b x).length)==bg a b x,())else
 (((bg a b x).take (kept keep (bg a b x).length),b,()),(bg a b x).take (kept keep (bg a b x).length)==bg a b x,())
theorem afo{t:Bytes}{k:Nat}(h:(t.take k==t)=false):k<t.length:=by
 rcases apa k t.length with hl|hl
 .exact hl
 .rw[apl hl]at h;simp at h
theorem amI{a b t:Bytes}(ht:aF t=(0,dw,false))(hf:(latest a b).2.2.2=true):(latest a t).1=(latest a b).1/\(latest a t).2.1=(latest a b).2.1/\(latest a t).2.2.1=(latest a b).2.2.1:=by
 unfold latest at hf ⊢;rw[ht];cases hb:(aF b).2.2&&(!(aF a).2.2||decide ((aF a).1<(aF b).1))with
 |true=>rw[hb]at hf;cases hf
 |false=>exact⟨rfl,rfl,rfl⟩
theorem amJ{a b t:Bytes}(ht:aF t=(0,dw,false))(hf:(latest a b).2.2.2=false):(latest t b).1=(latest a b).1/\(latest t b).2.1=(latest a b).2.1/\(latest t b).2.2.1=(latest a b).2.2.1:=by
 unfold latest at hf ⊢;rw[ht];cases hb:(aF b).2.2&&(!(aF a).2.2||decide ((aF a).1<(aF b).1))with
 |true=>
  rw[aoJ]at hb;rw[hb.1];exact⟨rfl,rfl,rfl⟩
 |false=>
  rw[hb]at hf;have hf:(aF a).2.2=false:=hf;rw[hf]at hb;have hb:(aF b).2.2=false:=by
   cases hx:(aF b).2.2 with
   |false=>rfl
   |true=>rw[hx]at hb;cases hb
  rw[hb,Dh hf];exact⟨rfl,rfl,rfl⟩
theorem agT{a b:Bytes}{x:aQ}{keep:Int}(h:(bP a b x keep).2.1=false):
 (latest (bP a b x keep).1.1 (bP a b x keep).1.2.1).1=(latest a b).1/\(latest (bP a b x keep).1.1 (bP a b x keep).1.2.1).2.1=(latest a b).2.1/\(latest (bP a b x keep).1.1 (bP a b x keep).1.2.1).2.2.1=(latest a b).2.2.1:=by
 unfold bP at h ⊢;cases h0:bg a b x==[]with
 |true=>exact⟨rfl,rfl,rfl⟩
 |false=>
  rw[h0]at h;cases hf:(latest a b).2.2.2 with
  |true=>
   rw[hf]at h;exact amI (Dh (aaY (n:=(latest a b).1+1) (x:=x) (afo h))) hf
  |false=>rw[hf]at h;exact amJ (Dh (aaY (n:=(latest a b).1+1) (x:=x) (afo h))) hf
theorem SH{a b:Bytes}{x:aQ}{keep:Int}(h:(bP a b x keep).2.1=true):
 bK x=true/\latest (bP a b x keep).1.1 (bP a b x keep).1.2.1=((latest a b).1+1,norm x,true,!(latest a b).2.2.2):=by
 unfold bP at h ⊢;cases h0:bg a b x==[]with
 |true=>rw[h0]at h;cases h
 |false=>
  rw[h0]at h;obtain⟨hx,h1,h2⟩:=TG (aoL.1 h0);have hd:=ad2 hx h1 h2;refine⟨hx,?_⟩;cases hf:(latest a b).2.2.2 with
  |true=>
   rw[hf]at h;have he:(bg a b x).take (kept keep (bg a b x).length)=bg a b x:=apf.1 h;show latest a ((bg a b x).take _)=_;rw[he];unfold bg;rw[latest,hd];have:(latest a b).1=(aF a).1:=by
    unfold latest at hf ⊢;cases hb:(aF b).2.2&&(!(aF a).2.2||decide ((aF a).1<(aF b).1))with
    |true=>rw[hb]at hf;cases hf
    |false=>rfl
   dsimp only;rw[this,aoZ (by omega),Bool.or_true,aqC];rfl
  |false=>
   rw[hf]at h;have he:(bg a b x).take (kept keep (bg a b x).length)=bg a b x:=apf.1 h;show latest ((bg a b x).take _) b=_;rw[he];unfold bg;rw[latest,hd];dsimp only;have:(aF b).2.2=true->(latest a b).1=(aF b).1:=λhb=>by
    unfold latest at hf ⊢;rw[hb]at hf ⊢;cases hc:(!(aF a).2.2||decide ((aF a).1<(aF b).1))with
    |true=>rfl
    |false=>rw[hc]at hf;have hf:(aF a).2.2=false:=hf;rw[hf]at hc;cases hc
   cases hb:(aF b).2.2 with
   |false=>rfl
   |true=>rw[← this hb,ao1 (by omega)];rfl
end Sp
namespace Go.Fw
open Go
end Go.Fw
namespace Sp
open Go
theorem YP(s:Bytes):(bU s).1.2.2.1.length<=s.length:=by
 unfold bU;cases aU s with
 |true=>cases decide (parseNum s<=999)<;>exact apb _
 |false=>
  cases s==[45]with
  |true=>exact apb _
  |false=>cases aS s with
   |true=>exact aoP _
   |false=>exact apb _
theorem LY(m:Nat):∀w:LS,(∀x∈w,x.1.length<=m)->2*(jq w).length<=w.length+1/\∀a∈jq w,a.1.length<=m/\a.2.2.2.1.length<=m
 |[],_=>⟨apb _,λa ha=>by cases ha⟩
 |[x],h=>⟨aoP _,λa ha=>by
  rw[jq,ao7]at ha;subst ha;exact⟨h x aoT,aoW (YP []) (apb _)⟩⟩
 |x::y::r,h=>by
  obtain⟨h1,h2⟩:=LY m r λz hz=>h z (aoR _ (aoR _ hz));refine⟨by show 2*((jq r).length+1)<=r.length+1+1+1;omega,λa ha=>?_⟩;rw[jq]at ha;rcases aoU.1 ha with rfl|ha
  .exact⟨h x aoT,aoW (YP y.1) (h y (aoR _ aoT))⟩
  .exact h2 a ha
theorem agU(s:Bytes):(gY s).length<=9:=by
 cases h:iP s with
 |true=>exact(fG (YG h).2.2).2
 |false=>unfold gY;rw[h];exact apb _
end Sp
namespace Sp
open Go
def ad3(m:Nat)(s:Bytes):Prop:=(pieces 10 s).length<=100/\∀x∈pieces 10 s,x.1.length<=m
theorem alJ{m:Nat}{s:Bytes}(h:ad3 m s)(hm:m<=1000):bY s:=⟨h.1,λx hx=>aoW (h.2 x hx) hm⟩
theorem YQ(b:UInt8):∀(l cur:Bytes),∃x∈dm b cur l,cur.length<=x.1.length
 |[],cur=>⟨(cur,()),aoT,aoP _⟩
 |c::r,cur=>by
  rw[dm];cases c==b with
  |true=>exact⟨(cur,()),aoT,aoP _⟩
  |false=>obtain⟨x,hx,hl⟩:=YQ b r (cur++[c]);exact⟨x,hx,by rw[aoK,aoO]at hl;omega⟩
theorem EW(b:UInt8)(m:Nat):∀(l cur:Bytes)(k:Nat),(∀x∈dm b cur l,x.1.length<=m)->(dm b cur (l.take k)).length<=(dm b cur l).length/\∀x∈dm b cur (l.take k),x.1.length<=m
 |l,cur,0,h=>by
  have hp:=Hw b l cur;obtain⟨y,hy,hl⟩:=YQ b l cur;rw[aqH];refine⟨hp,λx hx=>?_⟩;have hx:x=(cur,()):=ao7.1 hx;rw[hx];exact aoW hl (h y hy)
 |[],cur,k+1,h=>⟨aoP _,h⟩
 |c::r,cur,k+1,h=>by
  rw[aqg];rw[dm]at h ⊢;rw[dm];cases hc:c==b with
  |true=>
   rw[hc]at h;obtain⟨i1,i2⟩:=EW b m r [] k λx hx=>h x (aoR _ hx);refine⟨Nat.succ_le_succ i1,λx hx=>?_⟩;rcases aoU.1 hx with rfl|hx
   .exact h _ aoT
   .exact i2 x hx
  |false=>rw[hc]at h;exact EW b m r _ k h
theorem H9(b:UInt8):∀(l cur:Bytes),((dm b cur l).map λx=>x.1.length+1).sum=cur.length+l.length+1
 |[],cur=>by show cur.length+1+0=cur.length+0+1;omega
 |c::r,cur=>by
  rw[dm];cases c==b with
  |true=>
   show(((cur,())::dm b [] r).map λx=>x.1.length+1).sum=_;rw[ao3,apI,H9 b r [],ao5,aoO];show cur.length+1+_=_;omega
  |false=>show((dm b (cur++[c]) r).map λx=>x.1.length+1).sum=_;rw[H9 b r,aoK,aoO,aoO,ao5];omega
theorem aaZ(m:Nat):∀l:LS,(∀x∈l,x.1.length<=m)->(l.map λx=>x.1.length+1).sum<=l.length*(m+1)
 |[],_=>apb _
 |a::r,h=>by have h1:=h a aoT;have h2:=aaZ m r λx hx=>h x (aoR _ hx);rw[ao3,apI,aoO,apq,arj];omega
theorem ZA{s:Bytes}(h:bY s):s.length<=100100:=by have h1:=H9 10 s [];have h2:=aaZ 1000 _ h.2;have h3:(pieces 10 s).length*(1000+1)<=100*(1000+1):=ao8 _ h.1;have h4:((pieces 10 s).map λx=>x.1.length+1).sum=([]:Bytes).length+s.length+1:=h1;rw[ao5]at h4;omega
theorem ajy{m:Nat}{s:Bytes}(h:ad3 m s)(k:Nat):ad3 m (s.take k):=by obtain⟨i1,i2⟩:=EW 10 m s [] k h.2;exact⟨aoW i1 h.1,i2⟩
theorem air{s:Bytes}(h:bY s)(k:Nat):bY (s.take k):=ajy (m:=1000) h k
theorem adw(l:List Bytes):(ls l).length=l.length:=by unfold ls;rw[ao0]
theorem ais(n:Int)(x:aQ):ad3 700 (slot n x):=by
 by_cases h:slot n x=[]
 .rw[h];refine⟨by decide,λy hy=>?_⟩;have hy:y∈[(([]:Bytes),())]:=hy;rw[ao7.1 hy];exact apb _
 .obtain⟨h0,h1,h2⟩:=TG h;obtain⟨e1,e2⟩:=Bz h0;have hn:=(fU (gG.2 (show 0<=n/\n<=1000000000 by omega))).2.2.2.2;have hs:=(fU (Hu (iF n x))).2.2.2.2;unfold ad3;rw[Vj h0 h1 h2];refine⟨by rw[aoK,adw,aoO,aoO,ao5];omega,λy hy=>?_⟩;rcases apc.1 hy with hy|hy
  .obtain⟨w,hw,rfl⟩:=apU.1 hy;rcases aoU.1 hw with rfl|hw
   .show(Lib.itoa n).length<=700;omega
   .have:=(e1 w hw).1;show w.length<=700;omega
  .rw[ao7.1 hy,aoK];show _+1<=700;omega
theorem W9(n:Int)(x:aQ):bY (slot n x):=alJ (ais n x) (by decide)
theorem Wq{x:aQ}(h:bK x=true):gq x:=by obtain⟨p1,p2,p3,p4,p5,p6,p7⟩:=wU h;refine⟨⟨aoW p5 (by decide),aoW p6 (by decide),λf hf=>aoW (p2 f hf).2 (by decide)⟩,aoW p7 (by decide),λd hd=>aoW (fG (p4 d hd).2).2 (by decide)⟩
theorem agV:gq dw:=⟨⟨by decide,by decide,λf hf=>by cases hf⟩,by decide,λd hd=>by cases hd⟩
theorem ahP(l:LS):gq (dec l).1:=by
 cases h:(dec l).2 with
 |false=>rw[ajw h];exact agV
 |true=>exact Wq (ad1 h).1
theorem Rl{a b:Bytes}{x:aQ}{k:Int}(ha:bY a)(hb:bY b):bY (bP a b x k).1.1/\bY (bP a b x k).1.2.1:=by
 unfold bP;cases bg a b x==[]with
 |true=>exact⟨ha,hb⟩
 |false=>
  have ht:bY ((bg a b x).take (kept k (bg a b x).length)):=air (W9 _ _) _;cases (latest a b).2.2.2 with
  |true=>exact⟨ha,ht⟩
  |false=>exact⟨ht,hb⟩
theorem agw(ws:List Bytes)(h:∀w∈ws,w.length<=600):(linesT ws).length<=ws.length*601:=by
 induction ws with
 |nil=>exact apb _
 |cons w r ih=>have h1:=h w aoT;have h2:=ih λv hv=>h v (aoR _ hv);have e:linesT (w::r)=(w++[10])++linesT r:=rfl;rw[e,aoK,aoK,aoO,aoO,ao5,apq];omega
theorem U7(ws:List Bytes)(w:Bytes):linesT (ws++[w])=linesT ws++(w++[10]):=by unfold linesT;simp
def szX(n:Nat)(x:aQ):Prop:=x.1.length<=n/\x.2.1.length<=n/\(∀f∈x.2.1,f.2.2.2.2.1.length<=1000)/\x.2.2.2.1.length<=n/\∀d∈x.2.2.2.1,d.2.1.length<=1000
theorem ahM{n:Nat}{x:aQ}(h:szX n x)(hn:n<=1000):gq x:=⟨⟨aoW h.1 hn,aoW h.2.1 hn,h.2.2.1⟩,aoW h.2.2.2.1 hn,h.2.2.2.2⟩
theorem ait{id:Int}{r:LS}(h:r.length<=1001)(hx:∀x∈r,x.1.length<=1000):(D6 id r).2.2.2.2.1.length<=1000:=by have:=(LY 1000 (r.drop 3) λx hm=>hx x (aqc hm)).1;rw[apj]at this;show(jq (r.drop 3)).length<=1000;omega
theorem aiu{w:LS}(h:w.length<=1001)(hx:∀x∈w,x.1.length<=1000):(iQ w).1.2.2.2.2.1.length<=1000:=by
 unfold iQ;cases decide ((w.length:Int)<4)||!(w.length%2==0)with
 |true=>exact apb _
 |false=>exact ait (by rw[apj];omega) λx hm=>hx x (aqc hm)
theorem afp{α:Type}{p:α->Prop}{l:List α}{a:α}(h:∀x∈l,p x)(ha:p a):∀x∈l++[a],p x:=λx hx=>by
 rcases apc.1 hx with hx|hx
 .exact h x hx
 .rw[ao7.1 hx];exact ha
theorem ZY{α:Type}{l:List α}{a:α}{n:Nat}(h:l.length<=n):(l++[a]).length<=n+1:=by rw[aoK];exact Nat.succ_le_succ h
theorem ahK{n:Nat}{x:aQ}{w:LS}(h:szX n x)(hw:w.length<=1001)(hx:∀y∈w,y.1.length<=1000):szX (n+1) (jP x w).1:=by
 obtain⟨h1,h2,h3,h4,h5⟩:=h;unfold jP;cases wordAt w 0==iJ&&decide ((w.length:Int)=3)with
 |true=>exact⟨ZY h1,apV h2,h3,apV h4,h5⟩
 |false=>
 cases wordAt w 0==tN&&decide ((w.length:Int)=2)with
 |true=>exact⟨apV h1,apV h2,h3,apV h4,h5⟩
 |false=>
 cases wordAt w 0==lK with
 |true=>exact⟨apV h1,ZY h2,afp h3 (aiu (by rw[apj];omega) λy hy=>hx y (aqc hy)),apV h4,h5⟩
 |false=>
 cases wordAt w 0==jQ&&decide (2<(w.length:Int))with
 |true=>exact⟨apV h1,apV h2,h3,ZY h4,afp h5 (aoW (agU _) (by decide))⟩
 |false=>exact⟨apV h1,apV h2,h3,apV h4,h5⟩
theorem ai0:szX 0 dw:=⟨aoP _,aoP _,λf hf=>(by cases hf),aoP _,λd hd=>(by cases hd)⟩
theorem ahJ{l:LS}{n:Nat}(hn:n<l.length)(h:(fD dw (l.take n)).2=true):fD dw (l.take (n+1))=jP (fD dw (l.take n)).1 (pieces 32 (l.getD n ([],())).1):=by
 have e:l.take (n+1)=l.take n++[l.getD n ([],())]:=by rw[apX hn,aoN,aoQ hn];rfl
 rw[e,OB _ _ _ h,fD];cases hr:(jP (fD dw (l.take n)).1 (pieces 32 (l.getD n ([],())).1)).2 with
 |true=>exact arR rfl hr.symm
 |false=>exact arR rfl hr.symm
theorem aa0:∀(a:LS)(x:aQ)(b:LS),(fD x a).2=false->(fD x (a++b)).2=false
 |[],_,_,h=>by cases h
 |l::r,x,b,h=>by
  rw[apQ,fD];rw[fD]at h;cases hr:(jP x (pieces 32 l.1)).2 with
  |true=>rw[hr]at h;exact aa0 r _ b h
  |false=>rfl
theorem ai1{l:LS}{n:Nat}(h:(fD dw (l.take n)).2=false):dec l=(dw,false):=by have:=aa0 (l.take n) dw (l.drop n) h;rw[aqk]at this;rw[← Wh];unfold ac3;rw[this];rfl
theorem aeA(x:aQ)(y k:Bytes):jP x [(iJ,()),(y,()),(k,())]=((x.1++[(y,(bif k==pz then 2 else 1),())],x.2.1,x.2.2.1,x.2.2.2.1,()),true):=rfl
theorem agy(x:aQ)(y:Bytes):jP x [(tN,()),(y,())]=((x.1,x.2.1,parseNum y,x.2.2.2.1,()),aU y):=rfl
theorem agz(x:aQ)(r:LS):jP x ((lK,())::r)=((x.1,x.2.1++[(iQ r).1],x.2.2.1,x.2.2.2.1,()),(iQ r).2):=rfl
theorem ah6(x:aQ)(y:Bytes)(r:LS)(hr:0<r.length):jP x ((jQ,())::(y,())::r)=((x.1,x.2.1,x.2.2.1,x.2.2.2.1++[(y,gY (kT r),())],()),iP (kT r)):=by
 have e:jP x ((jQ,())::(y,())::r)=bif decide (2<((((jQ,())::(y,())::r:LS).length:Nat):Int))then((x.1,x.2.1,x.2.2.1,x.2.2.2.1++[(y,gY (kT r),())],()),iP (kT r))else(x,false):=rfl
 rw[e,aoZ (by rw[aoO,aoO];omega)];rfl
theorem agA(x:aQ)(x0:Bytes)(r:LS)(h1:¬(x0=iJ/\r.length=2))(h2:¬(x0=tN/\r.length=1))(h3:¬x0=lK)(h4:¬(x0=jQ/\2<=r.length)):jP x ((x0,())::r)=(x,false):=by
 unfold jP;have e0:wordAt ((x0,())::r) 0=x0:=dR _ _;rw[e0,aoO];have f1:(x0==iJ&&decide (((r.length+1:Nat):Int)=3))=false:=by
  rw[aqA,aoL,aps];by_cases e:x0=iJ
  .exact .inr λg=>h1 ⟨e,by omega⟩
  .exact .inl e
 have f2:(x0==tN&&decide (((r.length+1:Nat):Int)=2))=false:=by
  rw[aqA,aoL,aps];by_cases e:x0=tN
  .exact .inr λg=>h2 ⟨e,by omega⟩
  .exact .inl e
 have f3:(x0==lK)=false:=aoL.2 h3;have f4:(x0==jQ&&decide (2<((r.length+1:Nat):Int)))=false:=by
  rw[aqA,aoL,aps];by_cases e:x0=jQ
  .exact .inr λg=>h4 ⟨e,by omega⟩
  .exact .inl e
 rw[f1,f2,f3,f4];rfl
end Sp
namespace Sp
open Go
theorem agW(s:gI)(f:aT):(dV s f).1.1=s.1:=by unfold dV;dsimp only;cases eF s&&decide ((s.2.1.length:Int)<12)&&cZ s.1 (s.2.2.1,f.2)<;>rfl
def Ny(n:Int):aQ:=((sample n).1,(sample n).2.1,(sample n).2.2.1,[],())
theorem Wp(n:Int):bK (Ny n)=true:=by unfold bK;rw[show eF (yO (Ny n))=true from ZP _ (by decide)];exact(mV (d:=[])).2 ⟨by decide,λ_=>0,λe he=>by cases he⟩
theorem ac7(a:List dH)(b:List aT)(c:Int):norm (a,b,c,[],())=(a,b,c,[],()):=rfl
theorem Vk{a b:Bytes}{x:aQ}{k:Int}(h:bg a b x≠[])(hk:100100<=k):(bP a b x k).2.1=true:=by have hl:(bg a b x).length<=100100:=ZA (W9 _ _);have e:(bg a b x).take (kept k (bg a b x).length)=bg a b x:=apl (by unfold kept;omega);unfold bP;rw[aoL.2 h,e];cases (latest a b).2.2.2<;>exact aqL _
theorem aiv{a b:Bytes}{x:aQ}{k:Int}(hk:k<(bg a b x).length):(bP a b x k).2.1=false:=by
 unfold bP;cases h0:bg a b x==[]with
 |true=>rfl
 |false=>
  have hne:=aoL.1 h0;have hp:=List.length_pos_iff.2 hne;have e:((bg a b x).take (kept k (bg a b x).length)==bg a b x)=false:=aoL.2 λe=>by have:=congrArg List.length e;rw[ao2]at this;unfold kept at this;omega
  rw[e];cases (latest a b).2.2.2<;>rfl
theorem YR:latest [] []=(0,dw,false,false):=by have h:aF []=(0,dw,false):=rfl;unfold latest;rw[h];rfl
theorem akw{A B:aQ}(hA:bK A=true)(hB:bK B=true)(nA:norm A=A)(nB:norm B=B)(h20:20<=(slot 3 A).length){k:Int}(hk:k<20){W1 W2 W3:(Bytes×Bytes×Unit)×Bool×Unit}
 (e1:W1=bP [] [] A 1000000) (e2:W2=bP W1.1.1 W1.1.2.1 B 1000000) (e3:W3=bP W2.1.1 W2.1.2.1 A k):
 W1.2.1=true/\W2.2.1=true/\latest W2.1.1 W2.1.2.1=(2,B,true,false)/\W3.2.1=false/\(latest W3.1.1 W3.1.2.1).1=2/\(latest W3.1.1 W3.1.2.1).2.1=B/\(latest W3.1.1 W3.1.2.1).2.2.1=true/\W2.1.1=W1.1.1/\W2.1.2.1≠[]:=by
 have h1:W1.2.1=true:=by rw[e1];exact Vk (by unfold bg;rw[YR];exact slot_ne hA (by decide) (by decide)) (by decide)
 have l1:latest W1.1.1 W1.1.2.1=(1,A,true,true):=by rw[e1]at h1 ⊢;rw[(SH h1).2,YR,nA];rfl
 have n2:bg W1.1.1 W1.1.2.1 B=slot 2 B:=by unfold bg;rw[l1];rfl
 have s2:slot 2 B≠[]:=slot_ne hB (by decide) (by decide);have h2:W2.2.1=true:=by rw[e2];exact Vk (by rw[n2];exact s2) (by decide)
 have l2:latest W2.1.1 W2.1.2.1=(2,B,true,false):=by rw[e2]at h2 ⊢;rw[(SH h2).2,l1,nB];rfl
 have n3:bg W2.1.1 W2.1.2.1 A=slot 3 A:=by unfold bg;rw[l2];rfl
 have e4:W2.1=(W1.1.1,slot 2 B,()):=by have hl:(slot 2 B).length<=100100:=ZA (W9 _ _);rw[e2];unfold bP;rw[n2,aoL.2 s2,l1];show(W1.1.1,(slot 2 B).take (kept 1000000 (slot 2 B).length),())=_;rw[apl (by unfold kept;omega)]
 have h3:W3.2.1=false:=by rw[e3];exact aiv (by rw[n3];omega)
 rw[e3]at h3;obtain⟨t1,t2,t3⟩:=agT h3;rw[l2]at t1 t2 t3;rw[← e3]at h3 t1 t2 t3;exact⟨h1,h2,l2,h3,t1,t2,t3,by rw[e4],by rw[e4];exact s2⟩
theorem akv(m:Int):20<=(slot 3 (Ny m)).length:=by
 rw[BA (Wp m) (by decide) (by decide),aoK];have h0:(Ny m).1=usual:=agW _ _;generalize Ny m=A at h0;have e:iF 3 A=(Lib.itoa 3++[10])++(linesT (usual.map cu)++linesT (iE A.2.2.1::(A.2.1.map eG++A.2.2.2.1.map iq))):=by unfold iF jr;rw[h0];unfold linesT;simp
 rw[e,aoK,aoK,aoK];have:20<=(linesT (usual.map cu)).length:=by decide
 omega
end Sp
