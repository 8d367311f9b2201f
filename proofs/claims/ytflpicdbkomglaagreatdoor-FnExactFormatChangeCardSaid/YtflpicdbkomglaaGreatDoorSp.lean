import Derived.Test.YtflpicdbkomglaaGreatDoorFwA
import Derived.Lib.ItoaNum
import Derived.Lib.ItoaLen
import Derived.Lib.Join
import Derived.Test.YtflpicdbkomglaaGreatDoorFwC
import Derived.Lib.Fields
import Derived.Lib.Atoi
import Derived.Lib.SplitLaws
namespace Sp
open Go
abbrev Bytes:=List UInt8
abbrev LI:=List (Int×Unit)
abbrev LS:=List (Bytes×Unit)
def bJ(n:Nat)(left:Int):Int:=if left-n<0 then -1 else left-n
theorem take_succ'{α:Type}(a:List α)(n:Nat)(d:α)(h:n<a.length):a.take (n+1)=a.take n++[a.getD n d]:=by rw[aiE h,ahv,ahw h];rfl
def Sz(l:LI):Prop:=∀x∈l,-9223372036854775808<=x.1/\x.1<=9223372036854775807
theorem Sz.take{a:LI}(h:Sz a)(n:Nat):Sz (a.take n):=λx hx=>h x (ajm hx)
theorem Sz.get{a:LI}(h:Sz a){n:Nat}(hn:n<a.length)(d:Int×Unit):(Lib.itoa (a.getD n d).1).length<=21:=by
 have:a.getD n d∈a:=by rw[ahv,ahw hn,ai7];exact ajo hn
 exact Lib.itoa_length_le _ (h _ this).1 (h _ this).2
theorem TS(c:Nat):Lib.decDigits c=(if c / 10=0 then[]else Lib.decDigits (c / 10))++[UInt8.ofNat (48+c%10)]:=by
 conv=>lhs;rw[Lib.decDigits]
 by_cases h:c<10
 .rw[dif_pos h,if_pos (by omega),aj7 h];rfl
 .rw[dif_neg h,if_neg (by omega)]
end Sp
namespace Sp
open Go
set_option synthInstance.maxSize 100000
set_option synthInstance.maxHeartbeats 1000000
abbrev wM:=Int×Int×Bytes×Unit
abbrev eu:=Bytes×Int×Int×Bytes×Unit
abbrev ax:=Int×Int×Int×Bytes×Int×Int×Bytes×Unit
abbrev bD:=Int×Int×Bool×Int×List eu×Unit
abbrev cO:=Bytes×List ax×Unit
abbrev jC:=Int×Int×Int×Bool×Int×List eu×Int×Bytes×List ax×Unit
def Qb:eu->Nat|(n,_,_,s,_)=>n.length+s.length
def Qc:ax->Nat|(_,_,_,n,_,_,s,_)=>n.length+s.length
def Ja{α:Type}(f:α->Nat):List α->Nat
 |[]=>0
 |x::r=>1+f x+Ja f r
def jL(a:List eu):Nat:=Ja Qb a
def ny(a:List ax):Nat:=Ja Qc a
def acv:bD->Nat|(_,_,_,_,a,_)=>jL a
def adB:cO->Nat|(n,q,_)=>n.length+ny q
def zM:jC->Nat|(_,_,_,_,_,a,_,n,q,_)=>jL a+(n.length+ny q)
instance:DecidableEq wM:=inferInstance
instance:DecidableEq eu:=inferInstance
instance:DecidableEq ax:=inferInstance
instance:DecidableEq bD:=inferInstance
instance:DecidableEq cO:=inferInstance
instance:DecidableEq (Int×cO):=inferInstance
instance:DecidableEq (List eu×Int×cO):=inferInstance
instance:DecidableEq (Bool×Int×List eu×Int×cO):=inferInstance
instance agr:DecidableEq jC:=(inferInstance:DecidableEq (Int×Int×Int×Bool×Int×List eu×Int×cO))
instance:DecidableEq (List jC):=inferInstance
instance:DecidableEq (List jC×Bytes×Int×Unit):=inferInstance
def qy(a b:wM):Bool:=decide (a=b)
def FP(a b:eu):Bool:=decide (a=b)
def FQ(a b:ax):Bool:=decide (a=b)
def xZ(a b:List eu):Bool:=decide (a=b)
def x9(a b:List ax):Bool:=decide (a=b)
def Df(a b:bD):Bool:=decide (a=b)
def Hz(a b:cO):Bool:=decide (a=b)
def Dh(a b:jC):Bool:=decide (a=b)
def lower(s:Bytes):Bool:=s.all λc=>decide (97<=c.toNat)&&decide (c.toNat<=122)
def aK(s:Bytes):Bool:=lower s&&decide (1<=(s.length:Int))&&decide ((s.length:Int)<=6)
def aW(n:Int):Bool:=decide (0<=n)&&decide (n<=1000000000)
def idxFrom:Int->LI->Int
 |_,[]=>-1
 |k,x::r=>if aW x.1 then idxFrom (k+1) r else k
def idxOf(l:LI):Int:=idxFrom 0 l
def gU(l:LI):Bool:=l.all λx=>aW x.1
def ab5(k:Int)(nc:Nat):Bool:=decide (1<=k)&&decide (k<=8)&&decide ((nc:Int)<=6)
def Jb(k u:Int)(nc:Nat)(n:Bytes)(a:Int):Bytes:=
 bif !(ab5 k nc)then[]else
 bif (decide ((nc:Int)>0)&&decide (k>2))then[]else
 bif (k==1&&(aW u&&(a==0&&n==[])))then[99,111,109,109,105,116,32]++Lib.itoa u else
 bif (k==2&&(aW u&&(aW a&&n==[])))then[99,114,97,115,104,32]++Lib.itoa u++[32]++Lib.itoa a else
 bif (k==3&&(aW u&&(aK n&&a==0)))then[119,97,116,99,104,32]++Lib.itoa u++[32]++n else
 bif (k==4&&(u==0&&(aW a&&n==[])))then[112,105,110,32]++Lib.itoa a else
 bif (k==5&&(u==0&&(aW a&&n==[])))then[117,110,112,105,110,32]++Lib.itoa a else
 bif (k==6&&(u==0&&(a==0&&n==[])))then[99,111,108,108,101,99,116]else
 bif (k==7&&(aW u&&(aW a&&aK n)))then[97,100,100,32]++Lib.itoa u++[32]++n++[32]++Lib.itoa a else
 bif (k==8&&(aW u&&(aW a&&aK n)))then[114,101,109,111,118,101,32]++Lib.itoa u++[32]++n++[32]++Lib.itoa a else[]
end Sp
namespace Sp
open Go
abbrev iF:=Bytes×Int×Unit
abbrev qL:=List iF×List bD×Int×Unit
instance:DecidableEq iF:=inferInstance
instance:DecidableEq (List iF):=inferInstance
instance:DecidableEq (List bD):=inferInstance
instance:DecidableEq (List bD×Int×Unit):=inferInstance
instance agX:DecidableEq qL:=(inferInstance:DecidableEq (List iF×List bD×Int×Unit))
def usual:List iF:=[([97],1,()),([98],1,()),([110],2,()),([116],2,())]
def aen(f:bD):Prop:=f.2.2.2.2.1.length<=1000
def ad7(s:qL):Prop:=s.1.length<=1000/\s.2.1.length<=1000/\∀f∈s.2.1,aen f
def oD(n:Nat)(f:Nat->Bool):Bool:=(List.range n).all f
def dN(s:Bytes):Bool:=lower s&&decide (1<=(s.length:Int))&&decide ((s.length:Int)<=1)
def aS(k n:Int)(s:Bytes):Bool:=
 bif decide (k=0)then decide (n=0)&&decide (s=[])
 else bif decide (k=1)then decide (0<=n)&&decide (n<=999)&&decide (s=[])
 else bif decide (k=2)then aK s&&decide (n=0)
 else false
def kindOf:List iF->Bytes->Int
 |[],_=>0
 |f::r,s=>bif decide (f.1=s)then f.2.1 else kindOf r s
def fieldAt(fs:List iF)(i:Nat):iF:=fs.getD i ([],0,())
def aby(fs:List iF)(i:Nat):Bool:=
 dN (fieldAt fs i).1&&(decide (1<=(fieldAt fs i).2.1)&&decide ((fieldAt fs i).2.1<=2))&&!(decide (0<i)&&!Op.bytesLess (fieldAt fs (i-1)).1 (fieldAt fs i).1)
def DK(fs:List iF):Bool:=oD fs.length (aby fs)&&decide ((fs.length:Int)<=5)
def ab6(fs:List iF)(name:Bytes)(k n:Int)(s:Bytes):Bool:=aS k n s&&!decide (k=0)&&decide (k=kindOf fs name)
def Hl(as:List eu)(i:Nat):eu:=as.getD i ([],0,0,[],())
def ab7(fs:List iF)(as:List eu)(i:Nat):Bool:=
 ab6 fs (Hl as i).1 (Hl as i).2.1 (Hl as i).2.2.1 (Hl as i).2.2.2.1&&!(decide (0<i)&&!Op.bytesLess (Hl as (i-1)).1 (Hl as i).1)
def Nb(fs:List iF)(as:List eu):Bool:=oD as.length (ab7 fs as)
def AQ(fs:List iF)(f:bD):Bool:=
 Nb fs f.2.2.2.2.1&&DK fs&&(decide (1<=f.1)&&decide (f.1<=60))&&(decide (0<=f.2.1)&&decide (f.2.1<=2))&&(decide (0<=f.2.2.2.1)&&decide (f.2.2.2.1<=60))
def fileAt(fs:List bD)(i:Nat):bD:=fs.getD i (0,0,false,0,[],())
def XV(s:qL)(i:Nat):Bool:=
 AQ s.1 (fileAt s.2.1 i)&&decide ((fileAt s.2.1 i).1<s.2.2.1)&&!(decide (0<i)&&!decide ((fileAt s.2.1 (i-1)).1<(fileAt s.2.1 i).1))
def sW(s:qL):Bool:=
 oD s.2.1.length (XV s)&&DK s.1&&decide ((s.2.1.length:Int)<=12)&&(decide (1<=s.2.2.1)&&decide (s.2.2.1<=61))
def Vm:Int->List bD->Int->Int
 |_,[],_=>-1
 |k,f::r,id=>bif decide (f.1=id)then k else Vm (k+1) r id
def place(fs:List bD)(id:Int):Int:=Vm 0 fs id
def XW(name:Bytes)(b:eu):Bool:=!(b.1==name)
def XY(name:Bytes)(b:eu):Bool:=Op.bytesLess b.1 name||b.1==name
def ads(as:List eu)(a:eu):List eu:=as.takeWhile (XY a.1)++a::as.dropWhile (XY a.1)
def adt(as:List eu)(name:Bytes)(k n:Int)(s:Bytes):List eu:=
 bif decide (k=0)then as.filter (XW name)else ads (as.filter (XW name)) (name,k,n,s,())
def vz(s:qL)(f:bD):qL×Int×Bool:=
 let g:bD:=(s.2.2.1,f.2)
 bif sW s&&decide ((s.2.1.length:Int)<12)&&AQ s.1 g then((s.1,s.2.1++[g],s.2.2.1+1,()),s.2.2.1,true)else(s,0,false)
def XZ{α:Type}(p:α->Bool):Int->List α->Int
 |_,[]=>-1
 |k,f::r=>bif p f then k else XZ p (k+1) r
def findAt{α:Type}(p:α->Bool)(l:List α):Int:=XZ p 0 l
def fieldPlace(l:List iF)(name:Bytes):Int:=findAt (λf=>f.1==name) l
end Sp
namespace Sp
abbrev V8:=List (Nat×Nat×Nat)
def Ho(E:V8)(L:Nat->Nat):Prop:=∀e∈E,L e.2.1+e.2.2<=L e.1
def adu(E:V8)(n:Nat):Prop:=∀e∈E,e.1<n/\e.2.1<n/\e.2.2<=1
structure Raises(E:V8)(n:Nat)(R:(Nat->Nat)->Nat->Nat):Prop where
 up:∀L i,L i<=R L i
 fix:∀L,(∀i,i<n->R L i=L i)->Ho E L
 below:∀L M,Ho E M->(∀i,i<n->L i<=M i)->∀i,i<n->R L i<=M i
 same:∀L L',(∀i,i<n->L i=L' i)->∀i,i<n->R L i=R L' i
end Sp
namespace Sp
open Go
abbrev afe:=List iF×List bD×Int×List cO×Unit
abbrev aeo:=Int×List iF×List bD×Int×List cO×Int×Unit
instance:DecidableEq (List ax):=inferInstance
instance:DecidableEq cO:=inferInstance
instance:DecidableEq (List cO):=inferInstance
instance:DecidableEq (List cO×Unit):=inferInstance
instance:DecidableEq (Int×List cO×Unit):=inferInstance
instance:DecidableEq (List bD×Int×List cO×Unit):=inferInstance
instance ag5:DecidableEq afe:=(inferInstance:DecidableEq (List iF×List bD×Int×List cO×Unit))
instance:DecidableEq (List cO×Int×Unit):=inferInstance
instance:DecidableEq (Int×List cO×Int×Unit):=inferInstance
instance:DecidableEq (List bD×Int×List cO×Int×Unit):=inferInstance
instance:DecidableEq (List iF×List bD×Int×List cO×Int×Unit):=inferInstance
instance ahf:DecidableEq aeo:=(inferInstance:DecidableEq (Int×List iF×List bD×Int×List cO×Int×Unit))
instance:DecidableEq (List aeo):=inferInstance
def nodeAt(q:List ax)(i:Nat):ax:=q.getD i (0,0,0,[],0,0,[],())
def gJ(n:ax):Bool:=n.1==6||n.1==7
def Me(n:ax):Bool:=n.1==8||n.1==9
def dh(n:ax)(a:Int):Bool:=
 let kids:=decide (0<=n.2.1)&&decide (n.2.1<=a-1)&&decide (0<a)
 let two:=decide (0<=n.2.2.1)&&decide (n.2.2.1<=a-1)
 let bare:=n.2.2.2.1==[]&&(n.2.2.2.2.1==0&&(n.2.2.2.2.2.1==0&&n.2.2.2.2.2.2.1==[]))
 let flat:=n.2.1==0&&n.2.2.1==0
 let valued:=aS n.2.2.2.2.1 n.2.2.2.2.2.1 n.2.2.2.2.2.2.1
 let void:=n.2.2.2.2.1==0&&(n.2.2.2.2.2.1==0&&n.2.2.2.2.2.2.1==[])
 bif n.1==1 then flat&&bare else bif n.1==2 then flat&&void&&dN n.2.2.2.1 else
 bif n.1==3 then flat&&dN n.2.2.2.1&&valued&&!(n.2.2.2.2.1==0)else bif n.1==4 then flat&&dN n.2.2.2.1&&valued&&n.2.2.2.2.1==1 else
 bif n.1==5 then kids&&n.2.2.1==0&&bare else bif n.1==6||n.1==7 then kids&&two&&bare else
 bif n.1==8||n.1==9 then flat&&void&&aK n.2.2.2.1 else false
def refsOf(a:Int)(n:ax):Nat:=(bif (gJ n||n.1==5)&&n.2.1==a then 1 else 0)+(bif gJ n&&n.2.2.1==a then 1 else 0)
def iK(q:List ax)(a:Int):Nat:=(q.map (refsOf a)).sum
def iI(q:List ax)(i:Nat):Bool:=dh (nodeAt q i) i&&!(decide ((i:Int)<(q.length:Int)-1)&&!(iK q i==1))
def aA(q:List ax):Bool:=oD q.length (iI q)&&(decide (1<=(q.length:Int))&&decide ((q.length:Int)<=9))
def lM(d:List cO)(i:Nat):cO:=d.getD i ([],[],())
def adv(d:List cO)(i:Nat):Bool:=aK (lM d i).1&&aA (lM d i).2.1&&!(decide (0<i)&&!Op.bytesLess (lM d (i-1)).1 (lM d i).1)
def aep(d:List cO):Bool:=oD d.length (adv d)&&decide ((d.length:Int)<=5)
def ni(q:List ax)(i:Nat)(out:List (Bool×Unit)):List (Bool×Unit):=
 let n:=nodeAt q i
 bif n.1==5 then out.set n.2.1.toNat (true,())else bif gJ n then(out.set n.2.1.toNat ((out.getD i (false,())).1,())).set n.2.2.1.toNat ((out.getD i (false,())).1,())else out
def oG(q:List ax):Nat->List (Bool×Unit)->List (Bool×Unit)
 |0,out=>out
 |n+1,out=>oG q n (ni q n out)
def negated(q:List ax):List (Bool×Unit):=bif aA q then oG q q.length (List.replicate q.length (false,()))else[]
def xu(q:List ax)(neg:Bool):List Bytes:=(List.range (negated q).length).filterMap λi=>bif Me (nodeAt q i)&&((negated q).getD i (false,())).1==neg then some (nodeAt q i).2.2.2.1 else none
def vH:Int->List cO->Bytes->Int
 |_,[],_=>-1
 |k,x::r,s=>bif x.1==s then k else vH (k+1) r s
def lU(d:List cO)(s:Bytes):Int:=vH 0 d s
def vI(d:List cO):V8:=
 (List.range d.length).flatMap λi=>
   ((xu (lM d i).2.1 false).filterMap λs=>bif decide (0<=lU d s)then some (i,(lU d s).toNat,0)else none)++
   ((xu (lM d i).2.1 true).filterMap λs=>bif decide (0<=lU d s)then some (i,(lU d s).toNat,1)else none)
open Classical in
noncomputable def aao (d:List cO):Bool:=aep d&&decide (∃L,Ho (vI d) L)
end Sp
namespace Sp
open Go
end Sp
namespace Sp
open Go
theorem MB(s:Bytes):∀(d:List cO)(k:Int),(vH k d s=-1/\∀x∈d,x.1≠s)\/∃n,n<d.length/\vH k d s=k+n/\(lM d n).1=s/\∀i,i<n->(lM d i).1≠s
 |[],k=>.inl ⟨rfl,λx hx=>by cases hx⟩
 |x::r,k=>by
  by_cases h:x.1=s
  .right;refine⟨0,by simp,?_,h,λi hi=>by omega⟩;rw[vH,ahO.2 h];simp
  .rcases MB s r (k+1)with⟨h1,h2⟩|⟨n,h1,h2,h3,h4⟩
   .left;refine⟨by rw[vH,aht.2 h];exact h1,λy hy=>?_⟩;rcases ahV.1 hy with rfl|hy
    .exact h
    .exact h2 y hy
   .right;refine⟨n+1,by simp;omega,by rw[vH,aht.2 h];show vH (k+1) r s=_;omega,h3,λi hi=>?_⟩;cases i with
    |zero=>exact h
    |succ i=>exact h4 i (by omega)
theorem Uz(d:List cO)(s:Bytes):(lU d s=-1/\∀x∈d,x.1≠s)\/∃n,n<d.length/\lU d s=n/\(lM d n).1=s/\∀i,i<n->(lM d i).1≠s:=by
 rcases MB s d 0 with h|⟨n,h1,h2,h3⟩
 .exact .inl h
 .exact .inr ⟨n,h1,by show vH 0 d s=_;omega,h3⟩
theorem YF{d:List cO}{s:Bytes}(h:0<=lU d s):lU d s<d.length:=by rcases Uz d s with⟨h1,_⟩|⟨n,h1,h2,_⟩<;>omega
theorem abz{d:List cO}{i j m:Nat}:(i,j,m)∈vI d↔i<d.length/\∃s,((m=0/\s∈xu (lM d i).2.1 false)\/(m=1/\s∈xu (lM d i).2.1 true))/\0<=lU d s/\j=(lU d s).toNat:=by
 unfold vI;rw[List.mem_flatMap];constructor
 .rintro⟨k,hk,h⟩;rw[aiA]at hk;rcases aie.1 h with h|h
  all_goals
   obtain⟨s,hs,e⟩:=ajy.1 h;rw[cond_eq_ite]at e;split at e
   .next hp=>have hp:0<=lU d s:=aio hp;cases e;exact⟨hk,s,by first|exact .inl ⟨rfl,hs⟩|exact .inr ⟨rfl,hs⟩,hp,rfl⟩
   .cases e
 .rintro⟨hi,s,h|h,hp,rfl⟩
  .obtain⟨rfl,hs⟩:=h;refine⟨i,aiA.2 hi,aie.2 (.inl (ajy.2 ⟨s,hs,?_⟩))⟩;rw[ahT hp];rfl
  .obtain⟨rfl,hs⟩:=h;refine⟨i,aiA.2 hi,aie.2 (.inr (ajy.2 ⟨s,hs,?_⟩))⟩;rw[ahT hp];rfl
theorem X0(d:List cO):adu (vI d) d.length:=by
 rintro⟨i,j,m⟩ he;obtain⟨h1,s,h2,h3,h4⟩:=abz.1 he;have:=YF h3;refine⟨h1,?_,?_⟩
 .show j<_;omega
 .show m<=1;rcases h2 with⟨h,_⟩|⟨h,_⟩<;>omega
def lv(l:List (Int×Unit))(i:Nat):Int:=(l.getD i (0,())).1
theorem aer{l:List (Int×Unit)}{i:Nat}(hi:i<l.length)(x:Int)(k:Nat):lv (l.set i (x,())) k=if k=i then x else lv l k:=by
 unfold lv;rw[ahv,ahv];by_cases h:k=i
 .subst h;rw[aiB hi,if_pos rfl];rfl
 .rw[ail (λe=>h e.symm),if_neg h]
structure Vo(d:List cO)(eF cur:List (Int×Unit))(g:Int)(P:Nat×Nat×Nat->Prop):Prop where
 len:cur.length=d.length
 up:∀i,i<d.length->lv eF i<=lv cur i
 grow:∀B,(∀i,i<d.length->lv eF i<=B)->∀i,i<d.length->lv cur i<=B+g
 fix:(∀i,i<d.length->lv cur i=lv eF i)->∀e,P e->lv eF e.2.1+e.2.2<=lv eF e.1
 below:∀M,Ho (vI d) M->(∀i,i<d.length->lv eF i<=M i)->∀i,i<d.length->lv cur i<=M i
theorem Vo.start{d:List cO}{eF:List (Int×Unit)}(h:eF.length=d.length):Vo d eF eF 0 λ_=>False:=
 ⟨h,λ_ _=>ai3 _,λB hB i hi=>by have:=hB i hi;omega,λ_ e he=>he.elim,λ_ _ h=>h⟩
theorem Vo.still{d:List cO}{eF cur:List (Int×Unit)}{g:Int}{P:Nat×Nat×Nat->Prop}(h:Vo d eF cur g P){i j m:Nat}(he:(i,j,m)∈vI d)(hle:lv cur j+m<=lv cur i):Vo d eF cur g λe=>P e\/e=(i,j,m):=by
 obtain⟨h1,h2,_⟩:=X0 d _ he;refine⟨h.len,h.up,h.grow,λhx e hp=>?_,h.below⟩;rcases hp with hp|rfl
 .exact h.fix hx e hp
 .have a:=hx i h1;have b:=hx j h2;show lv eF j+m<=lv eF i;omega
theorem Vo.set{d:List cO}{eF cur:List (Int×Unit)}{g:Int}{P:Nat×Nat×Nat->Prop}(h:Vo d eF cur g P){i j m:Nat}(he:(i,j,m)∈vI d)(hlt:lv cur i<lv cur j+m):Vo d eF (cur.set i (lv cur j+m,())) (g+m) λe=>P e\/e=(i,j,m):=by
 obtain⟨h1,h2,_⟩:=X0 d _ he;have h1:i<d.length:=h1;have h2:j<d.length:=h2;have hl:=h.len;have hs:=λk=>aer (l:=cur) (i:=i) (by omega) (lv cur j+m) k;refine⟨by simp;omega,λk hk=>?_,λB hB k hk=>?_,λhx e hp=>?_,λM hM hb k hk=>?_⟩
 .rw[hs];have a:=h.up k hk;split
  .next e=>subst e;omega
  .exact a
 .rw[hs];have a:=h.grow B hB k hk;have b:=h.grow B hB j h2;split<;>omega
 .have:=hx i h1;rw[hs,if_pos rfl]at this;have:=h.up i h1;omega
 .rw[hs];split
  .next e=>subst e;have a:=h.below M hM hb j h2;have b:=hM _ he;have b:M j+m<=M k:=b;omega
  .exact h.below M hM hb k hk
end Sp
namespace Sp
abbrev Ext(ι α:Type):=ι->α->Bool
structure Sys(ι α:Type) where
 T:ι->Ext ι α->α->Prop
 pos:ι->ι->Prop
 neg:ι->ι->Prop
 mono:∀i X Y,(∀j,pos i j->∀x,X j x=true->Y j x=true)->(∀j,neg i j->∀x,X j x=Y j x)->∀x,T i X x->T i Y x
def aff{ι α:Type}(S:Sys ι α)(N:ι->Prop)(eF:ι->Nat):Prop:=∀i j,N i->N j->(S.pos i j->eF j<=eF i)/\(S.neg i j->eF j<eF i)
structure Eval{ι α:Type}(S:Sys ι α)(N:ι->Prop)(eF:ι->Nat)(X:Ext ι α):Prop where
 fix:∀i,N i->∀x,X i x=true↔S.T i X x
 least:∀k(Y:Ext ι α),(∀i,¬(N i/\eF i=k)->∀x,Y i x=X i x)->(∀i,N i->eF i=k->∀x,S.T i Y x->Y i x=true)->∀i,N i->eF i=k->∀x,X i x=true->Y i x=true
open Classical in
theorem ags{ι α:Type}{P:ι->Prop}{A B:Ext ι α}:∃Y:Ext ι α,(∀i x,Y i x=true↔A i x=true/\(P i->B i x=true))/\∀i,¬P i->∀x,Y i x=A i x:=by have h:∀i x,decide (A i x=true/\(P i->B i x=true))=true↔A i x=true/\(P i->B i x=true):=λi x=>decide_eq_true_iff;refine⟨λi x=>decide (A i x=true/\(P i->B i x=true)),h,λi hi x=>?_⟩;rw[ahX,h];exact⟨λh=>h.1,λh=>⟨h,λh'=>(hi h').elim⟩⟩
end Sp
namespace Sp
open Go
abbrev qU:=Bytes×List (Int×Unit)×Unit
abbrev BX:=Ext Bytes Int
def Aa:List eu->Bytes->wM
 |[],_=>(0,0,[],())
 |a::r,s=>bif a.1==s then(a.2.1,a.2.2.1,a.2.2.2.1,())else Aa r s
def SA:List qU->Bytes->List (Int×Unit)
 |[],_=>[]
 |x::r,s=>bif x.1==s then x.2.1 else SA r s
def aap(l:List (Int×Unit))(x:Int):Bool:=l.any λy=>y.1==x
def Nr(r:List qU):BX:=λs x=>aap (SA r s) x
def xR(n:ax)(f:bD)(X:BX):Bool:=
 bif n.1==2 then !((Aa f.2.2.2.2.1 n.2.2.2.1).1==0)else
 bif n.1==3 then decide (Aa f.2.2.2.2.1 n.2.2.2.1=(n.2.2.2.2.1,n.2.2.2.2.2.1,n.2.2.2.2.2.2.1,()))else
 bif n.1==4 then(Aa f.2.2.2.2.1 n.2.2.2.1).1==1&&decide ((Aa f.2.2.2.2.1 n.2.2.2.1).2.1<n.2.2.2.2.2.1)else
 bif n.1==8 then X n.2.2.2.1 f.1 else
 bif n.1==9 then !(f.2.2.2.1==0)&&X n.2.2.2.1 f.2.2.2.1 else true
def val(q:List ax)(f:bD)(X:BX)(a:Nat):Bool:=
 if(nodeAt q a).1=5 then(if h:(nodeAt q a).2.1.toNat<a then !val q f X (nodeAt q a).2.1.toNat else true)
 else if(nodeAt q a).1=6 then(if h:(nodeAt q a).2.1.toNat<a/\(nodeAt q a).2.2.1.toNat<a then val q f X (nodeAt q a).2.1.toNat&&val q f X (nodeAt q a).2.2.1.toNat else true)
 else if(nodeAt q a).1=7 then(if h:(nodeAt q a).2.1.toNat<a/\(nodeAt q a).2.2.1.toNat<a then val q f X (nodeAt q a).2.1.toNat||val q f X (nodeAt q a).2.2.1.toNat else true)
 else xR (nodeAt q a) f X
termination_by a
decreasing_by all_goals omega
theorem abA(q:List ax)(f:bD)(X:BX)(a:Nat):val q f X a=
 if(nodeAt q a).1=5 then(if h:(nodeAt q a).2.1.toNat<a then !val q f X (nodeAt q a).2.1.toNat else true)
 else if(nodeAt q a).1=6 then(if h:(nodeAt q a).2.1.toNat<a/\(nodeAt q a).2.2.1.toNat<a then val q f X (nodeAt q a).2.1.toNat&&val q f X (nodeAt q a).2.2.1.toNat else true)
 else if(nodeAt q a).1=7 then(if h:(nodeAt q a).2.1.toNat<a/\(nodeAt q a).2.2.1.toNat<a then val q f X (nodeAt q a).2.1.toNat||val q f X (nodeAt q a).2.2.1.toNat else true)
 else xR (nodeAt q a) f X:=by rw[val]
def D8(q:List ax)(f:bD)(X:BX):Bool:=aA q&&val q f X (q.length-1)
def sel(fs:List bD)(q:List ax)(X:BX):List (Int×Unit):=(fs.filter λf=>D8 q f X).map λf=>(f.1,())
def rX(q:List ax)(i:Nat):Bool:=((negated q).getD i (false,())).1
theorem jS{q:List ax}(h:aA q=true){i:Nat}(hi:i<q.length):dh (nodeAt q i) i=true/\((i:Int)<(q.length:Int)-1->iK q i=1):=by
 unfold aA at h;rw[ahq]at h;have h1:iI q i=true:=by have:=h.1;unfold oD at this;exact ahH.1 this i (aiA.2 hi)
 unfold iI at h1;rw[ahq]at h1;refine⟨h1.1,λhl=>?_⟩;have h2:=h1.2;rw[ahT hl]at h2;simpa using h2
theorem jH{q:List ax}(h:aA q=true):1<=q.length/\q.length<=9:=by unfold aA at h;simp only[ahq,ahA]at h;omega
theorem OH{n:ax}{a:Nat}(h:dh n a=true)(hn:n.1=5\/n.1=6\/n.1=7):0<=n.2.1/\n.2.1.toNat<a:=by unfold dh at h;rcases hn with e|e|e<;>simp[e]at h<;>omega
theorem aaq{n:ax}{a:Nat}(h:dh n a=true)(hn:n.1=6\/n.1=7):0<=n.2.2.1/\n.2.2.1.toNat<a:=by unfold dh at h;rcases hn with e|e<;>simp[e]at h<;>omega
theorem Zg{α:Type}(g:α->Nat):∀(l:List α),(l.map g).sum=1->∀i j,i<l.length->j<l.length->i≠j->∀d,1<=g (l.getD i d)->g (l.getD j d)=0
 |[],_,i,_,hi,_,_,_,_=>by simp at hi
 |x::r,h,i,j,hi,hj,hne,d,hg=>by
  rw[ahE,ajZ]at h;have mem:∀(l:List α) k,k<l.length->g (l.getD k d)<=(l.map g).sum:=by
   intro l
   induction l with
   |nil=>intro k hk;simp at hk
   |cons y t ih=>
    intro k hk;rw[ahE,ajZ];cases k with
    |zero=>exact akc _ _
    |succ k=>exact ahB (ih k (by simpa using hk)) (akf _ _)
  cases i with
  |zero=>
   cases j with
   |zero=>exact(hne rfl).elim
   |succ j=>
    have h1:1<=g x:=hg;have:=mem r j (by simpa using hj);show g (r.getD j d)=0;omega
  |succ i=>
   have h1:1<=g (r.getD i d):=hg;have h2:=mem r i (by simpa using hi);cases j with
   |zero=>show g x=0;omega
   |succ j=>exact Zg g r (by omega) i j (by simpa using hi) (by simpa using hj) (by omega) d hg
theorem zu{q:List ax}{p:Nat}:∀(n:Nat)(out:List (Bool×Unit)),(∀i,i<n->((nodeAt q i).1=5\/gJ (nodeAt q i)=true->(nodeAt q i).2.1.toNat≠p)/\(gJ (nodeAt q i)=true->(nodeAt q i).2.2.1.toNat≠p))->
 (oG q n out).getD p (false,())=out.getD p (false,())
 |0,_,_=>rfl
 |n+1,out,h=>by
  have ih:=zu n (ni q n out) λi hi=>h i (by omega);show(oG q n (ni q n out)).getD p (false,())=_;rw[ih];have hs:∀(l:List (Bool×Unit)) k x,k≠p->(l.set k x).getD p (false,())=l.getD p (false,()):=λl k x hk=>by rw[ahv,ail hk,← ahv]
  obtain⟨h1,h2⟩:=h n (by omega);unfold ni;dsimp only;cases e5:((nodeAt q n).1==5)with
  |true=>exact hs _ _ _ (h1 (.inl (ahO.1 e5)))
  |false=>
   cases e2:gJ (nodeAt q n)with
   |true=>exact(hs _ _ _ (h2 e2)).trans (hs _ _ _ (h1 (.inr e2)))
   |false=>rfl
theorem OI(q:List ax):∀(n:Nat)(out:List (Bool×Unit)),(oG q n out).length=out.length
 |0,_=>rfl
 |n+1,out=>by show(oG q n (ni q n out)).length=_;rw[OI q n];unfold ni;dsimp only;cases (nodeAt q n).1==5<;>cases gJ (nodeAt q n)<;>simp
theorem AZ{n:ax}:gJ n=true↔n.1=6\/n.1=7:=by unfold gJ;simp
theorem JA(q:List ax):∀(k m:Nat)(out:List (Bool×Unit)),∃mid:List (Bool×Unit),mid.length=out.length/\oG q (m+k) out=oG q m mid
 |0,_,out=>⟨out,rfl,rfl⟩
 |k+1,m,out=>by
  obtain⟨mid,h1,h2⟩:=JA q k m (ni q (m+k) out);have hl:(ni q (m+k) out).length=out.length:=by unfold ni;dsimp only;cases (nodeAt q (m+k)).1==5<;>cases gJ (nodeAt q (m+k))<;>simp
  exact⟨mid,h1.trans hl,h2⟩
theorem MC{q:List ax}(h:aA q=true){i:Nat}(hi:i<q.length):((nodeAt q i).1=5\/gJ (nodeAt q i)=true->0<=(nodeAt q i).2.1/\(nodeAt q i).2.1.toNat<i)/\(gJ (nodeAt q i)=true->0<=(nodeAt q i).2.2.1/\(nodeAt q i).2.2.1.toNat<i):=by
 have h1:=(jS h hi).1;refine⟨λh2=>?_,λh2=>aaq h1 (AZ.1 h2)⟩;rcases h2 with h2|h2
 .exact OH h1 (.inl h2)
 .exact OH h1 (.inr (AZ.1 h2))
theorem aar{q:List ax}(h:aA q=true){i j p:Nat}(hi:i<q.length)(hj:j<q.length)(hne:i≠j)(hp:p<i)(hr:1<=refsOf p (nodeAt q i)):refsOf p (nodeAt q j)=0:=
 Zg (refsOf p) q ((jS h (by omega)).2 (by omega)) i j hi hj hne _ hr
theorem YG{p:Nat}{n:ax}(h:refsOf p n=0)(h0:((n.1=5\/gJ n=true)->0<=n.2.1)/\(gJ n=true->0<=n.2.2.1)):(n.1=5\/gJ n=true->n.2.1.toNat≠p)/\(gJ n=true->n.2.2.1.toNat≠p):=by
 unfold refsOf at h;refine⟨λh1 h2=>?_,λh1 h2=>?_⟩
 .have h3:=h0.1 h1;have h4:((gJ n||n.1==5)&&n.2.1==(p:Int))=true:=by
   have:(gJ n||n.1==5)=true:=by rcases h1 with h1|h1<;>simp[h1]
   rw[this];simp;omega
  rw[h4]at h;simp at h
 .have h3:=h0.2 h1;have h4:(gJ n&&n.2.2.1==(p:Int))=true:=by rw[h1];simp;omega
  rw[h4]at h;simp at h
theorem OJ{p:Nat}{n:ax}(h:n.1=5\/gJ n=true)(h0:0<=n.2.1)(e:n.2.1.toNat=p):1<=refsOf p n:=by
 unfold refsOf;have h4:((gJ n||n.1==5)&&n.2.1==(p:Int))=true:=by
  have:(gJ n||n.1==5)=true:=by rcases h with h1|h1<;>simp[h1]
  rw[this];simp;omega
 rw[h4];simp
theorem X3{p:Nat}{n:ax}(h:gJ n=true)(h0:0<=n.2.2.1)(e:n.2.2.1.toNat=p):1<=refsOf p n:=by
 unfold refsOf;have h4:(gJ n&&n.2.2.1==(p:Int))=true:=by rw[h];simp;omega
 rw[h4];simp
theorem Jc{l:List (Bool×Unit)}{k p:Nat}{x:Bool×Unit}(hk:k<l.length):(l.set k x).getD p (false,())=if k=p then x else l.getD p (false,()):=by
 rw[ahv,List.getElem?_set];by_cases h:k=p
 .subst h;simp[hk]
 .simp[h]
theorem aas{q:List ax}(h:aA q=true){i:Nat}(hi:i<q.length):
 ((nodeAt q i).1=5->rX q (nodeAt q i).2.1.toNat=true)/\(gJ (nodeAt q i)=true->rX q (nodeAt q i).2.1.toNat=rX q i/\rX q (nodeAt q i).2.2.1.toNat=rX q i):=by
 have hn:negated q=oG q q.length (List.replicate q.length (false,())):=by unfold negated;rw[h];rfl
 obtain⟨mid,hm1,hm2⟩:=JA q (q.length-(i+1)) (i+1) (List.replicate q.length (false,()));rw[show i+1+(q.length-(i+1))=q.length by omega,← hn]at hm2;have hml:mid.length=q.length:=by rw[hm1];simp
 have hm3:negated q=oG q i (ni q i mid):=hm2;obtain⟨k1,k2⟩:=MC h hi;have keep:∀p,p<i->1<=refsOf p (nodeAt q i)->rX q p=((ni q i mid).getD p (false,())).1:=λp hp hr=>by
  unfold rX;rw[hm3,zu i];intro j hj;have hjl:j<q.length:=by omega
  obtain⟨g1,g2⟩:=MC h hjl;exact YG (aar h hi hjl (by omega) hp hr) ⟨λz=>(g1 z).1,λz=>(g2 z).1⟩
 have self:rX q i=(mid.getD i (false,())).1:=by unfold rX;rw[hm2,zu (i+1)];intro j hj;obtain⟨g1,g2⟩:=MC h (show j<q.length by omega);exact⟨λz=>by have:=(g1 z).2;omega,λz=>by have:=(g2 z).2;omega⟩
 refine⟨λh5=>?_,λh2=>?_⟩
 .obtain⟨a,b⟩:=k1 (.inl h5);rw[keep _ b (OJ (.inl h5) a rfl)];unfold ni;dsimp only;rw[ahO.2 h5];show((mid.set _ (true,())).getD _ (false,())).1=true;rw[Jc (by omega),if_pos rfl]
 .obtain⟨a,b⟩:=k1 (.inr h2);obtain⟨a',b'⟩:=k2 h2;have h5:((nodeAt q i).1==5)=false:=by rcases AZ.1 h2 with e|e<;>rw[e]<;>rfl
  rw[keep _ b (OJ (.inr h2) a rfl),keep _ b' (X3 h2 a' rfl),self];unfold ni;dsimp only;rw[h5,h2];show(((mid.set _ ((mid.getD i (false,())).1,())).set _ ((mid.getD i (false,())).1,())).getD _ (false,())).1=_/\(((mid.set _ ((mid.getD i (false,())).1,())).set _ ((mid.getD i (false,())).1,())).getD _ (false,())).1=_;rw[Jc (by rw[ai1];omega),Jc (by omega),Jc (by rw[ai1];omega),if_pos rfl,if_pos rfl];exact⟨by split<;>rfl,rfl⟩
theorem aat{q:List ax}(h:aA q=true):rX q (q.length-1)=false:=by
 have hn:negated q=oG q q.length (List.replicate q.length (false,())):=by unfold negated;rw[h];rfl
 have hl:=jH h;unfold rX;rw[hn,zu q.length]
 .rw[ahv,ajA];split<;>rfl
 .intro j hj;obtain⟨g1,g2⟩:=MC h hj;exact⟨λz=>by have:=(g1 z).2;omega,λz=>by have:=(g2 z).2;omega⟩
theorem X4{q:List ax}(h:aA q=true){i:Nat}(hi:i<q.length)(hd:Me (nodeAt q i)=true):(nodeAt q i).2.2.2.1∈xu q (rX q i):=by
 have hl:(negated q).length=q.length:=by unfold negated;rw[h];show(oG _ _ _).length=_;rw[OI];simp
 unfold xu;rw[ajy];refine⟨i,aiA.2 (by omega),?_⟩;unfold rX;rw[hd];simp
theorem ab8{q:List ax}{f:bD}{X Y:BX}(h:aA q=true)(hp:∀s∈xu q false,∀x,X s x=true->Y s x=true)(hn:∀s∈xu q true,∀x,X s x=Y s x):
 ∀a,a<q.length->(rX q a=false->val q f X a=true->val q f Y a=true)/\(rX q a=true->val q f X a=val q f Y a):=by
 intro a
 induction a using Nat.strongRecOn with
 |_ a ih=>
  intro ha;obtain⟨k1,k2⟩:=MC h ha;obtain⟨n1,n2⟩:=aas h ha;rw[abA q f X a,abA q f Y a];by_cases h5:(nodeAt q a).1=5
  .have hk:=k1 (.inl h5);have i1:=(ih _ hk.2 (by omega)).2 (n1 h5);rw[if_pos h5,if_pos h5,dif_pos hk.2,dif_pos hk.2,i1];exact⟨λ_=>id,λ_=>rfl⟩
  rw[if_neg h5,if_neg h5];by_cases h6:(nodeAt q a).1=6
  .have h2:gJ (nodeAt q a)=true:=AZ.2 (.inl h6);have hk:=k1 (.inr h2);have hk':=k2 h2;have i1:=ih _ hk.2 (by omega);have i2:=ih _ hk'.2 (by omega);rw[(n2 h2).1]at i1;rw[(n2 h2).2]at i2;rw[if_pos h6,if_pos h6,dif_pos ⟨hk.2,hk'.2⟩,dif_pos ⟨hk.2,hk'.2⟩];refine⟨λhf hv=>?_,λht=>by rw[i1.2 ht,i2.2 ht]⟩;rw[ahq]at hv ⊢;exact⟨i1.1 hf hv.1,i2.1 hf hv.2⟩
  rw[if_neg h6,if_neg h6];by_cases h7:(nodeAt q a).1=7
  .have h2:gJ (nodeAt q a)=true:=AZ.2 (.inr h7);have hk:=k1 (.inr h2);have hk':=k2 h2;have i1:=ih _ hk.2 (by omega);have i2:=ih _ hk'.2 (by omega);rw[(n2 h2).1]at i1;rw[(n2 h2).2]at i2;rw[if_pos h7,if_pos h7,dif_pos ⟨hk.2,hk'.2⟩,dif_pos ⟨hk.2,hk'.2⟩];refine⟨λhf hv=>?_,λht=>by rw[i1.2 ht,i2.2 ht]⟩;rw[aiw]at hv ⊢;exact hv.imp (i1.1 hf) (i2.1 hf)
  rw[if_neg h7,if_neg h7];by_cases h8:(nodeAt q a).1=8
  .have hm:=X4 h ha (by unfold Me;simp[h8]);unfold xR;simp only[h8];refine⟨λhf hv=>?_,λht=>?_⟩
   .rw[hf]at hm;exact hp _ hm _ hv
   .rw[ht]at hm;exact hn _ hm _
  by_cases h9:(nodeAt q a).1=9
  .have hm:=X4 h ha (by unfold Me;simp[h9]);unfold xR;simp only[h9];refine⟨λhf hv=>?_,λht=>?_⟩
   .rw[hf]at hm;have hv:(!((f.2.2.2.1==0))&&X (nodeAt q a).2.2.2.1 f.2.2.2.1)=true:=hv;rw[ahq]at hv;show(!((f.2.2.2.1==0))&&Y (nodeAt q a).2.2.2.1 f.2.2.2.1)=true;rw[ahq];exact⟨hv.1,hp _ hm _ hv.2⟩
   .rw[ht]at hm;show(!((f.2.2.2.1==0))&&X (nodeAt q a).2.2.2.1 f.2.2.2.1)=(!((f.2.2.2.1==0))&&Y (nodeAt q a).2.2.2.1 f.2.2.2.1);rw[hn _ hm]
  .have:xR (nodeAt q a) f X=xR (nodeAt q a) f Y:=by unfold xR;rw[aht.2 h8,aht.2 h9];rfl
   rw[this];exact⟨λ_=>id,λ_=>rfl⟩
theorem X5{q:List ax}{f:bD}{X Y:BX}(hp:∀s∈xu q false,∀x,X s x=true->Y s x=true)(hn:∀s∈xu q true,∀x,X s x=Y s x)(hm:D8 q f X=true):D8 q f Y=true:=by unfold D8 at hm ⊢;rw[ahq]at hm ⊢;have hl:=jH hm.1;exact⟨hm.1,(ab8 hm.1 hp hn _ (by omega)).1 (aat hm.1) hm.2⟩
theorem Zh{fs:List bD}{q:List ax}{X:BX}{x:Int}:(x,())∈sel fs q X↔∃f∈fs,f.1=x/\D8 q f X=true:=by
 unfold sel;rw[ajv];constructor
 .rintro⟨f,hf,e⟩;rw[ajQ]at hf;exact⟨f,hf.1,congrArg Prod.fst e,hf.2⟩
 .rintro⟨f,hf,rfl,hm⟩;exact⟨f,ajQ.2 ⟨hf,hm⟩,rfl⟩
def aau(fs:List bD)(d:List cO):Sys Bytes Int where
 T:=λs X x=>∃i,i<d.length/\(lM d i).1=s/\(x,())∈sel fs (lM d i).2.1 X
 pos:=λs t=>∃i,i<d.length/\(lM d i).1=s/\t∈xu (lM d i).2.1 false
 neg:=λs t=>∃i,i<d.length/\(lM d i).1=s/\t∈xu (lM d i).2.1 true
 mono:=λs X Y hp hn x⟨i,hi,e,hx⟩=>⟨i,hi,e,by obtain⟨f,hf,e2,hm⟩:=Zh.1 hx;exact Zh.2 ⟨f,hf,e2,X5 (λt ht=>hp t ⟨i,hi,e,ht⟩) (λt ht=>hn t ⟨i,hi,e,ht⟩) hm⟩⟩
end Sp
namespace Go.Fw
open Go
theorem LD{n m:Nat}{left:Int}(h:0<=Sp.bJ n left):Sp.bJ m (Sp.bJ n left)=Sp.bJ (n+m) left:=by
 unfold Sp.bJ at h ⊢;split at h
 .omega
 .next h1=>rw[if_neg h1];by_cases h2:left-↑n-↑m<0
           .rw[if_pos h2,if_pos (by omega)]
           .rw[if_neg h2,if_neg (by omega)];omega
theorem zf{n m:Nat}{left:Int}(h:Sp.bJ n left<0):Sp.bJ (n+m) left=-1:=by
 unfold Sp.bJ at h ⊢;split at h
 .rw[if_pos (by omega)]
 .omega
theorem Ve{n:Nat}{left:Int}(h:0<=left):Sp.bJ n left<=left:=by unfold Sp.bJ;split<;>omega
theorem LC{n:Nat}{left:Int}(h:¬left-(n:Int)<0):Sp.bJ n left=left-n:=by unfold Sp.bJ;rw[if_neg h]
def rY{α:Type}(f:α->Nat):List α->Nat
 |[]=>0
 |x::r=>f x+rY f r
theorem zW{α:Type}(f:α->Nat):∀a:List α,Sp.Ja f a=a.length+rY f a
 |[]=>rfl
 |x::r=>by simp only[Sp.Ja,rY,zW f r,ahu];omega
theorem Vp{α:Type}(f:α->Nat)(d:α):∀(a:List α)(n:Nat),n<a.length->rY f (a.take (n+1))=rY f (a.take n)+f (a.getD n d)
 |[],n,h=>by simp at h
 |x::r,0,_=>by simp[rY]
 |x::r,n+1,h=>by have:=Vp f d r n (by simpa using h);simp only[aiy,rY,List.getD_cons_succ]at this ⊢;omega
theorem Zi{α:Type}(f:α->Nat):∀(a:List α)(n:Nat),rY f (a.take n)<=rY f a
 |[],n=>by simp
 |x::r,0=>by simp[rY]
 |x::r,n+1=>by simp only[aiy,rY];have:=Zi f r n;omega
theorem abp{α β:Type}(f:α->Nat)(d:α)(a:List α)(left:Int)(t:β)(hlen:a.length<=9223372036854775807)(h0:0<=left)(h1:left<=1048576){K:Int×Unit->Prop}(hK:K (Sp.bJ (Sp.Ja f a) left,())):
 bif decide (IntKind.i64.wrap (left-(a.length:Int))<(0:Int))then K ((-1:Int),())
 else∃(I:(Int×Int×Unit)×Unit->Prop),∃(μ:(Int×Int×Unit)×Unit->Nat),I ((IntKind.i64.wrap (left-(a.length:Int)),(0:Int),()),())/\∀(y:(Int×Int×Unit)×Unit),I y->
  bif decide (y.fst.snd.fst<(a.length:Int))then
   ((0:Int)<=y.fst.snd.fst/\y.fst.snd.fst<(a.length:Int))/\((0:Int)<=y.fst.fst/\y.fst.fst<=(1048576:Int))/\
     (bif decide (Sp.bJ (f (a.getD (Int.toNat y.fst.snd.fst) d)) y.fst.fst<(0:Int))then K ((-1:Int),())
     else t=t/\I ((Sp.bJ (f (a.getD (Int.toNat y.fst.snd.fst) d)) y.fst.fst,IntKind.i64.wrap (y.fst.snd.fst+(1:Int)),()),())/\
      μ ((Sp.bJ (f (a.getD (Int.toNat y.fst.snd.fst) d)) y.fst.fst,IntKind.i64.wrap (y.fst.snd.fst+(1:Int)),()),())<μ y)
  else K (y.fst.fst,()):=by
 rw[dW _ (by omega)];refine ah (λh=>?_) λh=>?_<;>simp only[ahA,ahM]at h
 .rw[zW,zf (by unfold Sp.bJ;rw[if_pos h];omega)]at hK;exact hK
 .refine⟨λy=>∃n:Nat,y.1.2.1=n/\n<=a.length/\0<=y.1.1/\y.1.1=Sp.bJ (a.length+rY f (a.take n)) left,λy=>((a.length:Int)-y.1.2.1).toNat,⟨0,rfl,by omega,by show 0<=left-(a.length:Int);omega,?_⟩,?_⟩
  .rw[ai4,rY,aiC,LC h]
  rintro⟨⟨l,_,⟨⟩⟩,⟨⟩⟩ ⟨n,rfl,hn,hl,hJ⟩;dsimp only at hl hJ ⊢;have hle:l<=left:=by rw[hJ];exact Ve h0
  refine ah (λh=>?_) λh=>?_<;>simp only[ahA,ahM]at h
  .have hlt:n<a.length:=by omega
   have hstep:0<=Sp.bJ (a.length+rY f (a.take n)) left:=by rw[← hJ];exact hl
   have key:Sp.bJ (f (a.getD n d)) l=Sp.bJ (a.length+rY f (a.take (n+1))) left:=by rw[hJ,LD hstep,Vp f d a n hlt,ajW]
   rw[aia,dW _ (by omega)];refine⟨⟨by omega,by omega⟩,⟨hl,by omega⟩,ah (λh2=>?_) λh2=>?_⟩<;>simp only[ahA,ahM]at h2
   .rw[key]at h2;have hw:=Zi f a (n+1);have:Sp.bJ (Sp.Ja f a) left=-1:=by rw[zW,show a.length+rY f a=(a.length+rY f (a.take (n+1)))+(rY f a-rY f (a.take (n+1))) by omega];exact zf h2
    rw[this]at hK;exact hK
   .exact⟨rfl,⟨n+1,by simp,by omega,by omega,key⟩,by omega⟩
  .have hge:n=a.length:=by omega
   subst hge;rw[ai8,← zW]at hJ;rw[hJ];exact hK
theorem toS_vc{α β:Type}(pre:α->Prop)(d:α)(a:List α)(t:β)(hbig:a.length<=4294967296)(hpre:∀x∈a,pre x){K:List α×Unit->Prop}(hK:K (a,())):
 ((0:Int)<=(a.length:Int)/\(a.length:Int)<=(a.length:Int)/\(a.length:Int)<=(big:Int))/\
 ∃(I:(Int×Unit)×List α×Unit->Prop),∃(μ:(Int×Unit)×List α×Unit->Nat),I (((0:Int),()),List.replicate (a.length:Int).toNat d,())/\∀(y:(Int×Unit)×List α×Unit),I y->
  bif decide (y.fst.fst<(a.length:Int))then
   ((0:Int)<=y.fst.fst/\y.fst.fst<(a.length:Int))/\pre (a.getD (Int.toNat y.fst.fst) d)/\((0:Int)<=y.fst.fst/\y.fst.fst<(List.length y.snd.fst:Int))/\Int.toNat y.fst.fst<List.length y.snd.fst/\
     t=t/\I ((IntKind.i64.wrap (y.fst.fst+(1:Int)),()),List.set y.snd.fst (Int.toNat y.fst.fst) (a.getD (Int.toNat y.fst.fst) d),())/\
      μ ((IntKind.i64.wrap (y.fst.fst+(1:Int)),()),List.set y.snd.fst (Int.toNat y.fst.fst) (a.getD (Int.toNat y.fst.fst) d),())<μ y
  else K (y.snd.fst,()):=by
 refine⟨⟨by omega,by omega,by rw[Gm];omega⟩,λy=>∃n:Nat,y.1.1=n/\n<=a.length/\y.2.1=a.take n++List.replicate (a.length-n) d,λy=>((a.length:Int)-y.1.1).toNat,⟨0,rfl,by omega,by simp⟩,?_⟩;rintro⟨⟨_,⟨⟩⟩,l,⟨⟩⟩ ⟨n,rfl,hn,rfl⟩;dsimp only;refine ah (λh=>?_) λh=>?_<;>simp only[ahA,ahM]at h
 .have hlt:n<a.length:=by omega
  have hl:(a.take n++List.replicate (a.length-n) d).length=a.length:=by simp only[ahr,ahJ,ajH];omega
  rw[dW _ (by omega),aia,hl];refine⟨⟨by omega,by omega⟩,hpre _ (getD_mem hlt),⟨by omega,by omega⟩,hlt,rfl,⟨n+1,by simp,by omega,?_⟩,by omega⟩;rw[show a.length-n=a.length-(n+1)+1 by omega,List.replicate_succ,List.set_append_right _ _ (by rw[ahJ];omega),ahJ,ajr hn,ajj,List.set_cons_zero,
     aiE hlt,ahC,ahv,ahw hlt]
  rfl
 .have hge:n=a.length:=by omega
  subst hge;simpa using hK
theorem abn{α β:Type}(e:α->α->Bool)(he:∀x y,e x y=true↔x=y)(d:α)(a b:List α)(t:β)(hlen:a.length<=9223372036854775807){K:Bool×Unit->Prop}(hK:∀z:Bool,(z=true↔a=b)->K (z,())):
 bif (a.length:Int) !=(b.length:Int)then K (false,())
 else∃(I:(Int×Unit)×Unit->Prop),∃(μ:(Int×Unit)×Unit->Nat),I (((0:Int),()),())/\∀(y:(Int×Unit)×Unit),I y->
  bif decide (y.fst.fst<(a.length:Int))then
   ((0:Int)<=y.fst.fst/\y.fst.fst<(a.length:Int))/\((0:Int)<=y.fst.fst/\y.fst.fst<(b.length:Int))/\True/\
     (bif !e (a.getD (Int.toNat y.fst.fst) d) (b.getD (Int.toNat y.fst.fst) d)then K (false,())
     else t=t/\I ((IntKind.i64.wrap (y.fst.fst+(1:Int)),()),())/\μ ((IntKind.i64.wrap (y.fst.fst+(1:Int)),()),())<μ y)
  else K (true,()):=by
 refine ah (λh=>?_) λh=>?_
 .refine hK false ⟨λh=>(by cases h),λh2=>?_⟩;subst h2;simp at h
 .have hl:a.length=b.length:=by simp at h;omega
  refine⟨λy=>∃n:Nat,y.1.1=n/\n<=a.length/\a.take n=b.take n,λy=>((a.length:Int)-y.1.1).toNat,⟨0,rfl,by omega,by simp⟩,?_⟩;rintro⟨⟨_,⟨⟩⟩,⟨⟩⟩ ⟨n,rfl,hn,hJ⟩;dsimp only;refine ah (λh=>?_) λh=>?_<;>simp only[ahA,ahM]at h
  .have hlt:n<a.length:=by omega
   have hlt2:n<b.length:=by omega
   rw[dW _ (by omega),aia];refine⟨⟨by omega,by omega⟩,⟨by omega,by omega⟩,trivial,ah (λhc=>?_) λhc=>?_⟩
   .refine hK false ⟨λh=>(by cases h),λh2=>?_⟩;subst h2;have:=(he (a.getD n d) (a.getD n d)).2 rfl;rw[this]at hc;cases hc
   .refine⟨rfl,⟨n+1,by simp,by omega,?_⟩,by omega⟩;have hx:=(he (a.getD n d) (b.getD n d)).1 (by simpa using hc);rw[ahv,ahw hlt,ai7,ahv,ahw hlt2,ai7]at hx;rw[aiE hlt,aiE hlt2,hJ,hx]
  .refine hK true ⟨λ_=>?_,λ_=>rfl⟩;rw[show n=a.length by omega,ai8,hl,ai8]at hJ;exact hJ
end Go.Fw
namespace Go.Fw
open Go
theorem vC{p:Prop}[Decidable p]{A B:Prop}(h:p)(a:A):cond (decide p) A B:=by rw[ahT h];exact a
theorem vF{p:Prop}[Decidable p]{A B:Prop}(h:¬p)(b:B):cond (decide p) A B:=by rw[ah5 h];exact b
theorem CQ{B:((Int×Unit)×Unit->Prop)->((Int×Unit)×Unit->Nat)->(Int×Unit)×Unit->Prop}(len:Nat)(hlen:len<=9223372036854775807)(J:Nat->Prop)(h0:J 0)
 (hstep:∀I μ(n:Nat),n<len->J n->(J (n+1)->I ((IntKind.i64.wrap ((n:Int)+1),()),())/\μ ((IntKind.i64.wrap ((n:Int)+1),()),())<μ (((n:Int),()),()))->B I μ (((n:Int),()),()))
 (hend:∀I μ,J len->B I μ (((len:Int),()),())):∃I,∃μ,I (((0:Int),()),())/\∀y,I y->B I μ y:=by
 refine⟨λy=>∃n:Nat,y.1.1=n/\n<=len/\J n,λy=>((len:Int)-y.1.1).toNat,⟨0,rfl,ahR _,h0⟩,?_⟩;rintro⟨⟨_,⟨⟩⟩,⟨⟩⟩ ⟨n,rfl,hn,hJ⟩;rcases ahQ n len with h|h
 .refine hstep _ _ n h hJ λhJ'=>?_;have e:IntKind.i64.wrap ((n:Int)+1)=((n+1:Nat):Int):=dW _ (by omega);rw[e];exact⟨⟨n+1,rfl,h,hJ'⟩,by show((len:Int)-(n+1:Nat)).toNat<((len:Int)-n).toNat;omega⟩
 .have:n=len:=by omega
  subst this;exact hend _ _ hJ
theorem xM{Y S:Type}(mk:Int->S->Y)(idx:Y->Int)(hidx:∀i s,idx (mk i s)=i){B:(Y->Prop)->(Y->Nat)->Y->Prop}(len:Nat)(hlen:len<=9223372036854775807)(J:Nat->S->Prop){s0:S}(h0:J 0 s0)
 (hstep:∀I μ(n:Nat)(s:S),n<len->J n s->(∀s',J (n+1) s'->I (mk (IntKind.i64.wrap ((n:Int)+1)) s')/\μ (mk (IntKind.i64.wrap ((n:Int)+1)) s')<μ (mk n s))->B I μ (mk n s))
 (hend:∀I μ s,J len s->B I μ (mk len s)):∃I,∃μ,I (mk 0 s0)/\∀y,I y->B I μ y:=by
 refine⟨λy=>∃(n:Nat)(s:S),y=mk n s/\n<=len/\J n s,λy=>((len:Int)-idx y).toNat,⟨0,s0,rfl,ahR _,h0⟩,?_⟩;rintro _ ⟨n,s,rfl,hn,hJ⟩;rcases ahQ n len with h|h
 .refine hstep _ _ n s h hJ λs' hJ'=>?_;have e:IntKind.i64.wrap ((n:Int)+1)=((n+1:Nat):Int):=dW _ (by omega);rw[e];refine⟨⟨n+1,s',rfl,h,hJ'⟩,?_⟩;show((len:Int)-idx (mk (n+1:Nat) s')).toNat<((len:Int)-idx (mk n s)).toNat;rw[hidx,hidx];omega
 .have:n=len:=by omega
  subst this;exact hend _ _ s hJ
theorem VH{len:Nat}{f:Nat->Bool}{n:Nat}(hn:n<len)(h:f n=false):Sp.oD len f=false:=by unfold Sp.oD;rw[aj2];exact⟨n,aiA.2 hn,by rw[h];simp⟩
theorem Lp{len:Nat}{f:Nat->Bool}(h:∀i,i<len->f i=true):Sp.oD len f=true:=by unfold Sp.oD;rw[ahH];exactλi hi=>h i (aiA.1 hi)
theorem YH{len:Nat}{f:Nat->Bool}:Sp.oD len f=true↔∀i,i<len->f i=true:=by unfold Sp.oD;rw[ahH];exact⟨λh i hi=>h i (aiA.2 hi),λh i hi=>h i (aiA.1 hi)⟩
theorem xq{n:Nat}{f:Nat->Bool}(h:∀i,i<n->f i=true)(hn:f n=true):∀i,i<n+1->f i=true:=λi hi=>by
 rcases ahQ i n with h'|h'
 .exact h i h'
 .have:i=n:=by omega
  rw[this];exact hn
theorem tH{b:Bool}(h:(!b)=true):b=false:=by cases b<;>first|rfl|cases h
theorem oh{b:Bool}(h:(!b)=false):b=true:=by cases b<;>first|rfl|cases h
theorem kL{p:Prop}[Decidable p](h:decide p=true):p:=aio h
theorem mO{p:Prop}[Decidable p](h:decide p=false):¬p:=ajx h
theorem Zb{n:Nat}(h:0<n)(hn:n<=9223372036854775807):IntKind.i64.wrap ((n:Int)-1)=((n-1:Nat):Int):=by rw[dW _ (by omega)];omega
theorem X6{α:Type}{d:α}{a b:List α}(hl:a.length=b.length)(h:∀i,i<a.length->a.getD i d=b.getD i d):a=b:=by refine aj8 hl λi h1 h2=>?_;have:=h i h1;rw[ahv,ahv,ahw h1,ahw h2]at this;simpa using this
theorem Ze{α β:Type}(e:α->α->Bool)(he:∀x y,e x y=false↔x=y)(d:α)(a b:List α)(t:β)(hlen:a.length<=9223372036854775807)(hl:a.length=b.length){K:Bool×Unit->Prop}(hF:a≠b->K (false,()))(hT:a=b->K (true,())):
 ∃(I:(Int×Unit)×Unit->Prop),∃(μ:(Int×Unit)×Unit->Nat),I (((0:Int),()),())/\∀(y:(Int×Unit)×Unit),I y->
  bif decide (y.fst.fst<(a.length:Int))then
   ((0:Int)<=y.fst.fst/\y.fst.fst<(a.length:Int))/\((0:Int)<=y.fst.fst/\y.fst.fst<(b.length:Int))/\
     (bif e (a.getD (Int.toNat y.fst.fst) d) (b.getD (Int.toNat y.fst.fst) d)then K (false,())
     else t=t/\I ((IntKind.i64.wrap (y.fst.fst+(1:Int)),()),())/\μ ((IntKind.i64.wrap (y.fst.fst+(1:Int)),()),())<μ y)
  else K (true,()):=by
 refine CQ a.length hlen (λn=>∀i,i<n->a.getD i d=b.getD i d) (λi hi=>by omega) (λI μ n hn hJ next=>?_) λI μ hJ=>(by dsimp only;exact vF (by omega) (hT (X6 hl hJ)));dsimp only;refine vC (by omega) ⟨⟨by omega,by omega⟩,⟨by omega,by omega⟩,ah (λh=>hF λh'=>?_) λh=>⟨rfl,next λi hi=>?_⟩⟩
 .subst h';have:=(he (a.getD n d) (a.getD n d)).2 rfl;have h:e (a.getD n d) (a.getD n d)=true:=h;rw[this]at h;cases h
 .rcases ahQ i n with h'|h'
  .exact hJ i h'
  .have:i=n:=by omega
   rw[this];exact(he _ _).1 h
end Go.Fw
namespace Sp
open Go Go.Fw
theorem Yz{s:qL}:sW s=true↔(∀i,i<s.2.1.length->XV s i=true)/\DK s.1=true/\s.2.1.length<=12/\1<=s.2.2.1/\s.2.2.1<=61:=by
 unfold sW;rw[ahq,ahq,ahq,ahq,ahA,ahA,ahA,YH];constructor
 .rintro⟨⟨⟨h1,h2⟩,h3⟩,h4,h5⟩;exact⟨h1,h2,by omega,h4,h5⟩
 .rintro⟨h1,h2,h3,h4,h5⟩;exact⟨⟨⟨h1,h2⟩,by omega⟩,h4,h5⟩
theorem DL(s:qL)(f:bD):(vz s f=(s,0,false)/\¬(sW s=true/\s.2.1.length<12/\AQ s.1 (s.2.2.1,f.2)=true))\/
 (sW s=true/\s.2.1.length<12/\AQ s.1 (s.2.2.1,f.2)=true/\vz s f=((s.1,s.2.1++[(s.2.2.1,f.2)],s.2.2.1+1,()),s.2.2.1,true)):=by
 by_cases h:sW s=true/\s.2.1.length<12/\AQ s.1 (s.2.2.1,f.2)=true
 .right;refine⟨h.1,h.2.1,h.2.2,?_⟩;unfold vz;dsimp only;rw[h.1,h.2.2,ahT (by omega)];rfl
 .left;refine⟨?_,h⟩;have:(sW s&&decide ((s.2.1.length:Int)<12)&&AQ s.1 (s.2.2.1,f.2))=false:=by
   cases hb:(sW s&&decide ((s.2.1.length:Int)<12)&&AQ s.1 (s.2.2.1,f.2))with
   |false=>rfl
   |true=>simp only[ahq,ahA]at hb;exact(h ⟨hb.1.1,by omega,hb.2⟩).elim
  unfold vz;dsimp only;rw[this];rfl
end Sp
namespace Sp
open Go Go.Fw
end Sp
namespace Sp
open Go
def nameOf(d:List cO)(i:Nat):Bytes:=(lM d i).1
def CS(d:List cO)(i:Nat):List ax:=(lM d i).2.1
def acV(r:List qU)(i:Nat):qU:=r.getD i ([],[],())
def Jd(r:List qU)(i:Nat):List (Int×Unit):=(acV r i).2.1
def afg(d:List cO)(eF:List (Int×Unit)):Prop:=
 eF.length=d.length/\(∀i,i<d.length->0<=lv eF i/\lv eF i<=d.length)/\(Ho (vI d) λi=>(lv eF i).toNat)/\∀M,Ho (vI d) M->∀i,i<d.length->lv eF i<=M i
def ab9(d:List cO)(eF:List (Int×Unit))(s:Bytes):Nat:=(lv eF (lU d s).toNat).toNat
def due(d:List cO)(nm:Bytes->Bool)(s:Bytes):Prop:=nm s=true/\∃i,i<d.length/\nameOf d i=s
def Vq(d:List cO)(out:List qU):Prop:=out.length=d.length/\∀i,i<d.length->(acV out i).1=nameOf d i
structure afh(fs:List bD)(d:List cO)(r:List qU)(nm:Bytes->Bool)(out:List qU):Prop where
 order:Vq d out
 kept:∀i,i<d.length->nm (nameOf d i)=false->Jd out i=SA r (nameOf d i)
 fix:∀i,i<d.length->nm (nameOf d i)=true->Jd out i=sel fs (CS d i) (Nr out)
 eF:∃eF,afg d eF/\Eval (aau fs d) (due d nm) (ab9 d eF) (Nr out)
def Ns{ι α:Type}(S:Sys ι α)(N:ι->Prop)(eF:ι->Nat)(k:Nat)(X:Ext ι α):Prop:=
 ∀Y:Ext ι α,(∀i,¬(N i/\eF i=k)->∀x,Y i x=X i x)->(∀i,N i->eF i=k->∀x,S.T i Y x->Y i x=true)->∀i,N i->eF i=k->∀x,X i x=true->Y i x=true
open Classical in
theorem adw{ι α:Type}{S:Sys ι α}{N:ι->Prop}{eF:ι->Nat}(hs:aff S N eF){m:Nat}{X X':Ext ι α}(h:∀i,¬(N i/\m<eF i)->∀x,X i x=X' i x)(hX:Ns S N eF m X):Ns S N eF m X':=by
 intro Y hY hp i hi hl x hx;have key:=hX (λi x=>if N i/\m<eF i then X i x else Y i x) (λj hj y=>?_) (λj hj hlj y hy=>?_) i hi hl x (by rw[h i (by omega)];exact hx)
 .rw[if_neg (by omega)]at key;exact key
 .by_cases hc:N j/\m<eF j
  .rw[if_pos hc]
  .rw[if_neg hc,hY j hj,h j hc]
 .rw[if_neg (by omega)];have same:∀t,(S.pos j t\/S.neg j t)->¬(N t/\m<eF t):=λt ht hc=>by
   rcases ht with ht|ht
   .have:=(hs j t hj hc.1).1 ht;omega
   .have:=(hs j t hj hc.1).2 ht;omega
  refine hp j hj hlj y (S.mono j _ Y (λt ht z hz=>?_) (λt ht z=>?_) y hy)
  .rw[if_neg (same t (.inl ht))]at hz;exact hz
  .rw[if_neg (same t (.inr ht))]
def canon(fs:List bD)(l:List (Int×Unit)):Prop:=l=(fs.filter λf=>aap l f.1).map λf=>(f.1,())
structure agt(fs:List bD)(d:List cO)(r:List qU)(nm:Bytes->Bool)(eF:List (Int×Unit))(k:Nat)(out:List qU):Prop where
 order:Vq d out
 kept:∀i,i<d.length->nm (nameOf d i)=false->Jd out i=SA r (nameOf d i)
 later:∀i,i<d.length->nm (nameOf d i)=true->(k:Int)<lv eF i->Jd out i=[]
 done:∀i,i<d.length->nm (nameOf d i)=true->lv eF i<k->Jd out i=sel fs (CS d i) (Nr out)
 agY:∀m,m<k->Ns (aau fs d) (due d nm) (ab9 d eF) m (Nr out)
 ahg:∀i,i<d.length->nm (nameOf d i)=true->lv eF i=k->∀x,aap (Jd out i) x=true->(x,())∈sel fs (CS d i) (Nr out)
 least:Ns (aau fs d) (due d nm) (ab9 d eF) k (Nr out)
 canon:∀i,i<d.length->nm (nameOf d i)=true->canon fs (Jd out i)
def room(n:Nat)(out:List qU):Nat:=(out.map λx=>n-x.2.1.length).sum
end Sp
namespace Sp
open Go
abbrev X7:=List iF×List bD×Int×List cO×List qU×Unit
instance:DecidableEq (List (Int×Unit)):=inferInstance
instance:DecidableEq qU:=inferInstance
instance:DecidableEq (List qU):=inferInstance
instance:DecidableEq (List qU×Unit):=inferInstance
instance:DecidableEq (List cO×List qU×Unit):=inferInstance
instance:DecidableEq (Int×List cO×List qU×Unit):=inferInstance
instance:DecidableEq (List bD×Int×List cO×List qU×Unit):=inferInstance
instance ahh:DecidableEq X7:=(inferInstance:DecidableEq (List iF×List bD×Int×List cO×List qU×Unit))
def aes(c:X7):qL:=(c.1,c.2.1,c.2.2.1,())
def acW(c:X7):List cO:=c.2.2.2.1
def agp(c:X7):List qU:=c.2.2.2.2.1
open Classical in
noncomputable def ag6 (c:X7):Bool:=aao (acW c)&&sW (aes c)&&decide (afh c.2.1 (acW c) [] (λ_=>true) (agp c))
def acd(f g:bD):List Bytes:=((f.2.2.2.2.1++g.2.2.2.2.1).map λa=>a.1).filter λs=>!decide (Aa f.2.2.2.2.1 s=Aa g.2.2.2.2.1 s)
def adx(q:List ax):List Bytes:=(q.filter λn=>n.1==2||(n.1==3||n.1==4)).map λn=>n.2.2.2.1
def aeu(q:List ax):List Bytes:=(q.filter Me).map λn=>n.2.2.2.1
def linked(q:List ax):Bool:=q.any λn=>n.1==9
inductive Reach(d:List cO)(P:Bytes->Prop):Bytes->Prop where
 |base {s}:P s->Reach d P s
 |step {s i}:Reach d P s->i<d.length->s∈aeu (CS d i)->Reach d P (nameOf d i)
def ace(d:List cO)(f g:bD)(s:Bytes):Prop:=
 ∃i,i<d.length/\nameOf d i=s/\(f.1≠g.1\/(∃t,t∈adx (CS d i)/\t∈acd f g)\/(linked (CS d i)=true/\f.2.2.2.1≠g.2.2.2.1))
def Aff(d:List cO)(f g:bD):Bytes->Prop:=Reach d (ace d f g)
open Classical in
noncomputable def ahi (d:List cO) (f g:bD) (s:Bytes):Bool:=decide (Aff d f g s)
end Sp
namespace Sp
open Go
end Sp
namespace Sp
open Go
end Sp
namespace Sp
open Go
def named(f:bD)(w:Bytes):bD:=(f.1,f.2.1,f.2.2.1,f.2.2.2.1,adt f.2.2.2.2.1 [110] 2 0 w,())
end Sp
namespace Sp
open Go
def lC(b:UInt8):Bool:=decide (32<=b.toNat)&&decide (b.toNat<=126)
def J3(s:Bytes):Bool:=s.all λb=>decide (b.toNat<128)
def wordsOf(s:Bytes):LS:=(Lib.fields s).map (·,())
def iy(s:Bytes):Bool:=decide ((s.length:Int)<=600)&&s.all lC&&decide (((Lib.fields s).length:Int)<=24)
def kE(s:Bytes):LS:=bif iy s then wordsOf s else[]
def fD(s:Bytes):Int:=s.foldl (λn b=>10*n+((b.toNat:Int)-48)) 0
def bM(s:Bytes):Bool:=aW (fD s)&&(Lib.itoa (fD s)==s)
def parseNum(s:Bytes):Int:=bif bM s then fD s else 0
def wordAt(w:LS)(i:Int):Bytes:=bif decide (i>=(w.length:Int))then[]else(w.getD i.toNat ([],())).1
def jE(w:LS):Bytes:=Lib.join (w.map (·.1)) [32]
def numAt(w:LS)(i:Int):Int:=parseNum (wordAt w i)
def V9(w:LS):Int×Int×Bytes×Int:=
 bif wordAt w 0==[99,111,109,109,105,116]then(1,numAt w 1,[],0)else
 bif wordAt w 0==[99,114,97,115,104]then(2,numAt w 1,[],numAt w 2)else
 bif wordAt w 0==[119,97,116,99,104]then(3,numAt w 1,wordAt w 2,0)else
 bif wordAt w 0==[112,105,110]then(4,0,[],numAt w 1)else
 bif wordAt w 0==[117,110,112,105,110]then(5,0,[],numAt w 1)else
 bif wordAt w 0==[99,111,108,108,101,99,116]then(6,0,[],0)else
 bif wordAt w 0==[97,100,100]then(7,numAt w 1,wordAt w 2,numAt w 3)else
 bif wordAt w 0==[114,101,109,111,118,101]then(8,numAt w 1,wordAt w 2,numAt w 3)else(0,0,[],0)
def ady(x:Int×Int×Bytes×Int):Bytes:=Jb x.1 x.2.1 0 x.2.2.1 x.2.2.2
end Sp
namespace Sp
open Go
theorem acf(u:Nat):Lib.itoa (u:Int)=Lib.decDigits u:=by unfold Lib.itoa;rw[if_neg (by omega)];simp
theorem xw(s:Bytes)(d:UInt8):fD (s++[d])=10*fD s+((d.toNat:Int)-48):=by simp[fD,List.foldl_append]
theorem byte_of(d:Nat)(h:d<10):(UInt8.ofNat (48+d)).toNat=48+d:=by rw[UInt8.toNat_ofNat'];omega
theorem Hq(s:List UInt8):∀(acc:Nat)(n:Nat),Lib.decFrom acc s=some n->∀d,d<10->Lib.decFrom acc (s++[UInt8.ofNat (48+d)])=some (n*10+d):=by
 intro acc n h d hd
 induction s generalizing acc with
 |nil=>
  simp only[Lib.decFrom,Option.some.injEq]at h;subst h;have:∀d:Fin 10,Lib.digitVal (UInt8.ofNat (48+d.val))=some d.val:=by decide
  have h2:=this ⟨d,hd⟩;simp only[aif,Lib.decFrom];rw[h2]
 |cons a r ih=>
  simp only[aix,Lib.decFrom]at h ⊢;cases hv:Lib.digitVal a with
  |none=>rw[hv]at h;simp at h
  |some x=>rw[hv]at h;simp only at h ⊢;exact ih _ h
theorem xA:∀(k u:Nat),u<10 ^ (k+1)->fD (Lib.decDigits u)=u/\Lib.decFrom 0 (Lib.decDigits u)=some u/\(∀b∈Lib.decDigits u,48<=b.toNat/\b.toNat<=57)/\Lib.decDigits u≠[]/\(Lib.decDigits u).length<=k+1
 |0,u,h=>by
  have h:u<10:=by simpa using h
  rw[Lib.decDigits_one h];have hb:=byte_of u h;have:=Hq [] 0 0 rfl u h;refine⟨?_,?_,λb hm=>?_,ajp _ _,ahx _⟩
  .have:=xw [] (UInt8.ofNat (48+u));rw[aif]at this;rw[this,hb];show 10*0+_=_;omega
  .rw[aif,ai5,ahN]at this;exact this
  .rw[aje]at hm;subst hm;omega
 |k+1,u,h=>by
  by_cases h1:u<10
  .have:=xA 0 u (by simpa using h1);exact⟨this.1,this.2.1,this.2.2.1,this.2.2.2.1,by omega⟩
  .have hd:u / 10<10 ^ (k+1):=by rw[Nat.pow_succ]at h;omega
   obtain⟨i1,i2,i3,i4,i5⟩:=xA k (u / 10) hd;have e:Lib.decDigits u=Lib.decDigits (u / 10)++[UInt8.ofNat (48+u%10)]:=by
    conv=>lhs;rw[Lib.decDigits,dif_neg h1]
   have hm:u%10<10:=ajL _ (by decide);have hb:=byte_of (u%10) hm;rw[e];refine⟨by rw[xw,i1,hb];omega,?_,λb hb2=>?_,by simp,by simp;omega⟩
   .rw[Hq _ _ _ i2 _ hm];congr 1;omega
   .rcases aie.1 hb2 with h2|h2
    .exact i3 b h2
    .rw[aje]at h2;subst h2;omega
theorem rP{n:Int}:aW n=true↔0<=n/\n<=1000000000:=by unfold aW;rw[ahq,ahA,ahA]
theorem oQ{n:Int}(h:aW n=true):fD (Lib.itoa n)=n/\Lib.atoi (Lib.itoa n)=some n/\(∀b∈Lib.itoa n,48<=b.toNat/\b.toNat<=57)/\Lib.itoa n≠[]/\(Lib.itoa n).length<=10:=by
 obtain⟨h0,h1⟩:=rP.1 h;obtain⟨u,rfl⟩:=Int.eq_ofNat_of_zero_le h0;have hu:u<10 ^ (9+1):=by omega
 rw[acf];obtain⟨i1,i2,i3,i4,i5⟩:=xA 9 u hu;refine⟨i1,?_,i3,i4,i5⟩;cases hd:Lib.decDigits u with
 |nil=>exact absurd hd i4
 |cons b r=>
  have hb:=i3 b (by rw[hd];simp);rw[hd]at i2;have n45:(b==45)=false:=by rw[aht];intro e;subst e;revert hb;decide
  have n43:(b==43)=false:=by rw[aht];intro e;subst e;revert hb;decide
  simp only[Lib.atoi,n45,n43,Lib.decNat,aiN,ajk,List.isEmpty_cons,i2,aid]
theorem wL{s:Bytes}:bM s=true↔aW (fD s)=true/\Lib.itoa (fD s)=s:=by unfold bM;rw[ahq,ahO]
theorem IA{s:Bytes}{n:Int}(h:aW n=true)(e:Lib.itoa n=s):bM s=true/\parseNum s=n:=by
 have hv:fD s=n:=by rw[← e];exact(oQ h).1
 have:bM s=true:=wL.2 ⟨by rw[hv];exact h,by rw[hv];exact e⟩;exact⟨this,by unfold parseNum;rw[this];exact hv⟩
theorem aav{n:Int}(h:aW n=true):bM (Lib.itoa n)=true/\parseNum (Lib.itoa n)=n:=IA h rfl
theorem eP{s:Bytes}(h:bM s=true):Lib.itoa (parseNum s)=s/\aW (parseNum s)=true:=by
 have e:parseNum s=fD s:=by unfold parseNum;rw[h];rfl
 rw[e];exact⟨(wL.1 h).2,(wL.1 h).1⟩
theorem Bf(s:Bytes):aW (parseNum s)=true:=by
 cases h:bM s with
 |true=>exact(eP h).2
 |false=>unfold parseNum;rw[h];rfl
theorem wJ{s:Bytes}(h:bM s=false):parseNum s=0:=by unfold parseNum;rw[h];rfl
theorem VP{s:Bytes}(h:bM s=true):s.length<=10:=by
 have:=(oQ (eP h).2).2.2.2.2
 rwa [(eP h).1]at this
theorem Lc{s:Bytes}(h:10<s.length):bM s=false:=by
 cases hp:bM s with
 |false=>rfl
 |true=>have:=VP hp;omega
theorem Hr{s:Bytes}(h:bM s=true):∀b∈s,48<=b.toNat/\b.toNat<=57:=by
 have:=(oQ (eP h).2).2.2.1
 rwa [(eP h).1]at this
end Sp
namespace Sp
open Go
def afi(x:Bytes):Prop:=x≠[]/\∀b∈x,Lib.isSp b=false
theorem map_unit:∀w:LS,(w.map (·.1)).map (·,())=w
 |[]=>rfl
 |(_,())::r=>by rw[ahE,ahE,map_unit r]
theorem aaw{n:Int}(h:aW n=true):afi (Lib.itoa n):=by
 obtain⟨_,_,h3,h4,_⟩:=oQ h;refine⟨h4,λb hb=>?_⟩;have:=h3 b hb;unfold Lib.isSp;have ne:∀c:UInt8,c.toNat<48->(b==c)=false:=λc hc=>by rw[aht];intro e;subst e;omega
 rw[ne 9 (by decide),ne 10 (by decide),ne 11 (by decide),ne 12 (by decide),ne 13 (by decide),ne 32 (by decide)];rfl
def X8:Bytes:=[99,111,109,109,105,116]
def Zj:Bytes:=[99,114,97,115,104]
def Zk:Bytes:=[119,97,116,99,104]
def acX:Bytes:=[112,105,110]
def Zl:Bytes:=[117,110,112,105,110]
def Vr:Bytes:=[99,111,108,108,101,99,116]
def acY:Bytes:=[97,100,100]
def X9:Bytes:=[114,101,109,111,118,101]
theorem Cj(x y:Bytes):Lib.join [x,y] [32]=x++32::y:=by rw[Lib.join_cons];simp[Lib.joinTail]
theorem Nc(x y z:Bytes):Lib.join [x,y,z] [32]=x++32::(y++32::z):=by rw[Lib.join_cons];simp[Lib.joinTail]
end Sp
namespace Sp
open Go
theorem acg(w:LS):V9 w=
 (bif wordAt w 0==X8 then(1,numAt w 1,[],0)else bif wordAt w 0==Zj then(2,numAt w 1,[],numAt w 2)else bif wordAt w 0==Zk then(3,numAt w 1,wordAt w 2,0)else
   bif wordAt w 0==acX then(4,0,[],numAt w 1)else bif wordAt w 0==Zl then(5,0,[],numAt w 1)else bif wordAt w 0==Vr then(6,0,[],0)else
   bif wordAt w 0==acY then(7,numAt w 1,wordAt w 2,numAt w 3)else bif wordAt w 0==X9 then(8,numAt w 1,wordAt w 2,numAt w 3)else(0,0,[],0)):=rfl
end Sp
namespace Sp
open Go
theorem aah(b:UInt8):(decide ((32:Int)<=IntKind.i64.wrap (b.toNat:Int))&&decide (IntKind.i64.wrap (b.toNat:Int)<=126))=lC b:=by
 have e:IntKind.i64.wrap (b.toNat:Int)=b.toNat:=by rw[IntKind.wrap_i64];have:=b.toNat_lt;omega
 rw[e];unfold lC;congr 1
 .exact decide_eq_decide.2 (by omega)
 .exact decide_eq_decide.2 (by omega)
theorem zh{b:UInt8}:lC b=true↔32<=b.toNat/\b.toNat<=126:=by unfold lC;rw[ahq,ahA,ahA]
theorem XH{p:UInt8->Bool}{s:Bytes}(h:∀i,i<s.length->p (s.getD i 0)=true):s.all p=true:=by
 rw[ahH];intro x hx;obtain⟨i,hi,rfl⟩:=aiF.1 hx;have:=h i hi
 rwa [ahv,ahw hi]at this
theorem PZ{p:UInt8->Bool}{s:Bytes}(h:s.all p=true){i:Nat}(hi:i<s.length):p (s.getD i 0)=true:=by rw[ahv,ahw hi];exact ahH.1 h _ (ajo hi)
theorem UA{b:UInt8}(h:lC b=true):Lib.isSp b=(b==32):=by
 have h:=zh.1 h;unfold Lib.isSp;have ne:∀c:UInt8,c.toNat<32->(b==c)=false:=λc hc=>by rw[aht];intro e;subst e;omega
 rw[ne 9 (by decide),ne 10 (by decide),ne 11 (by decide),ne 12 (by decide),ne 13 (by decide)];rfl
theorem ab1{s:Bytes}(h:s.all lC=true):J3 s=true:=by unfold J3;rw[ahH]at h ⊢;intro b hb;have:=zh.1 (h b hb);rw[ahA];omega
theorem pI{s:Bytes}:iy s=true↔s.length<=600/\s.all lC=true/\(Lib.fields s).length<=24:=by
 unfold iy;rw[ahq,ahq,ahA,ahA];constructor
 .rintro⟨⟨h1,h2⟩,h3⟩;exact⟨by omega,h2,by omega⟩
 .rintro⟨h1,h2,h3⟩;exact⟨⟨by omega,h2⟩,by omega⟩
theorem Vf{s:Bytes}(h:iy s=true):(kE s,iy s,())=(wordsOf s,true,()):=by unfold kE;rw[h];rfl
theorem xO{s:Bytes}(h:¬(s.length<=600/\s.all lC=true/\(Lib.fields s).length<=24)):(kE s,iy s,())=(([]:LS),false,()):=by
 have:iy s=false:=by
  cases hs:iy s with
  |false=>rfl
  |true=>exact(h (pI.1 hs)).elim
 unfold kE;rw[this];rfl
theorem qP(s:Bytes):(wordsOf s).length=(Lib.fields s).length:=by unfold wordsOf;rw[ah3]
def splitAt(s:Bytes)(n b:Nat)(out:LS):Prop:=
 b<=n/\n<=s.length+1/\out.length<=n/\(∀i,i<n->i<s.length->lC (s.getD i 0)=true)/\
 (n<=s.length->out.map (·.1)++Lib.fieldsGo ((s.take n).drop b) (s.drop n)=Lib.fields s)/\(n=s.length+1->out.map (·.1)=Lib.fields s)
theorem XC(s:Bytes):splitAt s 0 0 []:=⟨ahx _,ahR _,ahx _,λi hi=>absurd hi (air _),λ_=>by simp[Lib.fields],λh=>by omega⟩
theorem XG{s:Bytes}{n b:Nat}{out:LS}(h:splitAt s n b out)(hn:n<s.length)(ho:lC (s.getD n 0)=true)(hc:s.getD n 0≠32):splitAt s (n+1) b out:=by
 obtain⟨h1,h2,h3,h4,h5,h6⟩:=h;refine⟨by omega,by omega,by omega,λi hi hi2=>?_,λ_=>?_,λh=>by omega⟩
 .rcases ahQ i n with h|h
  .exact h4 i h hi2
  · rwa [show i=n by omega]
 .rw[← h5 (by omega),Fw.drop_cons s n 0 hn,Lib.fieldsGo_more _ _ _ (by rw[UA ho];exact aht.2 hc)];congr 2;rw[List.take_add_one,ahw hn,ahv,ahw hn,ai7];show List.drop b (List.take n s++[s[n]])=_;rw[aiV (by rw[ahJ];omega)]
theorem XD{s:Bytes}{n b:Nat}{out:LS}(h:splitAt s n b out)(hn:n<=s.length)(hb:b<n)(ho:n<s.length->lC (s.getD n 0)=true/\s.getD n 0=32):
 splitAt s (n+1) (n+1) (out++[((s.take n).drop b,())]):=by
 obtain⟨h1,h2,h3,h4,h5,h6⟩:=h;have hne:(s.take n).drop b≠[]:=λe=>by have:=congrArg List.length e;simp at this;omega
 refine⟨ahx _,by omega,by simp;omega,λi hi hi2=>?_,λhl=>?_,λhl=>?_⟩
 .rcases ahQ i n with h|h
  .exact h4 i h hi2
  .rw[show i=n by omega];exact(ho (by omega)).1
 .have hn2:n<s.length:=by omega
  obtain⟨o1,o2⟩:=ho hn2;rw[← h5 hn,Fw.drop_cons s n 0 hn2,Lib.fieldsGo_end _ _ _ (by rw[UA o1,o2];rfl) hne,(aiK (by rw[ahJ];omega):(s.take (n+1)).drop (n+1)=[]),aiJ,ahC];rfl
 .have hn2:n=s.length:=by omega
  rw[← h5 hn,aiK (by omega:s.length<=n),aiJ];cases hcur:(s.take n).drop b with
  |nil=>exact absurd hcur hne
  |cons _ _=>simp[Lib.fieldsGo]
theorem XF{s:Bytes}{n b:Nat}{out:LS}(h:splitAt s n b out)(hn:n<=s.length)(hb:¬b<n)(ho:n<s.length->lC (s.getD n 0)=true/\s.getD n 0=32):splitAt s (n+1) (n+1) out:=by
 obtain⟨h1,h2,h3,h4,h5,h6⟩:=h;have he:(s.take n).drop b=[]:=aiK (by rw[ahJ];omega);refine⟨ahx _,by omega,by omega,λi hi hi2=>?_,λhl=>?_,λhl=>?_⟩
 .rcases ahQ i n with h|h
  .exact h4 i h hi2
  .rw[show i=n by omega];exact(ho (by omega)).1
 .have hn2:n<s.length:=by omega
  obtain⟨o1,o2⟩:=ho hn2;rw[← h5 hn,he,Fw.drop_cons s n 0 hn2,Lib.fieldsGo_sp _ _ (by rw[UA o1,o2];rfl),aiK (by rw[ahJ];omega)]
 .rw[← h5 hn,he,aiK (by omega:s.length<=n)];simp[Lib.fieldsGo]
theorem YC{s:Bytes}{b:Nat}{out:LS}(h:splitAt s (s.length+1) b out):s.all lC=true/\out=wordsOf s:=by obtain⟨h1,h2,h3,h4,h5,h6⟩:=h;refine⟨XH λi hi=>h4 i (by omega) hi,?_⟩;unfold wordsOf;rw[← h6 rfl,map_unit]
def UB(s:Bytes):Prop:=∀b∈s,48<=b.toNat/\b.toNat<=57
theorem DV:∀(k:Nat)(s:Bytes),s.length=k->UB s->0<=fD s/\fD s<(10:Int) ^ k
 |0,s,h,_=>by rw[aic.1 h];exact⟨ai3 _,by decide⟩
 |k+1,s,h,hd=>by
  have hne:s≠[]:=λe=>by rw[e]at h;cases h
  have e:s=s.take k++[s[k]'(by omega)]:=by
   conv=>lhs;rw[← aji k s,aiO (by omega:k<s.length),aiK (by omega:s.length<=k+1)]
  have hd1:UB (s.take k):=λb hb=>hd b (ajm hb);obtain⟨i1,i2⟩:=DV k (s.take k) (by rw[ahJ];omega) hd1;have hb:=hd _ (ajo (by omega:k<s.length));rw[e,xw,Int.pow_succ];omega
theorem YB{s:Bytes}{n:Nat}(hn:n<s.length):fD (s.take (n+1))=10*fD (s.take n)+(((s.getD n 0).toNat:Int)-48):=by rw[List.take_add_one,ahw hn,ahv,ahw hn];exact xw _ _
theorem XB{s:Bytes}{n:Nat}(hn:n<s.length)(hl:s.length<=10)(hd:∀i,i<n->48<=(s.getD i 0).toNat/\(s.getD i 0).toNat<=57):0<=fD (s.take n)/\fD (s.take n)<1000000000:=by
 have hd:UB (s.take n):=by
  intro b hb;obtain⟨i,hi,rfl⟩:=aiF.1 hb;have hi2:i<n:=by rw[ahJ]at hi;omega
  have:=hd i hi2;rw[ahv,ahw (by omega)]at this;simpa using this
 obtain⟨h1,h2⟩:=DV n (s.take n) (by rw[ahJ];omega) hd;refine⟨h1,Int.lt_of_lt_of_le h2 ?_⟩;have:n<=9:=by omega
 match n,this with
 |0,_|1,_|2,_|3,_|4,_|5,_|6,_|7,_|8,_|9,_=>decide
theorem EP{s:Bytes}{i:Nat}(hi:i<s.length)(h:¬(48<=(s.getD i 0).toNat/\(s.getD i 0).toNat<=57)):bM s=false:=by
 cases hp:bM s with
 |false=>rfl
 |true=>refine(h (Hr hp _ ?_)).elim;rw[ahv,ahw hi];exact ajo hi
theorem DU{s:Bytes}(h:bM s=false):((0:Int),false,())=(parseNum s,bM s,()):=by rw[wJ h,h]
theorem aag{p:LS}{n:Nat}(hn:n<p.length):jE (p.take (n+1))=(if n=0 then[]else jE (p.take n)++[32])++(p.getD n ([],())).1:=by
 cases p with
 |nil=>cases hn
 |cons x r=>
  unfold jE;cases n with
  |zero=>simp[Lib.join_one]
  |succ n=>
   have hr:n<r.length:=by simpa using hn
   have e:(r.map (·.1))[n]? =some r[n].1:=by rw[ait,ahw hr];rfl
   rw[if_neg (by omega),aiy,aiy,ahE,ahE,Lib.join_cons,Lib.join_cons,List.map_take,List.map_take,Lib.joinTail_take_succ _ _ _ _ e];rw[ahv,List.getElem?_cons_succ,ahw hr];simp[ahC]
theorem VO:∀(p:LS)(n:Nat),(jE (p.take n)).length<=(jE p).length
 |[],n=>by simp
 |x::r,0=>by simp[jE,Lib.join_nil]
 |x::r,n+1=>by unfold jE;rw[aiy,ahE,ahE,Lib.join_cons,Lib.join_cons,List.map_take,ahr,ahr];have:=Lib.joinTail_take_le [32] (r.map (·.1)) n;omega
theorem qZ{w:LS}{i:Int}(h:i<(w.length:Int)):wordAt w i=(w.getD i.toNat ([],())).1:=by unfold wordAt;rw[ah5 (by omega)];rfl
theorem qY{w:LS}{i:Int}(h:i>=(w.length:Int)):wordAt w i=[]:=by unfold wordAt;rw[ahT h];rfl
theorem sZ{b:Bool}{x y:Bytes}(h1:b=true->x.length<=60)(h2:y.length<=60):(bif b then x else y).length<=60:=by
 cases b with
 |true=>exact h1 rfl
 |false=>exact h2
theorem rZ{n:Bytes}(h:aK n=true):n.length<=6:=by unfold aK at h;rw[ahq,ahA]at h;omega
theorem VQ(k u:Int)(nc:Nat)(n:Bytes)(a:Int):(Jb k u nc n a).length<=60:=by
 have z:([]:Bytes).length<=60:=by decide
 have hi:∀m:Int,aW m=true->(Lib.itoa m).length<=10:=λm h=>(oQ h).2.2.2.2;unfold Jb;refine sZ (λ_=>z) (sZ (λ_=>z) (sZ (λh=>?_) (sZ (λh=>?_) (sZ (λh=>?_) (sZ (λh=>?_) (sZ (λh=>?_) (sZ (λh=>?_) (sZ (λh=>?_) (sZ (λh=>?_) z)))))))))
 all_goals simp only[ahq]at h
 all_goals simp only[ahr,ahu,ahL]
 .have:=hi u h.2.1;omega
 .have:=hi u h.2.1;have:=hi a h.2.2.1;omega
 .have:=hi u h.2.1;have:=rZ h.2.2.1;omega
 .have:=hi a h.2.2.1;omega
 .have:=hi a h.2.2.1;omega
 .omega
 .have:=hi u h.2.1;have:=hi a h.2.2.1;have:=rZ h.2.2.2;omega
 .have:=hi u h.2.1;have:=hi a h.2.2.1;have:=rZ h.2.2.2;omega
theorem Ah:∀(l cur:Bytes)(x:Bytes),x∈Lib.fieldsGo cur l->x.length<=cur.length+l.length
 |[],cur,x,h=>by
  rw[Lib.fieldsGo]at h;split at h
  .cases h
  .simp at h;subst h;simp
 |b::l,cur,x,h=>by
  rw[Lib.fieldsGo]at h;split at h
  .split at h
   .have:=Ah l [] x h;simp at this ⊢;omega
   .rcases ahV.1 h with rfl|h
    .simp
    .have:=Ah l [] x h;simp at this ⊢;omega
  .have:=Ah l (cur++[b]) x h;simp at this ⊢;omega
theorem P7{s:Bytes}:∀x∈wordsOf s,x.1.length<=s.length:=by intro x hx;obtain⟨y,hy,rfl⟩:=ajv.1 hx;have:=Ah s [] y hy;simpa using this
theorem MF{w:LS}{m:Nat}(h:∀x∈w,x.1.length<=m)(i:Int):(wordAt w i).length<=m:=by
 unfold wordAt;cases decide (i>=(w.length:Int))with
 |true=>exact ahR _
 |false=>
  show(w.getD i.toNat ([],())).1.length<=m;rw[ahv];cases hg:w[i.toNat]? with
  |none=>exact ahR _
  |some x=>exact h x (ah4 hg)
theorem VR{w:LS}{m:Nat}(h:∀x∈w,x.1.length<=m):(V9 w).2.2.1.length<=m:=by
 rw[acg];cases wordAt w 0==X8 with
 |true=>exact ahR _
 |false=>
 cases wordAt w 0==Zj with
 |true=>exact ahR _
 |false=>
 cases wordAt w 0==Zk with
 |true=>exact MF h 2
 |false=>
 cases wordAt w 0==acX with
 |true=>exact ahR _
 |false=>
 cases wordAt w 0==Zl with
 |true=>exact ahR _
 |false=>
 cases wordAt w 0==Vr with
 |true=>exact ahR _
 |false=>
 cases wordAt w 0==acY with
 |true=>exact MF h 2
 |false=>
 cases wordAt w 0==X9 with
 |true=>exact MF h 2
 |false=>exact ahR _
theorem OL{m:Nat}:∀r:List Bytes,(∀x∈r,x.length<=m)->(Lib.joinTail [32] r).length<=r.length*(m+1)
 |[],_=>ahR _
 |x::r,h=>by
  have e:Lib.joinTail [32] (x::r)=[32]++(x++Lib.joinTail [32] r):=by simp[Lib.joinTail]
  have h1:=h x ahF;have h2:=OL r λy hy=>h y (ahG _ hy);have h3:(x::r).length*(m+1)=r.length*(m+1)+(m+1):=by rw[ahu,ah2,Nat.one_mul]
  rw[e,ahr,ahr,h3];show 1+_<=_;omega
theorem ach{m:Nat}{w:LS}(h:∀x∈w,x.1.length<=m):(jE w).length<=w.length*(m+1):=by
 cases w with
 |nil=>exact ahR _
 |cons x r=>
  unfold jE;rw[ahE,Lib.join_cons,ahr];have h1:=h x ahF;have h2:=OL (m:=m) (r.map (·.1)) λy hy=>by obtain⟨z,hz,rfl⟩:=ajv.1 hy;exact h z (ahG _ hz)
  rw[ah3]at h2;rw[ahu,ah2,Nat.one_mul];omega
theorem OE{s:Bytes}(h:iy s=true):kE s=wordsOf s/\(wordsOf s).length<=1000/\(jE (wordsOf s)).length<=2097152/\(V9 (wordsOf s)).2.2.1.length<=1048576/\(ady (V9 (wordsOf s))).length<=1048576:=by
 obtain⟨h1,_,h3⟩:=pI.1 h;have hw:∀x∈wordsOf s,x.1.length<=600:=λx hx=>ahB (P7 x hx) h1;have hl:(wordsOf s).length<=24:=by rw[qP];exact h3
 refine⟨by unfold kE;rw[h];rfl,by omega,?_,ahB (VR hw) (by omega),ahB (VQ _ _ _ _ _) (by omega)⟩;have:=ach hw;have h24:(wordsOf s).length*(600+1)<=24*(600+1):=ahI _ hl;omega
end Sp
namespace Sp
open Go
inductive QT where
 |leaf (n:ax)
 |neg (t:QT)
 |two (op:Int) (a b:QT)
def dw(op:Int):Bytes:=
 bif op==1 then[97,108,108]else bif op==2 then[104,97,115]else bif op==3 then[101,113]else bif op==4 then[108,116]else
 bif op==5 then[110,111,116]else bif op==6 then[97,110,100]else bif op==7 then[111,114]else bif op==8 then[105,110]else
 bif op==9 then[108,105,110,107,101,100]else[63]
def bg(w:Bytes):Int:=
 bif w==[97,108,108]then 1 else bif w==[104,97,115]then 2 else bif w==[101,113]then 3 else bif w==[108,116]then 4 else
 bif w==[110,111,116]then 5 else bif w==[97,110,100]then 6 else bif w==[111,114]then 7 else bif w==[105,110]then 8 else
 bif w==[108,105,110,107,101,100]then 9 else 0
def aY(s:Bytes):wM×Bool:=
 bif bM s then(bif decide (parseNum s<=999)then((1,parseNum s,[],()),true)else((0,0,[],()),false))
 else bif s==[45]then((0,0,[],()),true)else bif aK s then((2,0,s,()),true)else((0,0,[],()),false)
def aU(v:wM):Bytes:=
 bif !aS v.1 v.2.1 v.2.2.1 then[63]else bif v.1==1 then Lib.itoa v.2.1 else bif v.1==2 then v.2.2.1 else[45]
def QT.size:QT->Nat
 |.leaf _=>1
 |.neg t=>t.size+1
 |.two _ a b=>a.size+b.size+1
def post:QT->Nat->List ax
 |.leaf n,_=>[n]
 |.neg t,b=>post t b++[(5,((b+t.size:Nat):Int)-1,0,[],0,0,[],())]
 |.two op x y,b=>post x b++(post y (b+x.size)++[(op,((b+x.size:Nat):Int)-1,((b+x.size+y.size:Nat):Int)-1,[],0,0,[],())])
def gX(n:ax):List Bytes:=
 dw n.1::(bif n.1==2||(n.1==8||n.1==9)then[n.2.2.2.1]else bif n.1==3||n.1==4 then[n.2.2.2.1,aU n.2.2.2.2]else[])
def aJ:QT->List Bytes
 |.leaf n=>gX n
 |.neg t=>dw 5::aJ t
 |.two op a b=>dw op::(aJ a++aJ b)
def ls(w:List Bytes):LS:=w.map (·,())
def yw:QT->Prop
 |.leaf n=>n.1=1\/n.1=2\/n.1=3\/n.1=4\/n.1=8\/n.1=9
 |.neg t=>yw t
 |.two op a b=>(op=6\/op=7)/\yw a/\yw b
def yx:QT->Prop
 |.leaf n=>dh n 0=true
 |.neg t=>yx t
 |.two _ a b=>yx a/\yx b
theorem dP:∀(t:QT)(b:Nat),(post t b).length=t.size
 |.leaf _,_=>rfl
 |.neg t,b=>by rw[post,ahr,dP t b];rfl
 |.two op x y,b=>by rw[post,ahr,ahr,dP x b,dP y];rw[QT.size,ahu,ahL];omega
theorem size_pos:∀t:QT,0<t.size
 |.leaf _=>Nat.one_pos
 |.neg _=>ai0 _
 |.two _ _ _=>ai0 _
theorem rV(w:Bytes):bg w=0\/((bg w=1\/bg w=2\/bg w=3\/bg w=4\/bg w=5\/bg w=6\/bg w=7\/bg w=8\/bg w=9)/\dw (bg w)=w):=by
 unfold bg;cases h1:w==[97,108,108]with
 |true=>right;rw[ahO.1 h1];decide
 |false=>
 cases h2:w==[104,97,115]with
 |true=>right;rw[ahO.1 h2];decide
 |false=>
 cases h3:w==[101,113]with
 |true=>right;rw[ahO.1 h3];decide
 |false=>
 cases h4:w==[108,116]with
 |true=>right;rw[ahO.1 h4];decide
 |false=>
 cases h5:w==[110,111,116]with
 |true=>right;rw[ahO.1 h5];decide
 |false=>
 cases h6:w==[97,110,100]with
 |true=>right;rw[ahO.1 h6];decide
 |false=>
 cases h7:w==[111,114]with
 |true=>right;rw[ahO.1 h7];decide
 |false=>
 cases h8:w==[105,110]with
 |true=>right;rw[ahO.1 h8];decide
 |false=>
 cases h9:w==[108,105,110,107,101,100]with
 |true=>right;rw[ahO.1 h9];decide
 |false=>left;rfl
theorem qV{op:Int}(h:op=1\/op=2\/op=3\/op=4\/op=5\/op=6\/op=7\/op=8\/op=9):bg (dw op)=op:=by rcases h with rfl|rfl|rfl|rfl|rfl|rfl|rfl|rfl|rfl<;>decide
theorem aci:bg []=0:=by decide
def rd:Nat->LS->List ax->Bool×LS×List ax
 |0,w,q=>(false,w,q)
 |k+1,w,q=>
  bif bg (wordAt w 0)==2||(bg (wordAt w 0)==8||bg (wordAt w 0)==9)then(true,(w.drop 1).drop 1,q++[(bg (wordAt w 0),0,0,wordAt (w.drop 1) 0,0,0,[],())])
  else bif bg (wordAt w 0)==3||bg (wordAt w 0)==4 then
   ((aY (wordAt ((w.drop 1).drop 1) 0)).2,((w.drop 1).drop 1).drop 1,q++[(bg (wordAt w 0),0,0,wordAt (w.drop 1) 0,(aY (wordAt ((w.drop 1).drop 1) 0)).1)])
  else bif bg (wordAt w 0)==5 then
   ((rd k (w.drop 1) q).1,(rd k (w.drop 1) q).2.1,(rd k (w.drop 1) q).2.2++[(5,((rd k (w.drop 1) q).2.2.length:Int)-1,0,[],0,0,[],())])
  else bif bg (wordAt w 0)==6||bg (wordAt w 0)==7 then
   (bif (rd k (w.drop 1) q).1 then
     ((rd k (rd k (w.drop 1) q).2.1 (rd k (w.drop 1) q).2.2).1,(rd k (rd k (w.drop 1) q).2.1 (rd k (w.drop 1) q).2.2).2.1,
       (rd k (rd k (w.drop 1) q).2.1 (rd k (w.drop 1) q).2.2).2.2++[(bg (wordAt w 0),((rd k (w.drop 1) q).2.2.length:Int)-1,((rd k (rd k (w.drop 1) q).2.1 (rd k (w.drop 1) q).2.2).2.2.length:Int)-1,[],0,0,[],())])
   else(false,(rd k (w.drop 1) q).2.1,(rd k (w.drop 1) q).2.2++[(bg (wordAt w 0),((rd k (w.drop 1) q).2.2.length:Int)-1,((rd k (w.drop 1) q).2.2.length:Int)-1,[],0,0,[],())]))
  else(!(bg (wordAt w 0)==0),w.drop 1,q++[(bg (wordAt w 0),0,0,[],0,0,[],())])
theorem CG(i:Int)(h:0<=i):wordAt [] i=[]:=qY (by simpa using h)
theorem cZ(x:Bytes×Unit)(w:LS):wordAt (x::w) 0=x.1:=by rw[qZ (by simp)];rfl
theorem Nl{w:LS}(h:bg (wordAt w 0)≠0):∃r,w=(dw (bg (wordAt w 0)),())::r/\w.drop 1=r:=by
 cases w with
 |nil=>exact(h (by rw[CG 0 (ai3 _)];exact aci)).elim
 |cons x r=>
  obtain⟨x,⟨⟩⟩:=x;rcases rV (wordAt ((x,())::r) 0)with e|⟨_,e⟩
  .exact(h e).elim
  .refine⟨r,?_,rfl⟩;rw[e,cZ]
theorem DZ:∀(k:Nat)(w:LS)(q:List ax),(rd k w q).2.1.length<=w.length
 |0,w,q=>ahx _
 |k+1,w,q=>by
  have h1:=DZ k (w.drop 1) q;have h2:=DZ k (rd k (w.drop 1) q).2.1 (rd k (w.drop 1) q).2.2;have h3:(w.drop 1).length<=w.length:=by rw[ah1];omega
  rw[rd];cases bg (wordAt w 0)==2||(bg (wordAt w 0)==8||bg (wordAt w 0)==9)with
  |true=>show((w.drop 1).drop 1).length<=_;rw[ah1];omega
  |false=>
  cases bg (wordAt w 0)==3||bg (wordAt w 0)==4 with
  |true=>show(((w.drop 1).drop 1).drop 1).length<=_;rw[ah1,ah1];omega
  |false=>
  cases bg (wordAt w 0)==5 with
  |true=>exact ahB h1 h3
  |false=>
  cases bg (wordAt w 0)==6||bg (wordAt w 0)==7 with
  |true=>
   show(bif (rd k (w.drop 1) q).1 then _ else _:Bool×LS×List ax).2.1.length<=_;cases (rd k (w.drop 1) q).1 with
   |true=>exact ahB h2 (ahB h1 h3)
   |false=>exact ahB h1 h3
  |false=>exact h3
end Sp
namespace Sp
open Go
theorem acZ{n:Int}{s:Bytes}(h:aS 1 n s=true):0<=n/\n<=999/\s=[]:=by unfold aS at h;simp at h;exact⟨h.1.1,h.1.2,h.2⟩
theorem afj{n:Int}{s:Bytes}(h:aS 2 n s=true):aK s=true/\n=0:=by unfold aS at h;simp at h;exact h
theorem aev{v:wM}(h:aS v.1 v.2.1 v.2.2.1=true)(h0:v.1≠0):(∃n,v=(1,n,[],())/\0<=n/\n<=999)\/∃s,v=(2,0,s,())/\aK s=true:=by
 obtain⟨k,n,s,⟨⟩⟩:=v;by_cases h1:k=1
 .subst h1;obtain⟨a,b,c⟩:=acZ h;have c:s=[]:=c;subst c;exact .inl ⟨n,rfl,a,b⟩
 by_cases h2:k=2
 .subst h2;obtain⟨a,b⟩:=afj h;have b:n=0:=b;subst b;exact .inr ⟨s,rfl,a⟩
 .unfold aS at h;dsimp only at h h0;rw[ah5 h0,ah5 h1,ah5 h2]at h;cases h
theorem aax{s:Bytes}(h:aK s=true):∃b r,s=b::r/\97<=b.toNat:=by
 unfold aK at h;rw[ahq,ahq,ahA]at h;cases s with
 |nil=>exact absurd h.1.2 (by decide)
 |cons b r=>refine⟨b,r,rfl,?_⟩;have h1:=h.1.1;unfold lower at h1;rw[aim,ahq,ahq,ahA]at h1;exact h1.1.1
theorem VS{s:Bytes}(h:aK s=true):bM s=false/\(s==[45])=false:=by
 obtain⟨b,r,rfl,hb⟩:=aax h;refine⟨?_,?_⟩
 .cases hp:bM (b::r)with
  |false=>rfl
  |true=>have:=Hr hp b ahF;omega
 .rw[aht];intro e;have:b=45:=(List.cons.inj e).1;rw[this]at hb;exact absurd hb (by decide)
theorem OM:bM []=false:=by
 cases h:bM []with
 |false=>rfl
 |true=>obtain⟨a,b⟩:=eP h;exact((aaw b).1 a).elim
theorem OO{v:wM}(h:aS v.1 v.2.1 v.2.2.1=true)(h0:v.1≠0):aY (aU v)=(v,true):=by
 unfold aU;rw[h];rcases aev h h0 with⟨n,rfl,a,b⟩|⟨s,rfl,a⟩
 .show aY (Lib.itoa n)=_;have hu:aW n=true:=by unfold aW;rw[ahT a,ahT (show n<=1000000000 by omega)];rfl
  obtain⟨q1,q2⟩:=aav hu;unfold aY;rw[q1,q2,ahT b];rfl
 .show aY s=_;obtain⟨q1,q2⟩:=VS a;unfold aY;rw[q1,q2,a];rfl
theorem OQ{s:Bytes}(h:aS (aY s).1.1 (aY s).1.2.1 (aY s).1.2.2.1=true)(h0:(aY s).1.1≠0):(aY s).2=true/\aU (aY s).1=s:=by
 unfold aU;rw[h];revert h0;unfold aY;cases h1:bM s with
 |true=>
  cases h2:decide (parseNum s<=999)with
  |true=>exactλ_=>⟨rfl,(eP h1).1⟩
  |false=>exactλh0=>(h0 rfl).elim
 |false=>
  cases h2:s==[45]with
  |true=>exactλh0=>(h0 rfl).elim
  |false=>
   cases h3:aK s with
   |true=>exactλ_=>⟨rfl,rfl⟩
   |false=>exactλh0=>(h0 rfl).elim
theorem UC{s:Bytes}(h:dN s=true):s≠[]:=by rintro rfl;exact absurd h (by decide)
theorem Ya{s:Bytes}(h:aK s=true):s≠[]:=by rintro rfl;exact absurd h (by decide)
theorem su{n:ax}{a:Int}(h:dh n a=true)(hw:n.1=1\/n.1=2\/n.1=3\/n.1=4\/n.1=8\/n.1=9):
 n=(1,0,0,[],0,0,[],())\/(∃op s,n=(op,0,0,s,0,0,[],())/\(op=2\/op=8\/op=9)/\s≠[])\/
 ∃op s v,n=(op,0,0,s,v)/\(op=3\/op=4)/\s≠[]/\aS v.1 v.2.1 v.2.2.1=true/\v.1≠0:=by
 obtain⟨op,l,r,s,k,m,t,⟨⟩⟩:=n;dsimp only at hw;rcases hw with rfl|rfl|rfl|rfl|rfl|rfl
 .left;have h:((l==0&&r==0)&&(s==[]&&(k==0&&(m==0&&t==[]))))=true:=h;simp only[ahq,ahO]at h;rw[h.1.1,h.1.2,h.2.1,h.2.2.1,h.2.2.2.1,h.2.2.2.2]
 .right;left;have h:((l==0&&r==0)&&(k==0&&(m==0&&t==[]))&&dN s)=true:=h;simp only[ahq,ahO]at h;refine⟨2,s,?_,.inl rfl,UC h.2⟩;rw[h.1.1.1,h.1.1.2,h.1.2.1,h.1.2.2.1,h.1.2.2.2]
 .right;right;have h:((l==0&&r==0)&&dN s&&aS k m t&&!(k==0))=true:=h;simp only[ahq,ahO,ajh,aht]at h;refine⟨3,s,(k,m,t,()),?_,.inl rfl,UC h.1.1.2,h.1.2,h.2⟩;rw[h.1.1.1.1,h.1.1.1.2]
 .right;right;have h:((l==0&&r==0)&&dN s&&aS k m t&&k==1)=true:=h;simp only[ahq,ahO]at h;refine⟨4,s,(k,m,t,()),?_,.inr rfl,UC h.1.1.2,h.1.2,by dsimp only;omega⟩;rw[h.1.1.1.1,h.1.1.1.2]
 .right;left;have h:((l==0&&r==0)&&(k==0&&(m==0&&t==[]))&&aK s)=true:=h;simp only[ahq,ahO]at h;refine⟨8,s,?_,.inr (.inl rfl),Ya h.2⟩;rw[h.1.1.1,h.1.1.2,h.1.2.1,h.1.2.2.1,h.1.2.2.2]
 .right;left;have h:((l==0&&r==0)&&(k==0&&(m==0&&t==[]))&&aK s)=true:=h;simp only[ahq,ahO]at h;refine⟨9,s,?_,.inr (.inr rfl),Ya h.2⟩;rw[h.1.1.1,h.1.1.2,h.1.2.1,h.1.2.2.1,h.1.2.2.2]
theorem tq{w:LS}(h:wordAt w 0≠[]):w=(wordAt w 0,())::w.drop 1:=by
 cases w with
 |nil=>exact(h (CG 0 (ai3 _))).elim
 |cons x r=>obtain⟨x,⟨⟩⟩:=x;rw[cZ];rfl
theorem Nu:∀(k:Nat)(w:LS)(q:List ax),(rd k w q).1=true->∃t,yw t/\(rd k w q).2.2=q++post t q.length/\(yx t->w=ls (aJ t)++(rd k w q).2.1)
 |0,w,q,h=>by cases h
 |k+1,w,q,h=>by
  by_cases h0:bg (wordAt w 0)=0
  .rw[rd,h0]at h;cases h
  obtain⟨r,e,e2⟩:=Nl h0;rcases rV (wordAt w 0)with c|⟨c,_⟩
  .exact(h0 c).elim
  rw[rd]at h ⊢;rw[e2]at h ⊢;generalize bg (wordAt w 0)=op at h c e h0 ⊢;have Je:op=2\/op=8\/op=9->∃t,yw t/\q++[(op,0,0,wordAt r 0,0,0,[],())]=q++post t q.length/\(yx t->w=ls (aJ t)++r.drop 1):=λc=>by
   refine⟨.leaf (op,0,0,wordAt r 0,0,0,[],()),?_,rfl,λht=>?_⟩
   .show op=1\/op=2\/op=3\/op=4\/op=8\/op=9;omega
   .have ht:dh (op,0,0,wordAt r 0,0,0,[],()) 0=true:=ht;have hn:wordAt r 0≠[]:=by
     rcases su ht (by dsimp only;omega)with x|⟨_,s,x,_,hs⟩|⟨op',s,v,x,hop,_⟩
     .have:=congrArg (·.1) x;dsimp only at this;omega
     .have:=congrArg (λn:ax=>n.2.2.2.1) x;dsimp only at this;rw[this];exact hs
     .have:=congrArg (·.1) x;dsimp only at this;omega
    rw[e,tq hn];have hb:(op==2||(op==8||op==9))=true:=by rcases c with rfl|rfl|rfl<;>rfl
    show _=ls (dw op::(bif op==2||(op==8||op==9)then[wordAt ((wordAt r 0,())::r.drop 1) 0]else _))++_;rw[hb,cZ];rfl
  have SB:op=3\/op=4->∃t,yw t/\q++[(op,0,0,wordAt r 0,(aY (wordAt (r.drop 1) 0)).1)]=q++post t q.length/\(yx t->w=ls (aJ t)++(r.drop 1).drop 1):=λc=>by
   refine⟨.leaf (op,0,0,wordAt r 0,(aY (wordAt (r.drop 1) 0)).1),?_,rfl,λht=>?_⟩
   .show op=1\/op=2\/op=3\/op=4\/op=8\/op=9;omega
   .have ht:dh (op,0,0,wordAt r 0,(aY (wordAt (r.drop 1) 0)).1) 0=true:=ht;have hn:wordAt r 0≠[]/\(aY (wordAt (r.drop 1) 0)).2=true/\aU (aY (wordAt (r.drop 1) 0)).1=wordAt (r.drop 1) 0:=by
     rcases su ht (by dsimp only;omega)with x|⟨op',s,x,hop,hs⟩|⟨op',s,v,x,hop,hs,hv,h1⟩
     .have:=congrArg (·.1) x;dsimp only at this;omega
     .have:=congrArg (·.1) x;dsimp only at this;omega
     .have x1:=congrArg (λn:ax=>n.2.2.2.1) x;have x2:=congrArg (λn:ax=>n.2.2.2.2) x;dsimp only at x1 x2;refine⟨by rw[x1];exact hs,OQ (by rw[x2];exact hv) (by rw[x2];exact h1)⟩
    have hw2:wordAt (r.drop 1) 0≠[]:=λe0=>by
     rw[e0]at hn;have:(aY []).2=false:=by unfold aY;rw[OM];rfl
     rw[this]at hn;cases hn.2.1
    have hb:(op==2||(op==8||op==9))=false:=by rcases c with rfl|rfl<;>rfl
    have hb2:(op==3||op==4)=true:=by rcases c with rfl|rfl<;>rfl
    have e3:r=(wordAt r 0,())::(wordAt (r.drop 1) 0,())::(r.drop 1).drop 1:=by rw[← tq hw2];exact tq hn.1
    show _=ls (dw op::(bif op==2||(op==8||op==9)then _ else bif op==3||op==4 then[wordAt r 0,aU (aY (wordAt (r.drop 1) 0)).1]else _))++_;rw[hb,hb2,hn.2.2];exact e.trans (congrArg _ e3)
  have Yb:(op=6\/op=7)->(rd k r q).1=true->(rd k (rd k r q).2.1 (rd k r q).2.2).1=true->∃t,yw t/\(rd k (rd k r q).2.1 (rd k r q).2.2).2.2++[(op,((rd k r q).2.2.length:Int)-1,((rd k (rd k r q).2.1 (rd k r q).2.2).2.2.length:Int)-1,[],0,0,[],())]=q++post t q.length/\(yx t->w=ls (aJ t)++(rd k (rd k r q).2.1 (rd k r q).2.2).2.1):=λc g1 g2=>by
   obtain⟨x,x1,x2,x3⟩:=Nu k r q g1;obtain⟨y,y1,y2,y3⟩:=Nu k _ _ g2;have lx:(rd k r q).2.2.length=q.length+x.size:=by rw[x2,ahr,dP]
   have ly:(rd k (rd k r q).2.1 (rd k r q).2.2).2.2.length=q.length+x.size+y.size:=by rw[y2,ahr,dP,lx]
   refine⟨.two op x y,⟨c,x1,y1⟩,?_,λht=>?_⟩
   .rw[ly,lx,y2,lx,x2];show _=q++(post x q.length++(post y (q.length+x.size)++[_]));rw[ahC,ahC]
   .obtain⟨t1,t2⟩:yx x/\yx y:=ht;rw[e];show _=ls (dw op::(aJ x++aJ y))++_;unfold ls;rw[ahE,aiJ,aix,ahC];exact congrArg _ ((x3 t1).trans (congrArg _ (y3 t2)))
  rcases c with rfl|rfl|rfl|rfl|rfl|rfl|rfl|rfl|rfl
  .refine⟨.leaf (1,0,0,[],0,0,[],()),.inl rfl,rfl,λ_=>?_⟩;rw[e];rfl
  .exact Je (.inl rfl)
  .exact SB (.inl rfl)
  .exact SB (.inr rfl)
  .have h:(rd k r q).1=true:=h;obtain⟨x,x1,x2,x3⟩:=Nu k r q h;have lx:(rd k r q).2.2.length=q.length+x.size:=by rw[x2,ahr,dP]
   refine⟨.neg x,x1,?_,λht=>?_⟩
   .show(rd k r q).2.2++[(5,((rd k r q).2.2.length:Int)-1,0,[],0,0,[],())]=q++(post x q.length++[_]);rw[lx,x2,ahC]
   .rw[e];show _=ls (dw 5::aJ x)++(rd k r q).2.1;exact congrArg _ (x3 ht)
  .have h:(bif (rd k r q).1 then _ else _:Bool×LS×List ax).1=true:=h;cases g:(rd k r q).1 with
   |false=>rw[g]at h;cases h
   |true=>rw[g]at h;exact Yb (.inl rfl) g h
  .have h:(bif (rd k r q).1 then _ else _:Bool×LS×List ax).1=true:=h;cases g:(rd k r q).1 with
   |false=>rw[g]at h;cases h
   |true=>rw[g]at h;exact Yb (.inr rfl) g h
  .exact Je (.inr (.inl rfl))
  .exact Je (.inr (.inr rfl))
end Sp
namespace Sp
open Go
theorem aew(k:Nat)(r:LS)(q:List ax):rd (k+1) ((dw 1,())::r) q=(true,r,q++[(1,0,0,[],0,0,[],())]):=by rw[rd,cZ,qV (.inl rfl)];rfl
theorem adz{op:Int}(c:op=2\/op=8\/op=9)(k:Nat)(r:LS)(q:List ax):rd (k+1) ((dw op,())::r) q=(true,r.drop 1,q++[(op,0,0,wordAt r 0,0,0,[],())]):=by rw[rd,cZ,qV (by omega)];rcases c with rfl|rfl|rfl<;>rfl
theorem rd_val{op:Int}(c:op=3\/op=4)(k:Nat)(r:LS)(q:List ax):rd (k+1) ((dw op,())::r) q=((aY (wordAt (r.drop 1) 0)).2,(r.drop 1).drop 1,q++[(op,0,0,wordAt r 0,(aY (wordAt (r.drop 1) 0)).1)]):=by rw[rd,cZ,qV (by omega)];rcases c with rfl|rfl<;>rfl
theorem rd_not(k:Nat)(r:LS)(q:List ax):rd (k+1) ((dw 5,())::r) q=((rd k r q).1,(rd k r q).2.1,(rd k r q).2.2++[(5,((rd k r q).2.2.length:Int)-1,0,[],0,0,[],())]):=by rw[rd,cZ,qV (.inr (.inr (.inr (.inr (.inl rfl)))))];rfl
theorem aex{op:Int}(c:op=6\/op=7)(k:Nat)(r:LS)(q:List ax)(h:(rd k r q).1=true):rd (k+1) ((dw op,())::r) q=
 ((rd k (rd k r q).2.1 (rd k r q).2.2).1,(rd k (rd k r q).2.1 (rd k r q).2.2).2.1,(rd k (rd k r q).2.1 (rd k r q).2.2).2.2++[(op,((rd k r q).2.2.length:Int)-1,((rd k (rd k r q).2.1 (rd k r q).2.2).2.2.length:Int)-1,[],0,0,[],())]):=by
 rw[rd,cZ,qV (by omega)];rcases c with rfl|rfl
 .show(bif (rd k r q).1 then _ else _:Bool×LS×List ax)=_;rw[h];rfl
 .show(bif (rd k r q).1 then _ else _:Bool×LS×List ax)=_;rw[h];rfl
theorem Yc(x:Bytes)(a b:List Bytes)(r:LS):ls (x::(a++b))++r=(x,())::(ls a++(ls b++r)):=by unfold ls;rw[ahE,aiJ,aix,ahC]
theorem zx{op:Int}{s:Bytes}(c:op=2\/op=8\/op=9):gX (op,0,0,s,0,0,[],())=[dw op,s]:=by rcases c with rfl|rfl|rfl<;>rfl
theorem A7{op:Int}{s:Bytes}{v:wM}(c:op=3\/op=4):gX (op,0,0,s,v)=[dw op,s,aU v]:=by rcases c with rfl|rfl<;>rfl
theorem D9:∀(t:QT)(k:Nat)(rest:LS)(q:List ax),yw t->yx t->(ls (aJ t)++rest).length<k->rd k (ls (aJ t)++rest) q=(true,rest,q++post t q.length)
 |_,0,_,_,_,_,h=>absurd h (air _)
 |.leaf n,k+1,rest,q,hw,ho,_=>by
  have hw:n.1=1\/n.1=2\/n.1=3\/n.1=4\/n.1=8\/n.1=9:=hw;rcases su ho hw with rfl|⟨op,s,rfl,c,hs⟩|⟨op,s,v,rfl,c,hs,hv,h0⟩
  .exact aew k rest q
  .show rd (k+1) (ls (gX _)++rest) q=_;rw[zx c];show rd (k+1) ((dw op,())::(s,())::rest) q=_;rw[adz c,cZ];rfl
  .show rd (k+1) (ls (gX _)++rest) q=_;rw[A7 c];show rd (k+1) ((dw op,())::(s,())::(aU v,())::rest) q=_;rw[rd_val c,cZ];show((aY (wordAt ((aU v,())::rest) 0)).2,rest,q++[(op,0,0,s,(aY (wordAt ((aU v,())::rest) 0)).1)])=_;rw[cZ,OO hv h0];rfl
 |.neg t,k+1,rest,q,hw,ho,h=>by
  have h:((dw 5,())::(ls (aJ t)++rest)).length<k+1:=h;rw[ahu]at h;show rd (k+1) ((dw 5,())::(ls (aJ t)++rest)) q=_;rw[rd_not,D9 t k rest q hw ho (by omega)];show(true,rest,(q++post t q.length)++[(5,((q++post t q.length).length:Int)-1,0,[],0,0,[],())])=(true,rest,q++(post t q.length++[_]));rw[ahr,dP,ahC]
 |.two op x y,k+1,rest,q,⟨c,w1,w2⟩,⟨o1,o2⟩,h=>by show rd (k+1) (ls (dw op::(aJ x++aJ y))++rest) q=_;have h:(ls (dw op::(aJ x++aJ y))++rest).length<k+1:=h;rw[Yc]at h ⊢;rw[ahu]at h;have e1:=D9 x k (ls (aJ y)++rest) q w1 o1 (by omega);rw[ahr]at h;have e2:=D9 y k rest (q++post x q.length) w2 o2 (by omega);rw[aex c k _ q (by rw[e1]),e1,e2];show(true,rest,((q++post x q.length)++post y (q++post x q.length).length)++[(op,((q++post x q.length).length:Int)-1,(((q++post x q.length)++post y (q++post x q.length).length).length:Int)-1,[],0,0,[],())])=(true,rest,q++(post x q.length++(post y (q.length+x.size)++[_])));rw[ahr,ahr,dP,dP,ahr,dP,ahC,ahC]
def rs:Nat->LS->List ax->List ax×Int
 |0,_,q=>(q,0)
 |d+1,w,q=>
  bif bg (wordAt w 0)==0||decide ((q.length:Int)>9)then(q,0)
  else bif bg (wordAt w 0)==2||(bg (wordAt w 0)==8||bg (wordAt w 0)==9)then(q++[(bg (wordAt w 0),0,0,wordAt w 1,0,0,[],())],2)
  else bif bg (wordAt w 0)==3||bg (wordAt w 0)==4 then(q++[(bg (wordAt w 0),0,0,wordAt w 1,(aY (wordAt w 2)).1)],3)
  else bif bg (wordAt w 0)==5||(bg (wordAt w 0)==6||bg (wordAt w 0)==7)then
   (bif (rs d (w.drop 1) q).2==0 then((rs d (w.drop 1) q).1,0)
   else bif bg (wordAt w 0)==5 then((rs d (w.drop 1) q).1++[(5,((rs d (w.drop 1) q).1.length:Int)-1,0,[],0,0,[],())],1+(rs d (w.drop 1) q).2)
   else bif (rs d (w.drop (1+(rs d (w.drop 1) q).2).toNat) (rs d (w.drop 1) q).1).2==0 then((rs d (w.drop (1+(rs d (w.drop 1) q).2).toNat) (rs d (w.drop 1) q).1).1,0)
   else((rs d (w.drop (1+(rs d (w.drop 1) q).2).toNat) (rs d (w.drop 1) q).1).1++[(bg (wordAt w 0),((rs d (w.drop 1) q).1.length:Int)-1,((rs d (w.drop (1+(rs d (w.drop 1) q).2).toNat) (rs d (w.drop 1) q).1).1.length:Int)-1,[],0,0,[],())],
    1+(rs d (w.drop 1) q).2+(rs d (w.drop (1+(rs d (w.drop 1) q).2).toNat) (rs d (w.drop 1) q).1).2))
  else(q++[(bg (wordAt w 0),0,0,[],0,0,[],())],1)
theorem FI(x:Bytes×Unit)(r:LS)(i:Int)(h:0<=i):wordAt (x::r) (i+1)=wordAt r i:=by
 by_cases hi:i<(r.length:Int)
 .rw[qZ hi,qZ (by rw[ahu];omega),show(i+1).toNat=i.toNat+1 by omega];rfl
 .rw[qY (show i>=(r.length:Int) by omega),qY (by rw[ahu];omega)]
theorem SC(x:Bytes×Unit)(r:LS):wordAt (x::r) 2=wordAt (r.drop 1) 0:=by
 rw[show(2:Int)=1+1 from rfl,FI x r 1 (by decide)];cases r with
 |nil=>rw[CG 1 (by decide)];exact(CG 0 (by decide)).symm
 |cons y r=>rw[show(1:Int)=0+1 from rfl,FI y r 0 (by decide)];rfl
theorem Jf(x:Bytes×Unit)(r:LS):wordAt (x::r) 1=wordAt r 0:=FI x r 0 (by decide)
theorem Jg:∀(t:QT)(d:Nat)(rest:LS)(q:List ax),yw t->yx t->t.size<=d->q.length+t.size<=10->rs d (ls (aJ t)++rest) q=(q++post t q.length,((aJ t).length:Int))
 |t,0,_,_,_,_,h,_=>absurd (size_pos t) (by omega)
 |.leaf n,d+1,rest,q,hw,ho,_,hq=>by
  have hq1:q.length+1<=10:=hq;have hq2:decide ((q.length:Int)>9)=false:=ah5 (by omega);have hw:n.1=1\/n.1=2\/n.1=3\/n.1=4\/n.1=8\/n.1=9:=hw;rcases su ho hw with rfl|⟨op,s,rfl,c,hs⟩|⟨op,s,v,rfl,c,hs,hv,h0⟩
  .show rs (d+1) ((dw 1,())::rest) q=_;rw[rs,cZ,qV (.inl rfl),hq2];rfl
  .show rs (d+1) (ls (gX _)++rest) q=(_,((gX _).length:Int));rw[zx c];show rs (d+1) ((dw op,())::(s,())::rest) q=_;rw[rs,Jf,cZ,cZ,qV (by omega),hq2];rcases c with rfl|rfl|rfl<;>rfl
  .show rs (d+1) (ls (gX _)++rest) q=(_,((gX _).length:Int));rw[A7 c];show rs (d+1) ((dw op,())::(s,())::(aU v,())::rest) q=_;rw[rs,Jf,SC,cZ,cZ,qV (by omega),hq2];have e:wordAt (List.drop 1 ((s,())::(aU v,())::rest)) 0=aU v:=cZ _ _;rw[e,OO hv h0];rcases c with rfl|rfl<;>rfl
 |.neg t,d+1,rest,q,hw,ho,hd,hq=>by
  have hd:t.size+1<=d+1:=hd;have hq:q.length+(t.size+1)<=10:=hq;have hq':decide ((q.length:Int)>9)=false:=ah5 (by omega);have e:=Jg t d rest q hw ho (by omega) (by omega);have hl:0<(aJ t).length:=by
   cases t with
   |leaf n=>exact ai0 _
   |neg t=>exact ai0 _
   |two op a b=>exact ai0 _
  show rs (d+1) ((dw 5,())::(ls (aJ t)++rest)) q=_;rw[rs,cZ,qV (.inr (.inr (.inr (.inr (.inl rfl))))),hq'];show(bif (rs d (ls (aJ t)++rest) q).2==0 then _ else(_,1+(rs d (ls (aJ t)++rest) q).2):List ax×Int)=_;rw[show List.drop 1 ((dw 5,())::(ls (aJ t)++rest))=ls (aJ t)++rest from rfl,e];rw[show(((aJ t).length:Int)==0)=false from aht.2 (by omega)];show((q++post t q.length)++[(5,((q++post t q.length).length:Int)-1,0,[],0,0,[],())],1+((aJ t).length:Int))=(q++(post t q.length++[_]),(((aJ t).length+1:Nat):Int));rw[ahr,dP,ahC,show(1+((aJ t).length:Int))=(((aJ t).length+1:Nat):Int) by omega]
 |.two op x y,d+1,rest,q,⟨c,w1,w2⟩,⟨o1,o2⟩,hd,hq=>by
  have hd:x.size+y.size+1<=d+1:=hd;have hq:q.length+(x.size+y.size+1)<=10:=hq;have sx:=size_pos x;have sy:=size_pos y;have hq':decide ((q.length:Int)>9)=false:=ah5 (by omega);have wl:∀t:QT,0<(aJ t).length:=λt=>by
   cases t with
   |leaf n=>exact ai0 _
   |neg t=>exact ai0 _
   |two op a b=>exact ai0 _
  have l1:=wl x;have l2:=wl y;have e1:=Jg x d (ls (aJ y)++rest) q w1 o1 (by omega) (by omega);have e2:=Jg y d rest (q++post x q.length) w2 o2 (by omega) (by rw[ahr,dP];omega);show rs (d+1) (ls (dw op::(aJ x++aJ y))++rest) q=_;rw[Yc,rs,cZ,qV (by omega),hq'];rw[show List.drop 1 ((dw op,())::(ls (aJ x)++(ls (aJ y)++rest)))=ls (aJ x)++(ls (aJ y)++rest)from rfl,e1];have ed:List.drop (1+((aJ x).length:Int)).toNat ((dw op,())::(ls (aJ x)++(ls (aJ y)++rest)))=ls (aJ y)++rest:=by rw[show(1+((aJ x).length:Int)).toNat=(aJ x).length+1 by omega,List.drop_succ_cons];exact List.drop_left' (by unfold ls;rw[ah3])
  dsimp only;rw[ed,e2];rw[show(((aJ x).length:Int)==0)=false from aht.2 (by omega),show(((aJ y).length:Int)==0)=false from aht.2 (by omega)];have fin:((q++post x q.length)++post y (q++post x q.length).length++[(op,((q++post x q.length).length:Int)-1,((q++post x q.length++post y (q++post x q.length).length).length:Int)-1,[],0,0,[],())],1+((aJ x).length:Int)+((aJ y).length:Int))=(q++post (.two op x y) q.length,((aJ (.two op x y)).length:Int)):=by show _=(q++(post x q.length++(post y (q.length+x.size)++[_])),((dw op::(aJ x++aJ y)).length:Int));rw[ahr,ahr,dP,dP,ahr,dP,ahC,ahC,ahu,ahr];rw[show(1+((aJ x).length:Int)+((aJ y).length:Int))=(((aJ x).length+(aJ y).length+1:Nat):Int) by omega]
  rcases c with rfl|rfl<;>exact fin
end Sp
namespace Sp
open Go
theorem YI{op:Int}{r:LS}(c:op=2\/op=8\/op=9)(ht:dh (op,0,0,wordAt r 0,0,0,[],()) 0=true):
 (dw op,())::r=ls (gX (op,0,0,wordAt r 0,0,0,[],()))++r.drop 1:=by
 have hn:wordAt r 0≠[]:=by
  rcases su ht (by dsimp only;omega)with x|⟨_,s,x,_,hs⟩|⟨op',s,v,x,hop,_⟩
  .have:=congrArg (·.1) x;dsimp only at this;omega
  .have:=congrArg (λn:ax=>n.2.2.2.1) x;dsimp only at this;rw[this];exact hs
  .have:=congrArg (·.1) x;dsimp only at this;omega
 rw[zx c];exact congrArg _ (tq hn)
theorem YJ{op:Int}{r:LS}(c:op=3\/op=4)(ht:dh (op,0,0,wordAt r 0,(aY (wordAt (r.drop 1) 0)).1) 0=true):
 (dw op,())::r=ls (gX (op,0,0,wordAt r 0,(aY (wordAt (r.drop 1) 0)).1))++(r.drop 1).drop 1:=by
 have hn:wordAt r 0≠[]/\(aY (wordAt (r.drop 1) 0)).2=true/\aU (aY (wordAt (r.drop 1) 0)).1=wordAt (r.drop 1) 0:=by
  rcases su ht (by dsimp only;omega)with x|⟨op',s,x,hop,hs⟩|⟨op',s,v,x,hop,hs,hv,h1⟩
  .have:=congrArg (·.1) x;dsimp only at this;omega
  .have:=congrArg (·.1) x;dsimp only at this;omega
  .have x1:=congrArg (λn:ax=>n.2.2.2.1) x;have x2:=congrArg (λn:ax=>n.2.2.2.2) x;dsimp only at x1 x2;refine⟨by rw[x1];exact hs,OQ (by rw[x2];exact hv) (by rw[x2];exact h1)⟩
 have hw2:wordAt (r.drop 1) 0≠[]:=λe0=>by
  rw[e0]at hn;have:(aY []).2=false:=by unfold aY;rw[OM];rfl
  rw[this]at hn;cases hn.2.1
 have e3:r=(wordAt r 0,())::(wordAt (r.drop 1) 0,())::(r.drop 1).drop 1:=by rw[← tq hw2];exact tq hn.1
 rw[A7 c,hn.2.2];exact congrArg _ e3
theorem Nv:∀(d:Nat)(w:LS)(q:List ax),(rs d w q).2≠0->∃t,yw t/\(rs d w q).1=q++post t q.length/\0<(rs d w q).2/\(yx t->∃rest,w=ls (aJ t)++rest/\(rs d w q).2=((aJ t).length:Int))
 |0,w,q,h=>(h rfl).elim
 |d+1,w,q,h=>by
  by_cases h0:bg (wordAt w 0)=0
  .rw[rs,h0]at h;exact(h rfl).elim
  obtain⟨r,e,e2⟩:=Nl h0;rcases rV (wordAt w 0)with c|⟨c,_⟩
  .exact(h0 c).elim
  have w1:wordAt w 1=wordAt r 0:=by rw[e];exact Jf _ _
  have w2:wordAt w 2=wordAt (r.drop 1) 0:=by rw[e];exact SC _ _
  have wd:∀n:Nat,w.drop (1+(n:Int)).toNat=r.drop n:=λn=>by rw[e,show(1+(n:Int)).toNat=n+1 by omega,List.drop_succ_cons]
  rw[rs]at h ⊢;rw[e2,w1,w2]at h ⊢;generalize bg (wordAt w 0)=op at h c e h0 ⊢;cases hq:decide ((q.length:Int)>9)with
  |true=>rw[hq,Bool.or_true]at h;exact(h rfl).elim
  |false=>
  rw[hq,show(op==0)=false from aht.2 h0]at h;rw[show(op==0)=false from aht.2 h0];have Je:op=2\/op=8\/op=9->∃t,yw t/\q++[(op,0,0,wordAt r 0,0,0,[],())]=q++post t q.length/\(0:Int)<2/\(yx t->∃rest,w=ls (aJ t)++rest/\(2:Int)=((aJ t).length:Int)):=λc=>
   ⟨.leaf (op,0,0,wordAt r 0,0,0,[],()),(show op=1\/op=2\/op=3\/op=4\/op=8\/op=9 by omega),rfl,by decide,λht=>⟨r.drop 1,e.trans (YI c ht),by show _=((gX _).length:Int);rw[zx c];rfl⟩⟩
  have SB:op=3\/op=4->∃t,yw t/\q++[(op,0,0,wordAt r 0,(aY (wordAt (r.drop 1) 0)).1)]=q++post t q.length/\(0:Int)<3/\(yx t->∃rest,w=ls (aJ t)++rest/\(3:Int)=((aJ t).length:Int)):=λc=>
   ⟨.leaf (op,0,0,wordAt r 0,(aY (wordAt (r.drop 1) 0)).1),(show op=1\/op=2\/op=3\/op=4\/op=8\/op=9 by omega),rfl,by decide,λht=>⟨(r.drop 1).drop 1,e.trans (YJ c ht),by show _=((gX _).length:Int);rw[A7 c];rfl⟩⟩
  have Yb:(op=6\/op=7)->(rs d r q).2≠0->(rs d (w.drop (1+(rs d r q).2).toNat) (rs d r q).1).2≠0->
   ∃t,yw t/\(rs d (w.drop (1+(rs d r q).2).toNat) (rs d r q).1).1++[(op,((rs d r q).1.length:Int)-1,((rs d (w.drop (1+(rs d r q).2).toNat) (rs d r q).1).1.length:Int)-1,[],0,0,[],())]=q++post t q.length/\
    0<1+(rs d r q).2+(rs d (w.drop (1+(rs d r q).2).toNat) (rs d r q).1).2/\(yx t->∃rest,w=ls (aJ t)++rest/\1+(rs d r q).2+(rs d (w.drop (1+(rs d r q).2).toNat) (rs d r q).1).2=((aJ t).length:Int)):=λc g1 g2=>by
   obtain⟨x,x1,x2,x3,x4⟩:=Nv d r q g1;obtain⟨y,y1,y2,y3,y4⟩:=Nv d _ _ g2;have lx:(rs d r q).1.length=q.length+x.size:=by rw[x2,ahr,dP]
   have ly:(rs d (w.drop (1+(rs d r q).2).toNat) (rs d r q).1).1.length=q.length+x.size+y.size:=by rw[y2,ahr,dP,lx]
   refine⟨.two op x y,⟨c,x1,y1⟩,?_,by omega,λht=>?_⟩
   .rw[ly,lx,y2,lx,x2];show _=q++(post x q.length++(post y (q.length+x.size)++[_]));rw[ahC,ahC]
   .obtain⟨t1,t2⟩:yx x/\yx y:=ht;obtain⟨r1,q1,q2⟩:=x4 t1;obtain⟨r2,q3,q4⟩:=y4 t2;have e4:w.drop (1+(rs d r q).2).toNat=r1:=by rw[q2,wd,q1];exact List.drop_left' (by unfold ls;rw[ah3])
    refine⟨r2,?_,?_⟩
    .rw[e];show _=ls (dw op::(aJ x++aJ y))++_;rw[Yc];refine congrArg _ (q1.trans (congrArg _ ?_));rw[← q3];exact e4.symm
    .rw[q4,q2];show _=(((dw op::(aJ x++aJ y)).length:Nat):Int);rw[ahu,ahr];omega
  rcases c with rfl|rfl|rfl|rfl|rfl|rfl|rfl|rfl|rfl
  .refine⟨.leaf (1,0,0,[],0,0,[],()),.inl rfl,rfl,(by show(0:Int)<1;decide),λ_=>⟨r,e,rfl⟩⟩
  .exact Je (.inl rfl)
  .exact SB (.inl rfl)
  .exact SB (.inr rfl)
  .have h:(bif (rs d r q).2==0 then((rs d r q).1,0)else(_,1+(rs d r q).2):List ax×Int).2≠0:=h;cases g:(rs d r q).2==0 with
   |true=>rw[g]at h;exact(h rfl).elim
   |false=>
    obtain⟨x,x1,x2,x3,x4⟩:=Nv d r q (aht.1 g);have lx:(rs d r q).1.length=q.length+x.size:=by rw[x2,ahr,dP]
    refine⟨.neg x,x1,?_,?_,λht=>?_⟩
    .show(rs d r q).1++[(5,((rs d r q).1.length:Int)-1,0,[],0,0,[],())]=q++(post x q.length++[_]);rw[lx,x2,ahC]
    .show 0<1+(rs d r q).2;omega
    .obtain⟨r1,q1,q2⟩:=x4 ht;refine⟨r1,e.trans (congrArg _ q1),?_⟩;show 1+(rs d r q).2=((dw 5::aJ x).length:Int);rw[q2,ahu];omega
  .have h:(bif (rs d r q).2==0 then((rs d r q).1,0)else bif (rs d (w.drop (1+(rs d r q).2).toNat) (rs d r q).1).2==0 then(_,0)else(_,_):List ax×Int).2≠0:=h;cases g:(rs d r q).2==0 with
   |true=>rw[g]at h;exact(h rfl).elim
   |false=>
    rw[g]at h;cases g2:(rs d (w.drop (1+(rs d r q).2).toNat) (rs d r q).1).2==0 with
    |true=>rw[g2]at h;exact(h rfl).elim
    |false=>exact Yb (.inl rfl) (aht.1 g) (aht.1 g2)
  .have h:(bif (rs d r q).2==0 then((rs d r q).1,0)else bif (rs d (w.drop (1+(rs d r q).2).toNat) (rs d r q).1).2==0 then(_,0)else(_,_):List ax×Int).2≠0:=h;cases g:(rs d r q).2==0 with
   |true=>rw[g]at h;exact(h rfl).elim
   |false=>
    rw[g]at h;cases g2:(rs d (w.drop (1+(rs d r q).2).toNat) (rs d r q).1).2==0 with
    |true=>rw[g2]at h;exact(h rfl).elim
    |false=>exact Yb (.inr rfl) (aht.1 g) (aht.1 g2)
  .exact Je (.inr (.inl rfl))
  .exact Je (.inr (.inr rfl))
end Sp
namespace Sp
open Go
def aT:Nat->List ax->Int->List Bytes
 |0,_,_=>[]
 |k+1,q,i=>
  bif (nodeAt q i.toNat).1==5 then dw (nodeAt q i.toNat).1::aT k q (nodeAt q i.toNat).2.1
  else bif (nodeAt q i.toNat).1==6||(nodeAt q i.toNat).1==7 then dw (nodeAt q i.toNat).1::(aT k q (nodeAt q i.toNat).2.1++aT k q (nodeAt q i.toNat).2.2.1)
  else gX (nodeAt q i.toNat)
def textOf(q:List ax):Bytes:=bif aA q then Lib.join (aT 9 q ((q.length:Int)-1)) [32]else[]
theorem Jh(l r:List ax)(n:ax):nodeAt (l++(n::r)) l.length=n:=by unfold nodeAt;rw[ahv,ahZ (ahx _),ajj];rfl
theorem EU:∀(t:QT)(k:Nat)(l r:List ax),yw t->t.size<=k->aT k (l++(post t l.length++r)) (((l.length+t.size:Nat):Int)-1)=aJ t
 |t,0,_,_,_,h=>absurd (size_pos t) (by omega)
 |.leaf n,k+1,l,r,hw,_=>by
  have hw:n.1=1\/n.1=2\/n.1=3\/n.1=4\/n.1=8\/n.1=9:=hw;show aT (k+1) (l++(n::r)) (((l.length+1:Nat):Int)-1)=gX n;rw[aT,show((((l.length+1:Nat):Int)-1).toNat)=l.length by omega,Jh];rw[show(n.1==5)=false from aht.2 (by omega),show(n.1==6)=false from aht.2 (by omega),show(n.1==7)=false from aht.2 (by omega)];rfl
 |.neg t,k+1,l,r,hw,hk=>by
  have hk:t.size+1<=k+1:=hk;have ih:=EU t k l ((5,((l.length+t.size:Nat):Int)-1,0,[],0,0,[],())::r) hw (by omega);have e:l++(post (.neg t) l.length++r)=l++(post t l.length++(((5,((l.length+t.size:Nat):Int)-1,0,[],0,0,[],()):ax)::r)):=by show l++((post t l.length++[_])++r)=_;rw[ahC];rfl
  have en:nodeAt (l++(post (.neg t) l.length++r)) (l.length+t.size)=(5,((l.length+t.size:Nat):Int)-1,0,[],0,0,[],()):=by rw[e,← ahC,show l.length+t.size=(l++post t l.length).length by rw[ahr,dP]];exact Jh _ _ _
  rw[aT,show((((l.length+(QT.neg t).size:Nat):Int)-1).toNat)=l.length+t.size by show(((l.length+(t.size+1):Nat):Int)-1).toNat=_;omega,en,e];show dw 5::aT k _ _=dw 5::aJ t;rw[ih]
 |.two op x y,k+1,l,r,⟨c,w1,w2⟩,hk=>by
  have hk:x.size+y.size+1<=k+1:=hk;generalize hn:((op,((l.length+x.size:Nat):Int)-1,((l.length+x.size+y.size:Nat):Int)-1,[],0,0,[],()):ax)=N;have e:l++(post (.two op x y) l.length++r)=l++(post x l.length++(post y (l.length+x.size)++(N::r))):=by show l++((post x l.length++(post y (l.length+x.size)++[_]))++r)=_;rw[hn,ahC,ahC];rfl
  have i1:=EU x k l (post y (l.length+x.size)++(N::r)) w1 (by omega);have i2:=EU y k (l++post x l.length) (N::r) w2 (by omega);rw[ahr,dP,ahC]at i2;have en:nodeAt (l++(post (.two op x y) l.length++r)) (l.length+x.size+y.size)=N:=by rw[e,← ahC,← ahC,show l.length+x.size+y.size=((l++post x l.length)++post y (l.length+x.size)).length by rw[ahr,ahr,dP,dP]];exact Jh _ _ _
  rw[aT,show((((l.length+(QT.two op x y).size:Nat):Int)-1).toNat)=l.length+x.size+y.size by show(((l.length+(x.size+y.size+1):Nat):Int)-1).toNat=_;omega,en,e];subst hn;dsimp only;rw[i1,i2];rcases c with rfl|rfl<;>rfl
theorem OT{n:ax}(a:Int)(hw:n.1=1\/n.1=2\/n.1=3\/n.1=4\/n.1=8\/n.1=9):dh n a=dh n 0:=by obtain⟨op,l,r,s,v⟩:=n;dsimp only at hw;rcases hw with rfl|rfl|rfl|rfl|rfl|rfl<;>rfl
theorem SE:∀(t:QT)(b:Nat),yw t->(∀n∈post t b,∃a,dh n a=true)->yx t
 |.leaf n,_,hw,h=>by
  obtain⟨a,ha⟩:=h n ahF;show dh n 0=true;rw[← OT a hw];exact ha
 |.neg t,b,hw,h=>SE t b hw λn hn=>h n (ah9 _ hn)
 |.two op x y,b,⟨_,w1,w2⟩,h=>⟨SE x b w1 λn hn=>h n (ah9 _ hn),SE y _ w2 λn hn=>h n (aiz _ (ah9 _ hn))⟩
theorem CU{t:QT}(hw:yw t)(h:aA (post t 0)=true):yx t/\t.size<=9:=by refine⟨SE t 0 hw λn hn=>?_,by have:=(jH h).2;rwa [dP]at this⟩;obtain⟨i,hi,e⟩:=List.getElem_of_mem hn;refine⟨i,?_⟩;have:=(jS h hi).1;unfold nodeAt at this;rw[ahv,ahw hi,e]at this;exact this
theorem acj:∀t:QT,∃x r,aJ t=x::r/\x≠[]
 |.leaf n=>⟨_,_,rfl,aay _⟩
 |.neg t=>⟨_,_,rfl,aay _⟩
 |.two op x y=>⟨_,_,rfl,aay _⟩
where aay (op:Int):dw op≠[]:=by unfold dw;cases op==1<;>cases op==2<;>cases op==3<;>cases op==4<;>cases op==5<;>cases op==6<;>cases op==7<;>cases op==8<;>cases op==9<;>intro h<;>cases h
theorem abB{t:QT}(hw:yw t)(h:aA (post t 0)=true):textOf (post t 0)=Lib.join (aJ t) [32]/\textOf (post t 0)≠[]:=by
 obtain⟨_,hs⟩:=CU hw h;have e:textOf (post t 0)=Lib.join (aJ t) [32]:=by unfold textOf;rw[h,dP];have:=EU t 9 [] [] hw hs;rw[ah0,aif,ahL,ahN]at this;show Lib.join (aT 9 (post t 0) ((t.size:Int)-1)) [32]=_;rw[this]
 refine⟨e,?_⟩;obtain⟨x,r,ew,hx⟩:=acj t;rw[e,ew,Lib.join_cons];intro h0;exact hx (ah7.1 h0).1
def o9(w:LS):Bool×LS×List ax:=rd (w.length+1) w []
def gI(s:Bytes):Bool:=iy s&&((o9 (wordsOf s)).1&&(!decide (((o9 (wordsOf s)).2.1.length:Int)>0)&&aA (o9 (wordsOf s)).2.2))
def fM(s:Bytes):List ax:=bif gI s then(o9 (wordsOf s)).2.2 else[]
def Np(s:Bytes):Bool:=iy s&&((rs 10 (wordsOf s) []).2==((wordsOf s).length:Int)&&(!(textOf (rs 10 (wordsOf s) []).1==[])&&textOf (rs 10 (wordsOf s) []).1==jE (wordsOf s)))
theorem abv(w:List Bytes):(ls w).map (·.1)=w:=by unfold ls;rw[aiR];exact List.map_id' w
theorem SG(s:Bytes):gI s=true↔iy s=true/\∃t,yw t/\aA (post t 0)=true/\wordsOf s=ls (aJ t):=by
 unfold gI;rw[ahq,ahq,ahq,ajh,ahM];refine ake λ_=>⟨λ⟨h1,h2,h3⟩=>?_,λ⟨t,hw,hq,e⟩=>?_⟩
 .obtain⟨t,hw,e,h⟩:=Nu _ _ _ h1;have e:(o9 (wordsOf s)).2.2=post t 0:=e;rw[e]at h3;have hr:(o9 (wordsOf s)).2.1=[]:=aic.1 (by omega);have h:yx t->wordsOf s=ls (aJ t)++(o9 (wordsOf s)).2.1:=h;exact⟨t,hw,h3,by rw[h (CU hw h3).1,hr,ah0]⟩
 .have e1:=D9 t ((wordsOf s).length+1) [] [] hw (CU hw hq).1 (by rw[ah0,← e];exact aiM _);rw[ah0,← e]at e1;have e1:o9 (wordsOf s)=(true,[],post t 0):=e1;rw[e1];exact⟨rfl,(by show ¬((0:Nat):Int)>0;decide),hq⟩
theorem ack{s:Bytes}{t:QT}(hw:yw t)(hq:aA (post t 0)=true)(e:wordsOf s=ls (aJ t)):o9 (wordsOf s)=(true,[],post t 0):=by have e1:=D9 t ((wordsOf s).length+1) [] [] hw (CU hw hq).1 (by rw[ah0,← e];exact aiM _);rw[ah0,← e]at e1;exact e1
theorem ac0{s:Bytes}{t:QT}(hw:yw t)(hq:aA (post t 0)=true)(e:wordsOf s=ls (aJ t)):rs 10 (wordsOf s) []=(post t 0,((wordsOf s).length:Int)):=by obtain⟨ho,hs⟩:=CU hw hq;have e1:=Jg t 10 [] [] hw ho (by omega) (by rw[ahL];omega);rw[ah0,← e]at e1;rw[e1,e];unfold ls;rw[ah3];rfl
theorem RX(s:Bytes):Np s=gI s:=by
 rw[ahX,SG];unfold Np;rw[ahq,ahq,ahq,ajh,ahO,ahO,aht];refine ake λ_=>⟨λ⟨h1,h2,h3⟩=>?_,λ⟨t,hw,hq,e⟩=>?_⟩
 .have hq:aA (rs 10 (wordsOf s) []).1=true:=by
   cases h:aA (rs 10 (wordsOf s) []).1 with
   |true=>rfl
   |false=>unfold textOf at h2;rw[h]at h2;exact(h2 rfl).elim
  by_cases h0:(rs 10 (wordsOf s) []).2=0
  .have:wordsOf s=[]:=aic.1 (by omega);rw[this]at hq;exact absurd hq (by decide)
  obtain⟨t,hw,e,hk,h⟩:=Nv _ _ _ h0;have e:(rs 10 (wordsOf s) []).1=post t 0:=e;rw[e]at hq;obtain⟨rest,q1,q2⟩:=h (CU hw hq).1;refine⟨t,hw,hq,?_⟩;rw[h1]at q2;have hl:=congrArg List.length q1;rw[ahr]at hl;have h3:(ls (aJ t)).length=(aJ t).length:=by unfold ls;rw[ah3]
  have hr:rest=[]:=aic.1 (by omega);rw[q1,hr,ah0]
 .obtain⟨q1,q2⟩:=abB hw hq;rw[ac0 hw hq e];refine⟨rfl,q2,q1.trans ?_⟩;unfold jE;rw[e,abv]
theorem aaj{s:Bytes}(h:gI s=true):(rs 10 (wordsOf s) []).1=(o9 (wordsOf s)).2.2/\fM s=(o9 (wordsOf s)).2.2/\aA (fM s)=true:=by
 obtain⟨_,t,hw,hq,e⟩:=(SG s).1 h;have e2:fM s=(o9 (wordsOf s)).2.2:=by unfold fM;rw[h];rfl
 rw[ac0 hw hq e,e2,ack hw hq e];exact⟨rfl,rfl,hq⟩
end Sp
namespace Sp
open Go
def zZ:Bytes:=[99,114,101,97,116,101]
def xQ:Bytes:=[117,112,100,97,116,101]
def D7:Bytes:=[100,101,108,101,116,101]
def uM:Bytes:=[100,101,102,105,110,101]
def zq:Bytes:=[117,110,100,101,102,105,110,101]
def Ht:Bytes->Bytes->LS
 |cur,[]=>[(cur,())]
 |cur,b::l=>bif b==10 then(cur,())::Ht [] l else Ht (cur++[b]) l
end Sp
namespace Sp
open Go
theorem acn{n:Int}(h:aW n=true):(Lib.itoa n).length<=10:=(oQ h).2.2.2.2
end Sp
namespace Sp
open Go
def pz(x:jC):bD:=(x.2.1,x.2.2.1,x.2.2.2.1,x.2.2.2.2.1,x.2.2.2.2.2.1,())
def UD(x:jC):Int:=x.2.2.2.2.2.2.1
def sD(x:jC):cO:=(x.2.2.2.2.2.2.2.1,x.2.2.2.2.2.2.2.2.1,())
end Sp
namespace Sp
open Go
def l7(a:eu):Bool:=dN a.1&&(aS a.2.1 a.2.2.1 a.2.2.2.1&&!(a.2.1==0))
def kF(f:bD):Bool:=f.2.2.2.2.1.all l7&&(aW f.1&&(aW f.2.1&&aW f.2.2.2.1))
def gB:List eu->List Bytes
 |[]=>[]
 |a::r=>a.1::aU a.2::gB r
def dX(f:bD):List Bytes:=Lib.itoa f.2.1::(bif f.2.2.1 then[115]else[111])::Lib.itoa f.2.2.2.1::gB f.2.2.2.2.1
def wu:bD:=(0,0,false,0,[],())
def nN(k:Int)(f:bD)(id:Int)(nm:Bytes)(q:List ax):jC:=(k,f.1,f.2.1,f.2.2.1,f.2.2.2.1,f.2.2.2.2.1,id,nm,q,())
def uK(q:List ax):Bool:=aA q&&decide (fM (textOf q)=q)
def aaz(x:jC):Bool:=(sD x).1==[]&&(sD x).2.1.isEmpty
def iJ(x:jC):List Bytes:=
 bif x.1==1&&(kF (pz x)&&((pz x).1==0&&(UD x==0&&aaz x)))then zZ::dX (pz x)
 else bif x.1==2&&(kF (pz x)&&(UD x==0&&aaz x))then xQ::Lib.itoa (pz x).1::dX (pz x)
 else bif x.1==3&&(decide (pz x=wu)&&(aW (UD x)&&aaz x))then[D7,Lib.itoa (UD x)]
 else bif x.1==4&&(decide (pz x=wu)&&(UD x==0&&(aK (sD x).1&&uK (sD x).2.1)))then uM::(sD x).1::aT 9 (sD x).2.1 (((sD x).2.1.length:Int)-1)
 else bif x.1==5&&(decide (pz x=wu)&&(UD x==0&&(aK (sD x).1&&(sD x).2.1.isEmpty)))then[zq,(sD x).1]
 else[]
def dF(x:jC):Bytes:=Lib.join (iJ x) [32]
theorem Ji{s:Bytes}(h:dN s=true):aK s=true:=by unfold dN at h;unfold aK;rw[ahq,ahq,ahA,ahA]at h ⊢;exact⟨h.1,by omega⟩
end Sp
namespace Sp
open Go
def passes(x:jC)(w:LS):Prop:=dF x≠[]/\dF x=jE w
end Sp
namespace Sp
open Go
def bT(b:UInt8):Bytes->Bytes->LS
 |cur,[]=>[(cur,())]
 |cur,x::l=>bif x==b then(cur,())::bT b [] l else bT b (cur++[x]) l
def pieces(b:UInt8)(s:Bytes):LS:=bT b [] s
theorem MG:∀(l cur:Bytes),bT 10 cur l=Ht cur l
 |[],_=>rfl
 |x::l,cur=>by
  show(bif x==10 then(cur,())::bT 10 [] l else bT 10 (cur++[x]) l)=bif x==10 then(cur,())::Ht [] l else Ht (cur++[x]) l
  rw[MG l [],MG l (cur++[x])]
theorem OU{b:UInt8}:∀(w cur l:Bytes),(∀x∈w,x≠b)->bT b cur (w++l)=bT b (cur++w) l
 |[],cur,l,_=>by rw[ah0];rfl
 |x::w,cur,l,h=>by have hx:(x==b)=false:=aht.2 (h x ahF);show(bif x==b then(cur,())::bT b [] (w++l)else bT b (cur++[x]) (w++l))=_;rw[hx];show bT b (cur++[x]) (w++l)=_;rw[OU w (cur++[x]) l λy hy=>h y (ahG _ hy),ahC];rfl
theorem SH{b:UInt8}{w:Bytes}(h:∀x∈w,x≠b)(l:Bytes):pieces b (w++b::l)=(w,())::pieces b l:=by unfold pieces;rw[OU w [] (b::l) h,aif];show(bif b==b then _ else _)=_;rw[ais];rfl
theorem bZ(x y:Bytes)(r:List Bytes):Lib.join (x::y::r) [32]=x++32::Lib.join (y::r) [32]:=by rw[Lib.join_cons,Lib.join_cons];show x++([32]++y++Lib.joinTail [32] r)=_;rw[ahC];rfl
theorem Ea(b:UInt8):∀(l cur:Bytes),0<(bT b cur l).length
 |[],_=>Nat.one_pos
 |x::l,cur=>by
  show 0<(bif x==b then(cur,())::bT b [] l else bT b (cur++[x]) l).length;cases x==b with
  |true=>exact ai0 _
  |false=>exact Ea b l _
theorem Bg(b:UInt8):∀(l cur:Bytes),Lib.join ((bT b cur l).map (·.1)) [b]=cur++l
 |[],cur=>by
  show Lib.join [cur] [b]=_;rw[Lib.join_cons];rfl
 |x::l,cur=>by
  show Lib.join ((bif x==b then(cur,())::bT b [] l else bT b (cur++[x]) l).map (·.1)) [b]=_;cases h:x==b with
  |false=>
   show Lib.join ((bT b (cur++[x]) l).map (·.1)) [b]=_;rw[Bg b l (cur++[x]),ahC];rfl
  |true=>
   have hx:x=b:=ahO.1 h;have ih:=Bg b l [];have hp:=Ea b l [];cases e:bT b [] l with
   |nil=>rw[e]at hp;exact absurd hp (ajY 0)
   |cons y r=>rw[e]at ih;show Lib.join (cur::((y::r).map (·.1))) [b]=_;rw[ahE]at ih ⊢;rw[Lib.join_cons]at ih ⊢;show cur++([b]++y.1++Lib.joinTail [b] (r.map (·.1)))=_;rw[ahC,ih,hx];rfl
theorem YK(s:Bytes):jE (pieces 32 s)=s:=by unfold jE pieces;rw[Bg,aif]
def bK:List eu->Bytes
 |[]=>[]
 |a::r=>32::(a.1++32::(aU a.2++bK r))
theorem SI:∀as:List eu,Lib.joinTail [32] (gB as)=bK as
 |[]=>rfl
 |a::r=>by show[32]++a.1++([32]++aU a.2++Lib.joinTail [32] (gB r))=_;rw[SI r];show _=32::(a.1++32::(aU a.2++bK r));simp
theorem abw{as:List eu}{n:Nat}(h:n<as.length):bK (as.take (n+1))=bK (as.take n)++32::((as.getD n ([],0,0,[],())).1++32::aU (as.getD n ([],0,0,[],())).2):=by
 induction as generalizing n with
 |nil=>exact absurd h (air _)
 |cons a r ih=>
  cases n with
  |zero=>
   show 32::(a.1++32::(aU a.2++[]))=[]++32::(a.1++32::aU a.2);rw[ah0];rfl
  |succ n=>
   have h:n<r.length:=by rw[ahu]at h;omega
   show 32::(a.1++32::(aU a.2++bK (r.take (n+1))))=(32::(a.1++32::(aU a.2++bK (r.take n))))++_;rw[ih h];show _=32::(a.1++32::(aU a.2++bK (r.take n)))++32::((r.getD n ([],0,0,[],())).1++32::aU (r.getD n ([],0,0,[],())).2);simp
theorem Vj(f:bD):Lib.join (dX f) [32]=Lib.itoa f.2.1++32::((bif f.2.2.1 then[115]else[111])++32::(Lib.itoa f.2.2.2.1++bK f.2.2.2.2.1)):=by unfold dX;rw[bZ,bZ,Lib.join_cons,SI]
def zo:Bytes:=[102,105,108,101]
def dD(f:bD):Bytes:=Lib.join (zo::Lib.itoa f.1::dX f) [32]
theorem Yd(n:Int):∀x∈Lib.itoa n,x≠32:=by
 intro x hx e;subst e;have h:∀k:Nat,∀y∈Lib.decDigits k,48<=y.toNat:=λk y hy=>
  ((xA k k (Nat.lt_trans (Nat.lt_pow_self (by decide)) (Nat.pow_lt_pow_right (by decide) (aiM k)))).2.2.1 y hy).1
 unfold Lib.itoa at hx;split at hx
 .rcases ahV.1 hx with h0|h0
  .exact absurd h0 (by decide)
  .exact absurd (h _ _ h0) (by decide)
 .exact absurd (h _ _ hx) (by decide)
theorem YE(f:bD):(pieces 32 (dD f)).drop 2=pieces 32 (Lib.join (dX f) [32])/\(pieces 32 (dD f)).drop 1=(Lib.itoa f.1,())::pieces 32 (Lib.join (dX f) [32])/\2<=(pieces 32 (dD f)).length:=by
 have e:pieces 32 (dD f)=(zo,())::(Lib.itoa f.1,())::pieces 32 (Lib.join (dX f) [32]):=by unfold dD;rw[bZ,SH (by decide)];unfold dX;rw[bZ,SH (Yd _)]
 rw[e];exact⟨rfl,rfl,by rw[ahu,ahu];omega⟩
end Sp
namespace Sp
open Go
theorem OG(kw s:Bytes):Lib.join (kw::(pieces 32 s).map (·.1)) [32]=kw++32::s:=by
 have h:=YK s;have hp:=Ea 32 s [];unfold jE pieces at h;unfold pieces;cases e:bT 32 [] s with
 |nil=>rw[e]at hp;exact absurd hp (ajY 0)
 |cons y r=>rw[e]at h;rw[ahE]at h ⊢;rw[bZ,h]
theorem join_one(x:Bytes):Lib.join [x] [32]=x:=by rw[Lib.join_cons];exact ah0 x
theorem Ye:∀(a:List Bytes)(y:Bytes)(b:List Bytes),a≠[]->Lib.join (a++y::b) [32]=Lib.join a [32]++32::Lib.join (y::b) [32]
 |[],_,_,h=>(h rfl).elim
 |[x],y,b,_=>by rw[join_one];exact bZ x y b
 |x::z::a,y,b,_=>by show Lib.join (x::z::(a++y::b)) [32]=_;rw[bZ,bZ];have:=Ye (z::a) y b (by simp);rw[show z::(a++y::b)=(z::a)++y::b from rfl,this,ahC];rfl
theorem RH(x:Bytes){a:List Bytes}(h:a≠[]):Lib.join [x,Lib.join a [32]] [32]=Lib.join (x::a) [32]:=by
 cases a with
 |nil=>exact(h rfl).elim
 |cons y r=>rw[bZ,join_one,bZ]
theorem RI(x:Bytes){a b:List Bytes}(h:a≠[])(g:b≠[]):Lib.join [x,Lib.join a [32],Lib.join b [32]] [32]=Lib.join (x::(a++b)) [32]:=by
 cases a with
 |nil=>exact(h rfl).elim
 |cons y r=>
  cases b with
  |nil=>exact(g rfl).elim
  |cons z s=>have:=Ye (y::r) z s (by simp);rw[bZ,bZ,join_one];show _=Lib.join (x::y::(r++z::s)) [32];rw[bZ];show _=x++32::Lib.join ((y::r)++z::s) [32];rw[this]
theorem yu(k:Nat)(q:List ax)(i:Int):aT (k+1) q i≠[]:=by
 rw[aT];cases (nodeAt q i.toNat).1==5 with
 |true=>exact ajp _ _
 |false=>
  cases (nodeAt q i.toNat).1==6||(nodeAt q i.toNat).1==7 with
  |true=>exact ajp _ _
  |false=>exact ajp _ _
theorem UE{n:ax}{a:Int}(h:dh n a=true)(c:n.1=5):0<=n.2.1/\n.2.1<a:=by obtain⟨op,l,r,s,k,m,t,⟨⟩⟩:=n;have c:op=5:=c;subst c;have h:((decide (0<=l)&&decide (l<=a-1)&&decide (0<a))&&r==0&&(s==[]&&(k==0&&(m==0&&t==[]))))=true:=h;rw[ahq,ahq,ahq,ahq,ahA,ahA]at h;have h1:=h.1.1.1;dsimp only;omega
theorem UF{n:ax}{a:Int}(h:dh n a=true)(c:n.1=6\/n.1=7):(0<=n.2.1/\n.2.1<a)/\0<=n.2.2.1/\n.2.2.1<a:=by
 obtain⟨op,l,r,s,k,m,t,⟨⟩⟩:=n;have h:((decide (0<=l)&&decide (l<=a-1)&&decide (0<a))&&(decide (0<=r)&&decide (r<=a-1))&&(s==[]&&(k==0&&(m==0&&t==[]))))=true:=by
  rcases c with c|c
  .have c:op=6:=c;subst c;exact h
  .have c:op=7:=c;subst c;exact h
 simp only[ahq,ahA]at h;have h1:=h.1.1.1;have h2:=h.1.2;dsimp only;omega
theorem uI{q:List ax}(h:aA q=true):∀(k j:Nat)(i:Int),0<=i->i.toNat<q.length->i.toNat<k->i.toNat<j->aT k q i=aT j q i
 |0,_,_,_,_,hk,_=>absurd hk (air _)
 |_+1,0,_,_,_,_,hj=>absurd hj (air _)
 |k+1,j+1,i,hi,hl,hk,hj=>by
  have hn:=(jS h hl).1;rw[aT,aT];cases c5:(nodeAt q i.toNat).1==5 with
  |true=>
   have hc:=UE hn (ahO.1 c5);show _::aT k q _=_::aT j q _;rw[uI h k j (nodeAt q i.toNat).2.1 hc.1 (by omega) (by omega) (by omega)]
  |false=>
  cases c6:(nodeAt q i.toNat).1==6||(nodeAt q i.toNat).1==7 with
  |true=>
   rw[aiw,ahO,ahO]at c6;have hc:=UF hn c6;show _::(aT k q _++aT k q _)=_::(aT j q _++aT j q _);rw[uI h k j (nodeAt q i.toNat).2.1 hc.1.1 (by omega) (by omega) (by omega),uI h k j (nodeAt q i.toNat).2.2.1 hc.2.1 (by omega) (by omega) (by omega)]
  |false=>rfl
def xU(w:List Bytes):Nat:=(w.map λx=>x.length+1).sum
theorem MH:∀w:List Bytes,(Lib.join w [32]).length<=xU w
 |[]=>ahx _
 |[x]=>by rw[join_one];show x.length<=x.length+1+0;omega
 |x::y::r=>by have:=MH (y::r);rw[bZ,ahr,ahu];show _<=x.length+1+xU (y::r);omega
theorem uN(x:Bytes)(r:List Bytes):xU (x::r)=x.length+1+xU r:=by unfold xU;rw[ahE,ajZ]
theorem aco(a b:List Bytes):xU (a++b)=xU a+xU b:=by unfold xU;rw[aiJ,List.sum_append]
theorem Yf(op:Int):(dw op).length<=6:=by unfold dw;cases op==1<;>cases op==2<;>cases op==3<;>cases op==4<;>cases op==5<;>cases op==6<;>cases op==7<;>cases op==8<;>cases op==9<;>decide
theorem adA{v:wM}(h:aS v.1 v.2.1 v.2.2.1=true)(h0:v.1≠0):(aU v).length<=10:=by
 unfold aU;rw[h];rcases aev h h0 with⟨n,rfl,a,b⟩|⟨s,rfl,a⟩
 .exact acn (by unfold aW;rw[ahT a,ahT (show n<=1000000000 by omega)];rfl)
 .exact ahB (rZ a) (by decide)
theorem acp{n:ax}(h:dh n 0=true)(hw:n.1=1\/n.1=2\/n.1=3\/n.1=4\/n.1=8\/n.1=9):xU (gX n)<=25:=by
 have hg:n.1=1\/n.2.2.2.1.length<=6:=by
  obtain⟨op,l,r,s,k,m,t,⟨⟩⟩:=n;dsimp only at hw ⊢;rcases hw with rfl|rfl|rfl|rfl|rfl|rfl
  .exact .inl rfl
  .have h:((l==0&&r==0)&&(k==0&&(m==0&&t==[]))&&dN s)=true:=h;rw[ahq]at h;exact .inr (rZ (Ji h.2))
  .have h:((l==0&&r==0)&&dN s&&aS k m t&&!(k==0))=true:=h;rw[ahq,ahq,ahq]at h;exact .inr (rZ (Ji h.1.1.2))
  .have h:((l==0&&r==0)&&dN s&&aS k m t&&k==1)=true:=h;rw[ahq,ahq,ahq]at h;exact .inr (rZ (Ji h.1.1.2))
  .have h:((l==0&&r==0)&&(k==0&&(m==0&&t==[]))&&aK s)=true:=h;rw[ahq]at h;exact .inr (rZ h.2)
  .have h:((l==0&&r==0)&&(k==0&&(m==0&&t==[]))&&aK s)=true:=h;rw[ahq]at h;exact .inr (rZ h.2)
 rcases su h hw with rfl|⟨op,s,rfl,c,hs⟩|⟨op,s,v,rfl,c,hs,hv,h0⟩
 .decide
 .have hl:s.length<=6:=hg.resolve_left (by dsimp only;omega);have hk:=Yf op;rw[zx c,uN,uN];show _+(_+0)<=25;omega
 .have hl:s.length<=6:=hg.resolve_left (by dsimp only;omega);have hk:=Yf op;have hq:=adA hv h0;rw[A7 c,uN,uN,uN];show _+(_+(_+0))<=25;omega
theorem A8{q:List ax}(h:aA q=true):∀(k:Nat)(i:Int),0<=i->i.toNat<q.length->xU (aT k q i)+7<=24*2 ^ k
 |0,_,_,_=>by show 0+7<=24*1;decide
 |k+1,i,hi,hl=>by
  have hn:=(jS h hl).1;have hk:=Yf (nodeAt q i.toNat).1;have hp:1<=2 ^ k:=ajw;have e2:2 ^ (k+1)=2*2 ^ k:=by rw[Nat.pow_succ,aju]
  rw[aT];cases c5:(nodeAt q i.toNat).1==5 with
  |true=>
   have hc:=UE hn (ahO.1 c5);have ih:=A8 h k (nodeAt q i.toNat).2.1 hc.1 (by omega);show xU (_::_)+7<=_;rw[uN];omega
  |false=>
  cases c6:(nodeAt q i.toNat).1==6||(nodeAt q i.toNat).1==7 with
  |true=>
   rw[aiw,ahO,ahO]at c6;have hc:=UF hn c6;have i1:=A8 h k (nodeAt q i.toNat).2.1 hc.1.1 (by omega);have i2:=A8 h k (nodeAt q i.toNat).2.2.1 hc.2.1 (by omega);show xU (_::(_++_))+7<=_;rw[uN,aco];omega
  |false=>
   rw[aiu,aht,aht]at c6;have c5:=aht.1 c5;have hw:(nodeAt q i.toNat).1=1\/(nodeAt q i.toNat).1=2\/(nodeAt q i.toNat).1=3\/(nodeAt q i.toNat).1=4\/(nodeAt q i.toNat).1=8\/(nodeAt q i.toNat).1=9:=by
    generalize nodeAt q i.toNat=n at hn c5 c6;obtain⟨op,l,r,s,k,m,t,⟨⟩⟩:=n;dsimp only at c5 c6 ⊢;by_cases a1:op=1
    .exact .inl a1
    by_cases a2:op=2
    .exact .inr (.inl a2)
    by_cases a3:op=3
    .exact .inr (.inr (.inl a3))
    by_cases a4:op=4
    .exact .inr (.inr (.inr (.inl a4)))
    by_cases a8:op=8
    .exact .inr (.inr (.inr (.inr (.inl a8))))
    by_cases a9:op=9
    .exact .inr (.inr (.inr (.inr (.inr a9))))
    unfold dh at hn;dsimp only at hn;rw[aht.2 a1,aht.2 a2,aht.2 a3,aht.2 a4,aht.2 c5,aht.2 c6.1,aht.2 c6.2,aht.2 a8,aht.2 a9]at hn;cases hn
   have:=acp (by rw[← OT _ hw];exact hn) hw;show xU (gX _)+7<=_;omega
theorem Cm(q:List ax):(textOf q).length<=12288:=by
 unfold textOf;cases h:aA q with
 |false=>exact ahR _
 |true=>have hl:=jH h;have:=A8 h 9 ((q.length:Int)-1) (by omega) (by omega);exact ahB (MH _) (by show xU (aT 9 q _)<=12288;omega)
end Sp
namespace Sp
open Go
end Sp
namespace Sp
open Go
end Sp
namespace Sp
open Go
end Sp
namespace Sp
open Go
end Sp
namespace Sp
open Go
theorem Fz(w:LS)(a i:Int)(ha:0<=a)(hi:0<=i):wordAt (w.drop a.toNat) i=wordAt w (a+i):=by
 by_cases h:a+i<(w.length:Int)
 .rw[qZ h,qZ (by rw[ah1];omega),ahv,ahW,ahv,show a.toNat+i.toNat=(a+i).toNat by omega]
 .rw[qY (show a+i>=(w.length:Int) by omega),qY (by rw[ah1];omega)]
theorem ES:∀(d:Nat)(w:LS)(q:List ax),(rs d w q).1.length<=max (10+d) q.length/\0<=(rs d w q).2/\(rs d w q).2<3*2 ^ d
 |0,w,q=>⟨Nat.le_max_right _ _,ai3 _,by show(0:Int)<_;decide⟩
 |d+1,w,q=>by
  have hp:1<=2 ^ d:=ajw;have e2:(3:Int)*2 ^ (d+1)=2*(3*2 ^ d):=by rw[Int.pow_succ];omega
  have e3:(1:Int)<=2 ^ d:=by exact_mod_cast hp
  rw[rs];cases h0:bg (wordAt w 0)==0||decide ((q.length:Int)>9)with
  |true=>exact⟨Nat.le_max_right _ _,ai3 _,by show(0:Int)<_;omega⟩
  |false=>
  rw[aiu,ahM]at h0;have hq:q.length<=9:=by omega
  have one:∀(x:ax)(k:Int),0<=k->k<=3->(q++[x],k).1.length<=max (10+(d+1)) q.length/\0<=(q++[x],k).2/\(q++[x],k).2<3*2 ^ (d+1):=λx k h1 h2=>
   ⟨by rw[ahr,ahu,ahL];omega,h1,by show k<_;omega⟩
  cases bg (wordAt w 0)==2||(bg (wordAt w 0)==8||bg (wordAt w 0)==9)with
  |true=>exact one _ _ (by decide) (by decide)
  |false=>
  cases bg (wordAt w 0)==3||bg (wordAt w 0)==4 with
  |true=>exact one _ _ (by decide) (by decide)
  |false=>
  cases bg (wordAt w 0)==5||(bg (wordAt w 0)==6||bg (wordAt w 0)==7)with
  |false=>exact one _ _ (by decide) (by decide)
  |true=>
  have i1:=ES d (w.drop 1) q;show(bif (rs d (w.drop 1) q).2==0 then _ else _:List ax×Int).1.length<=_/\0<=(bif (rs d (w.drop 1) q).2==0 then _ else _:List ax×Int).2/\(bif (rs d (w.drop 1) q).2==0 then _ else _:List ax×Int).2<_;generalize rs d (w.drop 1) q=x at i1 ⊢;obtain⟨r,k⟩:=x;have i1:r.length<=max (10+d) q.length/\0<=k/\k<3*2 ^ d:=i1;have i2:=ES d (w.drop (1+k).toNat) r;cases k==0 with
  |true=>exact⟨by show r.length<=_;omega,ai3 _,by show(0:Int)<_;omega⟩
  |false=>
  cases bg (wordAt w 0)==5 with
  |true=>exact⟨by show(r++[_]).length<=_;rw[ahr,ahu,ahL];omega,by show 0<=1+k;omega,by show 1+k<_;omega⟩
  |false=>
  show(bif (rs d (w.drop (1+k).toNat) r).2==0 then _ else _:List ax×Int).1.length<=_/\0<=(bif (rs d (w.drop (1+k).toNat) r).2==0 then _ else _:List ax×Int).2/\(bif (rs d (w.drop (1+k).toNat) r).2==0 then _ else _:List ax×Int).2<_;generalize rs d (w.drop (1+k).toNat) r=y at i2 ⊢;obtain⟨s,m⟩:=y;have i2:s.length<=max (10+d) r.length/\0<=m/\m<3*2 ^ d:=i2;cases m==0 with
  |true=>exact⟨by show s.length<=_;omega,ai3 _,by show(0:Int)<_;omega⟩
  |false=>exact⟨by show(s++[_]).length<=_;rw[ahr,ahu,ahL];omega,by show 0<=1+k+m;omega,by show 1+k+m<_;omega⟩
theorem kS{n:Int}(h:(-9223372036854775808:Int)<=n/\n<=9223372036854775807):(Lib.itoa n).length<=21:=Lib.itoa_length_le n h.1 h.2
theorem YL{v:wM}:(aU v).length<=21+v.2.2.1.length:=by
 unfold aU;cases h:aS v.1 v.2.1 v.2.2.1 with
 |false=>show 1<=_;omega
 |true=>
  cases h1:v.1==1 with
  |true=>
   have h:=(acZ (n:=v.2.1) (s:=v.2.2.1) (by rw[← ahO.1 h1];exact h));exact ahB (kS (by omega)) (akc _ _)
  |false=>
   cases v.1==2 with
   |true=>show v.2.2.1.length<=_;omega
   |false=>show 1<=_;omega
theorem JB:∀as:List eu,(bK as).length<=23*jL as
 |[]=>ahx _
 |a::r=>by have ih:=JB r;have hv:=@YL a.2;obtain⟨n,k,i,s,⟨⟩⟩:=a;have e:jL ((n,k,i,s,())::r)=1+(n.length+s.length)+jL r:=rfl;show(32::(n++32::(aU (k,i,s,())++bK r))).length<=_;have hv:(aU (k,i,s,())).length<=21+s.length:=hv;rw[ahu,ahr,ahu,ahr,e];omega
theorem Zm:∀as:List eu,as.length<=jL as
 |[]=>ahx _
 |a::r=>by have ih:=Zm r;have e:jL (a::r)=1+Qb a+jL r:=rfl;rw[ahu,e];omega
theorem Uy{as:List eu}{n:Nat}:(bK (as.take n)).length<=(bK as).length:=by
 induction as generalizing n with
 |nil=>rw[List.take_nil];exact ahx _
 |cons a r ih=>
  cases n with
  |zero=>exact ahR _
  |succ n=>show(32::(a.1++32::(aU a.2++bK (r.take n)))).length<=(32::(a.1++32::(aU a.2++bK r))).length;have:=@ih n;simp only[ahu,ahr];omega
theorem D6{f:bD}(h1:(-9223372036854775808:Int)<=f.1/\f.1<=9223372036854775807)(h2:(-9223372036854775808:Int)<=f.2.1/\f.2.1<=9223372036854775807)(h3:(-9223372036854775808:Int)<=f.2.2.2.1/\f.2.2.2.1<=9223372036854775807):
 (dD f).length<=80+(bK f.2.2.2.2.1).length/\(Lib.join (dX f) [32]).length<=47+(bK f.2.2.2.2.1).length:=by
 have q1:=kS h1;have q2:=kS h2;have q3:=kS h3;have e0:(bif f.2.2.1 then[115]else[111]:Bytes).length=1:=by cases f.2.2.1<;>rfl
 have hb:(Lib.join (dX f) [32]).length<=47+(bK f.2.2.2.2.1).length:=by rw[Vj];simp only[ahu,ahr,e0];omega
 refine⟨?_,hb⟩;have e:dD f=zo++32::(Lib.itoa f.1++32::Lib.join (dX f) [32]):=by unfold dD;rw[bZ];unfold dX;rw[bZ]
 rw[e];simp only[ahu,ahr,show zo.length=4 from rfl];omega
def FO(x:jC):Prop:=(pz x).2.2.2.2.1.length<=1048576/\(bK (pz x).2.2.2.2.1).length<=1073741824/\(sD x).1.length<=1048576/\(sD x).2.1.length<=2000000
theorem Zn:∀q:List ax,q.length<=ny q
 |[]=>ahx _
 |a::r=>by have ih:=Zn r;have e:ny (a::r)=1+Qc a+ny r:=rfl;rw[ahu,e];omega
theorem aan{x:jC}(h:zM x<=1048576):FO x:=by have h:jL (pz x).2.2.2.2.1+((sD x).1.length+ny (sD x).2.1)<=1048576:=h;have h1:=Zm (pz x).2.2.2.2.1;have h2:=JB (pz x).2.2.2.2.1;have h3:=Zn (sD x).2.1;exact⟨by omega,by omega,by omega,by omega⟩
end Sp
namespace Sp
open Go
theorem OV:∀(sep:List UInt8)(k:Nat)(s:List UInt8),∃h t,Lib.splitK sep 0 k s=h::t
 |_,0,s=>⟨s,[],rfl⟩
 |sep,k+1,s=>by
  unfold Lib.splitK;split
  .exact⟨_,_,rfl⟩
  .exact⟨_,_,rfl⟩
theorem acr(b c:UInt8)(l h:List UInt8)(t:List (List UInt8))(hb:b≠c)(e:Lib.splitK [c] 0 (Lib.count l [c]) l=h::t):Lib.splitK [c] 0 (Lib.count (b::l) [c]) (b::l)=(b::h)::t:=by
 rw[Lib.count_cons_ne b c l hb];have hp:([c]:List UInt8).isPrefixOf (b::l)=false:=by simp[List.isPrefixOf,aiU hb]
 have hix:Lib.index (b::l) [c]=if Lib.index l [c]==-1 then -1 else Lib.index l [c]+1:=by rw[Lib.index,hp];simp
 cases hk:Lib.count l [c]with
 |zero=>rw[hk]at e;simp only[Lib.splitK,List.cons.injEq]at e ⊢;exact⟨⟨trivial,e.1⟩,e.2⟩
 |succ k=>
  rw[hk]at e;by_cases hm:Lib.index l [c]=-1
  .rw[Lib.count_miss hm]at hk;cases hk
  .have hge:=Lib.index_ge l [c];obtain⟨j,hj⟩:∃j:Nat,Lib.index l [c]=j:=⟨(Lib.index l [c]).toNat,by omega⟩;have hix':Lib.index (b::l) [c]=((j+1:Nat):Int):=by rw[hix,if_neg (λe=>hm (ahO.1 e)),hj];omega
   simp only[Lib.splitK]at e ⊢;rw[hj,if_neg (λh=>by have:=ahO.1 h;omega)]at e;rw[hix',if_neg (λh=>by have:=ahO.1 h;omega)];simp only[List.cons.injEq,aia]at e ⊢;refine⟨?_,?_⟩
   .rw[← e.1];rfl
   .rw[← e.2];rfl
theorem acs(c:UInt8)(l:List UInt8):Lib.splitK [c] 0 (Lib.count (c::l) [c]) (c::l)=[]::Lib.splitK [c] 0 (Lib.count l [c]) l:=by
 rw[Lib.count_cons_eq,ajM];have hix:Lib.index (c::l) [c]=((0:Nat):Int):=by rw[Lib.index];simp[List.isPrefixOf]
 simp only[Lib.splitK];rw[hix,if_neg (by simp)];rfl
end Sp
namespace Sp
open Go
theorem Ac(c:UInt8):∀(l cur h:Bytes)(t:List Bytes),Lib.splitK [c] 0 (Lib.count l [c]) l=h::t->(bT c cur l).map (·.1)=(cur++h)::t
 |[],cur,h,t,e=>by
  have h0:Lib.count [] [c]=0:=Lib.count_one c [];rw[h0]at e;simp only[Lib.splitK,List.cons.injEq]at e;rw[← e.1,← e.2,ah0];rfl
 |b::l,cur,h,t,e=>by
  obtain⟨h',t',e'⟩:=OV [c] (Lib.count l [c]) l;by_cases hb:b=c
  .obtain rfl:b=c:=hb;rw[acs,List.cons.injEq]at e;have hl:bT b cur (b::l)=(cur,())::bT b [] l:=by rw[bT,ais];rfl
   rw[hl,ahE,Ac b l [] h' t' e',← e.1,← e.2,e',ah0,aif]
  .rw[acr b c l h' t' hb e',List.cons.injEq]at e;have hl:bT c cur (b::l)=bT c (cur++[b]) l:=by rw[bT,aht.2 hb];rfl
   rw[hl,Ac c l (cur++[b]) h' t' e',← e.1,← e.2,ahC];rfl
theorem Xy(c:UInt8)(s:Bytes):(pieces c s).map (·.1)=Lib.split s [c]:=by obtain⟨h,t,e⟩:=OV [c] (Lib.count s [c]) s;unfold pieces Lib.split;rw[Ac c s [] h t e,e,aif]
theorem FK(c:UInt8):∀(l cur:Bytes)(x:Bytes×Unit),x∈bT c cur l->x.1.length<=cur.length+l.length
 |[],cur,x,h=>by
  simp only[bT,aje]at h;subst h;simp
 |b::l,cur,x,h=>by
  rw[bT]at h;cases hb:b==c with
  |true=>
   rw[hb]at h;rcases ahV.1 h with rfl|h
   .simp
   .have:=FK c l [] x h;simp at this ⊢;omega
  |false=>rw[hb]at h;have:=FK c l (cur++[b]) x h;simp at this ⊢;omega
theorem abk{c:UInt8}{s:Bytes}:∀x∈pieces c s,x.1.length<=s.length:=λx hx=>by have:=FK c s [] x hx;simpa using this
theorem Eb(c:UInt8):∀(l cur:Bytes),(bT c cur l).length<=l.length+1
 |[],cur=>ahx _
 |b::l,cur=>by
  rw[bT];cases b==c with
  |true=>have:=Eb c l [];show _+1<=_;simp;omega
  |false=>have:=Eb c l (cur++[b]);show(bT c (cur++[b]) l).length<=_;simp;omega
theorem pieces_len(c:UInt8)(s:Bytes):(pieces c s).length<=s.length+1:=Eb c s []
end Sp
namespace Go.Fw
open Go
theorem eqL{α β:Type}(e:α->α->Bool)(he:∀x y,e x y=false↔x=y)(d:α)(a b:List α)[Decidable (a=b)](t:β)(hlen:a.length<=maxLen){K:Bool×Unit->Prop}(hK:K (decide (a=b),())):
 bif ((a.length:Int)) !=(b.length:Int)then K (false,())else
 ∃(I:(Int×Unit)×Unit->Prop),∃(μ:(Int×Unit)×Unit->Nat),I (((0:Int),()),())/\∀(y:(Int×Unit)×Unit),I y->
  bif decide (y.fst.fst<(a.length:Int))then
   ((0:Int)<=y.fst.fst/\y.fst.fst<(a.length:Int))/\((0:Int)<=y.fst.fst/\y.fst.fst<(b.length:Int))/\
     (bif e (a.getD (Int.toNat y.fst.fst) d) (b.getD (Int.toNat y.fst.fst) d)then K (false,())
     else t=t/\I ((IntKind.i64.wrap (y.fst.fst+(1:Int)),()),())/\μ ((IntKind.i64.wrap (y.fst.fst+(1:Int)),()),())<μ y)
  else K (true,()):=by
 rw[maxLen_eq]at hlen;refine ah (λh=>?_) λh=>?_
 .have h:(a.length:Int)≠b.length:=by simpa using h
  rw[ah5 λe=>h (by rw[e])]at hK;exact hK
 .have h:(a.length:Int)=b.length:=by simpa using h
  exact Ze e he d a b t hlen (by omega) (λe=>by rw[ah5 e]at hK;exact hK) λe=>by rw[ahT e]at hK;exact hK
end Go.Fw
namespace Sp
open Go
theorem Vg{n:ax}{a:Int}(hn:dh n a=true):(n.1=1\/n.1=2\/n.1=3\/n.1=4\/n.1=8\/n.1=9)\/n.1=5\/n.1=6\/n.1=7:=by
 obtain⟨op,l,r,s,k,m,t,⟨⟩⟩:=n;dsimp only;by_cases a1:op=1
 .omega
 by_cases a2:op=2
 .omega
 by_cases a3:op=3
 .omega
 by_cases a4:op=4
 .omega
 by_cases a5:op=5
 .omega
 by_cases a6:op=6
 .omega
 by_cases a7:op=7
 .omega
 by_cases a8:op=8
 .omega
 by_cases a9:op=9
 .omega
 unfold dh at hn;dsimp only at hn;rw[aht.2 a1,aht.2 a2,aht.2 a3,aht.2 a4,aht.2 a5,aht.2 a6,aht.2 a7,aht.2 a8,aht.2 a9]at hn;cases hn
theorem Zc{q:List ax}{i:Int}(k:Nat)(c:(nodeAt q i.toNat).1=1\/(nodeAt q i.toNat).1=2\/(nodeAt q i.toNat).1=3\/(nodeAt q i.toNat).1=4\/(nodeAt q i.toNat).1=8\/(nodeAt q i.toNat).1=9):aT (k+1) q i=gX (nodeAt q i.toNat):=by rw[aT,aht.2 (show(nodeAt q i.toNat).1≠5 by omega),aht.2 (show(nodeAt q i.toNat).1≠6 by omega),aht.2 (show(nodeAt q i.toNat).1≠7 by omega)];rfl
theorem abr{q:List ax}{i:Int}(h:aA q=true)(h0:0<=i)(hl:i<(q.length:Int))(c:(nodeAt q i.toNat).1=5):
 aT (i.toNat+1) q i=dw 5::aT ((nodeAt q i.toNat).2.1.toNat+1) q (nodeAt q i.toNat).2.1/\0<=(nodeAt q i.toNat).2.1/\(nodeAt q i.toNat).2.1<i:=by
 have hn:=(jS h (show i.toNat<q.length by omega)).1;have hk:=UE hn c;have hk2:(nodeAt q i.toNat).2.1<i:=by have:=hk.2;omega
 refine⟨?_,hk.1,hk2⟩;rw[aT,ahO.2 c,c,uI h i.toNat ((nodeAt q i.toNat).2.1.toNat+1) (nodeAt q i.toNat).2.1 hk.1 (by omega) (by omega) (by omega)];rfl
theorem abt{q:List ax}{i:Int}(h:aA q=true)(h0:0<=i)(hl:i<(q.length:Int))(c:(nodeAt q i.toNat).1=6\/(nodeAt q i.toNat).1=7):
 aT (i.toNat+1) q i=dw (nodeAt q i.toNat).1::(aT ((nodeAt q i.toNat).2.1.toNat+1) q (nodeAt q i.toNat).2.1++aT ((nodeAt q i.toNat).2.2.1.toNat+1) q (nodeAt q i.toNat).2.2.1)/\
  (0<=(nodeAt q i.toNat).2.1/\(nodeAt q i.toNat).2.1<i)/\0<=(nodeAt q i.toNat).2.2.1/\(nodeAt q i.toNat).2.2.1<i:=by
 have hn:=(jS h (show i.toNat<q.length by omega)).1;have hk:=UF hn c;have e:((i.toNat:Nat):Int)=i:=by omega
 rw[e]at hk;refine⟨?_,hk.1,hk.2⟩;have hc:((nodeAt q i.toNat).1==6||(nodeAt q i.toNat).1==7)=true:=by rcases c with c|c<;>rw[c]<;>rfl
 rw[aT,aht.2 (show(nodeAt q i.toNat).1≠5 by omega),hc,uI h i.toNat ((nodeAt q i.toNat).2.1.toNat+1) (nodeAt q i.toNat).2.1 hk.1.1 (by omega) (by omega) (by omega),
  uI h i.toNat ((nodeAt q i.toNat).2.2.1.toNat+1) (nodeAt q i.toNat).2.2.1 hk.2.1 (by omega) (by omega) (by omega)]
 rfl
theorem XI{q:List ax}{i:Int}(h:aA q=true)(h0:0<=i)(hl:i<(q.length:Int)):(Lib.join (aT (i.toNat+1) q i) [32]).length<=12288:=by
 have:=(jH h).2;have hw:=A8 h (i.toNat+1) i h0 (by omega);have hp:2 ^ (i.toNat+1)<=2 ^ 9:=Nat.pow_le_pow_right (by decide) (by omega);refine ahB (MH _) ?_;have e:(2:Nat) ^ 9=512:=by decide
 omega
def zl(w:Bytes):Nat->Int
 |0=>0
 |k+1=>bif w==dw ((k:Int)+1)then(k:Int)+1 else zl w k
theorem RQ(w:Bytes):zl w 9=bg w:=by
 rcases rV w with h|⟨h,e⟩
 .have no:∀op:Int,(op=1\/op=2\/op=3\/op=4\/op=5\/op=6\/op=7\/op=8\/op=9)->(w==dw op)=false:=λop ho=>aht.2 λe=>by rw[e,qV ho]at h;omega
  rw[h];simp only[zl];rw[no _ (by decide),no _ (by decide),no _ (by decide),no _ (by decide),no _ (by decide),no _ (by decide),no _ (by decide),no _ (by decide),no _ (by decide)];rfl
 .rw[← e];rcases h with h|h|h|h|h|h|h|h|h<;>rw[h]<;>decide
theorem RS(w:Bytes):0<=bg w/\bg w<=9:=by rcases rV w with h|⟨h,_⟩<;>omega
theorem Si{as:List eu}{n:Nat}(h:n<as.length):gB (as.take (n+1))=gB (as.take n)++[(as.getD n ([],0,0,[],())).1,aU (as.getD n ([],0,0,[],())).2]:=by
 induction as generalizing n with
 |nil=>exact absurd h (air _)
 |cons a r ih=>
  cases n with
  |zero=>rfl
  |succ n=>
   have h:n<r.length:=by rw[ahu]at h;omega
   show a.1::aU a.2::gB (r.take (n+1))=a.1::aU a.2::(gB (r.take n)++_);rw[ih h];rfl
theorem zY:∀as:List eu,(gB as).length=2*as.length
 |[]=>rfl
 |a::r=>by show(gB r).length+1+1=2*(r.length+1);rw[zY r];omega
end Sp
