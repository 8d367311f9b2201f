import Derived.Test.YtflpicdbkomglaaGreatDoorFwA
import Derived.Lib.ItoaNum
import Derived.Lib.ItoaLen
import Derived.Lib.Join
import Derived.Test.YtflpicdbkomglaaGreatDoorFwC
import Derived.Lib.Fields
import Derived.Lib.Atoi
import Derived.Lib.SplitLaws
namespace Sp
open Go
abbrev Bytes:=List UInt8
abbrev LI:=List (Int×Unit)
abbrev LS:=List (Bytes×Unit)
def lY(n:Nat)(left:Int):Int:=if left-n<0 then -1 else left-n
theorem take_succ'{α:Type}(a:List α)(n:Nat)(d:α)(h:n<a.length):a.take (n+1)=a.take n++[a.getD n d]:=by rw[alA h,aj9,akd h];rfl
def UZ(l:LI):Prop:=∀x∈l,-9223372036854775808<=x.1/\x.1<=9223372036854775807
theorem UZ.take{a:LI}(h:UZ a)(n:Nat):UZ (a.take n):=λx hx=>h x (al9 hx)
theorem UZ.get{a:LI}(h:UZ a){n:Nat}(hn:n<a.length)(d:Int×Unit):(Lib.itoa (a.getD n d).1).length<=21:=by
 have:a.getD n d∈a:=by rw[aj9,akd hn,alV];exact amb hn
 exact Lib.itoa_length_le _ (h _ this).1 (h _ this).2
theorem VQ(c:Nat):Lib.decDigits c=(if c / 10=0 then[]else Lib.decDigits (c / 10))++[UInt8.ofNat (48+c%10)]:=by
 conv=>lhs;rw[Lib.decDigits]
 by_cases h:c<10
 .rw[dif_pos h,if_pos (by omega),amT h];rfl
 .rw[dif_neg h,if_neg (by omega)]
end Sp
namespace Sp
open Go
set_option synthInstance.maxSize 100000
set_option synthInstance.maxHeartbeats 1000000
abbrev wS:=Int×Int×Bytes×Unit
abbrev dH:=Bytes×Int×Int×Bytes×Unit
abbrev ax:=Int×Int×Int×Bytes×Int×Int×Bytes×Unit
abbrev bD:=Int×Int×Bool×Int×List dH×Unit
abbrev dL:=Bytes×List ax×Unit
abbrev bV:=Int×Int×Int×Bool×Int×List dH×Int×Bytes×List ax×Unit
def ahv:dH->Nat|(n,_,_,s,_)=>n.length+s.length
def Pq{α:Type}(f:α->Nat):List α->Nat
 |[]=>0
 |x::r=>1+f x+Pq f r
def Js(a:List dH):Nat:=Pq ahv a
instance:DecidableEq wS:=inferInstance
instance:DecidableEq dH:=inferInstance
instance:DecidableEq ax:=inferInstance
instance:DecidableEq bD:=inferInstance
instance:DecidableEq dL:=inferInstance
instance:DecidableEq (Int×dL):=inferInstance
instance:DecidableEq (List dH×Int×dL):=inferInstance
instance:DecidableEq (Bool×Int×List dH×Int×dL):=inferInstance
instance aiU:DecidableEq bV:=(inferInstance:DecidableEq (Int×Int×Int×Bool×Int×List dH×Int×dL))
instance:DecidableEq (List bV):=inferInstance
instance:DecidableEq (List bV×Bytes×Int×Unit):=inferInstance
def sH(a b:wS):Bool:=decide (a=b)
def Ip(a b:dH):Bool:=decide (a=b)
def Iq(a b:ax):Bool:=decide (a=b)
def zB(a b:List dH):Bool:=decide (a=b)
def zC(a b:List ax):Bool:=decide (a=b)
def EF(a b:bD):Bool:=decide (a=b)
def JF(a b:dL):Bool:=decide (a=b)
def QZ(a b:bV):Bool:=decide (a=b)
def lower(s:Bytes):Bool:=s.all λc=>decide (97<=c.toNat)&&decide (c.toNat<=122)
def aG(s:Bytes):Bool:=lower s&&decide (1<=(s.length:Int))&&decide ((s.length:Int)<=6)
def aP(n:Int):Bool:=decide (0<=n)&&decide (n<=1000000000)
def idxFrom:Int->LI->Int
 |_,[]=>-1
 |k,x::r=>if aP x.1 then idxFrom (k+1) r else k
def idxOf(l:LI):Int:=idxFrom 0 l
def ja(l:LI):Bool:=l.all λx=>aP x.1
def aeo(k:Int)(nc:Nat):Bool:=decide (1<=k)&&decide (k<=8)&&decide ((nc:Int)<=6)
def KR(k u:Int)(nc:Nat)(n:Bytes)(a:Int):Bytes:=
 bif !(aeo k nc)then[]else
 bif (decide ((nc:Int)>0)&&decide (k>2))then[]else
 bif (k==1&&(aP u&&(a==0&&n==[])))then[99,111,109,109,105,116,32]++Lib.itoa u else
 bif (k==2&&(aP u&&(aP a&&n==[])))then[99,114,97,115,104,32]++Lib.itoa u++[32]++Lib.itoa a else
 bif (k==3&&(aP u&&(aG n&&a==0)))then[119,97,116,99,104,32]++Lib.itoa u++[32]++n else
 bif (k==4&&(u==0&&(aP a&&n==[])))then[112,105,110,32]++Lib.itoa a else
 bif (k==5&&(u==0&&(aP a&&n==[])))then[117,110,112,105,110,32]++Lib.itoa a else
 bif (k==6&&(u==0&&(a==0&&n==[])))then[99,111,108,108,101,99,116]else
 bif (k==7&&(aP u&&(aP a&&aG n)))then[97,100,100,32]++Lib.itoa u++[32]++n++[32]++Lib.itoa a else
 bif (k==8&&(aP u&&(aP a&&aG n)))then[114,101,109,111,118,101,32]++Lib.itoa u++[32]++n++[32]++Lib.itoa a else[]
end Sp
namespace Sp
open Go
abbrev jA:=Bytes×Int×Unit
abbrev tq:=List jA×List bD×Int×Unit
instance:DecidableEq jA:=inferInstance
instance:DecidableEq (List jA):=inferInstance
instance:DecidableEq (List bD):=inferInstance
instance:DecidableEq (List bD×Int×Unit):=inferInstance
instance ajw:DecidableEq tq:=(inferInstance:DecidableEq (List jA×List bD×Int×Unit))
def usual:List jA:=[([97],1,()),([98],1,()),([110],2,()),([116],2,())]
def agG(f:bD):Prop:=f.2.2.2.2.1.length<=1000
def agm(s:tq):Prop:=s.1.length<=1000/\s.2.1.length<=1000/\∀f∈s.2.1,agG f
def qE(n:Nat)(f:Nat->Bool):Bool:=(List.range n).all f
def dK(s:Bytes):Bool:=lower s&&decide (1<=(s.length:Int))&&decide ((s.length:Int)<=1)
def aU(k n:Int)(s:Bytes):Bool:=
 bif decide (k=0)then decide (n=0)&&decide (s=[])
 else bif decide (k=1)then decide (0<=n)&&decide (n<=999)&&decide (s=[])
 else bif decide (k=2)then aG s&&decide (n=0)
 else false
def kindOf:List jA->Bytes->Int
 |[],_=>0
 |f::r,s=>bif decide (f.1=s)then f.2.1 else kindOf r s
def fieldAt(fs:List jA)(i:Nat):jA:=fs.getD i ([],0,())
def adK(fs:List jA)(i:Nat):Bool:=
 dK (fieldAt fs i).1&&(decide (1<=(fieldAt fs i).2.1)&&decide ((fieldAt fs i).2.1<=2))&&!(decide (0<i)&&!Op.bytesLess (fieldAt fs (i-1)).1 (fieldAt fs i).1)
def E8(fs:List jA):Bool:=qE fs.length (adK fs)&&decide ((fs.length:Int)<=5)
def aep(fs:List jA)(name:Bytes)(k n:Int)(s:Bytes):Bool:=aU k n s&&!decide (k=0)&&decide (k=kindOf fs name)
def Jt(as:List dH)(i:Nat):dH:=as.getD i ([],0,0,[],())
def aer(fs:List jA)(as:List dH)(i:Nat):Bool:=
 aep fs (Jt as i).1 (Jt as i).2.1 (Jt as i).2.2.1 (Jt as i).2.2.2.1&&!(decide (0<i)&&!Op.bytesLess (Jt as (i-1)).1 (Jt as i).1)
def Pg(fs:List jA)(as:List dH):Bool:=qE as.length (aer fs as)
def CV(fs:List jA)(f:bD):Bool:=
 Pg fs f.2.2.2.2.1&&E8 fs&&(decide (1<=f.1)&&decide (f.1<=60))&&(decide (0<=f.2.1)&&decide (f.2.1<=2))&&(decide (0<=f.2.2.2.1)&&decide (f.2.2.2.1<=60))
def fileAt(fs:List bD)(i:Nat):bD:=fs.getD i (0,0,false,0,[],())
def ZF(s:tq)(i:Nat):Bool:=
 CV s.1 (fileAt s.2.1 i)&&decide ((fileAt s.2.1 i).1<s.2.2.1)&&!(decide (0<i)&&!decide ((fileAt s.2.1 (i-1)).1<(fileAt s.2.1 i).1))
def vM(s:tq):Bool:=
 qE s.2.1.length (ZF s)&&E8 s.1&&decide ((s.2.1.length:Int)<=12)&&(decide (1<=s.2.2.1)&&decide (s.2.2.1<=61))
def Xi:Int->List bD->Int->Int
 |_,[],_=>-1
 |k,f::r,id=>bif decide (f.1=id)then k else Xi (k+1) r id
def place(fs:List bD)(id:Int):Int:=Xi 0 fs id
def ZG(name:Bytes)(b:dH):Bool:=!(b.1==name)
def ZH(name:Bytes)(b:dH):Bool:=Op.bytesLess b.1 name||b.1==name
def afF(as:List dH)(a:dH):List dH:=as.takeWhile (ZH a.1)++a::as.dropWhile (ZH a.1)
def afG(as:List dH)(name:Bytes)(k n:Int)(s:Bytes):List dH:=
 bif decide (k=0)then as.filter (ZG name)else afF (as.filter (ZG name)) (name,k,n,s,())
def xC(s:tq)(f:bD):tq×Int×Bool:=
 let g:bD:=(s.2.2.1,f.2)
 bif vM s&&decide ((s.2.1.length:Int)<12)&&CV s.1 g then((s.1,s.2.1++[g],s.2.2.1+1,()),s.2.2.1,true)else(s,0,false)
def ZI{α:Type}(p:α->Bool):Int->List α->Int
 |_,[]=>-1
 |k,f::r=>bif p f then k else ZI p (k+1) r
def findAt{α:Type}(p:α->Bool)(l:List α):Int:=ZI p 0 l
def fieldPlace(l:List jA)(name:Bytes):Int:=findAt (λf=>f.1==name) l
end Sp
namespace Sp
abbrev X8:=List (Nat×Nat×Nat)
def Ju(E:X8)(L:Nat->Nat):Prop:=∀e∈E,L e.2.1+e.2.2<=L e.1
def afH(E:X8)(n:Nat):Prop:=∀e∈E,e.1<n/\e.2.1<n/\e.2.2<=1
structure Raises(E:X8)(n:Nat)(R:(Nat->Nat)->Nat->Nat):Prop where
 up:∀L i,L i<=R L i
 fix:∀L,(∀i,i<n->R L i=L i)->Ju E L
 below:∀L M,Ju E M->(∀i,i<n->L i<=M i)->∀i,i<n->R L i<=M i
 same:∀L L',(∀i,i<n->L i=L' i)->∀i,i<n->R L i=R L' i
end Sp
namespace Sp
open Go
abbrev ahw:=List jA×List bD×Int×List dL×Unit
abbrev agH:=Int×List jA×List bD×Int×List dL×Int×Unit
instance:DecidableEq (List ax):=inferInstance
instance:DecidableEq dL:=inferInstance
instance:DecidableEq (List dL):=inferInstance
instance:DecidableEq (List dL×Unit):=inferInstance
instance:DecidableEq (Int×List dL×Unit):=inferInstance
instance:DecidableEq (List bD×Int×List dL×Unit):=inferInstance
instance ajE:DecidableEq ahw:=(inferInstance:DecidableEq (List jA×List bD×Int×List dL×Unit))
instance:DecidableEq (List dL×Int×Unit):=inferInstance
instance:DecidableEq (Int×List dL×Int×Unit):=inferInstance
instance:DecidableEq (List bD×Int×List dL×Int×Unit):=inferInstance
instance:DecidableEq (List jA×List bD×Int×List dL×Int×Unit):=inferInstance
instance ajP:DecidableEq agH:=(inferInstance:DecidableEq (Int×List jA×List bD×Int×List dL×Int×Unit))
instance:DecidableEq (List agH):=inferInstance
def nodeAt(q:List ax)(i:Nat):ax:=q.getD i (0,0,0,[],0,0,[],())
def iV(n:ax):Bool:=n.1==6||n.1==7
def OJ(n:ax):Bool:=n.1==8||n.1==9
def dI(n:ax)(a:Int):Bool:=
 let kids:=decide (0<=n.2.1)&&decide (n.2.1<=a-1)&&decide (0<a)
 let two:=decide (0<=n.2.2.1)&&decide (n.2.2.1<=a-1)
 let bare:=n.2.2.2.1==[]&&(n.2.2.2.2.1==0&&(n.2.2.2.2.2.1==0&&n.2.2.2.2.2.2.1==[]))
 let flat:=n.2.1==0&&n.2.2.1==0
 let valued:=aU n.2.2.2.2.1 n.2.2.2.2.2.1 n.2.2.2.2.2.2.1
 let void:=n.2.2.2.2.1==0&&(n.2.2.2.2.2.1==0&&n.2.2.2.2.2.2.1==[])
 bif n.1==1 then flat&&bare else bif n.1==2 then flat&&void&&dK n.2.2.2.1 else
 bif n.1==3 then flat&&dK n.2.2.2.1&&valued&&!(n.2.2.2.2.1==0)else bif n.1==4 then flat&&dK n.2.2.2.1&&valued&&n.2.2.2.2.1==1 else
 bif n.1==5 then kids&&n.2.2.1==0&&bare else bif n.1==6||n.1==7 then kids&&two&&bare else
 bif n.1==8||n.1==9 then flat&&void&&aG n.2.2.2.1 else false
def refsOf(a:Int)(n:ax):Nat:=(bif (iV n||n.1==5)&&n.2.1==a then 1 else 0)+(bif iV n&&n.2.2.1==a then 1 else 0)
def jF(q:List ax)(a:Int):Nat:=(q.map (refsOf a)).sum
def jE(q:List ax)(i:Nat):Bool:=dI (nodeAt q i) i&&!(decide ((i:Int)<(q.length:Int)-1)&&!(jF q i==1))
def aC(q:List ax):Bool:=qE q.length (jE q)&&(decide (1<=(q.length:Int))&&decide ((q.length:Int)<=9))
def nU(d:List dL)(i:Nat):dL:=d.getD i ([],[],())
def afI(d:List dL)(i:Nat):Bool:=aG (nU d i).1&&aC (nU d i).2.1&&!(decide (0<i)&&!Op.bytesLess (nU d (i-1)).1 (nU d i).1)
def agI(d:List dL):Bool:=qE d.length (afI d)&&decide ((d.length:Int)<=5)
def pG(q:List ax)(i:Nat)(out:List (Bool×Unit)):List (Bool×Unit):=
 let n:=nodeAt q i
 bif n.1==5 then out.set n.2.1.toNat (true,())else bif iV n then(out.set n.2.1.toNat ((out.getD i (false,())).1,())).set n.2.2.1.toNat ((out.getD i (false,())).1,())else out
def qF(q:List ax):Nat->List (Bool×Unit)->List (Bool×Unit)
 |0,out=>out
 |n+1,out=>qF q n (pG q n out)
def negated(q:List ax):List (Bool×Unit):=bif aC q then qF q q.length (List.replicate q.length (false,()))else[]
def yY(q:List ax)(neg:Bool):List Bytes:=(List.range (negated q).length).filterMap λi=>bif OJ (nodeAt q i)&&((negated q).getD i (false,())).1==neg then some (nodeAt q i).2.2.2.1 else none
def xG:Int->List dL->Bytes->Int
 |_,[],_=>-1
 |k,x::r,s=>bif x.1==s then k else xG (k+1) r s
def nZ(d:List dL)(s:Bytes):Int:=xG 0 d s
def xH(d:List dL):X8:=
 (List.range d.length).flatMap λi=>
   ((yY (nU d i).2.1 false).filterMap λs=>bif decide (0<=nZ d s)then some (i,(nZ d s).toNat,0)else none)++
   ((yY (nU d i).2.1 true).filterMap λs=>bif decide (0<=nZ d s)then some (i,(nZ d s).toNat,1)else none)
open Classical in
noncomputable def acp (d:List dL):Bool:=agI d&&decide (∃L,Ju (xH d) L)
end Sp
namespace Sp
open Go
end Sp
namespace Sp
open Go
theorem OL(s:Bytes):∀(d:List dL)(k:Int),(xG k d s=-1/\∀x∈d,x.1≠s)\/∃n,n<d.length/\xG k d s=k+n/\(nU d n).1=s/\∀i,i<n->(nU d i).1≠s
 |[],k=>.inl ⟨rfl,λx hx=>by cases hx⟩
 |x::r,k=>by
  by_cases h:x.1=s
  .right;refine⟨0,by simp,?_,h,λi hi=>by omega⟩;rw[xG,akq.2 h];simp
  .rcases OL s r (k+1)with⟨h1,h2⟩|⟨n,h1,h2,h3,h4⟩
   .left;refine⟨by rw[xG,aj2.2 h];exact h1,λy hy=>?_⟩;rcases akm.1 hy with rfl|hy
    .exact h
    .exact h2 y hy
   .right;refine⟨n+1,by simp;omega,by rw[xG,aj2.2 h];show xG (k+1) r s=_;omega,h3,λi hi=>?_⟩;cases i with
    |zero=>exact h
    |succ i=>exact h4 i (by omega)
theorem Wj(d:List dL)(s:Bytes):(nZ d s=-1/\∀x∈d,x.1≠s)\/∃n,n<d.length/\nZ d s=n/\(nU d n).1=s/\∀i,i<n->(nU d i).1≠s:=by
 rcases OL s d 0 with h|⟨n,h1,h2,h3⟩
 .exact .inl h
 .exact .inr ⟨n,h1,by show xG 0 d s=_;omega,h3⟩
theorem aaC{d:List dL}{s:Bytes}(h:0<=nZ d s):nZ d s<d.length:=by rcases Wj d s with⟨h1,_⟩|⟨n,h1,h2,_⟩<;>omega
theorem adL{d:List dL}{i j m:Nat}:(i,j,m)∈xH d↔i<d.length/\∃s,((m=0/\s∈yY (nU d i).2.1 false)\/(m=1/\s∈yY (nU d i).2.1 true))/\0<=nZ d s/\j=(nZ d s).toNat:=by
 unfold xH;rw[List.mem_flatMap];constructor
 .rintro⟨k,hk,h⟩;rw[alh]at hk;rcases akS.1 h with h|h
  all_goals
   obtain⟨s,hs,e⟩:=amm.1 h;rw[cond_eq_ite]at e;split at e
   .next hp=>have hp:0<=nZ d s:=ak4 hp;cases e;exact⟨hk,s,by first|exact .inl ⟨rfl,hs⟩|exact .inr ⟨rfl,hs⟩,hp,rfl⟩
   .cases e
 .rintro⟨hi,s,h|h,hp,rfl⟩
  .obtain⟨rfl,hs⟩:=h;refine⟨i,alh.2 hi,akS.2 (.inl (amm.2 ⟨s,hs,?_⟩))⟩;rw[aku hp];rfl
  .obtain⟨rfl,hs⟩:=h;refine⟨i,alh.2 hi,akS.2 (.inr (amm.2 ⟨s,hs,?_⟩))⟩;rw[aku hp];rfl
theorem ZJ(d:List dL):afH (xH d) d.length:=by
 rintro⟨i,j,m⟩ he;obtain⟨h1,s,h2,h3,h4⟩:=adL.1 he;have:=aaC h3;refine⟨h1,?_,?_⟩
 .show j<_;omega
 .show m<=1;rcases h2 with⟨h,_⟩|⟨h,_⟩<;>omega
def lv(l:List (Int×Unit))(i:Nat):Int:=(l.getD i (0,())).1
theorem agJ{l:List (Int×Unit)}{i:Nat}(hi:i<l.length)(x:Int)(k:Nat):lv (l.set i (x,())) k=if k=i then x else lv l k:=by
 unfold lv;rw[aj9,aj9];by_cases h:k=i
 .subst h;rw[ali hi,if_pos rfl];rfl
 .rw[akZ (λe=>h e.symm),if_neg h]
structure Xj(d:List dL)(gu cur:List (Int×Unit))(g:Int)(P:Nat×Nat×Nat->Prop):Prop where
 len:cur.length=d.length
 up:∀i,i<d.length->lv gu i<=lv cur i
 grow:∀B,(∀i,i<d.length->lv gu i<=B)->∀i,i<d.length->lv cur i<=B+g
 fix:(∀i,i<d.length->lv cur i=lv gu i)->∀e,P e->lv gu e.2.1+e.2.2<=lv gu e.1
 below:∀M,Ju (xH d) M->(∀i,i<d.length->lv gu i<=M i)->∀i,i<d.length->lv cur i<=M i
theorem Xj.start{d:List dL}{gu:List (Int×Unit)}(h:gu.length=d.length):Xj d gu gu 0 λ_=>False:=
 ⟨h,λ_ _=>alL _,λB hB i hi=>by have:=hB i hi;omega,λ_ e he=>he.elim,λ_ _ h=>h⟩
theorem Xj.still{d:List dL}{gu cur:List (Int×Unit)}{g:Int}{P:Nat×Nat×Nat->Prop}(h:Xj d gu cur g P){i j m:Nat}(he:(i,j,m)∈xH d)(hle:lv cur j+m<=lv cur i):Xj d gu cur g λe=>P e\/e=(i,j,m):=by
 obtain⟨h1,h2,_⟩:=ZJ d _ he;refine⟨h.len,h.up,h.grow,λhx e hp=>?_,h.below⟩;rcases hp with hp|rfl
 .exact h.fix hx e hp
 .have a:=hx i h1;have b:=hx j h2;show lv gu j+m<=lv gu i;omega
theorem Xj.set{d:List dL}{gu cur:List (Int×Unit)}{g:Int}{P:Nat×Nat×Nat->Prop}(h:Xj d gu cur g P){i j m:Nat}(he:(i,j,m)∈xH d)(hlt:lv cur i<lv cur j+m):Xj d gu (cur.set i (lv cur j+m,())) (g+m) λe=>P e\/e=(i,j,m):=by
 obtain⟨h1,h2,_⟩:=ZJ d _ he;have h1:i<d.length:=h1;have h2:j<d.length:=h2;have hl:=h.len;have hs:=λk=>agJ (l:=cur) (i:=i) (by omega) (lv cur j+m) k;refine⟨by simp;omega,λk hk=>?_,λB hB k hk=>?_,λhx e hp=>?_,λM hM hb k hk=>?_⟩
 .rw[hs];have a:=h.up k hk;split
  .next e=>subst e;omega
  .exact a
 .rw[hs];have a:=h.grow B hB k hk;have b:=h.grow B hB j h2;split<;>omega
 .have:=hx i h1;rw[hs,if_pos rfl]at this;have:=h.up i h1;omega
 .rw[hs];split
  .next e=>subst e;have a:=h.below M hM hb j h2;have b:=hM _ he;have b:M j+m<=M k:=b;omega
  .exact h.below M hM hb k hk
end Sp
namespace Sp
abbrev Ext(ι α:Type):=ι->α->Bool
structure Sys(ι α:Type) where
 T:ι->Ext ι α->α->Prop
 pos:ι->ι->Prop
 neg:ι->ι->Prop
 mono:∀i X Y,(∀j,pos i j->∀x,X j x=true->Y j x=true)->(∀j,neg i j->∀x,X j x=Y j x)->∀x,T i X x->T i Y x
def ahx{ι α:Type}(S:Sys ι α)(N:ι->Prop)(gu:ι->Nat):Prop:=∀i j,N i->N j->(S.pos i j->gu j<=gu i)/\(S.neg i j->gu j<gu i)
structure Eval{ι α:Type}(S:Sys ι α)(N:ι->Prop)(gu:ι->Nat)(X:Ext ι α):Prop where
 fix:∀i,N i->∀x,X i x=true↔S.T i X x
 least:∀k(Y:Ext ι α),(∀i,¬(N i/\gu i=k)->∀x,Y i x=X i x)->(∀i,N i->gu i=k->∀x,S.T i Y x->Y i x=true)->∀i,N i->gu i=k->∀x,X i x=true->Y i x=true
open Classical in
theorem aiV{ι α:Type}{P:ι->Prop}{A B:Ext ι α}:∃Y:Ext ι α,(∀i x,Y i x=true↔A i x=true/\(P i->B i x=true))/\∀i,¬P i->∀x,Y i x=A i x:=by have h:∀i x,decide (A i x=true/\(P i->B i x=true))=true↔A i x=true/\(P i->B i x=true):=λi x=>decide_eq_true_iff;refine⟨λi x=>decide (A i x=true/\(P i->B i x=true)),h,λi hi x=>?_⟩;rw[akC,h];exact⟨λh=>h.1,λh=>⟨h,λh'=>(hi h').elim⟩⟩
end Sp
namespace Sp
open Go
abbrev tN:=Bytes×List (Int×Unit)×Unit
abbrev BX:=Ext Bytes Int
def BK:List dH->Bytes->wS
 |[],_=>(0,0,[],())
 |a::r,s=>bif a.1==s then(a.2.1,a.2.2.1,a.2.2.2.1,())else BK r s
def U0:List tN->Bytes->List (Int×Unit)
 |[],_=>[]
 |x::r,s=>bif x.1==s then x.2.1 else U0 r s
def acr(l:List (Int×Unit))(x:Int):Bool:=l.any λy=>y.1==x
def Pv(r:List tN):BX:=λs x=>acr (U0 r s) x
def zq(n:ax)(f:bD)(X:BX):Bool:=
 bif n.1==2 then !((BK f.2.2.2.2.1 n.2.2.2.1).1==0)else
 bif n.1==3 then decide (BK f.2.2.2.2.1 n.2.2.2.1=(n.2.2.2.2.1,n.2.2.2.2.2.1,n.2.2.2.2.2.2.1,()))else
 bif n.1==4 then(BK f.2.2.2.2.1 n.2.2.2.1).1==1&&decide ((BK f.2.2.2.2.1 n.2.2.2.1).2.1<n.2.2.2.2.2.1)else
 bif n.1==8 then X n.2.2.2.1 f.1 else
 bif n.1==9 then !(f.2.2.2.1==0)&&X n.2.2.2.1 f.2.2.2.1 else true
def val(q:List ax)(f:bD)(X:BX)(a:Nat):Bool:=
 if(nodeAt q a).1=5 then(if h:(nodeAt q a).2.1.toNat<a then !val q f X (nodeAt q a).2.1.toNat else true)
 else if(nodeAt q a).1=6 then(if h:(nodeAt q a).2.1.toNat<a/\(nodeAt q a).2.2.1.toNat<a then val q f X (nodeAt q a).2.1.toNat&&val q f X (nodeAt q a).2.2.1.toNat else true)
 else if(nodeAt q a).1=7 then(if h:(nodeAt q a).2.1.toNat<a/\(nodeAt q a).2.2.1.toNat<a then val q f X (nodeAt q a).2.1.toNat||val q f X (nodeAt q a).2.2.1.toNat else true)
 else zq (nodeAt q a) f X
termination_by a
decreasing_by all_goals omega
theorem adM(q:List ax)(f:bD)(X:BX)(a:Nat):val q f X a=
 if(nodeAt q a).1=5 then(if h:(nodeAt q a).2.1.toNat<a then !val q f X (nodeAt q a).2.1.toNat else true)
 else if(nodeAt q a).1=6 then(if h:(nodeAt q a).2.1.toNat<a/\(nodeAt q a).2.2.1.toNat<a then val q f X (nodeAt q a).2.1.toNat&&val q f X (nodeAt q a).2.2.1.toNat else true)
 else if(nodeAt q a).1=7 then(if h:(nodeAt q a).2.1.toNat<a/\(nodeAt q a).2.2.1.toNat<a then val q f X (nodeAt q a).2.1.toNat||val q f X (nodeAt q a).2.2.1.toNat else true)
 else zq (nodeAt q a) f X:=by rw[val]
def FK(q:List ax)(f:bD)(X:BX):Bool:=aC q&&val q f X (q.length-1)
def sel(fs:List bD)(q:List ax)(X:BX):List (Int×Unit):=(fs.filter λf=>FK q f X).map λf=>(f.1,())
def uS(q:List ax)(i:Nat):Bool:=((negated q).getD i (false,())).1
theorem lF{q:List ax}(h:aC q=true){i:Nat}(hi:i<q.length):dI (nodeAt q i) i=true/\((i:Int)<(q.length:Int)-1->jF q i=1):=by
 unfold aC at h;rw[aj0]at h;have h1:jE q i=true:=by have:=h.1;unfold qE at this;exact akk.1 this i (alh.2 hi)
 unfold jE at h1;rw[aj0]at h1;refine⟨h1.1,λhl=>?_⟩;have h2:=h1.2;rw[aku hl]at h2;simpa using h2
theorem ji{q:List ax}(h:aC q=true):1<=q.length/\q.length<=9:=by unfold aC at h;simp only[aj0,akf]at h;omega
theorem QG{n:ax}{a:Nat}(h:dI n a=true)(hn:n.1=5\/n.1=6\/n.1=7):0<=n.2.1/\n.2.1.toNat<a:=by unfold dI at h;rcases hn with e|e|e<;>simp[e]at h<;>omega
theorem acs{n:ax}{a:Nat}(h:dI n a=true)(hn:n.1=6\/n.1=7):0<=n.2.2.1/\n.2.2.1.toNat<a:=by unfold dI at h;rcases hn with e|e<;>simp[e]at h<;>omega
theorem abg{α:Type}(g:α->Nat):∀(l:List α),(l.map g).sum=1->∀i j,i<l.length->j<l.length->i≠j->∀d,1<=g (l.getD i d)->g (l.getD j d)=0
 |[],_,i,_,hi,_,_,_,_=>by simp at hi
 |x::r,h,i,j,hi,hj,hne,d,hg=>by
  rw[ako,amP]at h;have mem:∀(l:List α) k,k<l.length->g (l.getD k d)<=(l.map g).sum:=by
   intro l
   induction l with
   |nil=>intro k hk;simp at hk
   |cons y t ih=>
    intro k hk;rw[ako,amP];cases k with
    |zero=>exact Nat.le_add_right _ _
    |succ k=>exact akb (ih k (by simpa using hk)) (Nat.le_add_left _ _)
  cases i with
  |zero=>
   cases j with
   |zero=>exact(hne rfl).elim
   |succ j=>
    have h1:1<=g x:=hg;have:=mem r j (by simpa using hj);show g (r.getD j d)=0;omega
  |succ i=>
   have h1:1<=g (r.getD i d):=hg;have h2:=mem r i (by simpa using hi);cases j with
   |zero=>show g x=0;omega
   |succ j=>exact abg g r (by omega) i j (by simpa using hi) (by simpa using hj) (by omega) d hg
theorem AQ{q:List ax}{p:Nat}:∀(n:Nat)(out:List (Bool×Unit)),(∀i,i<n->((nodeAt q i).1=5\/iV (nodeAt q i)=true->(nodeAt q i).2.1.toNat≠p)/\(iV (nodeAt q i)=true->(nodeAt q i).2.2.1.toNat≠p))->
 (qF q n out).getD p (false,())=out.getD p (false,())
 |0,_,_=>rfl
 |n+1,out,h=>by
  have ih:=AQ n (pG q n out) λi hi=>h i (by omega);show(qF q n (pG q n out)).getD p (false,())=_;rw[ih];have hs:∀(l:List (Bool×Unit)) k x,k≠p->(l.set k x).getD p (false,())=l.getD p (false,()):=λl k x hk=>by rw[aj9,akZ hk,← aj9]
  obtain⟨h1,h2⟩:=h n (by omega);unfold pG;dsimp only;cases e5:((nodeAt q n).1==5)with
  |true=>exact hs _ _ _ (h1 (.inl (akq.1 e5)))
  |false=>
   cases e2:iV (nodeAt q n)with
   |true=>exact(hs _ _ _ (h2 e2)).trans (hs _ _ _ (h1 (.inr e2)))
   |false=>rfl
theorem QI(q:List ax):∀(n:Nat)(out:List (Bool×Unit)),(qF q n out).length=out.length
 |0,_=>rfl
 |n+1,out=>by show(qF q n (pG q n out)).length=_;rw[QI q n];unfold pG;dsimp only;cases (nodeAt q n).1==5<;>cases iV (nodeAt q n)<;>simp
theorem Df{n:ax}:iV n=true↔n.1=6\/n.1=7:=by unfold iV;simp
theorem LV(q:List ax):∀(k m:Nat)(out:List (Bool×Unit)),∃mid:List (Bool×Unit),mid.length=out.length/\qF q (m+k) out=qF q m mid
 |0,_,out=>⟨out,rfl,rfl⟩
 |k+1,m,out=>by
  obtain⟨mid,h1,h2⟩:=LV q k m (pG q (m+k) out);have hl:(pG q (m+k) out).length=out.length:=by unfold pG;dsimp only;cases (nodeAt q (m+k)).1==5<;>cases iV (nodeAt q (m+k))<;>simp
  exact⟨mid,h1.trans hl,h2⟩
theorem OM{q:List ax}(h:aC q=true){i:Nat}(hi:i<q.length):((nodeAt q i).1=5\/iV (nodeAt q i)=true->0<=(nodeAt q i).2.1/\(nodeAt q i).2.1.toNat<i)/\(iV (nodeAt q i)=true->0<=(nodeAt q i).2.2.1/\(nodeAt q i).2.2.1.toNat<i):=by
 have h1:=(lF h hi).1;refine⟨λh2=>?_,λh2=>acs h1 (Df.1 h2)⟩;rcases h2 with h2|h2
 .exact QG h1 (.inl h2)
 .exact QG h1 (.inr (Df.1 h2))
theorem acu{q:List ax}(h:aC q=true){i j p:Nat}(hi:i<q.length)(hj:j<q.length)(hne:i≠j)(hp:p<i)(hr:1<=refsOf p (nodeAt q i)):refsOf p (nodeAt q j)=0:=
 abg (refsOf p) q ((lF h (by omega)).2 (by omega)) i j hi hj hne _ hr
theorem aaD{p:Nat}{n:ax}(h:refsOf p n=0)(h0:((n.1=5\/iV n=true)->0<=n.2.1)/\(iV n=true->0<=n.2.2.1)):(n.1=5\/iV n=true->n.2.1.toNat≠p)/\(iV n=true->n.2.2.1.toNat≠p):=by
 unfold refsOf at h;refine⟨λh1 h2=>?_,λh1 h2=>?_⟩
 .have h3:=h0.1 h1;have h4:((iV n||n.1==5)&&n.2.1==(p:Int))=true:=by
   have:(iV n||n.1==5)=true:=by rcases h1 with h1|h1<;>simp[h1]
   rw[this];simp;omega
  rw[h4]at h;simp at h
 .have h3:=h0.2 h1;have h4:(iV n&&n.2.2.1==(p:Int))=true:=by rw[h1];simp;omega
  rw[h4]at h;simp at h
theorem QJ{p:Nat}{n:ax}(h:n.1=5\/iV n=true)(h0:0<=n.2.1)(e:n.2.1.toNat=p):1<=refsOf p n:=by
 unfold refsOf;have h4:((iV n||n.1==5)&&n.2.1==(p:Int))=true:=by
  have:(iV n||n.1==5)=true:=by rcases h with h1|h1<;>simp[h1]
  rw[this];simp;omega
 rw[h4];simp
theorem ZK{p:Nat}{n:ax}(h:iV n=true)(h0:0<=n.2.2.1)(e:n.2.2.1.toNat=p):1<=refsOf p n:=by
 unfold refsOf;have h4:(iV n&&n.2.2.1==(p:Int))=true:=by rw[h];simp;omega
 rw[h4];simp
theorem KT{l:List (Bool×Unit)}{k p:Nat}{x:Bool×Unit}(hk:k<l.length):(l.set k x).getD p (false,())=if k=p then x else l.getD p (false,()):=by
 rw[aj9,List.getElem?_set];by_cases h:k=p
 .subst h;simp[hk]
 .simp[h]
theorem acv{q:List ax}(h:aC q=true){i:Nat}(hi:i<q.length):
 ((nodeAt q i).1=5->uS q (nodeAt q i).2.1.toNat=true)/\(iV (nodeAt q i)=true->uS q (nodeAt q i).2.1.toNat=uS q i/\uS q (nodeAt q i).2.2.1.toNat=uS q i):=by
 have hn:negated q=qF q q.length (List.replicate q.length (false,())):=by unfold negated;rw[h];rfl
 obtain⟨mid,hm1,hm2⟩:=LV q (q.length-(i+1)) (i+1) (List.replicate q.length (false,()));rw[show i+1+(q.length-(i+1))=q.length by omega,← hn]at hm2;have hml:mid.length=q.length:=by rw[hm1];simp
 have hm3:negated q=qF q i (pG q i mid):=hm2;obtain⟨k1,k2⟩:=OM h hi;have keep:∀p,p<i->1<=refsOf p (nodeAt q i)->uS q p=((pG q i mid).getD p (false,())).1:=λp hp hr=>by
  unfold uS;rw[hm3,AQ i];intro j hj;have hjl:j<q.length:=by omega
  obtain⟨g1,g2⟩:=OM h hjl;exact aaD (acu h hi hjl (by omega) hp hr) ⟨λz=>(g1 z).1,λz=>(g2 z).1⟩
 have self:uS q i=(mid.getD i (false,())).1:=by unfold uS;rw[hm2,AQ (i+1)];intro j hj;obtain⟨g1,g2⟩:=OM h (show j<q.length by omega);exact⟨λz=>by have:=(g1 z).2;omega,λz=>by have:=(g2 z).2;omega⟩
 refine⟨λh5=>?_,λh2=>?_⟩
 .obtain⟨a,b⟩:=k1 (.inl h5);rw[keep _ b (QJ (.inl h5) a rfl)];unfold pG;dsimp only;rw[akq.2 h5];show((mid.set _ (true,())).getD _ (false,())).1=true;rw[KT (by omega),if_pos rfl]
 .obtain⟨a,b⟩:=k1 (.inr h2);obtain⟨a',b'⟩:=k2 h2;have h5:((nodeAt q i).1==5)=false:=by rcases Df.1 h2 with e|e<;>rw[e]<;>rfl
  rw[keep _ b (QJ (.inr h2) a rfl),keep _ b' (ZK h2 a' rfl),self];unfold pG;dsimp only;rw[h5,h2];show(((mid.set _ ((mid.getD i (false,())).1,())).set _ ((mid.getD i (false,())).1,())).getD _ (false,())).1=_/\(((mid.set _ ((mid.getD i (false,())).1,())).set _ ((mid.getD i (false,())).1,())).getD _ (false,())).1=_;rw[KT (by rw[alP];omega),KT (by omega),KT (by rw[alP];omega),if_pos rfl,if_pos rfl];exact⟨by split<;>rfl,rfl⟩
theorem acw{q:List ax}(h:aC q=true):uS q (q.length-1)=false:=by
 have hn:negated q=qF q q.length (List.replicate q.length (false,())):=by unfold negated;rw[h];rfl
 have hl:=ji h;unfold uS;rw[hn,AQ q.length]
 .rw[aj9,amr];split<;>rfl
 .intro j hj;obtain⟨g1,g2⟩:=OM h hj;exact⟨λz=>by have:=(g1 z).2;omega,λz=>by have:=(g2 z).2;omega⟩
theorem ZL{q:List ax}(h:aC q=true){i:Nat}(hi:i<q.length)(hd:OJ (nodeAt q i)=true):(nodeAt q i).2.2.2.1∈yY q (uS q i):=by
 have hl:(negated q).length=q.length:=by unfold negated;rw[h];show(qF _ _ _).length=_;rw[QI];simp
 unfold yY;rw[amm];refine⟨i,alh.2 (by omega),?_⟩;unfold uS;rw[hd];simp
theorem aes{q:List ax}{f:bD}{X Y:BX}(h:aC q=true)(hp:∀s∈yY q false,∀x,X s x=true->Y s x=true)(hn:∀s∈yY q true,∀x,X s x=Y s x):
 ∀a,a<q.length->(uS q a=false->val q f X a=true->val q f Y a=true)/\(uS q a=true->val q f X a=val q f Y a):=by
 intro a
 induction a using Nat.strongRecOn with
 |_ a ih=>
  intro ha;obtain⟨k1,k2⟩:=OM h ha;obtain⟨n1,n2⟩:=acv h ha;rw[adM q f X a,adM q f Y a];by_cases h5:(nodeAt q a).1=5
  .have hk:=k1 (.inl h5);have i1:=(ih _ hk.2 (by omega)).2 (n1 h5);rw[if_pos h5,if_pos h5,dif_pos hk.2,dif_pos hk.2,i1];exact⟨λ_=>id,λ_=>rfl⟩
  rw[if_neg h5,if_neg h5];by_cases h6:(nodeAt q a).1=6
  .have h2:iV (nodeAt q a)=true:=Df.2 (.inl h6);have hk:=k1 (.inr h2);have hk':=k2 h2;have i1:=ih _ hk.2 (by omega);have i2:=ih _ hk'.2 (by omega);rw[(n2 h2).1]at i1;rw[(n2 h2).2]at i2;rw[if_pos h6,if_pos h6,dif_pos ⟨hk.2,hk'.2⟩,dif_pos ⟨hk.2,hk'.2⟩];refine⟨λhf hv=>?_,λht=>by rw[i1.2 ht,i2.2 ht]⟩;rw[aj0]at hv ⊢;exact⟨i1.1 hf hv.1,i2.1 hf hv.2⟩
  rw[if_neg h6,if_neg h6];by_cases h7:(nodeAt q a).1=7
  .have h2:iV (nodeAt q a)=true:=Df.2 (.inr h7);have hk:=k1 (.inr h2);have hk':=k2 h2;have i1:=ih _ hk.2 (by omega);have i2:=ih _ hk'.2 (by omega);rw[(n2 h2).1]at i1;rw[(n2 h2).2]at i2;rw[if_pos h7,if_pos h7,dif_pos ⟨hk.2,hk'.2⟩,dif_pos ⟨hk.2,hk'.2⟩];refine⟨λhf hv=>?_,λht=>by rw[i1.2 ht,i2.2 ht]⟩;rw[ald]at hv ⊢;exact hv.imp (i1.1 hf) (i2.1 hf)
  rw[if_neg h7,if_neg h7];by_cases h8:(nodeAt q a).1=8
  .have hm:=ZL h ha (by unfold OJ;simp[h8]);unfold zq;simp only[h8];refine⟨λhf hv=>?_,λht=>?_⟩
   .rw[hf]at hm;exact hp _ hm _ hv
   .rw[ht]at hm;exact hn _ hm _
  by_cases h9:(nodeAt q a).1=9
  .have hm:=ZL h ha (by unfold OJ;simp[h9]);unfold zq;simp only[h9];refine⟨λhf hv=>?_,λht=>?_⟩
   .rw[hf]at hm;have hv:(!((f.2.2.2.1==0))&&X (nodeAt q a).2.2.2.1 f.2.2.2.1)=true:=hv;rw[aj0]at hv;show(!((f.2.2.2.1==0))&&Y (nodeAt q a).2.2.2.1 f.2.2.2.1)=true;rw[aj0];exact⟨hv.1,hp _ hm _ hv.2⟩
   .rw[ht]at hm;show(!((f.2.2.2.1==0))&&X (nodeAt q a).2.2.2.1 f.2.2.2.1)=(!((f.2.2.2.1==0))&&Y (nodeAt q a).2.2.2.1 f.2.2.2.1);rw[hn _ hm]
  .have:zq (nodeAt q a) f X=zq (nodeAt q a) f Y:=by unfold zq;rw[aj2.2 h8,aj2.2 h9];rfl
   rw[this];exact⟨λ_=>id,λ_=>rfl⟩
theorem ZM{q:List ax}{f:bD}{X Y:BX}(hp:∀s∈yY q false,∀x,X s x=true->Y s x=true)(hn:∀s∈yY q true,∀x,X s x=Y s x)(hm:FK q f X=true):FK q f Y=true:=by unfold FK at hm ⊢;rw[aj0]at hm ⊢;have hl:=ji hm.1;exact⟨hm.1,(aes hm.1 hp hn _ (by omega)).1 (acw hm.1) hm.2⟩
theorem abh{fs:List bD}{q:List ax}{X:BX}{x:Int}:(x,())∈sel fs q X↔∃f∈fs,f.1=x/\FK q f X=true:=by
 unfold sel;rw[alW];constructor
 .rintro⟨f,hf,e⟩;rw[amH]at hf;exact⟨f,hf.1,congrArg Prod.fst e,hf.2⟩
 .rintro⟨f,hf,rfl,hm⟩;exact⟨f,amH.2 ⟨hf,hm⟩,rfl⟩
def acy(fs:List bD)(d:List dL):Sys Bytes Int where
 T:=λs X x=>∃i,i<d.length/\(nU d i).1=s/\(x,())∈sel fs (nU d i).2.1 X
 pos:=λs t=>∃i,i<d.length/\(nU d i).1=s/\t∈yY (nU d i).2.1 false
 neg:=λs t=>∃i,i<d.length/\(nU d i).1=s/\t∈yY (nU d i).2.1 true
 mono:=λs X Y hp hn x⟨i,hi,e,hx⟩=>⟨i,hi,e,by obtain⟨f,hf,e2,hm⟩:=abh.1 hx;exact abh.2 ⟨f,hf,e2,ZM (λt ht=>hp t ⟨i,hi,e,ht⟩) (λt ht=>hn t ⟨i,hi,e,ht⟩) hm⟩⟩
end Sp
namespace Go.Fw
open Go
theorem adN{n m:Nat}{left:Int}(h:0<=Sp.lY n left):Sp.lY m (Sp.lY n left)=Sp.lY (n+m) left:=by
 unfold Sp.lY at h ⊢;split at h
 .omega
 .next h1=>rw[if_neg h1];by_cases h2:left-↑n-↑m<0
           .rw[if_pos h2,if_pos (by omega)]
           .rw[if_neg h2,if_neg (by omega)];omega
theorem U1{n m:Nat}{left:Int}(h:Sp.lY n left<0):Sp.lY (n+m) left=-1:=by
 unfold Sp.lY at h ⊢;split at h
 .rw[if_pos (by omega)]
 .omega
theorem adO{n:Nat}{left:Int}(h:0<=left):Sp.lY n left<=left:=by unfold Sp.lY;split<;>omega
theorem adP{n:Nat}{left:Int}(h:¬left-(n:Int)<0):Sp.lY n left=left-n:=by unfold Sp.lY;rw[if_neg h]
def uT{α:Type}(f:α->Nat):List α->Nat
 |[]=>0
 |x::r=>f x+uT f r
theorem KU{α:Type}(f:α->Nat):∀a:List α,Sp.Pq f a=a.length+uT f a
 |[]=>rfl
 |x::r=>by simp only[Sp.Pq,uT,KU f r,aj6];omega
theorem Xk{α:Type}(f:α->Nat)(d:α):∀(a:List α)(n:Nat),n<a.length->uT f (a.take (n+1))=uT f (a.take n)+f (a.getD n d)
 |[],n,h=>by simp at h
 |x::r,0,_=>by simp[uT]
 |x::r,n+1,h=>by have:=Xk f d r n (by simpa using h);simp only[alf,uT,List.getD_cons_succ]at this ⊢;omega
theorem abj{α:Type}(f:α->Nat):∀(a:List α)(n:Nat),uT f (a.take n)<=uT f a
 |[],n=>by simp
 |x::r,0=>by simp[uT]
 |x::r,n+1=>by simp only[alf,uT];have:=abj f r n;omega
theorem ajx{α β:Type}(f:α->Nat)(d:α)(a:List α)(left:Int)(t:β)(hlen:a.length<=9223372036854775807)(h0:0<=left)(h1:left<=1048576){K:Int×Unit->Prop}(hK:K (Sp.lY (Sp.Pq f a) left,())):
 bif decide (IntKind.i64.wrap (left-(a.length:Int))<(0:Int))then K ((-1:Int),())
 else∃(I:(Int×Int×Unit)×Unit->Prop),∃(μ:(Int×Int×Unit)×Unit->Nat),I ((IntKind.i64.wrap (left-(a.length:Int)),(0:Int),()),())/\∀(y:(Int×Int×Unit)×Unit),I y->
  bif decide (y.fst.snd.fst<(a.length:Int))then
   ((0:Int)<=y.fst.snd.fst/\y.fst.snd.fst<(a.length:Int))/\((0:Int)<=y.fst.fst/\y.fst.fst<=(1048576:Int))/\
     (bif decide (Sp.lY (f (a.getD (Int.toNat y.fst.snd.fst) d)) y.fst.fst<(0:Int))then K ((-1:Int),())
     else t=t/\I ((Sp.lY (f (a.getD (Int.toNat y.fst.snd.fst) d)) y.fst.fst,IntKind.i64.wrap (y.fst.snd.fst+(1:Int)),()),())/\
      μ ((Sp.lY (f (a.getD (Int.toNat y.fst.snd.fst) d)) y.fst.fst,IntKind.i64.wrap (y.fst.snd.fst+(1:Int)),()),())<μ y)
  else K (y.fst.fst,()):=by
 rw[gq _ (by omega)];refine af (λh=>?_) λh=>?_<;>simp only[akf,akA]at h
 .rw[KU,U1 (by unfold Sp.lY;rw[if_pos h];omega)]at hK;exact hK
 .refine⟨λy=>∃n:Nat,y.1.2.1=n/\n<=a.length/\0<=y.1.1/\y.1.1=Sp.lY (a.length+uT f (a.take n)) left,λy=>((a.length:Int)-y.1.2.1).toNat,⟨0,rfl,by omega,by show 0<=left-(a.length:Int);omega,?_⟩,?_⟩
  .rw[alS,uT,alm,adP h]
  rintro⟨⟨l,_,⟨⟩⟩,⟨⟩⟩ ⟨n,rfl,hn,hl,hJ⟩;dsimp only at hl hJ ⊢;have hle:l<=left:=by rw[hJ];exact adO h0
  refine af (λh=>?_) λh=>?_<;>simp only[akf,akA]at h
  .have hlt:n<a.length:=by omega
   have hstep:0<=Sp.lY (a.length+uT f (a.take n)) left:=by rw[← hJ];exact hl
   have key:Sp.lY (f (a.getD n d)) l=Sp.lY (a.length+uT f (a.take (n+1))) left:=by rw[hJ,adN hstep,Xk f d a n hlt,amM]
   rw[akG,gq _ (by omega)];refine⟨⟨by omega,by omega⟩,⟨hl,by omega⟩,af (λh2=>?_) λh2=>?_⟩<;>simp only[akf,akA]at h2
   .rw[key]at h2;have hw:=abj f a (n+1);have:Sp.lY (Sp.Pq f a) left=-1:=by rw[KU,show a.length+uT f a=(a.length+uT f (a.take (n+1)))+(uT f a-uT f (a.take (n+1))) by omega];exact U1 h2
    rw[this]at hK;exact hK
   .exact⟨rfl,⟨n+1,by simp,by omega,by omega,key⟩,by omega⟩
  .have hge:n=a.length:=by omega
   subst hge;rw[alX,← KU]at hJ;rw[hJ];exact hK
theorem ads{α β:Type}(e:α->α->Bool)(he:∀x y,e x y=true↔x=y)(d:α)(a b:List α)(t:β)(hlen:a.length<=9223372036854775807){K:Bool×Unit->Prop}(hK:∀z:Bool,(z=true↔a=b)->K (z,())):
 bif (a.length:Int) !=(b.length:Int)then K (false,())
 else∃(I:(Int×Unit)×Unit->Prop),∃(μ:(Int×Unit)×Unit->Nat),I (((0:Int),()),())/\∀(y:(Int×Unit)×Unit),I y->
  bif decide (y.fst.fst<(a.length:Int))then
   ((0:Int)<=y.fst.fst/\y.fst.fst<(a.length:Int))/\((0:Int)<=y.fst.fst/\y.fst.fst<(b.length:Int))/\True/\
     (bif !e (a.getD (Int.toNat y.fst.fst) d) (b.getD (Int.toNat y.fst.fst) d)then K (false,())
     else t=t/\I ((IntKind.i64.wrap (y.fst.fst+(1:Int)),()),())/\μ ((IntKind.i64.wrap (y.fst.fst+(1:Int)),()),())<μ y)
  else K (true,()):=by
 refine af (λh=>?_) λh=>?_
 .refine hK false ⟨λh=>(by cases h),λh2=>?_⟩;subst h2;simp at h
 .have hl:a.length=b.length:=by simp at h;omega
  refine⟨λy=>∃n:Nat,y.1.1=n/\n<=a.length/\a.take n=b.take n,λy=>((a.length:Int)-y.1.1).toNat,⟨0,rfl,by omega,by simp⟩,?_⟩;rintro⟨⟨_,⟨⟩⟩,⟨⟩⟩ ⟨n,rfl,hn,hJ⟩;dsimp only;refine af (λh=>?_) λh=>?_<;>simp only[akf,akA]at h
  .have hlt:n<a.length:=by omega
   have hlt2:n<b.length:=by omega
   rw[gq _ (by omega),akG];refine⟨⟨by omega,by omega⟩,⟨by omega,by omega⟩,trivial,af (λhc=>?_) λhc=>?_⟩
   .refine hK false ⟨λh=>(by cases h),λh2=>?_⟩;subst h2;have:=(he (a.getD n d) (a.getD n d)).2 rfl;rw[this]at hc;cases hc
   .refine⟨rfl,⟨n+1,by simp,by omega,?_⟩,by omega⟩;have hx:=(he (a.getD n d) (b.getD n d)).1 (by simpa using hc);rw[aj9,akd hlt,alV,aj9,akd hlt2,alV]at hx;rw[alA hlt,alA hlt2,hJ,hx]
  .refine hK true ⟨λ_=>?_,λ_=>rfl⟩;rw[show n=a.length by omega,alX,hl,alX]at hJ;exact hJ
end Go.Fw
namespace Go.Fw
open Go
theorem uJ{p:Prop}[Decidable p]{A B:Prop}(h:p)(a:A):cond (decide p) A B:=by rw[aku h];exact a
theorem uK{p:Prop}[Decidable p]{A B:Prop}(h:¬p)(b:B):cond (decide p) A B:=by rw[aky h];exact b
theorem Ep{B:((Int×Unit)×Unit->Prop)->((Int×Unit)×Unit->Nat)->(Int×Unit)×Unit->Prop}(len:Nat)(hlen:len<=9223372036854775807)(J:Nat->Prop)(h0:J 0)
 (hstep:∀I μ(n:Nat),n<len->J n->(J (n+1)->I ((IntKind.i64.wrap ((n:Int)+1),()),())/\μ ((IntKind.i64.wrap ((n:Int)+1),()),())<μ (((n:Int),()),()))->B I μ (((n:Int),()),()))
 (hend:∀I μ,J len->B I μ (((len:Int),()),())):∃I,∃μ,I (((0:Int),()),())/\∀y,I y->B I μ y:=by
 refine⟨λy=>∃n:Nat,y.1.1=n/\n<=len/\J n,λy=>((len:Int)-y.1.1).toNat,⟨0,rfl,ake _,h0⟩,?_⟩;rintro⟨⟨_,⟨⟩⟩,⟨⟩⟩ ⟨n,rfl,hn,hJ⟩;rcases aks n len with h|h
 .refine hstep _ _ n h hJ λhJ'=>?_;have e:IntKind.i64.wrap ((n:Int)+1)=((n+1:Nat):Int):=gq _ (by omega);rw[e];exact⟨⟨n+1,rfl,h,hJ'⟩,by show((len:Int)-(n+1:Nat)).toNat<((len:Int)-n).toNat;omega⟩
 .have:n=len:=by omega
  subst this;exact hend _ _ hJ
theorem uI{Y S:Type}(mk:Int->S->Y)(idx:Y->Int)(hidx:∀i s,idx (mk i s)=i){B:(Y->Prop)->(Y->Nat)->Y->Prop}(len:Nat)(hlen:len<=9223372036854775807)(J:Nat->S->Prop){s0:S}(h0:J 0 s0)
 (hstep:∀I μ(n:Nat)(s:S),n<len->J n s->(∀s',J (n+1) s'->I (mk (IntKind.i64.wrap ((n:Int)+1)) s')/\μ (mk (IntKind.i64.wrap ((n:Int)+1)) s')<μ (mk n s))->B I μ (mk n s))
 (hend:∀I μ s,J len s->B I μ (mk len s)):∃I,∃μ,I (mk 0 s0)/\∀y,I y->B I μ y:=by
 refine⟨λy=>∃(n:Nat)(s:S),y=mk n s/\n<=len/\J n s,λy=>((len:Int)-idx y).toNat,⟨0,s0,rfl,ake _,h0⟩,?_⟩;rintro _ ⟨n,s,rfl,hn,hJ⟩;rcases aks n len with h|h
 .refine hstep _ _ n s h hJ λs' hJ'=>?_;have e:IntKind.i64.wrap ((n:Int)+1)=((n+1:Nat):Int):=gq _ (by omega);rw[e];refine⟨⟨n+1,s',rfl,h,hJ'⟩,?_⟩;show((len:Int)-idx (mk (n+1:Nat) s')).toNat<((len:Int)-idx (mk n s)).toNat;rw[hidx,hidx];omega
 .have:n=len:=by omega
  subst this;exact hend _ _ s hJ
theorem XI{len:Nat}{f:Nat->Bool}{n:Nat}(hn:n<len)(h:f n=false):Sp.qE len f=false:=by unfold Sp.qE;rw[amR];exact⟨n,alh.2 hn,by rw[h];simp⟩
theorem Oa{len:Nat}{f:Nat->Bool}(h:∀i,i<len->f i=true):Sp.qE len f=true:=by unfold Sp.qE;rw[akk];exactλi hi=>h i (alh.1 hi)
theorem aaE{len:Nat}{f:Nat->Bool}:Sp.qE len f=true↔∀i,i<len->f i=true:=by unfold Sp.qE;rw[akk];exact⟨λh i hi=>h i (alh.2 hi),λh i hi=>h i (alh.1 hi)⟩
theorem yU{n:Nat}{f:Nat->Bool}(h:∀i,i<n->f i=true)(hn:f n=true):∀i,i<n+1->f i=true:=λi hi=>by
 rcases aks i n with h'|h'
 .exact h i h'
 .have:i=n:=by omega
  rw[this];exact hn
theorem mM{b:Bool}(h:(!b)=true):b=false:=by cases b<;>first|rfl|cases h
theorem jw{b:Bool}(h:(!b)=false):b=true:=by cases b<;>first|rfl|cases h
theorem je{p:Prop}[Decidable p](h:decide p=true):p:=ak4 h
theorem jT{p:Prop}[Decidable p](h:decide p=false):¬p:=aml h
theorem aa7{n:Nat}(h:0<n)(hn:n<=9223372036854775807):IntKind.i64.wrap ((n:Int)-1)=((n-1:Nat):Int):=by rw[gq _ (by omega)];omega
theorem ZN{α:Type}{d:α}{a b:List α}(hl:a.length=b.length)(h:∀i,i<a.length->a.getD i d=b.getD i d):a=b:=by refine amU hl λi h1 h2=>?_;have:=h i h1;rw[aj9,aj9,akd h1,akd h2]at this;simpa using this
theorem V3{α β:Type}(e:α->α->Bool)(he:∀x y,e x y=false↔x=y)(d:α)(a b:List α)(t:β)(hlen:a.length<=9223372036854775807)(hl:a.length=b.length){K:Bool×Unit->Prop}(hF:a≠b->K (false,()))(hT:a=b->K (true,())):
 ∃(I:(Int×Unit)×Unit->Prop),∃(μ:(Int×Unit)×Unit->Nat),I (((0:Int),()),())/\∀(y:(Int×Unit)×Unit),I y->
  bif decide (y.fst.fst<(a.length:Int))then
   ((0:Int)<=y.fst.fst/\y.fst.fst<(a.length:Int))/\((0:Int)<=y.fst.fst/\y.fst.fst<(b.length:Int))/\
     (bif e (a.getD (Int.toNat y.fst.fst) d) (b.getD (Int.toNat y.fst.fst) d)then K (false,())
     else t=t/\I ((IntKind.i64.wrap (y.fst.fst+(1:Int)),()),())/\μ ((IntKind.i64.wrap (y.fst.fst+(1:Int)),()),())<μ y)
  else K (true,()):=by
 refine Ep a.length hlen (λn=>∀i,i<n->a.getD i d=b.getD i d) (λi hi=>by omega) (λI μ n hn hJ next=>?_) λI μ hJ=>(by dsimp only;exact uK (by omega) (hT (ZN hl hJ)));dsimp only;refine uJ (by omega) ⟨⟨by omega,by omega⟩,⟨by omega,by omega⟩,af (λh=>hF λh'=>?_) λh=>⟨rfl,next λi hi=>?_⟩⟩
 .subst h';have:=(he (a.getD n d) (a.getD n d)).2 rfl;have h:e (a.getD n d) (a.getD n d)=true:=h;rw[this]at h;cases h
 .rcases aks i n with h'|h'
  .exact hJ i h'
  .have:i=n:=by omega
   rw[this];exact(he _ _).1 h
end Go.Fw
namespace Sp
open Go Go.Fw
theorem aaw{s:tq}:vM s=true↔(∀i,i<s.2.1.length->ZF s i=true)/\E8 s.1=true/\s.2.1.length<=12/\1<=s.2.2.1/\s.2.2.1<=61:=by
 unfold vM;rw[aj0,aj0,aj0,aj0,akf,akf,akf,aaE];constructor
 .rintro⟨⟨⟨h1,h2⟩,h3⟩,h4,h5⟩;exact⟨h1,h2,by omega,h4,h5⟩
 .rintro⟨h1,h2,h3,h4,h5⟩;exact⟨⟨⟨h1,h2⟩,by omega⟩,h4,h5⟩
theorem Fa(s:tq)(f:bD):(xC s f=(s,0,false)/\¬(vM s=true/\s.2.1.length<12/\CV s.1 (s.2.2.1,f.2)=true))\/
 (vM s=true/\s.2.1.length<12/\CV s.1 (s.2.2.1,f.2)=true/\xC s f=((s.1,s.2.1++[(s.2.2.1,f.2)],s.2.2.1+1,()),s.2.2.1,true)):=by
 by_cases h:vM s=true/\s.2.1.length<12/\CV s.1 (s.2.2.1,f.2)=true
 .right;refine⟨h.1,h.2.1,h.2.2,?_⟩;unfold xC;dsimp only;rw[h.1,h.2.2,aku (by omega)];rfl
 .left;refine⟨?_,h⟩;have:(vM s&&decide ((s.2.1.length:Int)<12)&&CV s.1 (s.2.2.1,f.2))=false:=by
   cases hb:(vM s&&decide ((s.2.1.length:Int)<12)&&CV s.1 (s.2.2.1,f.2))with
   |false=>rfl
   |true=>simp only[aj0,akf]at hb;exact(h ⟨hb.1.1,by omega,hb.2⟩).elim
  unfold xC;dsimp only;rw[this];rfl
end Sp
namespace Sp
open Go Go.Fw
end Sp
namespace Sp
open Go
def nameOf(d:List dL)(i:Nat):Bytes:=(nU d i).1
def Et(d:List dL)(i:Nat):List ax:=(nU d i).2.1
def ae6(r:List tN)(i:Nat):tN:=r.getD i ([],[],())
def KW(r:List tN)(i:Nat):List (Int×Unit):=(ae6 r i).2.1
def ahy(d:List dL)(gu:List (Int×Unit)):Prop:=
 gu.length=d.length/\(∀i,i<d.length->0<=lv gu i/\lv gu i<=d.length)/\(Ju (xH d) λi=>(lv gu i).toNat)/\∀M,Ju (xH d) M->∀i,i<d.length->lv gu i<=M i
def aeu(d:List dL)(gu:List (Int×Unit))(s:Bytes):Nat:=(lv gu (nZ d s).toNat).toNat
def due(d:List dL)(nm:Bytes->Bool)(s:Bytes):Prop:=nm s=true/\∃i,i<d.length/\nameOf d i=s
def Xl(d:List dL)(out:List tN):Prop:=out.length=d.length/\∀i,i<d.length->(ae6 out i).1=nameOf d i
structure ahz(fs:List bD)(d:List dL)(r:List tN)(nm:Bytes->Bool)(out:List tN):Prop where
 order:Xl d out
 kept:∀i,i<d.length->nm (nameOf d i)=false->KW out i=U0 r (nameOf d i)
 fix:∀i,i<d.length->nm (nameOf d i)=true->KW out i=sel fs (Et d i) (Pv out)
 gu:∃gu,ahy d gu/\Eval (acy fs d) (due d nm) (aeu d gu) (Pv out)
def Px{ι α:Type}(S:Sys ι α)(N:ι->Prop)(gu:ι->Nat)(k:Nat)(X:Ext ι α):Prop:=
 ∀Y:Ext ι α,(∀i,¬(N i/\gu i=k)->∀x,Y i x=X i x)->(∀i,N i->gu i=k->∀x,S.T i Y x->Y i x=true)->∀i,N i->gu i=k->∀x,X i x=true->Y i x=true
open Classical in
theorem afJ{ι α:Type}{S:Sys ι α}{N:ι->Prop}{gu:ι->Nat}(hs:ahx S N gu){m:Nat}{X X':Ext ι α}(h:∀i,¬(N i/\m<gu i)->∀x,X i x=X' i x)(hX:Px S N gu m X):Px S N gu m X':=by
 intro Y hY hp i hi hl x hx;have key:=hX (λi x=>if N i/\m<gu i then X i x else Y i x) (λj hj y=>?_) (λj hj hlj y hy=>?_) i hi hl x (by rw[h i (by omega)];exact hx)
 .rw[if_neg (by omega)]at key;exact key
 .by_cases hc:N j/\m<gu j
  .rw[if_pos hc]
  .rw[if_neg hc,hY j hj,h j hc]
 .rw[if_neg (by omega)];have same:∀t,(S.pos j t\/S.neg j t)->¬(N t/\m<gu t):=λt ht hc=>by
   rcases ht with ht|ht
   .have:=(hs j t hj hc.1).1 ht;omega
   .have:=(hs j t hj hc.1).2 ht;omega
  refine hp j hj hlj y (S.mono j _ Y (λt ht z hz=>?_) (λt ht z=>?_) y hy)
  .rw[if_neg (same t (.inl ht))]at hz;exact hz
  .rw[if_neg (same t (.inr ht))]
def canon(fs:List bD)(l:List (Int×Unit)):Prop:=l=(fs.filter λf=>acr l f.1).map λf=>(f.1,())
structure aiW(fs:List bD)(d:List dL)(r:List tN)(nm:Bytes->Bool)(gu:List (Int×Unit))(k:Nat)(out:List tN):Prop where
 order:Xl d out
 kept:∀i,i<d.length->nm (nameOf d i)=false->KW out i=U0 r (nameOf d i)
 later:∀i,i<d.length->nm (nameOf d i)=true->(k:Int)<lv gu i->KW out i=[]
 done:∀i,i<d.length->nm (nameOf d i)=true->lv gu i<k->KW out i=sel fs (Et d i) (Pv out)
 ajy:∀m,m<k->Px (acy fs d) (due d nm) (aeu d gu) m (Pv out)
 ajQ:∀i,i<d.length->nm (nameOf d i)=true->lv gu i=k->∀x,acr (KW out i) x=true->(x,())∈sel fs (Et d i) (Pv out)
 least:Px (acy fs d) (due d nm) (aeu d gu) k (Pv out)
 canon:∀i,i<d.length->nm (nameOf d i)=true->canon fs (KW out i)
def room(n:Nat)(out:List tN):Nat:=(out.map λx=>n-x.2.1.length).sum
end Sp
namespace Sp
open Go
abbrev ZO:=List jA×List bD×Int×List dL×List tN×Unit
instance:DecidableEq (List (Int×Unit)):=inferInstance
instance:DecidableEq tN:=inferInstance
instance:DecidableEq (List tN):=inferInstance
instance:DecidableEq (List tN×Unit):=inferInstance
instance:DecidableEq (List dL×List tN×Unit):=inferInstance
instance:DecidableEq (Int×List dL×List tN×Unit):=inferInstance
instance:DecidableEq (List bD×Int×List dL×List tN×Unit):=inferInstance
instance ajR:DecidableEq ZO:=(inferInstance:DecidableEq (List jA×List bD×Int×List dL×List tN×Unit))
def agK(c:ZO):tq:=(c.1,c.2.1,c.2.2.1,())
def ae7(c:ZO):List dL:=c.2.2.2.1
def aiS(c:ZO):List tN:=c.2.2.2.2.1
open Classical in
noncomputable def ajF (c:ZO):Bool:=acp (ae7 c)&&vM (agK c)&&decide (ahz c.2.1 (ae7 c) [] (λ_=>true) (aiS c))
def aev(f g:bD):List Bytes:=((f.2.2.2.2.1++g.2.2.2.2.1).map λa=>a.1).filter λs=>!decide (BK f.2.2.2.2.1 s=BK g.2.2.2.2.1 s)
def afK(q:List ax):List Bytes:=(q.filter λn=>n.1==2||(n.1==3||n.1==4)).map λn=>n.2.2.2.1
def agL(q:List ax):List Bytes:=(q.filter OJ).map λn=>n.2.2.2.1
def linked(q:List ax):Bool:=q.any λn=>n.1==9
inductive Reach(d:List dL)(P:Bytes->Prop):Bytes->Prop where
 |base {s}:P s->Reach d P s
 |step {s i}:Reach d P s->i<d.length->s∈agL (Et d i)->Reach d P (nameOf d i)
def aew(d:List dL)(f g:bD)(s:Bytes):Prop:=
 ∃i,i<d.length/\nameOf d i=s/\(f.1≠g.1\/(∃t,t∈afK (Et d i)/\t∈aev f g)\/(linked (Et d i)=true/\f.2.2.2.1≠g.2.2.2.1))
def Aff(d:List dL)(f g:bD):Bytes->Prop:=Reach d (aew d f g)
open Classical in
noncomputable def ajS (d:List dL) (f g:bD) (s:Bytes):Bool:=decide (Aff d f g s)
end Sp
namespace Sp
open Go
end Sp
namespace Sp
open Go
end Sp
namespace Sp
open Go
def named(f:bD)(w:Bytes):bD:=(f.1,f.2.1,f.2.2.1,f.2.2.2.1,afG f.2.2.2.2.1 [110] 2 0 w,())
end Sp
namespace Sp
open Go
def l7(b:UInt8):Bool:=decide (32<=b.toNat)&&decide (b.toNat<=126)
def mY(s:Bytes):Bool:=s.all λb=>decide (b.toNat<128)
def wordsOf(s:Bytes):LS:=(Lib.fields s).map (·,())
def dN(s:Bytes):Bool:=decide ((s.length:Int)<=600)&&s.all l7&&decide (((Lib.fields s).length:Int)<=24)
def aA(s:Bytes):LS:=bif dN s then wordsOf s else[]
def iq(s:Bytes):Int:=s.foldl (λn b=>10*n+((b.toNat:Int)-48)) 0
def aQ(s:Bytes):Bool:=aP (iq s)&&(Lib.itoa (iq s)==s)
def parseNum(s:Bytes):Int:=bif aQ s then iq s else 0
def wordAt(w:LS)(i:Int):Bytes:=bif decide (i>=(w.length:Int))then[]else(w.getD i.toNat ([],())).1
def eF(w:LS):Bytes:=Lib.join (w.map (·.1)) [32]
def numAt(w:LS)(i:Int):Int:=parseNum (wordAt w i)
def X9(w:LS):Int×Int×Bytes×Int:=
 bif wordAt w 0==[99,111,109,109,105,116]then(1,numAt w 1,[],0)else
 bif wordAt w 0==[99,114,97,115,104]then(2,numAt w 1,[],numAt w 2)else
 bif wordAt w 0==[119,97,116,99,104]then(3,numAt w 1,wordAt w 2,0)else
 bif wordAt w 0==[112,105,110]then(4,0,[],numAt w 1)else
 bif wordAt w 0==[117,110,112,105,110]then(5,0,[],numAt w 1)else
 bif wordAt w 0==[99,111,108,108,101,99,116]then(6,0,[],0)else
 bif wordAt w 0==[97,100,100]then(7,numAt w 1,wordAt w 2,numAt w 3)else
 bif wordAt w 0==[114,101,109,111,118,101]then(8,numAt w 1,wordAt w 2,numAt w 3)else(0,0,[],0)
def afL(x:Int×Int×Bytes×Int):Bytes:=KR x.1 x.2.1 0 x.2.2.1 x.2.2.2
end Sp
namespace Sp
open Go
theorem ZP(u:Nat):Lib.itoa (u:Int)=Lib.decDigits u:=by unfold Lib.itoa;rw[if_neg (by omega)];simp
theorem yZ(s:Bytes)(d:UInt8):iq (s++[d])=10*iq s+((d.toNat:Int)-48):=by simp[iq,List.foldl_append]
theorem byte_of(d:Nat)(h:d<10):(UInt8.ofNat (48+d)).toNat=48+d:=by rw[UInt8.toNat_ofNat'];omega
theorem Jv(s:List UInt8):∀(acc:Nat)(n:Nat),Lib.decFrom acc s=some n->∀d,d<10->Lib.decFrom acc (s++[UInt8.ofNat (48+d)])=some (n*10+d):=by
 intro acc n h d hd
 induction s generalizing acc with
 |nil=>
  simp only[Lib.decFrom,Option.some.injEq]at h;subst h;have:∀d:Fin 10,Lib.digitVal (UInt8.ofNat (48+d.val))=some d.val:=by decide
  have h2:=this ⟨d,hd⟩;simp only[akP,Lib.decFrom];rw[h2]
 |cons a r ih=>
  simp only[ak9,Lib.decFrom]at h ⊢;cases hv:Lib.digitVal a with
  |none=>rw[hv]at h;simp at h
  |some x=>rw[hv]at h;simp only at h ⊢;exact ih _ h
theorem y7:∀(k u:Nat),u<10 ^ (k+1)->iq (Lib.decDigits u)=u/\Lib.decFrom 0 (Lib.decDigits u)=some u/\(∀b∈Lib.decDigits u,48<=b.toNat/\b.toNat<=57)/\Lib.decDigits u≠[]/\(Lib.decDigits u).length<=k+1
 |0,u,h=>by
  have h:u<10:=by simpa using h
  rw[Lib.decDigits_one h];have hb:=byte_of u h;have:=Jv [] 0 0 rfl u h;refine⟨?_,?_,λb hm=>?_,amd _ _,aj8 _⟩
  .have:=yZ [] (UInt8.ofNat (48+u));rw[akP]at this;rw[this,hb];show 10*0+_=_;omega
  .rw[akP,alT,akr]at this;exact this
  .rw[ak2]at hm;subst hm;omega
 |k+1,u,h=>by
  by_cases h1:u<10
  .have:=y7 0 u (by simpa using h1);exact⟨this.1,this.2.1,this.2.2.1,this.2.2.2.1,by omega⟩
  .have hd:u / 10<10 ^ (k+1):=by rw[Nat.pow_succ]at h;omega
   obtain⟨i1,i2,i3,i4,i5⟩:=y7 k (u / 10) hd;have e:Lib.decDigits u=Lib.decDigits (u / 10)++[UInt8.ofNat (48+u%10)]:=by
    conv=>lhs;rw[Lib.decDigits,dif_neg h1]
   have hm:u%10<10:=amo _ (by decide);have hb:=byte_of (u%10) hm;rw[e];refine⟨by rw[yZ,i1,hb];omega,?_,λb hb2=>?_,by simp,by simp;omega⟩
   .rw[Jv _ _ _ i2 _ hm];congr 1;omega
   .rcases akS.1 hb2 with h2|h2
    .exact i3 b h2
    .rw[ak2]at h2;subst h2;omega
theorem uF{n:Int}:aP n=true↔0<=n/\n<=1000000000:=by unfold aP;rw[aj0,akf,akf]
theorem oZ{n:Int}(h:aP n=true):iq (Lib.itoa n)=n/\Lib.atoi (Lib.itoa n)=some n/\(∀b∈Lib.itoa n,48<=b.toNat/\b.toNat<=57)/\Lib.itoa n≠[]/\(Lib.itoa n).length<=10:=by
 obtain⟨h0,h1⟩:=uF.1 h;obtain⟨u,rfl⟩:=Int.eq_ofNat_of_zero_le h0;have hu:u<10 ^ (9+1):=by omega
 rw[ZP];obtain⟨i1,i2,i3,i4,i5⟩:=y7 9 u hu;refine⟨i1,?_,i3,i4,i5⟩;cases hd:Lib.decDigits u with
 |nil=>exact absurd hd i4
 |cons b r=>
  have hb:=i3 b (by rw[hd];simp);rw[hd]at i2;have n45:(b==45)=false:=by rw[aj2];intro e;subst e;revert hb;decide
  have n43:(b==43)=false:=by rw[aj2];intro e;subst e;revert hb;decide
  simp only[Lib.atoi,n45,n43,Lib.decNat,alC,al7,List.isEmpty_cons,i2,akW]
theorem yJ{s:Bytes}:aQ s=true↔aP (iq s)=true/\Lib.itoa (iq s)=s:=by unfold aQ;rw[aj0,akq]
theorem J9{s:Bytes}{n:Int}(h:aP n=true)(e:Lib.itoa n=s):aQ s=true/\parseNum s=n:=by
 have hv:iq s=n:=by rw[← e];exact(oZ h).1
 have:aQ s=true:=yJ.2 ⟨by rw[hv];exact h,by rw[hv];exact e⟩;exact⟨this,by unfold parseNum;rw[this];exact hv⟩
theorem oU{n:Int}(h:aP n=true):aQ (Lib.itoa n)=true/\parseNum (Lib.itoa n)=n:=J9 h rfl
theorem gG{s:Bytes}(h:aQ s=true):Lib.itoa (parseNum s)=s/\aP (parseNum s)=true:=by
 have e:parseNum s=iq s:=by unfold parseNum;rw[h];rfl
 rw[e];exact⟨(yJ.1 h).2,(yJ.1 h).1⟩
theorem yS(s:Bytes):aP (parseNum s)=true:=by
 cases h:aQ s with
 |true=>exact(gG h).2
 |false=>unfold parseNum;rw[h];rfl
theorem yH{s:Bytes}(h:aQ s=false):parseNum s=0:=by unfold parseNum;rw[h];rfl
theorem XM{s:Bytes}(h:aQ s=true):s.length<=10:=by
 have:=(oZ (gG h).2).2.2.2.2
 rwa [(gG h).1]at this
theorem NY{s:Bytes}(h:10<s.length):aQ s=false:=by
 cases hp:aQ s with
 |false=>rfl
 |true=>have:=XM hp;omega
theorem Jw{s:Bytes}(h:aQ s=true):∀b∈s,48<=b.toNat/\b.toNat<=57:=by
 have:=(oZ (gG h).2).2.2.1
 rwa [(gG h).1]at this
end Sp
namespace Sp
open Go
def xI(x:Bytes):Prop:=x≠[]/\∀b∈x,Lib.isSp b=false
theorem Dt:∀(x cur l:Bytes),(∀b∈x,Lib.isSp b=false)->Lib.fieldsGo cur (x++l)=Lib.fieldsGo (cur++x) l
 |[],cur,l,_=>by rw[akz,akP]
 |b::x,cur,l,h=>by rw[ak9,Lib.fieldsGo_more _ _ _ (h b akh),Dt x _ l (λc hc=>h c (akg _ hc)),aki];rfl
theorem LW:∀(r:List Bytes)(x:Bytes),x≠[]->(∀y∈r,xI y)->Lib.fieldsGo x (Lib.joinTail [32] r)=x::r
 |[],x,hx,_=>by
  cases x with
  |nil=>exact absurd rfl hx
  |cons _ _=>simp[Lib.joinTail,Lib.fieldsGo]
 |y::r,x,hx,h=>by
  have hy:=h y akh;have e:Lib.joinTail [32] (y::r)=32::(y++Lib.joinTail [32] r):=by simp[Lib.joinTail]
  rw[e,Lib.fieldsGo_end x 32 _ (by decide) hx,Dt y [] _ hy.2,akP,LW r y hy.1 λz hz=>h z (akg _ hz)]
theorem Ig:∀ws:List Bytes,(∀x∈ws,xI x)->Lib.fields (Lib.join ws [32])=ws
 |[],_=>rfl
 |x::r,h=>by have hx:=h x akh;unfold Lib.fields;rw[Lib.join_cons,Dt x [] _ hx.2,akP,LW r x hx.1 λz hz=>h z (akg _ hz)]
theorem xJ:∀(l cur:Bytes),(∀b∈cur,Lib.isSp b=false)->∀x∈Lib.fieldsGo cur l,xI x
 |[],cur,hc,x,hx=>by
  rw[Lib.fieldsGo]at hx;split at hx
  .cases hx
  .next h=>simp at hx;subst hx;exact⟨λe=>h (by rw[e];rfl),hc⟩
 |b::l,cur,hc,x,hx=>by
  rw[Lib.fieldsGo]at hx;split at hx
  .split at hx
   .exact xJ l [] (by simp) x hx
   .next h=>
    rcases akm.1 hx with rfl|hx
    .exact⟨λe=>h (by rw[e];rfl),hc⟩
    .exact xJ l [] (by simp) x hx
  .next hb=>
   refine xJ l (cur++[b]) (λc h=>?_) x hx;rcases akS.1 h with h|h
   .exact hc c h
   .rw[ak2]at h;subst h;simpa using hb
theorem ZQ(s:Bytes):∀x∈Lib.fields s,xI x:=xJ s [] (by simp)
theorem XO(s:Bytes):∀x∈wordsOf s,xI x.1:=by intro x hx;obtain⟨y,hy,rfl⟩:=alW.1 hx;exact ZQ s y hy
theorem map_unit:∀w:LS,(w.map (·.1)).map (·,())=w
 |[]=>rfl
 |(_,())::r=>by rw[ako,ako,map_unit r]
theorem OO(ws:List Bytes)(h:∀x∈ws,xI x):wordsOf (Lib.join ws [32])=ws.map (·,()):=by unfold wordsOf;rw[Ig ws h]
def tidy(t:Bytes):Prop:=∃ws:List Bytes,(∀x∈ws,xI x)/\t=Lib.join ws [32]
theorem KX{t:Bytes}(h:tidy t){w:LS}(hw:∀x∈w,xI x.1):wordsOf t=w↔t=eF w:=by
 obtain⟨ws,h1,rfl⟩:=h;rw[OO ws h1];constructor
 .rintro rfl;unfold eF;rw[aly];congr 1;exact(ame ws).symm
 .intro e;have:=congrArg Lib.fields e;rw[Ig ws h1]at this;unfold eF at this;rw[Ig _ (λx hx=>by obtain⟨y,hy,rfl⟩:=alW.1 hx;exact hw y hy)]at this;rw[this,map_unit]
theorem U2{n:Int}(h:aP n=true):xI (Lib.itoa n):=by
 obtain⟨_,_,h3,h4,_⟩:=oZ h;refine⟨h4,λb hb=>?_⟩;have:=h3 b hb;unfold Lib.isSp;have ne:∀c:UInt8,c.toNat<48->(b==c)=false:=λc hc=>by rw[aj2];intro e;subst e;omega
 rw[ne 9 (by decide),ne 10 (by decide),ne 11 (by decide),ne 12 (by decide),ne 13 (by decide),ne 32 (by decide)];rfl
theorem aaF{s:Bytes}(h:aG s=true):xI s:=by
 unfold aG lower at h;rw[aj0,aj0,akk,akf,akf]at h;refine⟨λe=>by subst e;simp at h,λb hb=>?_⟩;have:=h.1.1 b hb;rw[aj0,akf,akf]at this;unfold Lib.isSp;have ne:∀c:UInt8,c.toNat<97->(b==c)=false:=λc hc=>by rw[aj2];intro e;subst e;omega
 rw[ne 9 (by decide),ne 10 (by decide),ne 11 (by decide),ne 12 (by decide),ne 13 (by decide),ne 32 (by decide)];rfl
def ZR:Bytes:=[99,111,109,109,105,116]
def abk:Bytes:=[99,114,97,115,104]
def abl:Bytes:=[119,97,116,99,104]
def ae8:Bytes:=[112,105,110]
def abm:Bytes:=[117,110,112,105,110]
def Xm:Bytes:=[99,111,108,108,101,99,116]
def ae9:Bytes:=[97,100,100]
def ZT:Bytes:=[114,101,109,111,118,101]
theorem FM{a b:Bytes}(ha:mY a=true)(hb:mY b=true):mY (a++b)=true:=by unfold mY at*;rw[amY,ha,hb];rfl
theorem U3:∀r:List Bytes,(∀x∈r,mY x=true)->mY (Lib.joinTail [32] r)=true
 |[],_=>rfl
 |x::r,h=>by
  have e:Lib.joinTail [32] (x::r)=[32]++(x++Lib.joinTail [32] r):=by simp[Lib.joinTail]
  rw[e];exact FM (by decide) (FM (h x akh) (U3 r λy hy=>h y (akg _ hy)))
theorem acz:∀ws:List Bytes,(∀x∈ws,mY x=true)->mY (Lib.join ws [32])=true
 |[],_=>rfl
 |x::r,h=>by rw[Lib.join_cons];exact FM (h x akh) (U3 r λy hy=>h y (akg _ hy))
theorem Ee(x y:Bytes):Lib.join [x,y] [32]=x++32::y:=by rw[Lib.join_cons];simp[Lib.joinTail]
theorem Ph(x y z:Bytes):Lib.join [x,y,z] [32]=x++32::(y++32::z):=by rw[Lib.join_cons];simp[Lib.joinTail]
end Sp
namespace Sp
open Go
theorem aex(w:LS):X9 w=
 (bif wordAt w 0==ZR then(1,numAt w 1,[],0)else bif wordAt w 0==abk then(2,numAt w 1,[],numAt w 2)else bif wordAt w 0==abl then(3,numAt w 1,wordAt w 2,0)else
   bif wordAt w 0==ae8 then(4,0,[],numAt w 1)else bif wordAt w 0==abm then(5,0,[],numAt w 1)else bif wordAt w 0==Xm then(6,0,[],0)else
   bif wordAt w 0==ae9 then(7,numAt w 1,wordAt w 2,numAt w 3)else bif wordAt w 0==ZT then(8,numAt w 1,wordAt w 2,numAt w 3)else(0,0,[],0)):=rfl
theorem yK(w:LS)(i:Int)(h:wordAt w i=Lib.itoa (numAt w i)):aQ (wordAt w i)=true:=by rw[h];exact(oU (yS _)).1
end Sp
namespace Sp
open Go
theorem ace(b:UInt8):(decide ((32:Int)<=IntKind.i64.wrap (b.toNat:Int))&&decide (IntKind.i64.wrap (b.toNat:Int)<=126))=l7 b:=by
 have e:IntKind.i64.wrap (b.toNat:Int)=b.toNat:=by rw[IntKind.wrap_i64];have:=b.toNat_lt;omega
 rw[e];unfold l7;congr 1
 .exact decide_eq_decide.2 (by omega)
 .exact decide_eq_decide.2 (by omega)
theorem uO{b:UInt8}:l7 b=true↔32<=b.toNat/\b.toNat<=126:=by unfold l7;rw[aj0,akf,akf]
theorem Zg{p:UInt8->Bool}{s:Bytes}(h:∀i,i<s.length->p (s.getD i 0)=true):s.all p=true:=by
 rw[akk];intro x hx;obtain⟨i,hi,rfl⟩:=alk.1 hx;have:=h i hi
 rwa [aj9,akd hi]at this
theorem RY{p:UInt8->Bool}{s:Bytes}(h:s.all p=true){i:Nat}(hi:i<s.length):p (s.getD i 0)=true:=by rw[aj9,akd hi];exact akk.1 h _ (amb hi)
theorem Wl{b:UInt8}(h:l7 b=true):Lib.isSp b=(b==32):=by
 have h:=uO.1 h;unfold Lib.isSp;have ne:∀c:UInt8,c.toNat<32->(b==c)=false:=λc hc=>by rw[aj2];intro e;subst e;omega
 rw[ne 9 (by decide),ne 10 (by decide),ne 11 (by decide),ne 12 (by decide),ne 13 (by decide)];rfl
theorem Zh{s:Bytes}(h:s.all l7=true):mY s=true:=by unfold mY;rw[akk]at h ⊢;intro b hb;have:=uO.1 (h b hb);rw[akf];omega
theorem kU{s:Bytes}:dN s=true↔s.length<=600/\s.all l7=true/\(Lib.fields s).length<=24:=by
 unfold dN;rw[aj0,aj0,akf,akf];constructor
 .rintro⟨⟨h1,h2⟩,h3⟩;exact⟨by omega,h2,by omega⟩
 .rintro⟨h1,h2,h3⟩;exact⟨⟨by omega,h2⟩,by omega⟩
theorem Xc{s:Bytes}(h:dN s=true):(aA s,dN s,())=(wordsOf s,true,()):=by unfold aA;rw[h];rfl
theorem zl{s:Bytes}(h:¬(s.length<=600/\s.all l7=true/\(Lib.fields s).length<=24)):(aA s,dN s,())=(([]:LS),false,()):=by
 have:dN s=false:=by
  cases hs:dN s with
  |false=>rfl
  |true=>exact(h (kU.1 hs)).elim
 unfold aA;rw[this];rfl
theorem lD(s:Bytes):(wordsOf s).length=(Lib.fields s).length:=by unfold wordsOf;rw[akK]
def splitAt(s:Bytes)(n b:Nat)(out:LS):Prop:=
 b<=n/\n<=s.length+1/\out.length<=n/\(∀i,i<n->i<s.length->l7 (s.getD i 0)=true)/\
 (n<=s.length->out.map (·.1)++Lib.fieldsGo ((s.take n).drop b) (s.drop n)=Lib.fields s)/\(n=s.length+1->out.map (·.1)=Lib.fields s)
theorem Zc(s:Bytes):splitAt s 0 0 []:=⟨aj8 _,ake _,aj8 _,λi hi=>absurd hi (ak0 _),λ_=>by simp[Lib.fields],λh=>by omega⟩
theorem Zf{s:Bytes}{n b:Nat}{out:LS}(h:splitAt s n b out)(hn:n<s.length)(ho:l7 (s.getD n 0)=true)(hc:s.getD n 0≠32):splitAt s (n+1) b out:=by
 obtain⟨h1,h2,h3,h4,h5,h6⟩:=h;refine⟨by omega,by omega,by omega,λi hi hi2=>?_,λ_=>?_,λh=>by omega⟩
 .rcases aks i n with h|h
  .exact h4 i h hi2
  · rwa [show i=n by omega]
 .rw[← h5 (by omega),Fw.drop_cons s n 0 hn,Lib.fieldsGo_more _ _ _ (by rw[Wl ho];exact aj2.2 hc)];congr 2;rw[List.take_add_one,akd hn,aj9,akd hn,alV];show List.drop b (List.take n s++[s[n]])=_;rw[alJ (by rw[akt];omega)]
theorem Zd{s:Bytes}{n b:Nat}{out:LS}(h:splitAt s n b out)(hn:n<=s.length)(hb:b<n)(ho:n<s.length->l7 (s.getD n 0)=true/\s.getD n 0=32):
 splitAt s (n+1) (n+1) (out++[((s.take n).drop b,())]):=by
 obtain⟨h1,h2,h3,h4,h5,h6⟩:=h;have hne:(s.take n).drop b≠[]:=λe=>by have:=congrArg List.length e;simp at this;omega
 refine⟨aj8 _,by omega,by simp;omega,λi hi hi2=>?_,λhl=>?_,λhl=>?_⟩
 .rcases aks i n with h|h
  .exact h4 i h hi2
  .rw[show i=n by omega];exact(ho (by omega)).1
 .have hn2:n<s.length:=by omega
  obtain⟨o1,o2⟩:=ho hn2;rw[← h5 hn,Fw.drop_cons s n 0 hn2,Lib.fieldsGo_end _ _ _ (by rw[Wl o1,o2];rfl) hne,(ak7 (by rw[akt];omega):(s.take (n+1)).drop (n+1)=[]),alv,aki];rfl
 .have hn2:n=s.length:=by omega
  rw[← h5 hn,ak7 (by omega:s.length<=n),alv];cases hcur:(s.take n).drop b with
  |nil=>exact absurd hcur hne
  |cons _ _=>simp[Lib.fieldsGo]
theorem Ze{s:Bytes}{n b:Nat}{out:LS}(h:splitAt s n b out)(hn:n<=s.length)(hb:¬b<n)(ho:n<s.length->l7 (s.getD n 0)=true/\s.getD n 0=32):splitAt s (n+1) (n+1) out:=by
 obtain⟨h1,h2,h3,h4,h5,h6⟩:=h;have he:(s.take n).drop b=[]:=ak7 (by rw[akt];omega);refine⟨aj8 _,by omega,by omega,λi hi hi2=>?_,λhl=>?_,λhl=>?_⟩
 .rcases aks i n with h|h
  .exact h4 i h hi2
  .rw[show i=n by omega];exact(ho (by omega)).1
 .have hn2:n<s.length:=by omega
  obtain⟨o1,o2⟩:=ho hn2;rw[← h5 hn,he,Fw.drop_cons s n 0 hn2,Lib.fieldsGo_sp _ _ (by rw[Wl o1,o2];rfl),ak7 (by rw[akt];omega)]
 .rw[← h5 hn,he,ak7 (by omega:s.length<=n)];simp[Lib.fieldsGo]
theorem aaz{s:Bytes}{b:Nat}{out:LS}(h:splitAt s (s.length+1) b out):s.all l7=true/\out=wordsOf s:=by obtain⟨h1,h2,h3,h4,h5,h6⟩:=h;refine⟨Zg λi hi=>h4 i (by omega) hi,?_⟩;unfold wordsOf;rw[← h6 rfl,map_unit]
def Wn(s:Bytes):Prop:=∀b∈s,48<=b.toNat/\b.toNat<=57
theorem Fj:∀(k:Nat)(s:Bytes),s.length=k->Wn s->0<=iq s/\iq s<(10:Int) ^ k
 |0,s,h,_=>by rw[akL.1 h];exact⟨alL _,by decide⟩
 |k+1,s,h,hd=>by
  have hne:s≠[]:=λe=>by rw[e]at h;cases h
  have e:s=s.take k++[s[k]'(by omega)]:=by
   conv=>lhs;rw[← al6 k s,aln (by omega:k<s.length),ak7 (by omega:s.length<=k+1)]
  have hd1:Wn (s.take k):=λb hb=>hd b (al9 hb);obtain⟨i1,i2⟩:=Fj k (s.take k) (by rw[akt];omega) hd1;have hb:=hd _ (amb (by omega:k<s.length));rw[e,yZ,Int.pow_succ];omega
theorem aay{s:Bytes}{n:Nat}(hn:n<s.length):iq (s.take (n+1))=10*iq (s.take n)+(((s.getD n 0).toNat:Int)-48):=by rw[List.take_add_one,akd hn,aj9,akd hn];exact yZ _ _
theorem Zb{s:Bytes}{n:Nat}(hn:n<s.length)(hl:s.length<=10)(hd:∀i,i<n->48<=(s.getD i 0).toNat/\(s.getD i 0).toNat<=57):0<=iq (s.take n)/\iq (s.take n)<1000000000:=by
 have hd:Wn (s.take n):=by
  intro b hb;obtain⟨i,hi,rfl⟩:=alk.1 hb;have hi2:i<n:=by rw[akt]at hi;omega
  have:=hd i hi2;rw[aj9,akd (by omega)]at this;simpa using this
 obtain⟨h1,h2⟩:=Fj n (s.take n) (by rw[akt];omega) hd;refine⟨h1,Int.lt_of_lt_of_le h2 ?_⟩;have:n<=9:=by omega
 match n,this with
 |0,_|1,_|2,_|3,_|4,_|5,_|6,_|7,_|8,_|9,_=>decide
theorem GN{s:Bytes}{i:Nat}(hi:i<s.length)(h:¬(48<=(s.getD i 0).toNat/\(s.getD i 0).toNat<=57)):aQ s=false:=by
 cases hp:aQ s with
 |false=>rfl
 |true=>refine(h (Jw hp _ ?_)).elim;rw[aj9,akd hi];exact amb hi
theorem Fh{s:Bytes}(h:aQ s=false):((0:Int),false,())=(parseNum s,aQ s,()):=by rw[yH h,h]
theorem acd{p:LS}{n:Nat}(hn:n<p.length):eF (p.take (n+1))=(if n=0 then[]else eF (p.take n)++[32])++(p.getD n ([],())).1:=by
 cases p with
 |nil=>cases hn
 |cons x r=>
  unfold eF;cases n with
  |zero=>simp[Lib.join_one]
  |succ n=>
   have hr:n<r.length:=by simpa using hn
   have e:(r.map (·.1))[n]? =some r[n].1:=by rw[ala,akd hr];rfl
   rw[if_neg (by omega),alf,alf,ako,ako,Lib.join_cons,Lib.join_cons,List.map_take,List.map_take,Lib.joinTail_take_succ _ _ _ _ e];rw[aj9,amu,akd hr];simp[aki]
theorem XK:∀(p:LS)(n:Nat),(eF (p.take n)).length<=(eF p).length
 |[],n=>by simp
 |x::r,0=>by simp[eF,Lib.join_nil]
 |x::r,n+1=>by unfold eF;rw[alf,ako,ako,Lib.join_cons,Lib.join_cons,List.map_take,aj1,aj1];have:=Lib.joinTail_take_le [32] (r.map (·.1)) n;omega
theorem jf{w:LS}{i:Int}(h:i<(w.length:Int)):wordAt w i=(w.getD i.toNat ([],())).1:=by unfold wordAt;rw[aky (by omega)];rfl
theorem lU{w:LS}{i:Int}(h:i>=(w.length:Int)):wordAt w i=[]:=by unfold wordAt;rw[aku h];rfl
theorem vO{b:Bool}{x y:Bytes}(h1:b=true->x.length<=60)(h2:y.length<=60):(bif b then x else y).length<=60:=by
 cases b with
 |true=>exact h1 rfl
 |false=>exact h2
theorem oh{n:Bytes}(h:aG n=true):n.length<=6:=by unfold aG at h;rw[aj0,akf]at h;omega
theorem XP(k u:Int)(nc:Nat)(n:Bytes)(a:Int):(KR k u nc n a).length<=60:=by
 have z:([]:Bytes).length<=60:=by decide
 have hi:∀m:Int,aP m=true->(Lib.itoa m).length<=10:=λm h=>(oZ h).2.2.2.2;unfold KR;refine vO (λ_=>z) (vO (λ_=>z) (vO (λh=>?_) (vO (λh=>?_) (vO (λh=>?_) (vO (λh=>?_) (vO (λh=>?_) (vO (λh=>?_) (vO (λh=>?_) (vO (λh=>?_) z)))))))))
 all_goals simp only[aj0]at h
 all_goals simp only[aj1,aj6,akn]
 .have:=hi u h.2.1;omega
 .have:=hi u h.2.1;have:=hi a h.2.2.1;omega
 .have:=hi u h.2.1;have:=oh h.2.2.1;omega
 .have:=hi a h.2.2.1;omega
 .have:=hi a h.2.2.1;omega
 .omega
 .have:=hi u h.2.1;have:=hi a h.2.2.1;have:=oh h.2.2.2;omega
 .have:=hi u h.2.1;have:=hi a h.2.2.1;have:=oh h.2.2.2;omega
theorem BU:∀(l cur:Bytes)(x:Bytes),x∈Lib.fieldsGo cur l->x.length<=cur.length+l.length
 |[],cur,x,h=>by
  rw[Lib.fieldsGo]at h;split at h
  .cases h
  .simp at h;subst h;simp
 |b::l,cur,x,h=>by
  rw[Lib.fieldsGo]at h;split at h
  .split at h
   .have:=BU l [] x h;simp at this ⊢;omega
   .rcases akm.1 h with rfl|h
    .simp
    .have:=BU l [] x h;simp at this ⊢;omega
  .have:=BU l (cur++[b]) x h;simp at this ⊢;omega
theorem BI{s:Bytes}:∀x∈wordsOf s,x.1.length<=s.length:=by intro x hx;obtain⟨y,hy,rfl⟩:=alW.1 hx;have:=BU s [] y hy;simpa using this
theorem OQ{w:LS}{m:Nat}(h:∀x∈w,x.1.length<=m)(i:Int):(wordAt w i).length<=m:=by
 unfold wordAt;cases decide (i>=(w.length:Int))with
 |true=>exact ake _
 |false=>
  show(w.getD i.toNat ([],())).1.length<=m;rw[aj9];cases hg:w[i.toNat]? with
  |none=>exact ake _
  |some x=>exact h x (akJ hg)
theorem XQ{w:LS}{m:Nat}(h:∀x∈w,x.1.length<=m):(X9 w).2.2.1.length<=m:=by
 rw[aex];cases wordAt w 0==ZR with
 |true=>exact ake _
 |false=>
 cases wordAt w 0==abk with
 |true=>exact ake _
 |false=>
 cases wordAt w 0==abl with
 |true=>exact OQ h 2
 |false=>
 cases wordAt w 0==ae8 with
 |true=>exact ake _
 |false=>
 cases wordAt w 0==abm with
 |true=>exact ake _
 |false=>
 cases wordAt w 0==Xm with
 |true=>exact ake _
 |false=>
 cases wordAt w 0==ae9 with
 |true=>exact OQ h 2
 |false=>
 cases wordAt w 0==ZT with
 |true=>exact OQ h 2
 |false=>exact ake _
theorem QK{m:Nat}:∀r:List Bytes,(∀x∈r,x.length<=m)->(Lib.joinTail [32] r).length<=r.length*(m+1)
 |[],_=>ake _
 |x::r,h=>by
  have e:Lib.joinTail [32] (x::r)=[32]++(x++Lib.joinTail [32] r):=by simp[Lib.joinTail]
  have h1:=h x akh;have h2:=QK r λy hy=>h y (akg _ hy);have h3:(x::r).length*(m+1)=r.length*(m+1)+(m+1):=by rw[aj6,akI,Nat.one_mul]
  rw[e,aj1,aj1,h3];show 1+_<=_;omega
theorem Sv{m:Nat}{w:LS}(h:∀x∈w,x.1.length<=m):(eF w).length<=w.length*(m+1):=by
 cases w with
 |nil=>exact ake _
 |cons x r=>
  unfold eF;rw[ako,Lib.join_cons,aj1];have h1:=h x akh;have h2:=QK (m:=m) (r.map (·.1)) λy hy=>by obtain⟨z,hz,rfl⟩:=alW.1 hy;exact h z (akg _ hz)
  rw[akK]at h2;rw[aj6,akI,Nat.one_mul];omega
theorem vN{s:Bytes}(h:dN s=true):aA s=wordsOf s/\(wordsOf s).length<=1000/\(eF (wordsOf s)).length<=2097152/\(X9 (wordsOf s)).2.2.1.length<=1048576/\(afL (X9 (wordsOf s))).length<=1048576:=by
 obtain⟨h1,_,h3⟩:=kU.1 h;have hw:∀x∈wordsOf s,x.1.length<=600:=λx hx=>akb (BI x hx) h1;have hl:(wordsOf s).length<=24:=by rw[lD];exact h3
 refine⟨by unfold aA;rw[h];rfl,by omega,?_,akb (XQ hw) (by omega),akb (XP _ _ _ _ _) (by omega)⟩;have:=Sv hw;have h24:(wordsOf s).length*(600+1)<=24*(600+1):=akj _ hl;omega
end Sp
namespace Sp
open Go
inductive QT where
 |leaf (n:ax)
 |neg (t:QT)
 |two (op:Int) (a b:QT)
def dD(op:Int):Bytes:=
 bif op==1 then[97,108,108]else bif op==2 then[104,97,115]else bif op==3 then[101,113]else bif op==4 then[108,116]else
 bif op==5 then[110,111,116]else bif op==6 then[97,110,100]else bif op==7 then[111,114]else bif op==8 then[105,110]else
 bif op==9 then[108,105,110,107,101,100]else[63]
def bI(w:Bytes):Int:=
 bif w==[97,108,108]then 1 else bif w==[104,97,115]then 2 else bif w==[101,113]then 3 else bif w==[108,116]then 4 else
 bif w==[110,111,116]then 5 else bif w==[97,110,100]then 6 else bif w==[111,114]then 7 else bif w==[105,110]then 8 else
 bif w==[108,105,110,107,101,100]then 9 else 0
def aO(s:Bytes):wS×Bool:=
 bif aQ s then(bif decide (parseNum s<=999)then((1,parseNum s,[],()),true)else((0,0,[],()),false))
 else bif s==[45]then((0,0,[],()),true)else bif aG s then((2,0,s,()),true)else((0,0,[],()),false)
def aV(v:wS):Bytes:=
 bif !aU v.1 v.2.1 v.2.2.1 then[63]else bif v.1==1 then Lib.itoa v.2.1 else bif v.1==2 then v.2.2.1 else[45]
def QT.size:QT->Nat
 |.leaf _=>1
 |.neg t=>t.size+1
 |.two _ a b=>a.size+b.size+1
def post:QT->Nat->List ax
 |.leaf n,_=>[n]
 |.neg t,b=>post t b++[(5,((b+t.size:Nat):Int)-1,0,[],0,0,[],())]
 |.two op x y,b=>post x b++(post y (b+x.size)++[(op,((b+x.size:Nat):Int)-1,((b+x.size+y.size:Nat):Int)-1,[],0,0,[],())])
def gU(n:ax):List Bytes:=
 dD n.1::(bif n.1==2||(n.1==8||n.1==9)then[n.2.2.2.1]else bif n.1==3||n.1==4 then[n.2.2.2.1,aV n.2.2.2.2]else[])
def aI:QT->List Bytes
 |.leaf n=>gU n
 |.neg t=>dD 5::aI t
 |.two op a b=>dD op::(aI a++aI b)
def ls(w:List Bytes):LS:=w.map (·,())
def wU:QT->Prop
 |.leaf n=>n.1=1\/n.1=2\/n.1=3\/n.1=4\/n.1=8\/n.1=9
 |.neg t=>wU t
 |.two op a b=>(op=6\/op=7)/\wU a/\wU b
def wV:QT->Prop
 |.leaf n=>dI n 0=true
 |.neg t=>wV t
 |.two _ a b=>wV a/\wV b
theorem dZ:∀(t:QT)(b:Nat),(post t b).length=t.size
 |.leaf _,_=>rfl
 |.neg t,b=>by rw[post,aj1,dZ t b];rfl
 |.two op x y,b=>by rw[post,aj1,aj1,dZ x b,dZ y];rw[QT.size,aj6,akn];omega
theorem size_pos:∀t:QT,0<t.size
 |.leaf _=>Nat.one_pos
 |.neg _=>alO _
 |.two _ _ _=>alO _
theorem uP(w:Bytes):bI w=0\/((bI w=1\/bI w=2\/bI w=3\/bI w=4\/bI w=5\/bI w=6\/bI w=7\/bI w=8\/bI w=9)/\dD (bI w)=w):=by
 unfold bI;cases h1:w==[97,108,108]with
 |true=>right;rw[akq.1 h1];decide
 |false=>
 cases h2:w==[104,97,115]with
 |true=>right;rw[akq.1 h2];decide
 |false=>
 cases h3:w==[101,113]with
 |true=>right;rw[akq.1 h3];decide
 |false=>
 cases h4:w==[108,116]with
 |true=>right;rw[akq.1 h4];decide
 |false=>
 cases h5:w==[110,111,116]with
 |true=>right;rw[akq.1 h5];decide
 |false=>
 cases h6:w==[97,110,100]with
 |true=>right;rw[akq.1 h6];decide
 |false=>
 cases h7:w==[111,114]with
 |true=>right;rw[akq.1 h7];decide
 |false=>
 cases h8:w==[105,110]with
 |true=>right;rw[akq.1 h8];decide
 |false=>
 cases h9:w==[108,105,110,107,101,100]with
 |true=>right;rw[akq.1 h9];decide
 |false=>left;rfl
theorem tV{op:Int}(h:op=1\/op=2\/op=3\/op=4\/op=5\/op=6\/op=7\/op=8\/op=9):bI (dD op)=op:=by rcases h with rfl|rfl|rfl|rfl|rfl|rfl|rfl|rfl|rfl<;>decide
theorem aey:bI []=0:=by decide
def rd:Nat->LS->List ax->Bool×LS×List ax
 |0,w,q=>(false,w,q)
 |k+1,w,q=>
  bif bI (wordAt w 0)==2||(bI (wordAt w 0)==8||bI (wordAt w 0)==9)then(true,(w.drop 1).drop 1,q++[(bI (wordAt w 0),0,0,wordAt (w.drop 1) 0,0,0,[],())])
  else bif bI (wordAt w 0)==3||bI (wordAt w 0)==4 then
   ((aO (wordAt ((w.drop 1).drop 1) 0)).2,((w.drop 1).drop 1).drop 1,q++[(bI (wordAt w 0),0,0,wordAt (w.drop 1) 0,(aO (wordAt ((w.drop 1).drop 1) 0)).1)])
  else bif bI (wordAt w 0)==5 then
   ((rd k (w.drop 1) q).1,(rd k (w.drop 1) q).2.1,(rd k (w.drop 1) q).2.2++[(5,((rd k (w.drop 1) q).2.2.length:Int)-1,0,[],0,0,[],())])
  else bif bI (wordAt w 0)==6||bI (wordAt w 0)==7 then
   (bif (rd k (w.drop 1) q).1 then
     ((rd k (rd k (w.drop 1) q).2.1 (rd k (w.drop 1) q).2.2).1,(rd k (rd k (w.drop 1) q).2.1 (rd k (w.drop 1) q).2.2).2.1,
       (rd k (rd k (w.drop 1) q).2.1 (rd k (w.drop 1) q).2.2).2.2++[(bI (wordAt w 0),((rd k (w.drop 1) q).2.2.length:Int)-1,((rd k (rd k (w.drop 1) q).2.1 (rd k (w.drop 1) q).2.2).2.2.length:Int)-1,[],0,0,[],())])
   else(false,(rd k (w.drop 1) q).2.1,(rd k (w.drop 1) q).2.2++[(bI (wordAt w 0),((rd k (w.drop 1) q).2.2.length:Int)-1,((rd k (w.drop 1) q).2.2.length:Int)-1,[],0,0,[],())]))
  else(!(bI (wordAt w 0)==0),w.drop 1,q++[(bI (wordAt w 0),0,0,[],0,0,[],())])
theorem uU(i:Int)(h:0<=i):wordAt [] i=[]:=lU (by simpa using h)
theorem cu(x:Bytes×Unit)(w:LS):wordAt (x::w) 0=x.1:=by rw[jf (by simp)];rfl
theorem Pm{w:LS}(h:bI (wordAt w 0)≠0):∃r,w=(dD (bI (wordAt w 0)),())::r/\w.drop 1=r:=by
 cases w with
 |nil=>exact(h (by rw[uU 0 (alL _)];exact aey)).elim
 |cons x r=>
  obtain⟨x,⟨⟩⟩:=x;rcases uP (wordAt ((x,())::r) 0)with e|⟨_,e⟩
  .exact(h e).elim
  .refine⟨r,?_,rfl⟩;rw[e,cu]
theorem Fz:∀(k:Nat)(w:LS)(q:List ax),(rd k w q).2.1.length<=w.length
 |0,w,q=>aj8 _
 |k+1,w,q=>by
  have h1:=Fz k (w.drop 1) q;have h2:=Fz k (rd k (w.drop 1) q).2.1 (rd k (w.drop 1) q).2.2;have h3:(w.drop 1).length<=w.length:=by rw[akp];omega
  rw[rd];cases bI (wordAt w 0)==2||(bI (wordAt w 0)==8||bI (wordAt w 0)==9)with
  |true=>show((w.drop 1).drop 1).length<=_;rw[akp];omega
  |false=>
  cases bI (wordAt w 0)==3||bI (wordAt w 0)==4 with
  |true=>show(((w.drop 1).drop 1).drop 1).length<=_;rw[akp,akp];omega
  |false=>
  cases bI (wordAt w 0)==5 with
  |true=>exact akb h1 h3
  |false=>
  cases bI (wordAt w 0)==6||bI (wordAt w 0)==7 with
  |true=>
   show(bif (rd k (w.drop 1) q).1 then _ else _:Bool×LS×List ax).2.1.length<=_;cases (rd k (w.drop 1) q).1 with
   |true=>exact akb h2 (akb h1 h3)
   |false=>exact akb h1 h3
  |false=>exact h3
end Sp
namespace Sp
open Go
theorem afa{n:Int}{s:Bytes}(h:aU 1 n s=true):0<=n/\n<=999/\s=[]:=by unfold aU at h;simp at h;exact⟨h.1.1,h.1.2,h.2⟩
theorem ahA{n:Int}{s:Bytes}(h:aU 2 n s=true):aG s=true/\n=0:=by unfold aU at h;simp at h;exact h
theorem aez{v:wS}(h:aU v.1 v.2.1 v.2.2.1=true)(h0:v.1≠0):(∃n,v=(1,n,[],())/\0<=n/\n<=999)\/∃s,v=(2,0,s,())/\aG s=true:=by
 obtain⟨k,n,s,⟨⟩⟩:=v;by_cases h1:k=1
 .subst h1;obtain⟨a,b,c⟩:=afa h;have c:s=[]:=c;subst c;exact .inl ⟨n,rfl,a,b⟩
 by_cases h2:k=2
 .subst h2;obtain⟨a,b⟩:=ahA h;have b:n=0:=b;subst b;exact .inr ⟨s,rfl,a⟩
 .unfold aU at h;dsimp only at h h0;rw[aky h0,aky h1,aky h2]at h;cases h
theorem acA{s:Bytes}(h:aG s=true):∃b r,s=b::r/\97<=b.toNat:=by
 unfold aG at h;rw[aj0,aj0,akf]at h;cases s with
 |nil=>exact absurd h.1.2 (by decide)
 |cons b r=>refine⟨b,r,rfl,?_⟩;have h1:=h.1.1;unfold lower at h1;rw[ak1,aj0,aj0,akf]at h1;exact h1.1.1
theorem XR{s:Bytes}(h:aG s=true):aQ s=false/\(s==[45])=false:=by
 obtain⟨b,r,rfl,hb⟩:=acA h;refine⟨?_,?_⟩
 .cases hp:aQ (b::r)with
  |false=>rfl
  |true=>have:=Jw hp b akh;omega
 .rw[aj2];intro e;have:b=45:=(List.cons.inj e).1;rw[this]at hb;exact absurd hb (by decide)
theorem QL:aQ []=false:=by
 cases h:aQ []with
 |false=>rfl
 |true=>obtain⟨a,b⟩:=gG h;exact((U2 b).1 a).elim
theorem Ih{v:wS}(h:aU v.1 v.2.1 v.2.2.1=true)(h0:v.1≠0):aO (aV v)=(v,true):=by
 unfold aV;rw[h];rcases aez h h0 with⟨n,rfl,a,b⟩|⟨s,rfl,a⟩
 .show aO (Lib.itoa n)=_;have hu:aP n=true:=by unfold aP;rw[aku a,aku (show n<=1000000000 by omega)];rfl
  obtain⟨q1,q2⟩:=oU hu;unfold aO;rw[q1,q2,aku b];rfl
 .show aO s=_;obtain⟨q1,q2⟩:=XR a;unfold aO;rw[q1,q2,a];rfl
theorem QM{s:Bytes}(h:aU (aO s).1.1 (aO s).1.2.1 (aO s).1.2.2.1=true)(h0:(aO s).1.1≠0):(aO s).2=true/\aV (aO s).1=s:=by
 unfold aV;rw[h];revert h0;unfold aO;cases h1:aQ s with
 |true=>
  cases h2:decide (parseNum s<=999)with
  |true=>exactλ_=>⟨rfl,(gG h1).1⟩
  |false=>exactλh0=>(h0 rfl).elim
 |false=>
  cases h2:s==[45]with
  |true=>exactλh0=>(h0 rfl).elim
  |false=>
   cases h3:aG s with
   |true=>exactλ_=>⟨rfl,rfl⟩
   |false=>exactλh0=>(h0 rfl).elim
theorem Wp{s:Bytes}(h:dK s=true):s≠[]:=by rintro rfl;exact absurd h (by decide)
theorem ZU{s:Bytes}(h:aG s=true):s≠[]:=by rintro rfl;exact absurd h (by decide)
theorem qW{n:ax}{a:Int}(h:dI n a=true)(hw:n.1=1\/n.1=2\/n.1=3\/n.1=4\/n.1=8\/n.1=9):
 n=(1,0,0,[],0,0,[],())\/(∃op s,n=(op,0,0,s,0,0,[],())/\(op=2\/op=8\/op=9)/\s≠[])\/
 ∃op s v,n=(op,0,0,s,v)/\(op=3\/op=4)/\s≠[]/\aU v.1 v.2.1 v.2.2.1=true/\v.1≠0:=by
 obtain⟨op,l,r,s,k,m,t,⟨⟩⟩:=n;dsimp only at hw;rcases hw with rfl|rfl|rfl|rfl|rfl|rfl
 .left;have h:((l==0&&r==0)&&(s==[]&&(k==0&&(m==0&&t==[]))))=true:=h;simp only[aj0,akq]at h;rw[h.1.1,h.1.2,h.2.1,h.2.2.1,h.2.2.2.1,h.2.2.2.2]
 .right;left;have h:((l==0&&r==0)&&(k==0&&(m==0&&t==[]))&&dK s)=true:=h;simp only[aj0,akq]at h;refine⟨2,s,?_,.inl rfl,Wp h.2⟩;rw[h.1.1.1,h.1.1.2,h.1.2.1,h.1.2.2.1,h.1.2.2.2]
 .right;right;have h:((l==0&&r==0)&&dK s&&aU k m t&&!(k==0))=true:=h;simp only[aj0,akq,alu,aj2]at h;refine⟨3,s,(k,m,t,()),?_,.inl rfl,Wp h.1.1.2,h.1.2,h.2⟩;rw[h.1.1.1.1,h.1.1.1.2]
 .right;right;have h:((l==0&&r==0)&&dK s&&aU k m t&&k==1)=true:=h;simp only[aj0,akq]at h;refine⟨4,s,(k,m,t,()),?_,.inr rfl,Wp h.1.1.2,h.1.2,by dsimp only;omega⟩;rw[h.1.1.1.1,h.1.1.1.2]
 .right;left;have h:((l==0&&r==0)&&(k==0&&(m==0&&t==[]))&&aG s)=true:=h;simp only[aj0,akq]at h;refine⟨8,s,?_,.inr (.inl rfl),ZU h.2⟩;rw[h.1.1.1,h.1.1.2,h.1.2.1,h.1.2.2.1,h.1.2.2.2]
 .right;left;have h:((l==0&&r==0)&&(k==0&&(m==0&&t==[]))&&aG s)=true:=h;simp only[aj0,akq]at h;refine⟨9,s,?_,.inr (.inr rfl),ZU h.2⟩;rw[h.1.1.1,h.1.1.2,h.1.2.1,h.1.2.2.1,h.1.2.2.2]
theorem vP{w:LS}(h:wordAt w 0≠[]):w=(wordAt w 0,())::w.drop 1:=by
 cases w with
 |nil=>exact(h (uU 0 (alL _))).elim
 |cons x r=>obtain⟨x,⟨⟩⟩:=x;rw[cu];rfl
theorem Py:∀(k:Nat)(w:LS)(q:List ax),(rd k w q).1=true->∃t,wU t/\(rd k w q).2.2=q++post t q.length/\(wV t->w=ls (aI t)++(rd k w q).2.1)
 |0,w,q,h=>by cases h
 |k+1,w,q,h=>by
  by_cases h0:bI (wordAt w 0)=0
  .rw[rd,h0]at h;cases h
  obtain⟨r,e,e2⟩:=Pm h0;rcases uP (wordAt w 0)with c|⟨c,_⟩
  .exact(h0 c).elim
  rw[rd]at h ⊢;rw[e2]at h ⊢;generalize bI (wordAt w 0)=op at h c e h0 ⊢;have KY:op=2\/op=8\/op=9->∃t,wU t/\q++[(op,0,0,wordAt r 0,0,0,[],())]=q++post t q.length/\(wV t->w=ls (aI t)++r.drop 1):=λc=>by
   refine⟨.leaf (op,0,0,wordAt r 0,0,0,[],()),?_,rfl,λht=>?_⟩
   .show op=1\/op=2\/op=3\/op=4\/op=8\/op=9;omega
   .have ht:dI (op,0,0,wordAt r 0,0,0,[],()) 0=true:=ht;have hn:wordAt r 0≠[]:=by
     rcases qW ht (by dsimp only;omega)with x|⟨_,s,x,_,hs⟩|⟨op',s,v,x,hop,_⟩
     .have:=congrArg (·.1) x;dsimp only at this;omega
     .have:=congrArg (λn:ax=>n.2.2.2.1) x;dsimp only at this;rw[this];exact hs
     .have:=congrArg (·.1) x;dsimp only at this;omega
    rw[e,vP hn];have hb:(op==2||(op==8||op==9))=true:=by rcases c with rfl|rfl|rfl<;>rfl
    show _=ls (dD op::(bif op==2||(op==8||op==9)then[wordAt ((wordAt r 0,())::r.drop 1) 0]else _))++_;rw[hb,cu];rfl
  have U4:op=3\/op=4->∃t,wU t/\q++[(op,0,0,wordAt r 0,(aO (wordAt (r.drop 1) 0)).1)]=q++post t q.length/\(wV t->w=ls (aI t)++(r.drop 1).drop 1):=λc=>by
   refine⟨.leaf (op,0,0,wordAt r 0,(aO (wordAt (r.drop 1) 0)).1),?_,rfl,λht=>?_⟩
   .show op=1\/op=2\/op=3\/op=4\/op=8\/op=9;omega
   .have ht:dI (op,0,0,wordAt r 0,(aO (wordAt (r.drop 1) 0)).1) 0=true:=ht;have hn:wordAt r 0≠[]/\(aO (wordAt (r.drop 1) 0)).2=true/\aV (aO (wordAt (r.drop 1) 0)).1=wordAt (r.drop 1) 0:=by
     rcases qW ht (by dsimp only;omega)with x|⟨op',s,x,hop,hs⟩|⟨op',s,v,x,hop,hs,hv,h1⟩
     .have:=congrArg (·.1) x;dsimp only at this;omega
     .have:=congrArg (·.1) x;dsimp only at this;omega
     .have x1:=congrArg (λn:ax=>n.2.2.2.1) x;have x2:=congrArg (λn:ax=>n.2.2.2.2) x;dsimp only at x1 x2;refine⟨by rw[x1];exact hs,QM (by rw[x2];exact hv) (by rw[x2];exact h1)⟩
    have hw2:wordAt (r.drop 1) 0≠[]:=λe0=>by
     rw[e0]at hn;have:(aO []).2=false:=by unfold aO;rw[QL];rfl
     rw[this]at hn;cases hn.2.1
    have hb:(op==2||(op==8||op==9))=false:=by rcases c with rfl|rfl<;>rfl
    have hb2:(op==3||op==4)=true:=by rcases c with rfl|rfl<;>rfl
    have e3:r=(wordAt r 0,())::(wordAt (r.drop 1) 0,())::(r.drop 1).drop 1:=by rw[← vP hw2];exact vP hn.1
    show _=ls (dD op::(bif op==2||(op==8||op==9)then _ else bif op==3||op==4 then[wordAt r 0,aV (aO (wordAt (r.drop 1) 0)).1]else _))++_;rw[hb,hb2,hn.2.2];exact e.trans (congrArg _ e3)
  have ZV:(op=6\/op=7)->(rd k r q).1=true->(rd k (rd k r q).2.1 (rd k r q).2.2).1=true->∃t,wU t/\(rd k (rd k r q).2.1 (rd k r q).2.2).2.2++[(op,((rd k r q).2.2.length:Int)-1,((rd k (rd k r q).2.1 (rd k r q).2.2).2.2.length:Int)-1,[],0,0,[],())]=q++post t q.length/\(wV t->w=ls (aI t)++(rd k (rd k r q).2.1 (rd k r q).2.2).2.1):=λc g1 g2=>by
   obtain⟨x,x1,x2,x3⟩:=Py k r q g1;obtain⟨y,y1,y2,y3⟩:=Py k _ _ g2;have lx:(rd k r q).2.2.length=q.length+x.size:=by rw[x2,aj1,dZ]
   have ly:(rd k (rd k r q).2.1 (rd k r q).2.2).2.2.length=q.length+x.size+y.size:=by rw[y2,aj1,dZ,lx]
   refine⟨.two op x y,⟨c,x1,y1⟩,?_,λht=>?_⟩
   .rw[ly,lx,y2,lx,x2];show _=q++(post x q.length++(post y (q.length+x.size)++[_]));rw[aki,aki]
   .obtain⟨t1,t2⟩:wV x/\wV y:=ht;rw[e];show _=ls (dD op::(aI x++aI y))++_;unfold ls;rw[ako,alv,ak9,aki];exact congrArg _ ((x3 t1).trans (congrArg _ (y3 t2)))
  rcases c with rfl|rfl|rfl|rfl|rfl|rfl|rfl|rfl|rfl
  .refine⟨.leaf (1,0,0,[],0,0,[],()),.inl rfl,rfl,λ_=>?_⟩;rw[e];rfl
  .exact KY (.inl rfl)
  .exact U4 (.inl rfl)
  .exact U4 (.inr rfl)
  .have h:(rd k r q).1=true:=h;obtain⟨x,x1,x2,x3⟩:=Py k r q h;have lx:(rd k r q).2.2.length=q.length+x.size:=by rw[x2,aj1,dZ]
   refine⟨.neg x,x1,?_,λht=>?_⟩
   .show(rd k r q).2.2++[(5,((rd k r q).2.2.length:Int)-1,0,[],0,0,[],())]=q++(post x q.length++[_]);rw[lx,x2,aki]
   .rw[e];show _=ls (dD 5::aI x)++(rd k r q).2.1;exact congrArg _ (x3 ht)
  .have h:(bif (rd k r q).1 then _ else _:Bool×LS×List ax).1=true:=h;cases g:(rd k r q).1 with
   |false=>rw[g]at h;cases h
   |true=>rw[g]at h;exact ZV (.inl rfl) g h
  .have h:(bif (rd k r q).1 then _ else _:Bool×LS×List ax).1=true:=h;cases g:(rd k r q).1 with
   |false=>rw[g]at h;cases h
   |true=>rw[g]at h;exact ZV (.inr rfl) g h
  .exact KY (.inr (.inl rfl))
  .exact KY (.inr (.inr rfl))
end Sp
namespace Sp
open Go
theorem agM(k:Nat)(r:LS)(q:List ax):rd (k+1) ((dD 1,())::r) q=(true,r,q++[(1,0,0,[],0,0,[],())]):=by rw[rd,cu,tV (.inl rfl)];rfl
theorem afM{op:Int}(c:op=2\/op=8\/op=9)(k:Nat)(r:LS)(q:List ax):rd (k+1) ((dD op,())::r) q=(true,r.drop 1,q++[(op,0,0,wordAt r 0,0,0,[],())]):=by rw[rd,cu,tV (by omega)];rcases c with rfl|rfl|rfl<;>rfl
theorem rd_val{op:Int}(c:op=3\/op=4)(k:Nat)(r:LS)(q:List ax):rd (k+1) ((dD op,())::r) q=((aO (wordAt (r.drop 1) 0)).2,(r.drop 1).drop 1,q++[(op,0,0,wordAt r 0,(aO (wordAt (r.drop 1) 0)).1)]):=by rw[rd,cu,tV (by omega)];rcases c with rfl|rfl<;>rfl
theorem rd_not(k:Nat)(r:LS)(q:List ax):rd (k+1) ((dD 5,())::r) q=((rd k r q).1,(rd k r q).2.1,(rd k r q).2.2++[(5,((rd k r q).2.2.length:Int)-1,0,[],0,0,[],())]):=by rw[rd,cu,tV (.inr (.inr (.inr (.inr (.inl rfl)))))];rfl
theorem agN{op:Int}(c:op=6\/op=7)(k:Nat)(r:LS)(q:List ax)(h:(rd k r q).1=true):rd (k+1) ((dD op,())::r) q=
 ((rd k (rd k r q).2.1 (rd k r q).2.2).1,(rd k (rd k r q).2.1 (rd k r q).2.2).2.1,(rd k (rd k r q).2.1 (rd k r q).2.2).2.2++[(op,((rd k r q).2.2.length:Int)-1,((rd k (rd k r q).2.1 (rd k r q).2.2).2.2.length:Int)-1,[],0,0,[],())]):=by
 rw[rd,cu,tV (by omega)];rcases c with rfl|rfl
 .show(bif (rd k r q).1 then _ else _:Bool×LS×List ax)=_;rw[h];rfl
 .show(bif (rd k r q).1 then _ else _:Bool×LS×List ax)=_;rw[h];rfl
theorem ZW(x:Bytes)(a b:List Bytes)(r:LS):ls (x::(a++b))++r=(x,())::(ls a++(ls b++r)):=by unfold ls;rw[ako,alv,ak9,aki]
theorem xK{op:Int}{s:Bytes}(c:op=2\/op=8\/op=9):gU (op,0,0,s,0,0,[],())=[dD op,s]:=by rcases c with rfl|rfl|rfl<;>rfl
theorem zN{op:Int}{s:Bytes}{v:wS}(c:op=3\/op=4):gU (op,0,0,s,v)=[dD op,s,aV v]:=by rcases c with rfl|rfl<;>rfl
theorem FN:∀(t:QT)(k:Nat)(rest:LS)(q:List ax),wU t->wV t->(ls (aI t)++rest).length<k->rd k (ls (aI t)++rest) q=(true,rest,q++post t q.length)
 |_,0,_,_,_,_,h=>absurd h (ak0 _)
 |.leaf n,k+1,rest,q,hw,ho,_=>by
  have hw:n.1=1\/n.1=2\/n.1=3\/n.1=4\/n.1=8\/n.1=9:=hw;rcases qW ho hw with rfl|⟨op,s,rfl,c,hs⟩|⟨op,s,v,rfl,c,hs,hv,h0⟩
  .exact agM k rest q
  .show rd (k+1) (ls (gU _)++rest) q=_;rw[xK c];show rd (k+1) ((dD op,())::(s,())::rest) q=_;rw[afM c,cu];rfl
  .show rd (k+1) (ls (gU _)++rest) q=_;rw[zN c];show rd (k+1) ((dD op,())::(s,())::(aV v,())::rest) q=_;rw[rd_val c,cu];show((aO (wordAt ((aV v,())::rest) 0)).2,rest,q++[(op,0,0,s,(aO (wordAt ((aV v,())::rest) 0)).1)])=_;rw[cu,Ih hv h0];rfl
 |.neg t,k+1,rest,q,hw,ho,h=>by
  have h:((dD 5,())::(ls (aI t)++rest)).length<k+1:=h;rw[aj6]at h;show rd (k+1) ((dD 5,())::(ls (aI t)++rest)) q=_;rw[rd_not,FN t k rest q hw ho (by omega)];show(true,rest,(q++post t q.length)++[(5,((q++post t q.length).length:Int)-1,0,[],0,0,[],())])=(true,rest,q++(post t q.length++[_]));rw[aj1,dZ,aki]
 |.two op x y,k+1,rest,q,⟨c,w1,w2⟩,⟨o1,o2⟩,h=>by show rd (k+1) (ls (dD op::(aI x++aI y))++rest) q=_;have h:(ls (dD op::(aI x++aI y))++rest).length<k+1:=h;rw[ZW]at h ⊢;rw[aj6]at h;have e1:=FN x k (ls (aI y)++rest) q w1 o1 (by omega);rw[aj1]at h;have e2:=FN y k rest (q++post x q.length) w2 o2 (by omega);rw[agN c k _ q (by rw[e1]),e1,e2];show(true,rest,((q++post x q.length)++post y (q++post x q.length).length)++[(op,((q++post x q.length).length:Int)-1,(((q++post x q.length)++post y (q++post x q.length).length).length:Int)-1,[],0,0,[],())])=(true,rest,q++(post x q.length++(post y (q.length+x.size)++[_])));rw[aj1,aj1,dZ,dZ,aj1,dZ,aki,aki]
def rs:Nat->LS->List ax->List ax×Int
 |0,_,q=>(q,0)
 |d+1,w,q=>
  bif bI (wordAt w 0)==0||decide ((q.length:Int)>9)then(q,0)
  else bif bI (wordAt w 0)==2||(bI (wordAt w 0)==8||bI (wordAt w 0)==9)then(q++[(bI (wordAt w 0),0,0,wordAt w 1,0,0,[],())],2)
  else bif bI (wordAt w 0)==3||bI (wordAt w 0)==4 then(q++[(bI (wordAt w 0),0,0,wordAt w 1,(aO (wordAt w 2)).1)],3)
  else bif bI (wordAt w 0)==5||(bI (wordAt w 0)==6||bI (wordAt w 0)==7)then
   (bif (rs d (w.drop 1) q).2==0 then((rs d (w.drop 1) q).1,0)
   else bif bI (wordAt w 0)==5 then((rs d (w.drop 1) q).1++[(5,((rs d (w.drop 1) q).1.length:Int)-1,0,[],0,0,[],())],1+(rs d (w.drop 1) q).2)
   else bif (rs d (w.drop (1+(rs d (w.drop 1) q).2).toNat) (rs d (w.drop 1) q).1).2==0 then((rs d (w.drop (1+(rs d (w.drop 1) q).2).toNat) (rs d (w.drop 1) q).1).1,0)
   else((rs d (w.drop (1+(rs d (w.drop 1) q).2).toNat) (rs d (w.drop 1) q).1).1++[(bI (wordAt w 0),((rs d (w.drop 1) q).1.length:Int)-1,((rs d (w.drop (1+(rs d (w.drop 1) q).2).toNat) (rs d (w.drop 1) q).1).1.length:Int)-1,[],0,0,[],())],
    1+(rs d (w.drop 1) q).2+(rs d (w.drop (1+(rs d (w.drop 1) q).2).toNat) (rs d (w.drop 1) q).1).2))
  else(q++[(bI (wordAt w 0),0,0,[],0,0,[],())],1)
theorem yL(x:Bytes×Unit)(r:LS)(i:Int)(h:0<=i):wordAt (x::r) (i+1)=wordAt r i:=by
 by_cases hi:i<(r.length:Int)
 .rw[jf hi,jf (by rw[aj6];omega),show(i+1).toNat=i.toNat+1 by omega];rfl
 .rw[lU (show i>=(r.length:Int) by omega),lU (by rw[aj6];omega)]
theorem U5(x:Bytes×Unit)(r:LS):wordAt (x::r) 2=wordAt (r.drop 1) 0:=by
 rw[show(2:Int)=1+1 from rfl,yL x r 1 (by decide)];cases r with
 |nil=>rw[uU 1 (by decide)];exact(uU 0 (by decide)).symm
 |cons y r=>rw[show(1:Int)=0+1 from rfl,yL y r 0 (by decide)];rfl
theorem AU(x:Bytes×Unit)(r:LS):wordAt (x::r) 1=wordAt r 0:=yL x r 0 (by decide)
theorem KZ:∀(t:QT)(d:Nat)(rest:LS)(q:List ax),wU t->wV t->t.size<=d->q.length+t.size<=10->rs d (ls (aI t)++rest) q=(q++post t q.length,((aI t).length:Int))
 |t,0,_,_,_,_,h,_=>absurd (size_pos t) (by omega)
 |.leaf n,d+1,rest,q,hw,ho,_,hq=>by
  have hq1:q.length+1<=10:=hq;have hq2:decide ((q.length:Int)>9)=false:=aky (by omega);have hw:n.1=1\/n.1=2\/n.1=3\/n.1=4\/n.1=8\/n.1=9:=hw;rcases qW ho hw with rfl|⟨op,s,rfl,c,hs⟩|⟨op,s,v,rfl,c,hs,hv,h0⟩
  .show rs (d+1) ((dD 1,())::rest) q=_;rw[rs,cu,tV (.inl rfl),hq2];rfl
  .show rs (d+1) (ls (gU _)++rest) q=(_,((gU _).length:Int));rw[xK c];show rs (d+1) ((dD op,())::(s,())::rest) q=_;rw[rs,AU,cu,cu,tV (by omega),hq2];rcases c with rfl|rfl|rfl<;>rfl
  .show rs (d+1) (ls (gU _)++rest) q=(_,((gU _).length:Int));rw[zN c];show rs (d+1) ((dD op,())::(s,())::(aV v,())::rest) q=_;rw[rs,AU,U5,cu,cu,tV (by omega),hq2];have e:wordAt (List.drop 1 ((s,())::(aV v,())::rest)) 0=aV v:=cu _ _;rw[e,Ih hv h0];rcases c with rfl|rfl<;>rfl
 |.neg t,d+1,rest,q,hw,ho,hd,hq=>by
  have hd:t.size+1<=d+1:=hd;have hq:q.length+(t.size+1)<=10:=hq;have hq':decide ((q.length:Int)>9)=false:=aky (by omega);have e:=KZ t d rest q hw ho (by omega) (by omega);have hl:0<(aI t).length:=by
   cases t with
   |leaf n=>exact alO _
   |neg t=>exact alO _
   |two op a b=>exact alO _
  show rs (d+1) ((dD 5,())::(ls (aI t)++rest)) q=_;rw[rs,cu,tV (.inr (.inr (.inr (.inr (.inl rfl))))),hq'];show(bif (rs d (ls (aI t)++rest) q).2==0 then _ else(_,1+(rs d (ls (aI t)++rest) q).2):List ax×Int)=_;rw[show List.drop 1 ((dD 5,())::(ls (aI t)++rest))=ls (aI t)++rest from rfl,e];rw[show(((aI t).length:Int)==0)=false from aj2.2 (by omega)];show((q++post t q.length)++[(5,((q++post t q.length).length:Int)-1,0,[],0,0,[],())],1+((aI t).length:Int))=(q++(post t q.length++[_]),(((aI t).length+1:Nat):Int));rw[aj1,dZ,aki,show(1+((aI t).length:Int))=(((aI t).length+1:Nat):Int) by omega]
 |.two op x y,d+1,rest,q,⟨c,w1,w2⟩,⟨o1,o2⟩,hd,hq=>by
  have hd:x.size+y.size+1<=d+1:=hd;have hq:q.length+(x.size+y.size+1)<=10:=hq;have sx:=size_pos x;have sy:=size_pos y;have hq':decide ((q.length:Int)>9)=false:=aky (by omega);have wl:∀t:QT,0<(aI t).length:=λt=>by
   cases t with
   |leaf n=>exact alO _
   |neg t=>exact alO _
   |two op a b=>exact alO _
  have l1:=wl x;have l2:=wl y;have e1:=KZ x d (ls (aI y)++rest) q w1 o1 (by omega) (by omega);have e2:=KZ y d rest (q++post x q.length) w2 o2 (by omega) (by rw[aj1,dZ];omega);show rs (d+1) (ls (dD op::(aI x++aI y))++rest) q=_;rw[ZW,rs,cu,tV (by omega),hq'];rw[show List.drop 1 ((dD op,())::(ls (aI x)++(ls (aI y)++rest)))=ls (aI x)++(ls (aI y)++rest)from rfl,e1];have ed:List.drop (1+((aI x).length:Int)).toNat ((dD op,())::(ls (aI x)++(ls (aI y)++rest)))=ls (aI y)++rest:=by rw[show(1+((aI x).length:Int)).toNat=(aI x).length+1 by omega,List.drop_succ_cons];exact List.drop_left' (by unfold ls;rw[akK])
  dsimp only;rw[ed,e2];rw[show(((aI x).length:Int)==0)=false from aj2.2 (by omega),show(((aI y).length:Int)==0)=false from aj2.2 (by omega)];have fin:((q++post x q.length)++post y (q++post x q.length).length++[(op,((q++post x q.length).length:Int)-1,((q++post x q.length++post y (q++post x q.length).length).length:Int)-1,[],0,0,[],())],1+((aI x).length:Int)+((aI y).length:Int))=(q++post (.two op x y) q.length,((aI (.two op x y)).length:Int)):=by show _=(q++(post x q.length++(post y (q.length+x.size)++[_])),((dD op::(aI x++aI y)).length:Int));rw[aj1,aj1,dZ,dZ,aj1,dZ,aki,aki,aj6,aj1];rw[show(1+((aI x).length:Int)+((aI y).length:Int))=(((aI x).length+(aI y).length+1:Nat):Int) by omega]
  rcases c with rfl|rfl<;>exact fin
end Sp
namespace Sp
open Go
theorem aaG{op:Int}{r:LS}(c:op=2\/op=8\/op=9)(ht:dI (op,0,0,wordAt r 0,0,0,[],()) 0=true):
 (dD op,())::r=ls (gU (op,0,0,wordAt r 0,0,0,[],()))++r.drop 1:=by
 have hn:wordAt r 0≠[]:=by
  rcases qW ht (by dsimp only;omega)with x|⟨_,s,x,_,hs⟩|⟨op',s,v,x,hop,_⟩
  .have:=congrArg (·.1) x;dsimp only at this;omega
  .have:=congrArg (λn:ax=>n.2.2.2.1) x;dsimp only at this;rw[this];exact hs
  .have:=congrArg (·.1) x;dsimp only at this;omega
 rw[xK c];exact congrArg _ (vP hn)
theorem aaH{op:Int}{r:LS}(c:op=3\/op=4)(ht:dI (op,0,0,wordAt r 0,(aO (wordAt (r.drop 1) 0)).1) 0=true):
 (dD op,())::r=ls (gU (op,0,0,wordAt r 0,(aO (wordAt (r.drop 1) 0)).1))++(r.drop 1).drop 1:=by
 have hn:wordAt r 0≠[]/\(aO (wordAt (r.drop 1) 0)).2=true/\aV (aO (wordAt (r.drop 1) 0)).1=wordAt (r.drop 1) 0:=by
  rcases qW ht (by dsimp only;omega)with x|⟨op',s,x,hop,hs⟩|⟨op',s,v,x,hop,hs,hv,h1⟩
  .have:=congrArg (·.1) x;dsimp only at this;omega
  .have:=congrArg (·.1) x;dsimp only at this;omega
  .have x1:=congrArg (λn:ax=>n.2.2.2.1) x;have x2:=congrArg (λn:ax=>n.2.2.2.2) x;dsimp only at x1 x2;refine⟨by rw[x1];exact hs,QM (by rw[x2];exact hv) (by rw[x2];exact h1)⟩
 have hw2:wordAt (r.drop 1) 0≠[]:=λe0=>by
  rw[e0]at hn;have:(aO []).2=false:=by unfold aO;rw[QL];rfl
  rw[this]at hn;cases hn.2.1
 have e3:r=(wordAt r 0,())::(wordAt (r.drop 1) 0,())::(r.drop 1).drop 1:=by rw[← vP hw2];exact vP hn.1
 rw[zN c,hn.2.2];exact congrArg _ e3
theorem Pz:∀(d:Nat)(w:LS)(q:List ax),(rs d w q).2≠0->∃t,wU t/\(rs d w q).1=q++post t q.length/\0<(rs d w q).2/\(wV t->∃rest,w=ls (aI t)++rest/\(rs d w q).2=((aI t).length:Int))
 |0,w,q,h=>(h rfl).elim
 |d+1,w,q,h=>by
  by_cases h0:bI (wordAt w 0)=0
  .rw[rs,h0]at h;exact(h rfl).elim
  obtain⟨r,e,e2⟩:=Pm h0;rcases uP (wordAt w 0)with c|⟨c,_⟩
  .exact(h0 c).elim
  have w1:wordAt w 1=wordAt r 0:=by rw[e];exact AU _ _
  have w2:wordAt w 2=wordAt (r.drop 1) 0:=by rw[e];exact U5 _ _
  have wd:∀n:Nat,w.drop (1+(n:Int)).toNat=r.drop n:=λn=>by rw[e,show(1+(n:Int)).toNat=n+1 by omega,List.drop_succ_cons]
  rw[rs]at h ⊢;rw[e2,w1,w2]at h ⊢;generalize bI (wordAt w 0)=op at h c e h0 ⊢;cases hq:decide ((q.length:Int)>9)with
  |true=>rw[hq,Bool.or_true]at h;exact(h rfl).elim
  |false=>
  rw[hq,show(op==0)=false from aj2.2 h0]at h;rw[show(op==0)=false from aj2.2 h0];have KY:op=2\/op=8\/op=9->∃t,wU t/\q++[(op,0,0,wordAt r 0,0,0,[],())]=q++post t q.length/\(0:Int)<2/\(wV t->∃rest,w=ls (aI t)++rest/\(2:Int)=((aI t).length:Int)):=λc=>
   ⟨.leaf (op,0,0,wordAt r 0,0,0,[],()),(show op=1\/op=2\/op=3\/op=4\/op=8\/op=9 by omega),rfl,by decide,λht=>⟨r.drop 1,e.trans (aaG c ht),by show _=((gU _).length:Int);rw[xK c];rfl⟩⟩
  have U4:op=3\/op=4->∃t,wU t/\q++[(op,0,0,wordAt r 0,(aO (wordAt (r.drop 1) 0)).1)]=q++post t q.length/\(0:Int)<3/\(wV t->∃rest,w=ls (aI t)++rest/\(3:Int)=((aI t).length:Int)):=λc=>
   ⟨.leaf (op,0,0,wordAt r 0,(aO (wordAt (r.drop 1) 0)).1),(show op=1\/op=2\/op=3\/op=4\/op=8\/op=9 by omega),rfl,by decide,λht=>⟨(r.drop 1).drop 1,e.trans (aaH c ht),by show _=((gU _).length:Int);rw[zN c];rfl⟩⟩
  have ZV:(op=6\/op=7)->(rs d r q).2≠0->(rs d (w.drop (1+(rs d r q).2).toNat) (rs d r q).1).2≠0->
   ∃t,wU t/\(rs d (w.drop (1+(rs d r q).2).toNat) (rs d r q).1).1++[(op,((rs d r q).1.length:Int)-1,((rs d (w.drop (1+(rs d r q).2).toNat) (rs d r q).1).1.length:Int)-1,[],0,0,[],())]=q++post t q.length/\
    0<1+(rs d r q).2+(rs d (w.drop (1+(rs d r q).2).toNat) (rs d r q).1).2/\(wV t->∃rest,w=ls (aI t)++rest/\1+(rs d r q).2+(rs d (w.drop (1+(rs d r q).2).toNat) (rs d r q).1).2=((aI t).length:Int)):=λc g1 g2=>by
   obtain⟨x,x1,x2,x3,x4⟩:=Pz d r q g1;obtain⟨y,y1,y2,y3,y4⟩:=Pz d _ _ g2;have lx:(rs d r q).1.length=q.length+x.size:=by rw[x2,aj1,dZ]
   have ly:(rs d (w.drop (1+(rs d r q).2).toNat) (rs d r q).1).1.length=q.length+x.size+y.size:=by rw[y2,aj1,dZ,lx]
   refine⟨.two op x y,⟨c,x1,y1⟩,?_,by omega,λht=>?_⟩
   .rw[ly,lx,y2,lx,x2];show _=q++(post x q.length++(post y (q.length+x.size)++[_]));rw[aki,aki]
   .obtain⟨t1,t2⟩:wV x/\wV y:=ht;obtain⟨r1,q1,q2⟩:=x4 t1;obtain⟨r2,q3,q4⟩:=y4 t2;have e4:w.drop (1+(rs d r q).2).toNat=r1:=by rw[q2,wd,q1];exact List.drop_left' (by unfold ls;rw[akK])
    refine⟨r2,?_,?_⟩
    .rw[e];show _=ls (dD op::(aI x++aI y))++_;rw[ZW];refine congrArg _ (q1.trans (congrArg _ ?_));rw[← q3];exact e4.symm
    .rw[q4,q2];show _=(((dD op::(aI x++aI y)).length:Nat):Int);rw[aj6,aj1];omega
  rcases c with rfl|rfl|rfl|rfl|rfl|rfl|rfl|rfl|rfl
  .refine⟨.leaf (1,0,0,[],0,0,[],()),.inl rfl,rfl,(by show(0:Int)<1;decide),λ_=>⟨r,e,rfl⟩⟩
  .exact KY (.inl rfl)
  .exact U4 (.inl rfl)
  .exact U4 (.inr rfl)
  .have h:(bif (rs d r q).2==0 then((rs d r q).1,0)else(_,1+(rs d r q).2):List ax×Int).2≠0:=h;cases g:(rs d r q).2==0 with
   |true=>rw[g]at h;exact(h rfl).elim
   |false=>
    obtain⟨x,x1,x2,x3,x4⟩:=Pz d r q (aj2.1 g);have lx:(rs d r q).1.length=q.length+x.size:=by rw[x2,aj1,dZ]
    refine⟨.neg x,x1,?_,?_,λht=>?_⟩
    .show(rs d r q).1++[(5,((rs d r q).1.length:Int)-1,0,[],0,0,[],())]=q++(post x q.length++[_]);rw[lx,x2,aki]
    .show 0<1+(rs d r q).2;omega
    .obtain⟨r1,q1,q2⟩:=x4 ht;refine⟨r1,e.trans (congrArg _ q1),?_⟩;show 1+(rs d r q).2=((dD 5::aI x).length:Int);rw[q2,aj6];omega
  .have h:(bif (rs d r q).2==0 then((rs d r q).1,0)else bif (rs d (w.drop (1+(rs d r q).2).toNat) (rs d r q).1).2==0 then(_,0)else(_,_):List ax×Int).2≠0:=h;cases g:(rs d r q).2==0 with
   |true=>rw[g]at h;exact(h rfl).elim
   |false=>
    rw[g]at h;cases g2:(rs d (w.drop (1+(rs d r q).2).toNat) (rs d r q).1).2==0 with
    |true=>rw[g2]at h;exact(h rfl).elim
    |false=>exact ZV (.inl rfl) (aj2.1 g) (aj2.1 g2)
  .have h:(bif (rs d r q).2==0 then((rs d r q).1,0)else bif (rs d (w.drop (1+(rs d r q).2).toNat) (rs d r q).1).2==0 then(_,0)else(_,_):List ax×Int).2≠0:=h;cases g:(rs d r q).2==0 with
   |true=>rw[g]at h;exact(h rfl).elim
   |false=>
    rw[g]at h;cases g2:(rs d (w.drop (1+(rs d r q).2).toNat) (rs d r q).1).2==0 with
    |true=>rw[g2]at h;exact(h rfl).elim
    |false=>exact ZV (.inr rfl) (aj2.1 g) (aj2.1 g2)
  .exact KY (.inr (.inl rfl))
  .exact KY (.inr (.inr rfl))
end Sp
namespace Sp
open Go
def aW:Nat->List ax->Int->List Bytes
 |0,_,_=>[]
 |k+1,q,i=>
  bif (nodeAt q i.toNat).1==5 then dD (nodeAt q i.toNat).1::aW k q (nodeAt q i.toNat).2.1
  else bif (nodeAt q i.toNat).1==6||(nodeAt q i.toNat).1==7 then dD (nodeAt q i.toNat).1::(aW k q (nodeAt q i.toNat).2.1++aW k q (nodeAt q i.toNat).2.2.1)
  else gU (nodeAt q i.toNat)
def textOf(q:List ax):Bytes:=bif aC q then Lib.join (aW 9 q ((q.length:Int)-1)) [32]else[]
theorem La(l r:List ax)(n:ax):nodeAt (l++(n::r)) l.length=n:=by unfold nodeAt;rw[aj9,akH (aj8 _),amh];rfl
theorem Dh:∀(t:QT)(k:Nat)(l r:List ax),wU t->t.size<=k->aW k (l++(post t l.length++r)) (((l.length+t.size:Nat):Int)-1)=aI t
 |t,0,_,_,_,h=>absurd (size_pos t) (by omega)
 |.leaf n,k+1,l,r,hw,_=>by
  have hw:n.1=1\/n.1=2\/n.1=3\/n.1=4\/n.1=8\/n.1=9:=hw;show aW (k+1) (l++(n::r)) (((l.length+1:Nat):Int)-1)=gU n;rw[aW,show((((l.length+1:Nat):Int)-1).toNat)=l.length by omega,La];rw[show(n.1==5)=false from aj2.2 (by omega),show(n.1==6)=false from aj2.2 (by omega),show(n.1==7)=false from aj2.2 (by omega)];rfl
 |.neg t,k+1,l,r,hw,hk=>by
  have hk:t.size+1<=k+1:=hk;have ih:=Dh t k l ((5,((l.length+t.size:Nat):Int)-1,0,[],0,0,[],())::r) hw (by omega);have e:l++(post (.neg t) l.length++r)=l++(post t l.length++(((5,((l.length+t.size:Nat):Int)-1,0,[],0,0,[],()):ax)::r)):=by show l++((post t l.length++[_])++r)=_;rw[aki];rfl
  have en:nodeAt (l++(post (.neg t) l.length++r)) (l.length+t.size)=(5,((l.length+t.size:Nat):Int)-1,0,[],0,0,[],()):=by rw[e,← aki,show l.length+t.size=(l++post t l.length).length by rw[aj1,dZ]];exact La _ _ _
  rw[aW,show((((l.length+(QT.neg t).size:Nat):Int)-1).toNat)=l.length+t.size by show(((l.length+(t.size+1):Nat):Int)-1).toNat=_;omega,en,e];show dD 5::aW k _ _=dD 5::aI t;rw[ih]
 |.two op x y,k+1,l,r,⟨c,w1,w2⟩,hk=>by
  have hk:x.size+y.size+1<=k+1:=hk;generalize hn:((op,((l.length+x.size:Nat):Int)-1,((l.length+x.size+y.size:Nat):Int)-1,[],0,0,[],()):ax)=N;have e:l++(post (.two op x y) l.length++r)=l++(post x l.length++(post y (l.length+x.size)++(N::r))):=by show l++((post x l.length++(post y (l.length+x.size)++[_]))++r)=_;rw[hn,aki,aki];rfl
  have i1:=Dh x k l (post y (l.length+x.size)++(N::r)) w1 (by omega);have i2:=Dh y k (l++post x l.length) (N::r) w2 (by omega);rw[aj1,dZ,aki]at i2;have en:nodeAt (l++(post (.two op x y) l.length++r)) (l.length+x.size+y.size)=N:=by rw[e,← aki,← aki,show l.length+x.size+y.size=((l++post x l.length)++post y (l.length+x.size)).length by rw[aj1,aj1,dZ,dZ]];exact La _ _ _
  rw[aW,show((((l.length+(QT.two op x y).size:Nat):Int)-1).toNat)=l.length+x.size+y.size by show(((l.length+(x.size+y.size+1):Nat):Int)-1).toNat=_;omega,en,e];subst hn;dsimp only;rw[i1,i2];rcases c with rfl|rfl<;>rfl
theorem QN{n:ax}(a:Int)(hw:n.1=1\/n.1=2\/n.1=3\/n.1=4\/n.1=8\/n.1=9):dI n a=dI n 0:=by obtain⟨op,l,r,s,v⟩:=n;dsimp only at hw;rcases hw with rfl|rfl|rfl|rfl|rfl|rfl<;>rfl
theorem U6:∀(t:QT)(b:Nat),wU t->(∀n∈post t b,∃a,dI n a=true)->wV t
 |.leaf n,_,hw,h=>by
  obtain⟨a,ha⟩:=h n akh;show dI n 0=true;rw[← QN a hw];exact ha
 |.neg t,b,hw,h=>U6 t b hw λn hn=>h n (akR _ hn)
 |.two op x y,b,⟨_,w1,w2⟩,h=>⟨U6 x b w1 λn hn=>h n (akR _ hn),U6 y _ w2 λn hn=>h n (alg _ (akR _ hn))⟩
theorem BL{t:QT}(hw:wU t)(h:aC (post t 0)=true):wV t/\t.size<=9:=by refine⟨U6 t 0 hw λn hn=>?_,by have:=(ji h).2;rwa [dZ]at this⟩;obtain⟨i,hi,e⟩:=List.getElem_of_mem hn;refine⟨i,?_⟩;have:=(lF h hi).1;unfold nodeAt at this;rw[aj9,akd hi,e]at this;exact this
theorem aeA:∀t:QT,∃x r,aI t=x::r/\x≠[]
 |.leaf n=>⟨_,_,rfl,acB _⟩
 |.neg t=>⟨_,_,rfl,acB _⟩
 |.two op x y=>⟨_,_,rfl,acB _⟩
where acB (op:Int):dD op≠[]:=by unfold dD;cases op==1<;>cases op==2<;>cases op==3<;>cases op==4<;>cases op==5<;>cases op==6<;>cases op==7<;>cases op==8<;>cases op==9<;>intro h<;>cases h
theorem Xn{t:QT}(hw:wU t)(h:aC (post t 0)=true):textOf (post t 0)=Lib.join (aI t) [32]/\textOf (post t 0)≠[]:=by
 obtain⟨_,hs⟩:=BL hw h;have e:textOf (post t 0)=Lib.join (aI t) [32]:=by unfold textOf;rw[h,dZ];have:=Dh t 9 [] [] hw hs;rw[akz,akP,akn,akr]at this;show Lib.join (aW 9 (post t 0) ((t.size:Int)-1)) [32]=_;rw[this]
 refine⟨e,?_⟩;obtain⟨x,r,ew,hx⟩:=aeA t;rw[e,ew,Lib.join_cons];intro h0;exact hx (akO.1 h0).1
def qV(w:LS):Bool×LS×List ax:=rd (w.length+1) w []
def dV(s:Bytes):Bool:=dN s&&((qV (wordsOf s)).1&&(!decide (((qV (wordsOf s)).2.1.length:Int)>0)&&aC (qV (wordsOf s)).2.2))
def dJ(s:Bytes):List ax:=bif dV s then(qV (wordsOf s)).2.2 else[]
def Pn(s:Bytes):Bool:=dN s&&((rs 10 (wordsOf s) []).2==((wordsOf s).length:Int)&&(!(textOf (rs 10 (wordsOf s) []).1==[])&&textOf (rs 10 (wordsOf s) []).1==eF (wordsOf s)))
theorem adx(w:List Bytes):(ls w).map (·.1)=w:=by unfold ls;rw[aly];exact List.map_id' w
theorem Lc(s:Bytes):dV s=true↔dN s=true/\∃t,wU t/\aC (post t 0)=true/\wordsOf s=ls (aI t):=by
 unfold dV;rw[aj0,aj0,aj0,alu,akA];refine amG λ_=>⟨λ⟨h1,h2,h3⟩=>?_,λ⟨t,hw,hq,e⟩=>?_⟩
 .obtain⟨t,hw,e,h⟩:=Py _ _ _ h1;have e:(qV (wordsOf s)).2.2=post t 0:=e;rw[e]at h3;have hr:(qV (wordsOf s)).2.1=[]:=akL.1 (by omega);have h:wV t->wordsOf s=ls (aI t)++(qV (wordsOf s)).2.1:=h;exact⟨t,hw,h3,by rw[h (BL hw h3).1,hr,akz]⟩
 .have e1:=FN t ((wordsOf s).length+1) [] [] hw (BL hw hq).1 (by rw[akz,← e];exact alB _);rw[akz,← e]at e1;have e1:qV (wordsOf s)=(true,[],post t 0):=e1;rw[e1];exact⟨rfl,(by show ¬((0:Nat):Int)>0;decide),hq⟩
theorem ZX{s:Bytes}{t:QT}(hw:wU t)(hq:aC (post t 0)=true)(e:wordsOf s=ls (aI t)):qV (wordsOf s)=(true,[],post t 0):=by have e1:=FN t ((wordsOf s).length+1) [] [] hw (BL hw hq).1 (by rw[akz,← e];exact alB _);rw[akz,← e]at e1;exact e1
theorem afb{s:Bytes}{t:QT}(hw:wU t)(hq:aC (post t 0)=true)(e:wordsOf s=ls (aI t)):rs 10 (wordsOf s) []=(post t 0,((wordsOf s).length:Int)):=by obtain⟨ho,hs⟩:=BL hw hq;have e1:=KZ t 10 [] [] hw ho (by omega) (by rw[akn];omega);rw[akz,← e]at e1;rw[e1,e];unfold ls;rw[akK];rfl
theorem UE(s:Bytes):Pn s=dV s:=by
 rw[akC,Lc];unfold Pn;rw[aj0,aj0,aj0,alu,akq,akq,aj2];refine amG λ_=>⟨λ⟨h1,h2,h3⟩=>?_,λ⟨t,hw,hq,e⟩=>?_⟩
 .have hq:aC (rs 10 (wordsOf s) []).1=true:=by
   cases h:aC (rs 10 (wordsOf s) []).1 with
   |true=>rfl
   |false=>unfold textOf at h2;rw[h]at h2;exact(h2 rfl).elim
  by_cases h0:(rs 10 (wordsOf s) []).2=0
  .have:wordsOf s=[]:=akL.1 (by omega);rw[this]at hq;exact absurd hq (by decide)
  obtain⟨t,hw,e,hk,h⟩:=Pz _ _ _ h0;have e:(rs 10 (wordsOf s) []).1=post t 0:=e;rw[e]at hq;obtain⟨rest,q1,q2⟩:=h (BL hw hq).1;refine⟨t,hw,hq,?_⟩;rw[h1]at q2;have hl:=congrArg List.length q1;rw[aj1]at hl;have h3:(ls (aI t)).length=(aI t).length:=by unfold ls;rw[akK]
  have hr:rest=[]:=akL.1 (by omega);rw[q1,hr,akz]
 .obtain⟨q1,q2⟩:=Xn hw hq;rw[afb hw hq e];refine⟨rfl,q2,q1.trans ?_⟩;unfold eF;rw[e,adx]
theorem KG{s:Bytes}(h:dV s=true):(rs 10 (wordsOf s) []).1=(qV (wordsOf s)).2.2/\dJ s=(qV (wordsOf s)).2.2/\aC (dJ s)=true:=by
 obtain⟨_,t,hw,hq,e⟩:=(Lc s).1 h;have e2:dJ s=(qV (wordsOf s)).2.2:=by unfold dJ;rw[h];rfl
 rw[afb hw hq e,e2,ZX hw hq e];exact⟨rfl,rfl,hq⟩
end Sp
namespace Sp
open Go
def gV:Bytes:=[99,114,101,97,116,101]
def fV:Bytes:=[117,112,100,97,116,101]
def iO:Bytes:=[100,101,108,101,116,101]
def fG:Bytes:=[100,101,102,105,110,101]
def fQ:Bytes:=[117,110,100,101,102,105,110,101]
def Jy:Bytes->Bytes->LS
 |cur,[]=>[(cur,())]
 |cur,b::l=>bif b==10 then(cur,())::Jy [] l else Jy (cur++[b]) l
end Sp
namespace Sp
open Go
def fine(x:Bytes):Prop:=xI x/\x.all l7=true
theorem Di{n:Int}(h:aP n=true):fine (Lib.itoa n):=by refine⟨U2 h,?_⟩;rw[akk];intro b hb;have:=(oZ h).2.2.1 b hb;exact uO.2 (by omega)
theorem adQ:Lib.itoa 0=[48]:=by have:=ZP 0;have e:Lib.decDigits 0=[UInt8.ofNat (48+0)]:=Lib.decDigits_one (by decide);rw[e]at this;exact this
theorem FO{n:Int}(h:aP n=true):(Lib.itoa n).length<=10:=(oZ h).2.2.2.2
end Sp
namespace Sp
open Go
def dS(x:bV):bD:=(x.2.1,x.2.2.1,x.2.2.2.1,x.2.2.2.2.1,x.2.2.2.2.2.1,())
def wW(x:bV):Int:=x.2.2.2.2.2.2.1
def iQ(x:bV):dL:=(x.2.2.2.2.2.2.2.1,x.2.2.2.2.2.2.2.2.1,())
end Sp
namespace Sp
open Go
def jy(a:dH):Bool:=dK a.1&&(aU a.2.1 a.2.2.1 a.2.2.2.1&&!(a.2.1==0))
def dR(f:bD):Bool:=f.2.2.2.2.1.all jy&&(aP f.1&&(aP f.2.1&&aP f.2.2.2.1))
def dh:List dH->List Bytes
 |[]=>[]
 |a::r=>a.1::aV a.2::dh r
def bJ(f:bD):List Bytes:=Lib.itoa f.2.1::(bif f.2.2.1 then[115]else[111])::Lib.itoa f.2.2.2.1::dh f.2.2.2.2.1
def fD:bD:=(0,0,false,0,[],())
def bT(k:Int)(f:bD)(id:Int)(nm:Bytes)(q:List ax):bV:=(k,f.1,f.2.1,f.2.2.1,f.2.2.2.1,f.2.2.2.2.1,id,nm,q,())
def fP(q:List ax):Bool:=aC q&&decide (dJ (textOf q)=q)
def Eh(x:bV):Bool:=(iQ x).1==[]&&(iQ x).2.1.isEmpty
def aZ(x:bV):List Bytes:=
 bif x.1==1&&(dR (dS x)&&((dS x).1==0&&(wW x==0&&Eh x)))then gV::bJ (dS x)
 else bif x.1==2&&(dR (dS x)&&(wW x==0&&Eh x))then fV::Lib.itoa (dS x).1::bJ (dS x)
 else bif x.1==3&&(decide (dS x=fD)&&(aP (wW x)&&Eh x))then[iO,Lib.itoa (wW x)]
 else bif x.1==4&&(decide (dS x=fD)&&(wW x==0&&(aG (iQ x).1&&fP (iQ x).2.1)))then fG::(iQ x).1::aW 9 (iQ x).2.1 (((iQ x).2.1.length:Int)-1)
 else bif x.1==5&&(decide (dS x=fD)&&(wW x==0&&(aG (iQ x).1&&(iQ x).2.1.isEmpty)))then[fQ,(iQ x).1]
 else[]
def aX(x:bV):Bytes:=Lib.join (aZ x) [32]
theorem qX{s:Bytes}(h:dK s=true):aG s=true:=by unfold dK at h;unfold aG;rw[aj0,aj0,akf,akf]at h ⊢;exact⟨h.1,by omega⟩
theorem oV{s:Bytes}(h:aG s=true):fine s:=by refine⟨aaF h,?_⟩;unfold aG lower at h;rw[aj0,aj0,akk]at h;rw[akk];intro b hb;have:=h.1.1 b hb;rw[aj0,akf,akf]at this;rw[uO];omega
theorem ZY{v:wS}(h:aU v.1 v.2.1 v.2.2.1=true)(h0:v.1≠0):fine (aV v):=by
 unfold aV;rw[h];rcases aez h h0 with⟨n,rfl,a,b⟩|⟨s,rfl,a⟩
 .exact Di (by unfold aP;rw[aku a,aku (show n<=1000000000 by omega)];rfl)
 .exact oV a
theorem Ld{a:dH}:jy a=true↔dK a.1=true/\aU a.2.1 a.2.2.1 a.2.2.2.1=true/\a.2.1≠0:=by unfold jy;rw[aj0,aj0,alu,aj2]
theorem xM{f:bD}:dR f=true↔(∀a∈f.2.2.2.2.1,jy a=true)/\aP f.1=true/\aP f.2.1=true/\aP f.2.2.2.1=true:=by unfold dR;rw[aj0,aj0,aj0,akk]
theorem U7:∀as:List dH,(∀a∈as,jy a=true)->∀y∈dh as,fine y
 |[],_,y,hy=>by cases hy
 |a::r,h,y,hy=>by
  obtain⟨h1,h2,h3⟩:=Ld.1 (h a akh);rcases akm.1 hy with rfl|hy
  .exact oV (qX h1)
  rcases akm.1 hy with rfl|hy
  .exact ZY h2 h3
  .exact U7 r (λb hb=>h b (akg _ hb)) y hy
theorem afN(b:Bool):fine (bif b then[115]else[111]):=by cases b<;>exact⟨⟨by decide,by decide⟩,by decide⟩
theorem Xo{f:bD}(h:dR f=true):∀y∈bJ f,fine y:=by
 obtain⟨h1,h2,h3,h4⟩:=xM.1 h;intro y hy;rcases akm.1 hy with rfl|hy
 .exact Di h3
 rcases akm.1 hy with rfl|hy
 .exact afN _
 rcases akm.1 hy with rfl|hy
 .exact Di h4
 .exact U7 _ h1 y hy
theorem adR{n:ax}(h:dI n 0=true)(hw:n.1=1\/n.1=2\/n.1=3\/n.1=4\/n.1=8\/n.1=9):n.1=1\/fine n.2.2.2.1:=by
 obtain⟨op,l,r,s,k,m,t,⟨⟩⟩:=n;dsimp only at hw ⊢;rcases hw with rfl|rfl|rfl|rfl|rfl|rfl
 .exact .inl rfl
 .have h:((l==0&&r==0)&&(k==0&&(m==0&&t==[]))&&dK s)=true:=h;rw[aj0]at h;exact .inr (oV (qX h.2))
 .have h:((l==0&&r==0)&&dK s&&aU k m t&&!(k==0))=true:=h;rw[aj0,aj0,aj0]at h;exact .inr (oV (qX h.1.1.2))
 .have h:((l==0&&r==0)&&dK s&&aU k m t&&k==1)=true:=h;rw[aj0,aj0,aj0]at h;exact .inr (oV (qX h.1.1.2))
 .have h:((l==0&&r==0)&&(k==0&&(m==0&&t==[]))&&aG s)=true:=h;rw[aj0]at h;exact .inr (oV h.2)
 .have h:((l==0&&r==0)&&(k==0&&(m==0&&t==[]))&&aG s)=true:=h;rw[aj0]at h;exact .inr (oV h.2)
theorem FP(op:Int):fine (dD op):=by unfold dD;cases op==1<;>cases op==2<;>cases op==3<;>cases op==4<;>cases op==5<;>cases op==6<;>cases op==7<;>cases op==8<;>cases op==9<;>exact⟨⟨by decide,by decide⟩,by decide⟩
theorem BV:∀t:QT,wU t->wV t->∀y∈aI t,fine y
 |.leaf n,hw,ho,y,hy=>by
  have hg:=adR ho hw;have hy:y∈gU n:=hy;rcases qW ho hw with rfl|⟨op,s,rfl,c,hs⟩|⟨op,s,v,rfl,c,hs,hv,h0⟩
  .have:y=dD 1:=ak2.1 hy;rw[this];exact FP 1
  .rw[xK c]at hy;rcases akm.1 hy with rfl|hy
   .exact FP op
   .rw[ak2.1 hy];exact hg.resolve_left (by dsimp only;omega)
  .rw[zN c]at hy;rcases akm.1 hy with rfl|hy
   .exact FP op
   rcases akm.1 hy with rfl|hy
   .exact hg.resolve_left (by dsimp only;omega)
   .rw[ak2.1 hy];exact ZY hv h0
 |.neg t,hw,ho,y,hy=>by
  rcases akm.1 (show y∈dD 5::aI t from hy)with rfl|hy
  .exact FP 5
  .exact BV t hw ho y hy
 |.two op a b,⟨_,w1,w2⟩,⟨o1,o2⟩,y,hy=>by
  rcases akm.1 (show y∈dD op::(aI a++aI b)from hy)with rfl|hy
  .exact FP op
  rcases akS.1 hy with hy|hy
  .exact BV a w1 o1 y hy
  .exact BV b w2 o2 y hy
theorem Xp{q:List ax}(h:fP q=true):∃t,wU t/\wV t/\q=post t 0/\aW 9 q ((q.length:Int)-1)=aI t/\textOf q=Lib.join (aI t) [32]:=by
 unfold fP at h;rw[aj0,akf]at h;obtain⟨h1,h2⟩:=h;have hp:dV (textOf q)=true:=by
  cases hp:dV (textOf q)with
  |true=>rfl
  |false=>unfold dJ at h2;rw[hp]at h2;rw[← h2]at h1;have h1:aC []=true:=h1;exact absurd h1 (by decide)
 obtain⟨_,t,hw,hq,e⟩:=(Lc _).1 hp;have eq:q=post t 0:=by rw[← h2,(KG hp).2.1,ZX hw hq e]
 obtain⟨ho,hs⟩:=BL hw hq;refine⟨t,hw,ho,eq,?_,by rw[eq];exact(Xn hw hq).1⟩;have:=Dh t 9 [] [] hw hs;rw[akz,akP,akn,akr]at this;rw[eq,dZ];exact this
theorem Le(x:bV):∀y∈aZ x,fine y:=by
 intro y hy;unfold aZ at hy;cases h1:x.1==1&&(dR (dS x)&&((dS x).1==0&&(wW x==0&&Eh x)))with
 |true=>
  rw[h1]at hy;rw[aj0,aj0]at h1;rcases akm.1 hy with rfl|hy
  .exact⟨⟨by decide,by decide⟩,by decide⟩
  .exact Xo h1.2.1 y hy
 |false=>
 rw[h1]at hy;cases h2:x.1==2&&(dR (dS x)&&(wW x==0&&Eh x))with
 |true=>
  rw[h2]at hy;rw[aj0,aj0]at h2;rcases akm.1 hy with rfl|hy
  .exact⟨⟨by decide,by decide⟩,by decide⟩
  rcases akm.1 hy with rfl|hy
  .exact Di (xM.1 h2.2.1).2.1
  .exact Xo h2.2.1 y hy
 |false=>
 rw[h2]at hy;cases h3:x.1==3&&(decide (dS x=fD)&&(aP (wW x)&&Eh x))with
 |true=>
  rw[h3]at hy;rw[aj0,aj0,aj0]at h3;rcases akm.1 hy with rfl|hy
  .exact⟨⟨by decide,by decide⟩,by decide⟩
  .rw[ak2.1 hy];exact Di h3.2.2.1
 |false=>
 rw[h3]at hy;cases h4:x.1==4&&(decide (dS x=fD)&&(wW x==0&&(aG (iQ x).1&&fP (iQ x).2.1)))with
 |true=>
  rw[h4]at hy;rw[aj0,aj0,aj0,aj0]at h4;obtain⟨t,hw,ho,_,et,_⟩:=Xp h4.2.2.2.2;rcases akm.1 hy with rfl|hy
  .exact⟨⟨by decide,by decide⟩,by decide⟩
  rcases akm.1 hy with rfl|hy
  .exact oV h4.2.2.2.1
  .rw[et]at hy;exact BV t hw ho y hy
 |false=>
 rw[h4]at hy;cases h5:x.1==5&&(decide (dS x=fD)&&(wW x==0&&(aG (iQ x).1&&(iQ x).2.1.isEmpty)))with
 |true=>
  rw[h5]at hy;rw[aj0,aj0,aj0,aj0]at h5;rcases akm.1 hy with rfl|hy
  .exact⟨⟨by decide,by decide⟩,by decide⟩
  .rw[ak2.1 hy];exact oV h5.2.2.2.1
 |false=>rw[h5]at hy;cases hy
end Sp
namespace Sp
open Go
def fA:LS->List dH
 |[]=>[]
 |[x]=>[(x.1,(aO []).1)]
 |x::y::r=>(x.1,(aO y.1).1)::fA r
def qg:LS->Bool
 |[]=>true
 |[_]=>true
 |_::y::r=>(aO y.1).2&&qg r
def iP(id:Int)(r:LS):bD:=(id,numAt r 0,wordAt r 1==[115],numAt r 2,fA (r.drop 3),())
def jW(w:LS):bD×Bool:=
 bif decide ((w.length:Int)<4)||!(w.length%2==0)then(fD,false)
 else(iP (numAt w 0) (w.drop 1),(aQ (wordAt w 0)&&(aQ (wordAt w 1)&&aQ (wordAt w 3)))&&qg (w.drop 4))
def jV(w:LS):bV:=
 bif wordAt w 0==gV then bT 1 (iP 0 (w.drop 1)) 0 [] []else bif wordAt w 0==fV then bT 2 (iP (numAt w 1) (w.drop 2)) 0 [] []
 else bif wordAt w 0==iO then bT 3 fD (numAt w 1) [] []else bif wordAt w 0==fG then bT 4 fD 0 (wordAt w 1) (dJ (eF (w.drop 2)))
 else bif wordAt w 0==fQ then bT 5 fD 0 (wordAt w 1) []else bT 0 fD 0 [] []
def fJ(w:LS):bV×Bool:=
 bif wordAt w 0==gV then(bT 1 (jW (([48],())::w.drop 1)).1 0 [] [],(jW (([48],())::w.drop 1)).2)
 else bif wordAt w 0==fV then(bT 2 (jW (w.drop 1)).1 0 [] [],(jW (w.drop 1)).2)
 else bif wordAt w 0==iO then(bT 3 fD (numAt w 1) [] [],aQ (wordAt w 1))
 else bif wordAt w 0==fG then(bT 4 fD 0 (wordAt w 1) (dJ (eF (w.drop 2))),dV (eF (w.drop 2)))
 else bif wordAt w 0==fQ then(bT 5 fD 0 (wordAt w 1) [],true)else(bT 0 fD 0 [] [],true)
theorem Ei:∀as:List dH,(∀a∈as,jy a=true)->fA (ls (dh as))=as/\qg (ls (dh as))=true/\(dh as).length=2*as.length
 |[],_=>⟨rfl,rfl,rfl⟩
 |a::r,h=>by
  obtain⟨h1,h2,h3⟩:=Ld.1 (h a akh);obtain⟨i1,i2,i3⟩:=Ei r λb hb=>h b (akg _ hb);have e:=Ih (v:=a.2) h2 h3;refine⟨?_,?_,?_⟩
  .show(a.1,(aO (aV a.2)).1)::fA (ls (dh r))=_;rw[e,i1]
  .show((aO (aV a.2)).2&&qg (ls (dh r)))=true;rw[e,i2];rfl
  .show(dh r).length+1+1=2*(r.length+1);omega
theorem word2(x:Bytes×Unit)(y:Bytes×Unit)(r:LS):wordAt (x::y::r) 1=y.1:=by rw[AU,cu]
theorem afc(x y z:Bytes×Unit)(r:LS):wordAt (x::y::z::r) 2=z.1:=by rw[show(2:Int)=1+1 from rfl,yL _ _ 1 (by decide),word2]
theorem ahB(x y z u:Bytes×Unit)(r:LS):wordAt (x::y::z::u::r) 3=u.1:=by rw[show(3:Int)=2+1 from rfl,yL _ _ 2 (by decide),afc]
theorem adS{f:bD}(h:dR f=true)(id:Int):iP id (ls (bJ f))=(id,f.2):=by
 obtain⟨h1,h2,h3,h4⟩:=xM.1 h;obtain⟨i0,o,s,l,as,⟨⟩⟩:=f;have e0:numAt (ls (bJ (i0,o,s,l,as,()))) 0=o:=by show parseNum (wordAt ((Lib.itoa o,())::_) 0)=o;rw[cu];exact(oU h3).2
 have e1:(wordAt (ls (bJ (i0,o,s,l,as,()))) 1==[115])=s:=by show(wordAt ((Lib.itoa o,())::((bif s then[115]else[111]),())::_) 1==[115])=s;rw[word2];cases s<;>rfl
 have e2:numAt (ls (bJ (i0,o,s,l,as,()))) 2=l:=by show parseNum (wordAt ((Lib.itoa o,())::((bif s then[115]else[111]),())::(Lib.itoa l,())::_) 2)=l;rw[afc];exact(oU h4).2
 have e3:fA ((ls (bJ (i0,o,s,l,as,()))).drop 3)=as:=(Ei as h1).1;unfold iP;rw[e0,e1,e2,e3]
theorem U8{f:bD}(h:dR f=true):jW ((Lib.itoa f.1,())::ls (bJ f))=(f,true):=by
 obtain⟨h1,h2,h3,h4⟩:=xM.1 h;obtain⟨_,a2,a3⟩:=Ei _ h1;have hl:((Lib.itoa f.1,())::ls (bJ f)).length=4+2*f.2.2.2.2.1.length:=by show((Lib.itoa f.1,())::((Lib.itoa f.2.1,())::((bif f.2.2.1 then[115]else[111]),())::(Lib.itoa f.2.2.2.1,())::ls (dh f.2.2.2.2.1))).length=_;rw[aj6,aj6,aj6,aj6];unfold ls;rw[akK];omega
 have e0:wordAt ((Lib.itoa f.1,())::ls (bJ f)) 0=Lib.itoa f.1:=cu _ _;have e1:wordAt ((Lib.itoa f.1,())::ls (bJ f)) 1=Lib.itoa f.2.1:=word2 _ _ _;have e3:wordAt ((Lib.itoa f.1,())::ls (bJ f)) 3=Lib.itoa f.2.2.2.1:=ahB _ _ _ _ _;have ev:qg (((Lib.itoa f.1,())::ls (bJ f)).drop 4)=true:=a2;have ef:iP (numAt ((Lib.itoa f.1,())::ls (bJ f)) 0) (((Lib.itoa f.1,())::ls (bJ f)).drop 1)=f:=by show iP (numAt _ 0) (ls (bJ f))=f;rw[adS h];unfold numAt;rw[e0,(oU h2).2]
 unfold jW;rw[hl,e0,e1,e3,ev,ef,(oU h2).1,(oU h3).1,(oU h4).1,aky (by omega),show((4+2*f.2.2.2.2.1.length)%2==0)=true from akq.2 (by omega)];rfl
def passes(x:bV)(w:LS):Prop:=aX x≠[]/\aX x=eF w
theorem Z4{x:bV}{w:LS}(hs:∀y∈w,xI y.1)(h:passes x w):w=ls (aZ x)/\aZ x≠[]:=by obtain⟨h1,h2⟩:=h;have ht:tidy (aX x):=⟨aZ x,λy hy=>(Le x y hy).1,rfl⟩;have e:=(KX ht hs).2 h2;have e2:wordsOf (aX x)=ls (aZ x):=OO _ λy hy=>(Le x y hy).1;refine⟨by rw[← e,e2],λh0=>h1 ?_⟩;unfold aX;rw[h0];rfl
theorem Jz(k:Int)(f:bD)(id:Int)(nm:Bytes)(q:List ax):dS (bT k f id nm q)=f:=rfl
theorem ahC{f:bD}(h:aZ (bT 1 f 0 [] [])≠[]):dR f=true/\f.1=0/\aZ (bT 1 f 0 [] [])=gV::bJ f:=by
 have e:aZ (bT 1 f 0 [] [])=bif dR f&&(f.1==0&&true)then gV::bJ f else[]:=by unfold aZ;rw[Jz];cases dR f<;>cases f.1==0<;>rfl
 rw[e]at h ⊢;cases c:dR f&&(f.1==0&&true)with
 |false=>rw[c]at h;exact(h rfl).elim
 |true=>rw[aj0,alI,akq]at c;exact⟨c.1,c.2,rfl⟩
theorem ahD{f:bD}(h:aZ (bT 2 f 0 [] [])≠[]):dR f=true/\aZ (bT 2 f 0 [] [])=fV::Lib.itoa f.1::bJ f:=by
 have e:aZ (bT 2 f 0 [] [])=bif dR f then fV::Lib.itoa f.1::bJ f else[]:=by unfold aZ;rw[Jz];cases dR f<;>rfl
 rw[e]at h ⊢;cases c:dR f with
 |false=>rw[c]at h;exact(h rfl).elim
 |true=>exact⟨rfl,rfl⟩
theorem ahE{id:Int}(h:aZ (bT 3 fD id [] [])≠[]):aP id=true/\aZ (bT 3 fD id [] [])=[iO,Lib.itoa id]:=by
 have e:aZ (bT 3 fD id [] [])=bif aP id then[iO,Lib.itoa id]else[]:=by unfold aZ;rw[Jz,aku (rfl:fD=fD)];show(bif (3:Int)==3&&(true&&(aP id&&true))then[iO,Lib.itoa id]else _)=_;cases aP id<;>rfl
 rw[e]at h ⊢;cases c:aP id with
 |false=>rw[c]at h;exact(h rfl).elim
 |true=>exact⟨rfl,rfl⟩
theorem ahF{nm:Bytes}{q:List ax}(h:aZ (bT 4 fD 0 nm q)≠[]):aG nm=true/\fP q=true/\aZ (bT 4 fD 0 nm q)=fG::nm::aW 9 q ((q.length:Int)-1):=by
 have e:aZ (bT 4 fD 0 nm q)=bif aG nm&&fP q then fG::nm::aW 9 q ((q.length:Int)-1)else[]:=by unfold aZ;rw[Jz,aku (rfl:fD=fD)];show(bif (4:Int)==4&&(true&&(true&&(aG nm&&fP q)))then fG::nm::aW 9 q ((q.length:Int)-1)else _)=_;cases aG nm<;>cases fP q<;>rfl
 rw[e]at h ⊢;cases c:aG nm&&fP q with
 |false=>rw[c]at h;exact(h rfl).elim
 |true=>rw[aj0]at c;exact⟨c.1,c.2,rfl⟩
theorem ahG:aZ (bT 0 fD 0 [] [])=[]:=rfl
theorem abn{w:LS}(hs:∀y∈w,xI y.1)(h:passes (jV w) w):fJ w=(jV w,true)/\2<=w.length:=by
 obtain⟨e,hne⟩:=Z4 hs h;unfold jV at e hne ⊢;unfold fJ;cases h1:wordAt w 0==gV with
 |true=>
  rw[h1]at e hne;obtain⟨a1,a2,a3⟩:=ahC hne;have e:w=ls (aZ (bT 1 (iP 0 (w.drop 1)) 0 [] [])):=e;generalize hf:iP 0 (w.drop 1)=f at a1 a2 a3 e;rw[a3]at e;have e1:w.drop 1=ls (bJ f):=by rw[e];rfl
  have e2:((([48]:Bytes),())::w.drop 1)=(Lib.itoa f.1,())::ls (bJ f):=by rw[e1,a2,adQ]
  dsimp only[cond_true];rw[e2,U8 a1];refine⟨rfl,?_⟩;rw[e];show 2<=((gV,())::(Lib.itoa f.2.1,())::_:LS).length;rw[aj6,aj6];omega
 |false=>
 rw[h1]at e hne;cases h2:wordAt w 0==fV with
 |true=>
  rw[h2]at e hne;obtain⟨a1,a3⟩:=ahD hne;have e:w=ls (aZ (bT 2 (iP (numAt w 1) (w.drop 2)) 0 [] [])):=e;generalize hf:iP (numAt w 1) (w.drop 2)=f at a1 a3 e;rw[a3]at e;have e1:w.drop 1=(Lib.itoa f.1,())::ls (bJ f):=by rw[e];rfl
  dsimp only[cond_true,cond_false];rw[e1,U8 a1];refine⟨rfl,?_⟩;rw[e];show 2<=((fV,())::(Lib.itoa f.1,())::_:LS).length;rw[aj6,aj6];omega
 |false=>
 rw[h2]at e hne;cases h3:wordAt w 0==iO with
 |true=>
  rw[h3]at e hne;obtain⟨a1,a3⟩:=ahE hne;have e:w=ls (aZ (bT 3 fD (numAt w 1) [] [])):=e;rw[a3]at e;have e1:wordAt w 1=Lib.itoa (numAt w 1):=by have:=congrArg (λw=>wordAt w 1) e;exact this.trans (word2 _ _ _)
  dsimp only[cond_true,cond_false];rw[yK w 1 e1];refine⟨rfl,?_⟩;rw[e];exact aj8 2
 |false=>
 rw[h3]at e hne;cases h4:wordAt w 0==fG with
 |true=>
  rw[h4]at e hne;obtain⟨a1,a2,a3⟩:=ahF hne;have e:w=ls (aZ (bT 4 fD 0 (wordAt w 1) (dJ (eF (w.drop 2))))):=e;rw[a3]at e;have hp:dV (eF (w.drop 2))=true:=by
   cases hp:dV (eF (w.drop 2))with
   |true=>rfl
   |false=>unfold dJ at a2;rw[hp]at a2;exact absurd (show fP []=true from a2) (by unfold fP;rw[show aC []=false by decide];decide)
  dsimp only[cond_true,cond_false];rw[hp];refine⟨rfl,?_⟩;rw[e];show 2<=((fG,())::(wordAt w 1,())::_:LS).length;rw[aj6,aj6];omega
 |false=>
 rw[h4]at e hne;cases h5:wordAt w 0==fQ with
 |true=>
  rw[h5]at e hne;have e:w=ls (aZ (bT 5 fD 0 (wordAt w 1) [])):=e;have hne:aZ (bT 5 fD 0 (wordAt w 1) [])≠[]:=hne;refine⟨rfl,?_⟩;have e5:aZ (bT 5 fD 0 (wordAt w 1) [])=bif aG (wordAt w 1)then[fQ,wordAt w 1]else[]:=by unfold aZ;rw[Jz,aku (rfl:fD=fD)];show(bif (5:Int)==5&&(true&&(true&&(aG (wordAt w 1)&&true)))then[fQ,wordAt w 1]else[])=_;cases aG (wordAt w 1)<;>rfl
  rw[e5]at e hne;cases c:aG (wordAt w 1)with
  |false=>rw[c]at hne;exact(hne rfl).elim
  |true=>
   rw[c]at e;have hl:=congrArg List.length e;exact Nat.le_of_eq hl.symm
 |false=>rw[h5]at hne;exact(hne ahG).elim
theorem abo{w:LS}(hok:(fJ w).2=true)(h:aX (fJ w).1≠[]):fJ w=(jV w,true):=by
 have hf:∀w:LS,(jW w).2=true->(jW w).1=iP (numAt w 0) (w.drop 1):=λw hw=>by
  unfold jW at hw ⊢;cases c:decide ((w.length:Int)<4)||!(w.length%2==0)with
  |true=>rw[c]at hw;cases hw
  |false=>rfl
 have e:(fJ w).1=jV w:=by
  unfold fJ at hok ⊢;unfold jV;cases h1:wordAt w 0==gV with
  |true=>
   rw[h1]at hok;show bT 1 (jW (([48],())::w.drop 1)).1 0 [] []=bT 1 (iP 0 (w.drop 1)) 0 [] [];rw[hf _ hok];have:numAt (([48],())::w.drop 1) 0=0:=by unfold numAt;rw[cu,← adQ];exact(oU (n:=0) (by decide)).2
   rw[this];rfl
  |false=>
  rw[h1]at hok;cases h2:wordAt w 0==fV with
  |true=>
   rw[h2]at hok;show bT 2 (jW (w.drop 1)).1 0 [] []=bT 2 (iP (numAt w 1) (w.drop 2)) 0 [] [];rw[hf _ hok];have e1:numAt (w.drop 1) 0=numAt w 1:=by
    unfold numAt;cases w with
    |nil=>rw[List.drop_nil,uU 0 (by decide),uU 1 (by decide)]
    |cons x r=>rw[AU];rfl
   rw[e1,alq]
  |false=>
  cases h3:wordAt w 0==iO<;>cases h4:wordAt w 0==fG<;>cases h5:wordAt w 0==fQ<;>rfl
 exact alZ e hok
end Sp
namespace Sp
open Go
def cZ(b:UInt8):Bytes->Bytes->LS
 |cur,[]=>[(cur,())]
 |cur,x::l=>bif x==b then(cur,())::cZ b [] l else cZ b (cur++[x]) l
def pieces(b:UInt8)(s:Bytes):LS:=cZ b [] s
theorem OT:∀(l cur:Bytes),cZ 10 cur l=Jy cur l
 |[],_=>rfl
 |x::l,cur=>by
  show(bif x==10 then(cur,())::cZ 10 [] l else cZ 10 (cur++[x]) l)=bif x==10 then(cur,())::Jy [] l else Jy (cur++[x]) l
  rw[OT l [],OT l (cur++[x])]
theorem QO{b:UInt8}:∀(w cur l:Bytes),(∀x∈w,x≠b)->cZ b cur (w++l)=cZ b (cur++w) l
 |[],cur,l,_=>by rw[akz];rfl
 |x::w,cur,l,h=>by have hx:(x==b)=false:=aj2.2 (h x akh);show(bif x==b then(cur,())::cZ b [] (w++l)else cZ b (cur++[x]) (w++l))=_;rw[hx];show cZ b (cur++[x]) (w++l)=_;rw[QO w (cur++[x]) l λy hy=>h y (akg _ hy),aki];rfl
theorem U9{b:UInt8}{w:Bytes}(h:∀x∈w,x≠b)(l:Bytes):pieces b (w++b::l)=(w,())::pieces b l:=by unfold pieces;rw[QO w [] (b::l) h,akP];show(bif b==b then _ else _)=_;rw[ale];rfl
theorem dF(x y:Bytes)(r:List Bytes):Lib.join (x::y::r) [32]=x++32::Lib.join (y::r) [32]:=by rw[Lib.join_cons,Lib.join_cons];show x++([32]++y++Lib.joinTail [32] r)=_;rw[aki];rfl
theorem FQ(b:UInt8):∀(l cur:Bytes),0<(cZ b cur l).length
 |[],_=>Nat.one_pos
 |x::l,cur=>by
  show 0<(bif x==b then(cur,())::cZ b [] l else cZ b (cur++[x]) l).length;cases x==b with
  |true=>exact alO _
  |false=>exact FQ b l _
theorem Du(b:UInt8):∀(l cur:Bytes),Lib.join ((cZ b cur l).map (·.1)) [b]=cur++l
 |[],cur=>by
  show Lib.join [cur] [b]=_;rw[Lib.join_cons];rfl
 |x::l,cur=>by
  show Lib.join ((bif x==b then(cur,())::cZ b [] l else cZ b (cur++[x]) l).map (·.1)) [b]=_;cases h:x==b with
  |false=>
   show Lib.join ((cZ b (cur++[x]) l).map (·.1)) [b]=_;rw[Du b l (cur++[x]),aki];rfl
  |true=>
   have hx:x=b:=akq.1 h;have ih:=Du b l [];have hp:=FQ b l [];cases e:cZ b [] l with
   |nil=>rw[e]at hp;exact absurd hp (amO 0)
   |cons y r=>rw[e]at ih;show Lib.join (cur::((y::r).map (·.1))) [b]=_;rw[ako]at ih ⊢;rw[Lib.join_cons]at ih ⊢;show cur++([b]++y.1++Lib.joinTail [b] (r.map (·.1)))=_;rw[aki,ih,hx];rfl
theorem aaI(s:Bytes):eF (pieces 32 s)=s:=by unfold eF pieces;rw[Du,akP]
def bU:List dH->Bytes
 |[]=>[]
 |a::r=>32::(a.1++32::(aV a.2++bU r))
theorem Va:∀as:List dH,Lib.joinTail [32] (dh as)=bU as
 |[]=>rfl
 |a::r=>by show[32]++a.1++([32]++aV a.2++Lib.joinTail [32] (dh r))=_;rw[Va r];show _=32::(a.1++32::(aV a.2++bU r));simp
theorem ady{as:List dH}{n:Nat}(h:n<as.length):bU (as.take (n+1))=bU (as.take n)++32::((as.getD n ([],0,0,[],())).1++32::aV (as.getD n ([],0,0,[],())).2):=by
 induction as generalizing n with
 |nil=>exact absurd h (ak0 _)
 |cons a r ih=>
  cases n with
  |zero=>
   show 32::(a.1++32::(aV a.2++[]))=[]++32::(a.1++32::aV a.2);rw[akz];rfl
  |succ n=>
   have h:n<r.length:=by rw[aj6]at h;omega
   show 32::(a.1++32::(aV a.2++bU (r.take (n+1))))=(32::(a.1++32::(aV a.2++bU (r.take n))))++_;rw[ih h];show _=32::(a.1++32::(aV a.2++bU (r.take n)))++32::((r.getD n ([],0,0,[],())).1++32::aV (r.getD n ([],0,0,[],())).2);simp
theorem Xf(f:bD):Lib.join (bJ f) [32]=Lib.itoa f.2.1++32::((bif f.2.2.1 then[115]else[111])++32::(Lib.itoa f.2.2.2.1++bU f.2.2.2.2.1)):=by unfold bJ;rw[dF,dF,Lib.join_cons,Va]
def AP:Bytes:=[102,105,108,101]
def dW(f:bD):Bytes:=Lib.join (AP::Lib.itoa f.1::bJ f) [32]
theorem Z5(n:Int):∀x∈Lib.itoa n,x≠32:=by
 intro x hx e;subst e;have h:∀k:Nat,∀y∈Lib.decDigits k,48<=y.toNat:=λk y hy=>
  ((y7 k k (Nat.lt_trans (Nat.lt_pow_self (by decide)) (Nat.pow_lt_pow_right (by decide) (alB k)))).2.2.1 y hy).1
 unfold Lib.itoa at hx;split at hx
 .rcases akm.1 hx with h0|h0
  .exact absurd h0 (by decide)
  .exact absurd (h _ _ h0) (by decide)
 .exact absurd (h _ _ hx) (by decide)
theorem aaB(f:bD):(pieces 32 (dW f)).drop 2=pieces 32 (Lib.join (bJ f) [32])/\(pieces 32 (dW f)).drop 1=(Lib.itoa f.1,())::pieces 32 (Lib.join (bJ f) [32])/\2<=(pieces 32 (dW f)).length:=by
 have e:pieces 32 (dW f)=(AP,())::(Lib.itoa f.1,())::pieces 32 (Lib.join (bJ f) [32]):=by unfold dW;rw[dF,U9 (by decide)];unfold bJ;rw[dF,U9 (Z5 _)]
 rw[e];exact⟨rfl,rfl,by rw[aj6,aj6];omega⟩
end Sp
namespace Sp
open Go
theorem QD(kw s:Bytes):Lib.join (kw::(pieces 32 s).map (·.1)) [32]=kw++32::s:=by
 have h:=aaI s;have hp:=FQ 32 s [];unfold eF pieces at h;unfold pieces;cases e:cZ 32 [] s with
 |nil=>rw[e]at hp;exact absurd hp (amO 0)
 |cons y r=>rw[e]at h;rw[ako]at h ⊢;rw[dF,h]
theorem join_one(x:Bytes):Lib.join [x] [32]=x:=by rw[Lib.join_cons];exact akz x
theorem Z7:∀(a:List Bytes)(y:Bytes)(b:List Bytes),a≠[]->Lib.join (a++y::b) [32]=Lib.join a [32]++32::Lib.join (y::b) [32]
 |[],_,_,h=>(h rfl).elim
 |[x],y,b,_=>by rw[join_one];exact dF x y b
 |x::z::a,y,b,_=>by show Lib.join (x::z::(a++y::b)) [32]=_;rw[dF,dF];have:=Z7 (z::a) y b (by simp);rw[show z::(a++y::b)=(z::a)++y::b from rfl,this,aki];rfl
theorem Uu(x:Bytes){a:List Bytes}(h:a≠[]):Lib.join [x,Lib.join a [32]] [32]=Lib.join (x::a) [32]:=by
 cases a with
 |nil=>exact(h rfl).elim
 |cons y r=>rw[dF,join_one,dF]
theorem Uw(x:Bytes){a b:List Bytes}(h:a≠[])(g:b≠[]):Lib.join [x,Lib.join a [32],Lib.join b [32]] [32]=Lib.join (x::(a++b)) [32]:=by
 cases a with
 |nil=>exact(h rfl).elim
 |cons y r=>
  cases b with
  |nil=>exact(g rfl).elim
  |cons z s=>have:=Z7 (y::r) z s (by simp);rw[dF,dF,join_one];show _=Lib.join (x::y::(r++z::s)) [32];rw[dF];show _=x++32::Lib.join ((y::r)++z::s) [32];rw[this]
theorem zK(k:Nat)(q:List ax)(i:Int):aW (k+1) q i≠[]:=by
 rw[aW];cases (nodeAt q i.toNat).1==5 with
 |true=>exact amd _ _
 |false=>
  cases (nodeAt q i.toNat).1==6||(nodeAt q i.toNat).1==7 with
  |true=>exact amd _ _
  |false=>exact amd _ _
theorem Wq{n:ax}{a:Int}(h:dI n a=true)(c:n.1=5):0<=n.2.1/\n.2.1<a:=by obtain⟨op,l,r,s,k,m,t,⟨⟩⟩:=n;have c:op=5:=c;subst c;have h:((decide (0<=l)&&decide (l<=a-1)&&decide (0<a))&&r==0&&(s==[]&&(k==0&&(m==0&&t==[]))))=true:=h;rw[aj0,aj0,aj0,aj0,akf,akf]at h;have h1:=h.1.1.1;dsimp only;omega
theorem Ws{n:ax}{a:Int}(h:dI n a=true)(c:n.1=6\/n.1=7):(0<=n.2.1/\n.2.1<a)/\0<=n.2.2.1/\n.2.2.1<a:=by
 obtain⟨op,l,r,s,k,m,t,⟨⟩⟩:=n;have h:((decide (0<=l)&&decide (l<=a-1)&&decide (0<a))&&(decide (0<=r)&&decide (r<=a-1))&&(s==[]&&(k==0&&(m==0&&t==[]))))=true:=by
  rcases c with c|c
  .have c:op=6:=c;subst c;exact h
  .have c:op=7:=c;subst c;exact h
 simp only[aj0,akf]at h;have h1:=h.1.1.1;have h2:=h.1.2;dsimp only;omega
theorem wP{q:List ax}(h:aC q=true):∀(k j:Nat)(i:Int),0<=i->i.toNat<q.length->i.toNat<k->i.toNat<j->aW k q i=aW j q i
 |0,_,_,_,_,hk,_=>absurd hk (ak0 _)
 |_+1,0,_,_,_,_,hj=>absurd hj (ak0 _)
 |k+1,j+1,i,hi,hl,hk,hj=>by
  have hn:=(lF h hl).1;rw[aW,aW];cases c5:(nodeAt q i.toNat).1==5 with
  |true=>
   have hc:=Wq hn (akq.1 c5);show _::aW k q _=_::aW j q _;rw[wP h k j (nodeAt q i.toNat).2.1 hc.1 (by omega) (by omega) (by omega)]
  |false=>
  cases c6:(nodeAt q i.toNat).1==6||(nodeAt q i.toNat).1==7 with
  |true=>
   rw[ald,akq,akq]at c6;have hc:=Ws hn c6;show _::(aW k q _++aW k q _)=_::(aW j q _++aW j q _);rw[wP h k j (nodeAt q i.toNat).2.1 hc.1.1 (by omega) (by omega) (by omega),wP h k j (nodeAt q i.toNat).2.2.1 hc.2.1 (by omega) (by omega) (by omega)]
  |false=>rfl
def lG(w:List Bytes):Nat:=(w.map λx=>x.length+1).sum
theorem GZ:∀w:List Bytes,(Lib.join w [32]).length<=lG w
 |[]=>aj8 _
 |[x]=>by rw[join_one];show x.length<=x.length+1+0;omega
 |x::y::r=>by have:=GZ (y::r);rw[dF,aj1,aj6];show _<=x.length+1+lG (y::r);omega
theorem eu(x:Bytes)(r:List Bytes):lG (x::r)=x.length+1+lG r:=by unfold lG;rw[ako,amP]
theorem Z8(a b:List Bytes):lG (a++b)=lG a+lG b:=by unfold lG;rw[alv,List.sum_append]
theorem OU(op:Int):(dD op).length<=6:=by unfold dD;cases op==1<;>cases op==2<;>cases op==3<;>cases op==4<;>cases op==5<;>cases op==6<;>cases op==7<;>cases op==8<;>cases op==9<;>decide
theorem abp{v:wS}(h:aU v.1 v.2.1 v.2.2.1=true)(h0:v.1≠0):(aV v).length<=10:=by
 unfold aV;rw[h];rcases aez h h0 with⟨n,rfl,a,b⟩|⟨s,rfl,a⟩
 .exact FO (by unfold aP;rw[aku a,aku (show n<=1000000000 by omega)];rfl)
 .exact akb (oh a) (by decide)
theorem Z9{n:ax}(h:dI n 0=true)(hw:n.1=1\/n.1=2\/n.1=3\/n.1=4\/n.1=8\/n.1=9):lG (gU n)<=25:=by
 have hg:n.1=1\/n.2.2.2.1.length<=6:=by
  obtain⟨op,l,r,s,k,m,t,⟨⟩⟩:=n;dsimp only at hw ⊢;rcases hw with rfl|rfl|rfl|rfl|rfl|rfl
  .exact .inl rfl
  .have h:((l==0&&r==0)&&(k==0&&(m==0&&t==[]))&&dK s)=true:=h;rw[aj0]at h;exact .inr (oh (qX h.2))
  .have h:((l==0&&r==0)&&dK s&&aU k m t&&!(k==0))=true:=h;rw[aj0,aj0,aj0]at h;exact .inr (oh (qX h.1.1.2))
  .have h:((l==0&&r==0)&&dK s&&aU k m t&&k==1)=true:=h;rw[aj0,aj0,aj0]at h;exact .inr (oh (qX h.1.1.2))
  .have h:((l==0&&r==0)&&(k==0&&(m==0&&t==[]))&&aG s)=true:=h;rw[aj0]at h;exact .inr (oh h.2)
  .have h:((l==0&&r==0)&&(k==0&&(m==0&&t==[]))&&aG s)=true:=h;rw[aj0]at h;exact .inr (oh h.2)
 rcases qW h hw with rfl|⟨op,s,rfl,c,hs⟩|⟨op,s,v,rfl,c,hs,hv,h0⟩
 .decide
 .have hl:s.length<=6:=hg.resolve_left (by dsimp only;omega);have hk:=OU op;rw[xK c,eu,eu];show _+(_+0)<=25;omega
 .have hl:s.length<=6:=hg.resolve_left (by dsimp only;omega);have hk:=OU op;have hq:=abp hv h0;rw[zN c,eu,eu,eu];show _+(_+(_+0))<=25;omega
theorem Dj{q:List ax}(h:aC q=true):∀(k:Nat)(i:Int),0<=i->i.toNat<q.length->lG (aW k q i)+7<=24*2 ^ k
 |0,_,_,_=>by show 0+7<=24*1;decide
 |k+1,i,hi,hl=>by
  have hn:=(lF h hl).1;have hk:=OU (nodeAt q i.toNat).1;have hp:1<=2 ^ k:=amk;have e2:2 ^ (k+1)=2*2 ^ k:=by rw[Nat.pow_succ,amj]
  rw[aW];cases c5:(nodeAt q i.toNat).1==5 with
  |true=>
   have hc:=Wq hn (akq.1 c5);have ih:=Dj h k (nodeAt q i.toNat).2.1 hc.1 (by omega);show lG (_::_)+7<=_;rw[eu];omega
  |false=>
  cases c6:(nodeAt q i.toNat).1==6||(nodeAt q i.toNat).1==7 with
  |true=>
   rw[ald,akq,akq]at c6;have hc:=Ws hn c6;have i1:=Dj h k (nodeAt q i.toNat).2.1 hc.1.1 (by omega);have i2:=Dj h k (nodeAt q i.toNat).2.2.1 hc.2.1 (by omega);show lG (_::(_++_))+7<=_;rw[eu,Z8];omega
  |false=>
   rw[alb,aj2,aj2]at c6;have c5:=aj2.1 c5;have hw:(nodeAt q i.toNat).1=1\/(nodeAt q i.toNat).1=2\/(nodeAt q i.toNat).1=3\/(nodeAt q i.toNat).1=4\/(nodeAt q i.toNat).1=8\/(nodeAt q i.toNat).1=9:=by
    generalize nodeAt q i.toNat=n at hn c5 c6;obtain⟨op,l,r,s,k,m,t,⟨⟩⟩:=n;dsimp only at c5 c6 ⊢;by_cases a1:op=1
    .exact .inl a1
    by_cases a2:op=2
    .exact .inr (.inl a2)
    by_cases a3:op=3
    .exact .inr (.inr (.inl a3))
    by_cases a4:op=4
    .exact .inr (.inr (.inr (.inl a4)))
    by_cases a8:op=8
    .exact .inr (.inr (.inr (.inr (.inl a8))))
    by_cases a9:op=9
    .exact .inr (.inr (.inr (.inr (.inr a9))))
    unfold dI at hn;dsimp only at hn;rw[aj2.2 a1,aj2.2 a2,aj2.2 a3,aj2.2 a4,aj2.2 c5,aj2.2 c6.1,aj2.2 c6.2,aj2.2 a8,aj2.2 a9]at hn;cases hn
   have:=Z9 (by rw[← QN _ hw];exact hn) hw;show lG (gU _)+7<=_;omega
theorem Ef(q:List ax):(textOf q).length<=12288:=by
 unfold textOf;cases h:aC q with
 |false=>exact ake _
 |true=>have hl:=ji h;have:=Dj h 9 ((q.length:Int)-1) (by omega) (by omega);exact akb (GZ _) (by show lG (aW 9 q _)<=12288;omega)
end Sp
namespace Sp
open Go
def dO(s:Bytes):Bool:=dN s&&(!(wordsOf s==[])&&((fJ (wordsOf s)).2&&(!(aX (fJ (wordsOf s)).1==[])&&decide (wordsOf (aX (fJ (wordsOf s)).1)=wordsOf s))))
def fM(s:Bytes):bV:=bif dO s then(fJ (wordsOf s)).1 else bT 0 fD 0 [] []
def FD(s:Bytes):Bool:=dN s&&(!decide (((wordsOf s).length:Int)<2)&&(!(aX (jV (wordsOf s))==[])&&aX (jV (wordsOf s))==eF (wordsOf s)))
theorem aac(x:bV):tidy (aX x):=⟨aZ x,λy hy=>(Le x y hy).1,rfl⟩
theorem adB(x:bV):mY (aX x)=true:=acz _ λy hy=>Zh (Le x y hy).2
theorem KP(s:Bytes):FD s=dO s:=by
 have hs:=XO s;rw[akC];unfold FD dO;simp only[aj0,alu,aj2,akq,akf,akA];refine amG λ_=>⟨λ⟨h1,h2,h3⟩=>?_,λ⟨h1,h2,h3,h4⟩=>?_⟩
 .obtain⟨e,hl⟩:=abn hs ⟨h2,h3⟩;rw[e];refine⟨λh0=>?_,rfl,h2,(KX (aac _) hs).2 h3⟩;rw[h0]at hl;exact absurd hl (by decide)
 .have e:=abo h2 h3;rw[e]at h3 h4;have h5:=(KX (aac _) hs).1 h4;obtain⟨_,hl⟩:=abn hs ⟨h3,h5⟩;exact⟨by omega,h3,h5⟩
theorem Ie{s:Bytes}(h:dO s=true):fM s=jV (wordsOf s)/\fM s=(fJ (wordsOf s)).1:=by
 have e1:fM s=(fJ (wordsOf s)).1:=by unfold fM;rw[h];rfl
 unfold dO at h;simp only[aj0,alu,aj2]at h;have e:=abo h.2.2.1 h.2.2.2.1;exact⟨by rw[e1,e],e1⟩
end Sp
namespace Sp
open Go
theorem AX:∀t:QT,wU t->wV t->(aI t).length<=2*t.size+1/\lG (aI t)<=32*t.size
 |.leaf n,hw,ho=>by
  have h:=Z9 ho hw;refine⟨?_,show lG (gU n)<=32*1 by omega⟩;show(gU n).length<=2*1+1;unfold gU;cases n.1==2||(n.1==8||n.1==9)with
  |true=>show 2<=3;decide
  |false=>
   cases n.1==3||n.1==4 with
   |true=>show 3<=3;decide
   |false=>show 1<=3;decide
 |.neg t,hw,ho=>by
  obtain⟨h1,h2⟩:=AX t hw ho;have:=OU 5;refine⟨?_,?_⟩
  .show(aI t).length+1<=2*(t.size+1)+1;omega
  .show lG (dD 5::aI t)<=32*(t.size+1);rw[eu];omega
 |.two op a b,⟨_,w1,w2⟩,⟨o1,o2⟩=>by
  obtain⟨h1,h2⟩:=AX a w1 o1;obtain⟨h3,h4⟩:=AX b w2 o2;have:=OU op;refine⟨?_,?_⟩
  .show(aI a++aI b).length+1<=2*(a.size+b.size+1)+1;rw[aj1];omega
  .show lG (dD op::(aI a++aI b))<=32*(a.size+b.size+1);rw[eu,Z8];omega
theorem Vb:∀as:List dH,(∀a∈as,jy a=true)->lG (dh as)<=18*as.length
 |[],_=>aj8 _
 |a::r,h=>by obtain⟨h1,h2,h3⟩:=Ld.1 (h a akh);have i:=Vb r λb hb=>h b (akg _ hb);have l1:=oh (qX h1);have l2:=abp (v:=a.2) h2 h3;show lG (a.1::aV a.2::dh r)<=18*(r.length+1);rw[eu,eu];omega
theorem Xq{f:bD}(h:dR f=true):lG (bJ f)<=24+18*f.2.2.2.2.1.length/\(bJ f).length=3+2*f.2.2.2.2.1.length:=by
 obtain⟨h1,h2,h3,h4⟩:=xM.1 h;have i:=Vb _ h1;have l1:=FO h3;have l2:=FO h4;have l3:(bif f.2.2.1 then[115]else[111]:Bytes).length=1:=by cases f.2.2.1<;>rfl
 refine⟨?_,?_⟩
 .show lG (Lib.itoa f.2.1::(bif f.2.2.1 then[115]else[111])::Lib.itoa f.2.2.2.1::dh f.2.2.2.2.1)<=_;rw[eu,eu,eu];omega
 .show(dh f.2.2.2.2.1).length+1+1+1=_;rw[(Ei _ h1).2.2];omega
end Sp
namespace Sp
open Go
end Sp
namespace Sp
open Go
end Sp
namespace Sp
open Go
theorem BR(w:LS)(a i:Int)(ha:0<=a)(hi:0<=i):wordAt (w.drop a.toNat) i=wordAt w (a+i):=by
 by_cases h:a+i<(w.length:Int)
 .rw[jf h,jf (by rw[akp];omega),aj9,akF,aj9,show a.toNat+i.toNat=(a+i).toNat by omega]
 .rw[lU (show a+i>=(w.length:Int) by omega),lU (by rw[akp];omega)]
theorem GV:∀(d:Nat)(w:LS)(q:List ax),(rs d w q).1.length<=max (10+d) q.length/\0<=(rs d w q).2/\(rs d w q).2<3*2 ^ d
 |0,w,q=>⟨Nat.le_max_right _ _,alL _,by show(0:Int)<_;decide⟩
 |d+1,w,q=>by
  have hp:1<=2 ^ d:=amk;have e2:(3:Int)*2 ^ (d+1)=2*(3*2 ^ d):=by rw[Int.pow_succ];omega
  have e3:(1:Int)<=2 ^ d:=by exact_mod_cast hp
  rw[rs];cases h0:bI (wordAt w 0)==0||decide ((q.length:Int)>9)with
  |true=>exact⟨Nat.le_max_right _ _,alL _,by show(0:Int)<_;omega⟩
  |false=>
  rw[alb,akA]at h0;have hq:q.length<=9:=by omega
  have one:∀(x:ax)(k:Int),0<=k->k<=3->(q++[x],k).1.length<=max (10+(d+1)) q.length/\0<=(q++[x],k).2/\(q++[x],k).2<3*2 ^ (d+1):=λx k h1 h2=>
   ⟨by rw[aj1,aj6,akn];omega,h1,by show k<_;omega⟩
  cases bI (wordAt w 0)==2||(bI (wordAt w 0)==8||bI (wordAt w 0)==9)with
  |true=>exact one _ _ (by decide) (by decide)
  |false=>
  cases bI (wordAt w 0)==3||bI (wordAt w 0)==4 with
  |true=>exact one _ _ (by decide) (by decide)
  |false=>
  cases bI (wordAt w 0)==5||(bI (wordAt w 0)==6||bI (wordAt w 0)==7)with
  |false=>exact one _ _ (by decide) (by decide)
  |true=>
  have i1:=GV d (w.drop 1) q;show(bif (rs d (w.drop 1) q).2==0 then _ else _:List ax×Int).1.length<=_/\0<=(bif (rs d (w.drop 1) q).2==0 then _ else _:List ax×Int).2/\(bif (rs d (w.drop 1) q).2==0 then _ else _:List ax×Int).2<_;generalize rs d (w.drop 1) q=x at i1 ⊢;obtain⟨r,k⟩:=x;have i1:r.length<=max (10+d) q.length/\0<=k/\k<3*2 ^ d:=i1;have i2:=GV d (w.drop (1+k).toNat) r;cases k==0 with
  |true=>exact⟨by show r.length<=_;omega,alL _,by show(0:Int)<_;omega⟩
  |false=>
  cases bI (wordAt w 0)==5 with
  |true=>exact⟨by show(r++[_]).length<=_;rw[aj1,aj6,akn];omega,by show 0<=1+k;omega,by show 1+k<_;omega⟩
  |false=>
  show(bif (rs d (w.drop (1+k).toNat) r).2==0 then _ else _:List ax×Int).1.length<=_/\0<=(bif (rs d (w.drop (1+k).toNat) r).2==0 then _ else _:List ax×Int).2/\(bif (rs d (w.drop (1+k).toNat) r).2==0 then _ else _:List ax×Int).2<_;generalize rs d (w.drop (1+k).toNat) r=y at i2 ⊢;obtain⟨s,m⟩:=y;have i2:s.length<=max (10+d) r.length/\0<=m/\m<3*2 ^ d:=i2;cases m==0 with
  |true=>exact⟨by show s.length<=_;omega,alL _,by show(0:Int)<_;omega⟩
  |false=>exact⟨by show(s++[_]).length<=_;rw[aj1,aj6,akn];omega,by show 0<=1+k+m;omega,by show 1+k+m<_;omega⟩
theorem mW{n:Int}(h:(-9223372036854775808:Int)<=n/\n<=9223372036854775807):(Lib.itoa n).length<=21:=Lib.itoa_length_le n h.1 h.2
theorem aaJ{v:wS}:(aV v).length<=21+v.2.2.1.length:=by
 unfold aV;cases h:aU v.1 v.2.1 v.2.2.1 with
 |false=>show 1<=_;omega
 |true=>
  cases h1:v.1==1 with
  |true=>
   have h:=(afa (n:=v.2.1) (s:=v.2.2.1) (by rw[← akq.1 h1];exact h));exact akb (mW (by omega)) (Nat.le_add_right _ _)
  |false=>
   cases v.1==2 with
   |true=>show v.2.2.1.length<=_;omega
   |false=>show 1<=_;omega
theorem LX:∀as:List dH,(bU as).length<=23*Js as
 |[]=>aj8 _
 |a::r=>by have ih:=LX r;have hv:=@aaJ a.2;obtain⟨n,k,i,s,⟨⟩⟩:=a;have e:Js ((n,k,i,s,())::r)=1+(n.length+s.length)+Js r:=rfl;show(32::(n++32::(aV (k,i,s,())++bU r))).length<=_;have hv:(aV (k,i,s,())).length<=21+s.length:=hv;rw[aj6,aj1,aj6,aj1,e];omega
theorem V8{as:List dH}{n:Nat}:(bU (as.take n)).length<=(bU as).length:=by
 induction as generalizing n with
 |nil=>rw[List.take_nil];exact aj8 _
 |cons a r ih=>
  cases n with
  |zero=>exact ake _
  |succ n=>show(32::(a.1++32::(aV a.2++bU (r.take n)))).length<=(32::(a.1++32::(aV a.2++bU r))).length;have:=@ih n;simp only[aj6,aj1];omega
theorem FC{f:bD}(h1:(-9223372036854775808:Int)<=f.1/\f.1<=9223372036854775807)(h2:(-9223372036854775808:Int)<=f.2.1/\f.2.1<=9223372036854775807)(h3:(-9223372036854775808:Int)<=f.2.2.2.1/\f.2.2.2.1<=9223372036854775807):
 (dW f).length<=80+(bU f.2.2.2.2.1).length/\(Lib.join (bJ f) [32]).length<=47+(bU f.2.2.2.2.1).length:=by
 have q1:=mW h1;have q2:=mW h2;have q3:=mW h3;have e0:(bif f.2.2.1 then[115]else[111]:Bytes).length=1:=by cases f.2.2.1<;>rfl
 have hb:(Lib.join (bJ f) [32]).length<=47+(bU f.2.2.2.2.1).length:=by rw[Xf];simp only[aj6,aj1,e0];omega
 refine⟨?_,hb⟩;have e:dW f=AP++32::(Lib.itoa f.1++32::Lib.join (bJ f) [32]):=by unfold dW;rw[dF];unfold bJ;rw[dF]
 rw[e];simp only[aj6,aj1,show AP.length=4 from rfl];omega
def zA(x:bV):Prop:=(dS x).2.2.2.2.1.length<=1048576/\(bU (dS x).2.2.2.2.1).length<=1073741824/\(iQ x).1.length<=1048576/\(iQ x).2.1.length<=2000000
end Sp
namespace Sp
open Go
theorem QS:∀(sep:List UInt8)(k:Nat)(s:List UInt8),∃h t,Lib.splitK sep 0 k s=h::t
 |_,0,s=>⟨s,[],rfl⟩
 |sep,k+1,s=>by
  unfold Lib.splitK;split
  .exact⟨_,_,rfl⟩
  .exact⟨_,_,rfl⟩
theorem aeB(b c:UInt8)(l h:List UInt8)(t:List (List UInt8))(hb:b≠c)(e:Lib.splitK [c] 0 (Lib.count l [c]) l=h::t):Lib.splitK [c] 0 (Lib.count (b::l) [c]) (b::l)=(b::h)::t:=by
 rw[Lib.count_cons_ne b c l hb];have hp:([c]:List UInt8).isPrefixOf (b::l)=false:=by simp[List.isPrefixOf,alH hb]
 have hix:Lib.index (b::l) [c]=if Lib.index l [c]==-1 then -1 else Lib.index l [c]+1:=by rw[Lib.index,hp];simp
 cases hk:Lib.count l [c]with
 |zero=>rw[hk]at e;simp only[Lib.splitK,List.cons.injEq]at e ⊢;exact⟨⟨trivial,e.1⟩,e.2⟩
 |succ k=>
  rw[hk]at e;by_cases hm:Lib.index l [c]=-1
  .rw[Lib.count_miss hm]at hk;cases hk
  .have hge:=Lib.index_ge l [c];obtain⟨j,hj⟩:∃j:Nat,Lib.index l [c]=j:=⟨(Lib.index l [c]).toNat,by omega⟩;have hix':Lib.index (b::l) [c]=((j+1:Nat):Int):=by rw[hix,if_neg (λe=>hm (akq.1 e)),hj];omega
   simp only[Lib.splitK]at e ⊢;rw[hj,if_neg (λh=>by have:=akq.1 h;omega)]at e;rw[hix',if_neg (λh=>by have:=akq.1 h;omega)];simp only[List.cons.injEq,akG]at e ⊢;refine⟨?_,?_⟩
   .rw[← e.1];rfl
   .rw[← e.2];rfl
theorem aeC(c:UInt8)(l:List UInt8):Lib.splitK [c] 0 (Lib.count (c::l) [c]) (c::l)=[]::Lib.splitK [c] 0 (Lib.count l [c]) l:=by
 rw[Lib.count_cons_eq,amD];have hix:Lib.index (c::l) [c]=((0:Nat):Int):=by rw[Lib.index];simp[List.isPrefixOf]
 simp only[Lib.splitK];rw[hix,if_neg (by simp)];rfl
end Sp
namespace Sp
open Go
theorem BM(c:UInt8):∀(l cur h:Bytes)(t:List Bytes),Lib.splitK [c] 0 (Lib.count l [c]) l=h::t->(cZ c cur l).map (·.1)=(cur++h)::t
 |[],cur,h,t,e=>by
  have h0:Lib.count [] [c]=0:=Lib.count_one c [];rw[h0]at e;simp only[Lib.splitK,List.cons.injEq]at e;rw[← e.1,← e.2,akz];rfl
 |b::l,cur,h,t,e=>by
  obtain⟨h',t',e'⟩:=QS [c] (Lib.count l [c]) l;by_cases hb:b=c
  .obtain rfl:b=c:=hb;rw[aeC,List.cons.injEq]at e;have hl:cZ b cur (b::l)=(cur,())::cZ b [] l:=by rw[cZ,ale];rfl
   rw[hl,ako,BM b l [] h' t' e',← e.1,← e.2,e',akz,akP]
  .rw[aeB b c l h' t' hb e',List.cons.injEq]at e;have hl:cZ c cur (b::l)=cZ c (cur++[b]) l:=by rw[cZ,aj2.2 hb];rfl
   rw[hl,BM c l (cur++[b]) h' t' e',← e.1,← e.2,aki];rfl
theorem Y9(c:UInt8)(s:Bytes):(pieces c s).map (·.1)=Lib.split s [c]:=by obtain⟨h,t,e⟩:=QS [c] (Lib.count s [c]) s;unfold pieces Lib.split;rw[BM c s [] h t e,e,akP]
theorem Ii(c:UInt8):∀(l cur:Bytes)(x:Bytes×Unit),x∈cZ c cur l->x.1.length<=cur.length+l.length
 |[],cur,x,h=>by
  simp only[cZ,ak2]at h;subst h;simp
 |b::l,cur,x,h=>by
  rw[cZ]at h;cases hb:b==c with
  |true=>
   rw[hb]at h;rcases akm.1 h with rfl|h
   .simp
   .have:=Ii c l [] x h;simp at this ⊢;omega
  |false=>rw[hb]at h;have:=Ii c l (cur++[b]) x h;simp at this ⊢;omega
theorem adp{c:UInt8}{s:Bytes}:∀x∈pieces c s,x.1.length<=s.length:=λx hx=>by have:=Ii c s [] x hx;simpa using this
theorem FT(c:UInt8):∀(l cur:Bytes),(cZ c cur l).length<=l.length+1
 |[],cur=>aj8 _
 |b::l,cur=>by
  rw[cZ];cases b==c with
  |true=>have:=FT c l [];show _+1<=_;simp;omega
  |false=>have:=FT c l (cur++[b]);show(cZ c (cur++[b]) l).length<=_;simp;omega
theorem pieces_len(c:UInt8)(s:Bytes):(pieces c s).length<=s.length+1:=FT c s []
end Sp
namespace Sp
open Go
theorem Xd{n:ax}{a:Int}(hn:dI n a=true):(n.1=1\/n.1=2\/n.1=3\/n.1=4\/n.1=8\/n.1=9)\/n.1=5\/n.1=6\/n.1=7:=by
 obtain⟨op,l,r,s,k,m,t,⟨⟩⟩:=n;dsimp only;by_cases a1:op=1
 .omega
 by_cases a2:op=2
 .omega
 by_cases a3:op=3
 .omega
 by_cases a4:op=4
 .omega
 by_cases a5:op=5
 .omega
 by_cases a6:op=6
 .omega
 by_cases a7:op=7
 .omega
 by_cases a8:op=8
 .omega
 by_cases a9:op=9
 .omega
 unfold dI at hn;dsimp only at hn;rw[aj2.2 a1,aj2.2 a2,aj2.2 a3,aj2.2 a4,aj2.2 a5,aj2.2 a6,aj2.2 a7,aj2.2 a8,aj2.2 a9]at hn;cases hn
theorem aa8{q:List ax}{i:Int}(k:Nat)(c:(nodeAt q i.toNat).1=1\/(nodeAt q i.toNat).1=2\/(nodeAt q i.toNat).1=3\/(nodeAt q i.toNat).1=4\/(nodeAt q i.toNat).1=8\/(nodeAt q i.toNat).1=9):aW (k+1) q i=gU (nodeAt q i.toNat):=by rw[aW,aj2.2 (show(nodeAt q i.toNat).1≠5 by omega),aj2.2 (show(nodeAt q i.toNat).1≠6 by omega),aj2.2 (show(nodeAt q i.toNat).1≠7 by omega)];rfl
theorem adu{q:List ax}{i:Int}(h:aC q=true)(h0:0<=i)(hl:i<(q.length:Int))(c:(nodeAt q i.toNat).1=5):
 aW (i.toNat+1) q i=dD 5::aW ((nodeAt q i.toNat).2.1.toNat+1) q (nodeAt q i.toNat).2.1/\0<=(nodeAt q i.toNat).2.1/\(nodeAt q i.toNat).2.1<i:=by
 have hn:=(lF h (show i.toNat<q.length by omega)).1;have hk:=Wq hn c;have hk2:(nodeAt q i.toNat).2.1<i:=by have:=hk.2;omega
 refine⟨?_,hk.1,hk2⟩;rw[aW,akq.2 c,c,wP h i.toNat ((nodeAt q i.toNat).2.1.toNat+1) (nodeAt q i.toNat).2.1 hk.1 (by omega) (by omega) (by omega)];rfl
theorem adv{q:List ax}{i:Int}(h:aC q=true)(h0:0<=i)(hl:i<(q.length:Int))(c:(nodeAt q i.toNat).1=6\/(nodeAt q i.toNat).1=7):
 aW (i.toNat+1) q i=dD (nodeAt q i.toNat).1::(aW ((nodeAt q i.toNat).2.1.toNat+1) q (nodeAt q i.toNat).2.1++aW ((nodeAt q i.toNat).2.2.1.toNat+1) q (nodeAt q i.toNat).2.2.1)/\
  (0<=(nodeAt q i.toNat).2.1/\(nodeAt q i.toNat).2.1<i)/\0<=(nodeAt q i.toNat).2.2.1/\(nodeAt q i.toNat).2.2.1<i:=by
 have hn:=(lF h (show i.toNat<q.length by omega)).1;have hk:=Ws hn c;have e:((i.toNat:Nat):Int)=i:=by omega
 rw[e]at hk;refine⟨?_,hk.1,hk.2⟩;have hc:((nodeAt q i.toNat).1==6||(nodeAt q i.toNat).1==7)=true:=by rcases c with c|c<;>rw[c]<;>rfl
 rw[aW,aj2.2 (show(nodeAt q i.toNat).1≠5 by omega),hc,wP h i.toNat ((nodeAt q i.toNat).2.1.toNat+1) (nodeAt q i.toNat).2.1 hk.1.1 (by omega) (by omega) (by omega),
  wP h i.toNat ((nodeAt q i.toNat).2.2.1.toNat+1) (nodeAt q i.toNat).2.2.1 hk.2.1 (by omega) (by omega) (by omega)]
 rfl
theorem Zi{q:List ax}{i:Int}(h:aC q=true)(h0:0<=i)(hl:i<(q.length:Int)):(Lib.join (aW (i.toNat+1) q i) [32]).length<=12288:=by
 have:=(ji h).2;have hw:=Dj h (i.toNat+1) i h0 (by omega);have hp:2 ^ (i.toNat+1)<=2 ^ 9:=Nat.pow_le_pow_right (by decide) (by omega);refine akb (GZ _) ?_;have e:(2:Nat) ^ 9=512:=by decide
 omega
def AL(w:Bytes):Nat->Int
 |0=>0
 |k+1=>bif w==dD ((k:Int)+1)then(k:Int)+1 else AL w k
theorem UA(w:Bytes):AL w 9=bI w:=by
 rcases uP w with h|⟨h,e⟩
 .have no:∀op:Int,(op=1\/op=2\/op=3\/op=4\/op=5\/op=6\/op=7\/op=8\/op=9)->(w==dD op)=false:=λop ho=>aj2.2 λe=>by rw[e,tV ho]at h;omega
  rw[h];simp only[AL];rw[no _ (by decide),no _ (by decide),no _ (by decide),no _ (by decide),no _ (by decide),no _ (by decide),no _ (by decide),no _ (by decide),no _ (by decide)];rfl
 .rw[← e];rcases h with h|h|h|h|h|h|h|h|h<;>rw[h]<;>decide
theorem UB(w:Bytes):0<=bI w/\bI w<=9:=by rcases uP w with h|⟨h,_⟩<;>omega
theorem UH{as:List dH}{n:Nat}(h:n<as.length):dh (as.take (n+1))=dh (as.take n)++[(as.getD n ([],0,0,[],())).1,aV (as.getD n ([],0,0,[],())).2]:=by
 induction as generalizing n with
 |nil=>exact absurd h (ak0 _)
 |cons a r ih=>
  cases n with
  |zero=>rfl
  |succ n=>
   have h:n<r.length:=by rw[aj6]at h;omega
   show a.1::aV a.2::dh (r.take (n+1))=a.1::aV a.2::(dh (r.take n)++_);rw[ih h];rfl
theorem BJ:∀as:List dH,(dh as).length=2*as.length
 |[]=>rfl
 |a::r=>by show(dh r).length+1+1=2*(r.length+1);rw[BJ r];omega
end Sp
namespace Sp
open Go
theorem afO(x:bV)(hx:(dS x).2.2.2.2.1.length<=12):(aZ x).length<=40/\lG (aZ x)<=400:=by
 unfold aZ;cases h1:x.1==1&&(dR (dS x)&&((dS x).1==0&&(wW x==0&&Eh x)))with
 |true=>
  rw[aj0,aj0]at h1;obtain⟨b1,b2⟩:=Xq h1.2.1;show(gV::bJ (dS x)).length<=40/\lG (gV::bJ (dS x))<=400;rw[aj6,eu,b2];exact⟨by omega,by show 6+1+_<=400;omega⟩
 |false=>
 cases h2:x.1==2&&(dR (dS x)&&(wW x==0&&Eh x))with
 |true=>
  rw[aj0,aj0]at h2;obtain⟨b1,b2⟩:=Xq h2.2.1;have l1:=FO (xM.1 h2.2.1).2.1;show(fV::Lib.itoa (dS x).1::bJ (dS x)).length<=40/\lG (fV::Lib.itoa (dS x).1::bJ (dS x))<=400;rw[aj6,aj6,eu,eu,b2];exact⟨by omega,by show 6+1+_<=400;omega⟩
 |false=>
 cases h3:x.1==3&&(decide (dS x=fD)&&(aP (wW x)&&Eh x))with
 |true=>
  rw[aj0,aj0,aj0]at h3;have l1:=FO h3.2.2.1;show 2<=40/\lG [iO,Lib.itoa (wW x)]<=400;rw[eu,eu];exact⟨by decide,by show 6+1+(_+0)<=400;omega⟩
 |false=>
 cases h4:x.1==4&&(decide (dS x=fD)&&(wW x==0&&(aG (iQ x).1&&fP (iQ x).2.1)))with
 |true=>
  rw[aj0,aj0,aj0,aj0]at h4;obtain⟨t,hw,ho,eq,et,_⟩:=Xp h4.2.2.2.2;have hs:t.size<=9:=by have h:=h4.2.2.2.2;unfold fP at h;rw[aj0]at h;have:=(ji h.1).2;rw[eq,dZ]at this;exact this
  obtain⟨c1,c2⟩:=AX t hw ho;have l1:=oh h4.2.2.2.1;show(fG::(iQ x).1::aW 9 (iQ x).2.1 (((iQ x).2.1.length:Int)-1)).length<=40/\lG (fG::(iQ x).1::aW 9 (iQ x).2.1 (((iQ x).2.1.length:Int)-1))<=400;rw[et,aj6,aj6,eu,eu];exact⟨by omega,by show 6+1+_<=400;omega⟩
 |false=>
 cases h5:x.1==5&&(decide (dS x=fD)&&(wW x==0&&(aG (iQ x).1&&(iQ x).2.1.isEmpty)))with
 |true=>
  rw[aj0,aj0,aj0,aj0]at h5;have l1:=oh h5.2.2.2.1;show 2<=40/\lG [fQ,(iQ x).1]<=400;rw[eu,eu];exact⟨by decide,by show 8+1+(_+0)<=400;omega⟩
 |false=>exact⟨ake _,ake _⟩
theorem Zx(x:bV)(hx:(dS x).2.2.2.2.1.length<=12):(aX x).length<=400:=akb (GZ _) (afO x hx).2
theorem Vd(s:Bytes):(aO s).1.2.2.1.length<=s.length:=by
 unfold aO;cases aQ s with
 |true=>cases decide (parseNum s<=999)<;>exact ake _
 |false=>
  cases s==[45]with
  |true=>exact ake _
  |false=>cases aG s with
   |true=>exact aj8 _
   |false=>exact ake _
theorem JA(m:Nat):∀w:LS,(∀x∈w,x.1.length<=m)->2*(fA w).length<=w.length+1/\∀a∈fA w,a.1.length<=m/\a.2.2.2.1.length<=m
 |[],_=>⟨ake _,λa ha=>by cases ha⟩
 |[x],h=>⟨aj8 _,λa ha=>by
  rw[fA,ak2]at ha;subst ha;exact⟨h x akh,akb (Vd []) (ake _)⟩⟩
 |x::y::r,h=>by
  obtain⟨h1,h2⟩:=JA m r λz hz=>h z (akg _ (akg _ hz));refine⟨by show 2*((fA r).length+1)<=r.length+1+1+1;omega,λa ha=>?_⟩;rw[fA]at ha;rcases akm.1 ha with rfl|ha
  .exact⟨h x akh,akb (Vd y.1) (h y (akg _ akh))⟩
  .exact h2 a ha
theorem Xr(m:Nat):∀as:List dH,(∀a∈as,a.1.length<=m/\a.2.2.2.1.length<=m)->Js as<=(1+2*m)*as.length
 |[],_=>ake _
 |a::r,h=>by have ih:=Xr m r λb hb=>h b (akg _ hb);have h1:=h a akh;obtain⟨n,k,i,s,⟨⟩⟩:=a;have e:Js ((n,k,i,s,())::r)=1+(n.length+s.length)+Js r:=rfl;have h1:n.length<=m/\s.length<=m:=h1;rw[e,aj6,Nat.mul_add,amw];omega
theorem KQ(s:Bytes):(dJ s).length<=9:=by
 cases h:dV s with
 |true=>exact(ji (KG h).2.2).2
 |false=>unfold dJ;rw[h];exact ake _
theorem oq{k:Int}{f:bD}{id:Int}{nm:Bytes}{q:List ax}(h1:f.2.2.2.2.1.length<=12)(h2:∀a∈f.2.2.2.2.1,a.1.length<=1000/\a.2.2.2.1.length<=1000)(h3:nm.length<=1000)(h4:q.length<=9):
 zA (bT k f id nm q)/\(dS (bT k f id nm q)).2.2.2.2.1.length<=12:=by
 have e1:(dS (bT k f id nm q)).2.2.2.2.1=f.2.2.2.2.1:=rfl;have e2:(iQ (bT k f id nm q)).1=nm:=rfl;have e3:(iQ (bT k f id nm q)).2.1=q:=rfl;unfold zA;rw[e1,e2,e3];have hw:=Xr 1000 _ h2;have ht:=LX f.2.2.2.2.1;exact⟨⟨by omega,by omega,by omega,by omega⟩,h1⟩
theorem Ij{id:Int}{r:LS}(hl:r.length<=23)(hw:∀x∈r,x.1.length<=1000):(iP id r).2.2.2.2.1.length<=12/\∀a∈(iP id r).2.2.2.2.1,a.1.length<=1000/\a.2.2.2.1.length<=1000:=by
 obtain⟨h1,h2⟩:=JA 1000 (r.drop 3) λx hx=>hw x (ak6 hx);have:(r.drop 3).length<=20:=by rw[akp];omega
 exact⟨by show(fA (r.drop 3)).length<=12;omega,h2⟩
theorem QU{w:LS}(hl:w.length<=24)(hw:∀x∈w,x.1.length<=1000):(jW w).1.2.2.2.2.1.length<=12/\∀a∈(jW w).1.2.2.2.2.1,a.1.length<=1000/\a.2.2.2.1.length<=1000:=by
 unfold jW;cases decide ((w.length:Int)<4)||!(w.length%2==0)with
 |true=>exact⟨ake _,λa ha=>by cases ha⟩
 |false=>exact Ij (by rw[akp];omega) λx hx=>hw x (ak6 hx)
theorem Ve{w:LS}(hw:∀x∈w,x.1.length<=1000)(i:Int):(wordAt w i).length<=1000:=by
 by_cases hh:i<(w.length:Int)
 .rw[jf hh,aj9];cases e:w[i.toNat]? with
  |none=>exact ake _
  |some x=>exact hw x (akJ e)
 .rw[lU (by omega)];exact ake _
theorem iI:fD.2.2.2.2.1.length<=12/\∀a∈fD.2.2.2.2.1,a.1.length<=1000/\a.2.2.2.1.length<=1000:=⟨ake _,λa ha=>by cases ha⟩
theorem Zv{w:LS}(hl:w.length<=24)(hw:∀x∈w,x.1.length<=1000):zA (jV w)/\(dS (jV w)).2.2.2.2.1.length<=12:=by
 have hd:∀n,∀x∈w.drop n,x.1.length<=1000:=λn x hx=>hw x (ak6 hx);have n1:=Ve hw 1;unfold jV;cases wordAt w 0==gV with
 |true=>obtain⟨a,b⟩:=Ij (id:=0) (r:=w.drop 1) (by rw[akp];omega) (hd 1);exact oq a b (ake _) (ake _)
 |false=>
 cases wordAt w 0==fV with
 |true=>obtain⟨a,b⟩:=Ij (id:=numAt w 1) (r:=w.drop 2) (by rw[akp];omega) (hd 2);exact oq a b (ake _) (ake _)
 |false=>
 cases wordAt w 0==iO with
 |true=>exact oq iI.1 iI.2 (ake _) (ake _)
 |false=>
 cases wordAt w 0==fG with
 |true=>exact oq iI.1 iI.2 n1 (KQ _)
 |false=>
 cases wordAt w 0==fQ with
 |true=>exact oq iI.1 iI.2 n1 (ake _)
 |false=>exact oq iI.1 iI.2 (ake _) (ake _)
theorem OH{w:LS}(hl:w.length<=24)(hw:∀x∈w,x.1.length<=1000):zA (fJ w).1/\(dS (fJ w).1).2.2.2.2.1.length<=12:=by
 have hd:∀n,∀x∈w.drop n,x.1.length<=1000:=λn x hx=>hw x (ak6 hx);have n1:=Ve hw 1;unfold fJ;cases h0:wordAt w 0==gV with
 |true=>
  have hne:0<w.length:=by
   rcases Nat.eq_zero_or_pos w.length with e|e
   .rw[akL.1 e,uU 0 (alL _)]at h0;cases h0
   .exact e
  obtain⟨a,b⟩:=QU (w:=([48],())::w.drop 1) (by rw[aj6,akp];omega) λx hx=>by
   rcases akm.1 hx with rfl|hx
   .show 1<=1000;decide
   .exact hd 1 x hx
  exact oq a b (ake _) (ake _)
 |false=>
 cases wordAt w 0==fV with
 |true=>obtain⟨a,b⟩:=QU (w:=w.drop 1) (by rw[akp];omega) (hd 1);exact oq a b (ake _) (ake _)
 |false=>
 cases wordAt w 0==iO with
 |true=>exact oq iI.1 iI.2 (ake _) (ake _)
 |false=>
 cases wordAt w 0==fG with
 |true=>exact oq iI.1 iI.2 n1 (KQ _)
 |false=>
 cases wordAt w 0==fQ with
 |true=>exact oq iI.1 iI.2 n1 (ake _)
 |false=>exact oq iI.1 iI.2 (ake _) (ake _)
end Sp
namespace Sp
open Go
def markT(k:Int):Bytes:=109::Lib.itoa k
def yV:Nat->Int->List dH
 |0,_=>[]
 |n+1,k=>(markT k,k+1,k+2,markT (k+3),())::yV n (k+4)
def yX:Nat->Int->List ax
 |0,_=>[]
 |n+1,k=>(k,k+1,k+2,markT (k+3),k+4,k+5,markT (k+6),())::yX n (k+7)
def jX:List dH->Int->Int
 |[],k=>k
 |x::r,k=>bif decide (x=(markT k,k+1,k+2,markT (k+3),()))then jX r (k+4)else -1
def qm:List ax->Int->Int
 |[],k=>k
 |x::r,k=>bif decide (x=(k,k+1,k+2,markT (k+3),k+4,k+5,markT (k+6),()))then qm r (k+7)else -1
def OV(a:List dH)(q:List ax)(k:Int):Int:=bif decide (jX a k<0)then -1 else qm q (jX a k)
theorem Vf:∀(n:Nat)(k:Int),jX (yV n k) k=k+4*n
 |0,k=>by show k=k+0;omega
 |n+1,k=>by rw[yV,jX,aku rfl];show jX (yV n (k+4)) (k+4)=_;rw[Vf];omega
theorem Vg:∀(n:Nat)(k:Int),qm (yX n k) k=k+7*n
 |0,k=>by show k=k+0;omega
 |n+1,k=>by rw[yX,qm,aku rfl];show qm (yX n (k+7)) (k+7)=_;rw[Vg];omega
theorem zL:∀(n:Nat)(k:Int),(yV n k).length=n
 |0,_=>rfl
 |n+1,k=>by rw[yV,aj6,zL]
theorem zM:∀(n:Nat)(k:Int),(yX n k).length=n
 |0,_=>rfl
 |n+1,k=>by rw[yX,aj6,zM]
theorem Zz:∀(n:Nat)(k:Int)(i:Nat),i<n->(yV n k)[i]? =some (markT (k+4*i),k+4*i+1,k+4*i+2,markT (k+4*i+3),())
 |n+1,k,0,_=>by
  rw[yV,List.getElem?_cons_zero,show k+4*((0:Nat):Int)=k by omega]
 |n+1,k,i+1,h=>by rw[yV,amu,Zz n (k+4) i (by omega),show k+4+4*(i:Int)=k+4*((i+1:Nat):Int) by omega]
theorem ZA:∀(n:Nat)(k:Int)(i:Nat),i<n->(yX n k)[i]? =some (k+7*i,k+7*i+1,k+7*i+2,markT (k+7*i+3),k+7*i+4,k+7*i+5,markT (k+7*i+6),())
 |n+1,k,0,_=>by
  rw[yX,List.getElem?_cons_zero,show k+7*((0:Nat):Int)=k by omega]
 |n+1,k,i+1,h=>by rw[yX,amu,ZA n (k+7) i (by omega),show k+7+7*(i:Int)=k+7*((i+1:Nat):Int) by omega]
theorem SG:∀(a:List dH)(k:Int),jX a k=-1\/jX a k=k+4*a.length
 |[],k=>.inr (by show k=k+0;omega)
 |x::r,k=>by
  rw[jX];cases decide (x=(markT k,k+1,k+2,markT (k+3),()))with
  |false=>exact .inl rfl
  |true=>exact(SG r (k+4)).imp id λh=>h.trans (by rw[aj6];omega)
theorem SH:∀(a:List ax)(k:Int),qm a k=-1\/qm a k=k+7*a.length
 |[],k=>.inr (by show k=k+0;omega)
 |x::r,k=>by
  rw[qm];cases decide (x=(k,k+1,k+2,markT (k+3),k+4,k+5,markT (k+6),()))with
  |false=>exact .inl rfl
  |true=>exact(SH r (k+7)).imp id λh=>h.trans (by rw[aj6];omega)
theorem acn(n m:Nat)(k:Int)(hk:0<=k):OV (yV n k) (yX m (k+4*n)) k=k+4*n+7*m:=by unfold OV;rw[Vf,aky (by omega)];exact Vg m _
end Sp
namespace Go.Fw
open Go
theorem eqL{α β:Type}(e:α->α->Bool)(he:∀x y,e x y=false↔x=y)(d:α)(a b:List α)[Decidable (a=b)](t:β)(hlen:a.length<=maxLen){K:Bool×Unit->Prop}(hK:K (decide (a=b),())):
 bif ((a.length:Int)) !=(b.length:Int)then K (false,())else
 ∃(I:(Int×Unit)×Unit->Prop),∃(μ:(Int×Unit)×Unit->Nat),I (((0:Int),()),())/\∀(y:(Int×Unit)×Unit),I y->
  bif decide (y.fst.fst<(a.length:Int))then
   ((0:Int)<=y.fst.fst/\y.fst.fst<(a.length:Int))/\((0:Int)<=y.fst.fst/\y.fst.fst<(b.length:Int))/\
     (bif e (a.getD (Int.toNat y.fst.fst) d) (b.getD (Int.toNat y.fst.fst) d)then K (false,())
     else t=t/\I ((IntKind.i64.wrap (y.fst.fst+(1:Int)),()),())/\μ ((IntKind.i64.wrap (y.fst.fst+(1:Int)),()),())<μ y)
  else K (true,()):=by
 rw[maxLen_eq]at hlen;refine af (λh=>?_) λh=>?_
 .have h:(a.length:Int)≠b.length:=by simpa using h
  rw[aky λe=>h (by rw[e])]at hK;exact hK
 .have h:(a.length:Int)=b.length:=by simpa using h
  exact V3 e he d a b t hlen (by omega) (λe=>by rw[aky e]at hK;exact hK) λe=>by rw[aku e]at hK;exact hK
end Go.Fw
