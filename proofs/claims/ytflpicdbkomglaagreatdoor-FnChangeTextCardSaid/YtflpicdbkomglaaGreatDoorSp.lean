import Derived.Test.YtflpicdbkomglaaGreatDoorFwA
import Derived.Lib.ItoaNum
import Derived.Lib.ItoaLen
import Derived.Lib.Join
import Derived.Test.YtflpicdbkomglaaGreatDoorFwC
import Derived.Lib.Fields
import Derived.Lib.Atoi
import Derived.Lib.SplitLaws
namespace Sp
open Go
abbrev Bytes:=List UInt8
abbrev LI:=List (Int×Unit)
abbrev LS:=List (Bytes×Unit)
theorem take_succ'{α:Type}(a:List α)(n:Nat)(d:α)(h:n<a.length):a.take (n+1)=a.take n++[a.getD n d]:=by rw[apL h,anm,anu h];rfl
def Yf(l:LI):Prop:=∀x∈l,-9223372036854775808<=x.1/\x.1<=9223372036854775807
theorem Yf.take{a:LI}(h:Yf a)(n:Nat):Yf (a.take n):=λx hx=>h x (apo hx)
theorem Yf.get{a:LI}(h:Yf a){n:Nat}(hn:n<a.length)(d:Int×Unit):(Lib.itoa (a.getD n d).1).length<=21:=by
 have:a.getD n d∈a:=by rw[anm,anu hn,apM];exact ao9 hn
 exact Lib.itoa_length_le _ (h _ this).1 (h _ this).2
theorem Zc(c:Nat):Lib.decDigits c=(if c / 10=0 then[]else Lib.decDigits (c / 10))++[UInt8.ofNat (48+c%10)]:=by
 conv=>lhs;rw[Lib.decDigits]
 by_cases h:c<10
 .rw[dif_pos h,if_pos (by omega),ap4 h];rfl
 .rw[dif_neg h,if_neg (by omega)]
end Sp
namespace Sp
open Go
set_option synthInstance.maxSize 100000
set_option synthInstance.maxHeartbeats 1000000
abbrev BA:=Int×Int×Bytes×Unit
abbrev bJ:=Bytes×Int×Int×Bytes×Unit
abbrev aA:=Int×Int×Int×Bytes×Int×Int×Bytes×Unit
abbrev bH:=Int×Int×Bool×Int×List bJ×Unit
abbrev eX:=Bytes×List aA×Unit
abbrev dG:=Int×Int×Int×Bool×Int×List bJ×Int×Bytes×List aA×Unit
abbrev Zu:=Int×Int×List dG×Bytes×Int×Unit
def akh:bJ->Nat|(n,_,_,s,_)=>n.length+s.length
def ahU{α:Type}(f:α->Nat):List α->Nat
 |[]=>0
 |x::r=>1+f x+ahU f r
def Nj(a:List bJ):Nat:=ahU akh a
instance:DecidableEq BA:=inferInstance
instance:DecidableEq bJ:=inferInstance
instance:DecidableEq aA:=inferInstance
instance:DecidableEq bH:=inferInstance
instance:DecidableEq eX:=inferInstance
instance:DecidableEq (Int×eX):=inferInstance
instance:DecidableEq (List bJ×Int×eX):=inferInstance
instance:DecidableEq (Bool×Int×List bJ×Int×eX):=inferInstance
instance alL:DecidableEq dG:=(inferInstance:DecidableEq (Int×Int×Int×Bool×Int×List bJ×Int×eX))
instance:DecidableEq (List dG):=inferInstance
instance:DecidableEq (List dG×Bytes×Int×Unit):=inferInstance
def agN(a b:dG):Bool:=decide (a=b)
def lower(s:Bytes):Bool:=s.all λc=>decide (97<=c.toNat)&&decide (c.toNat<=122)
def au(s:Bytes):Bool:=lower s&&decide (1<=(s.length:Int))&&decide ((s.length:Int)<=6)
def aB(n:Int):Bool:=decide (0<=n)&&decide (n<=1000000000)
def idxFrom:Int->LI->Int
 |_,[]=>-1
 |k,x::r=>if aB x.1 then idxFrom (k+1) r else k
def idxOf(l:LI):Int:=idxFrom 0 l
def iU(l:LI):Bool:=l.all λx=>aB x.1
def iC(k:Int)(nc:Nat):Bool:=decide (1<=k)&&decide (k<=8)&&decide ((nc:Int)<=6)
def aS(k u:Int)(nc:Nat)(n:Bytes)(a:Int):Bytes:=
 bif !(iC k nc)then[]else
 bif (decide ((nc:Int)>0)&&decide (k>2))then[]else
 bif (k==1&&(aB u&&(a==0&&n==[])))then[99,111,109,109,105,116,32]++Lib.itoa u else
 bif (k==2&&(aB u&&(aB a&&n==[])))then[99,114,97,115,104,32]++Lib.itoa u++[32]++Lib.itoa a else
 bif (k==3&&(aB u&&(au n&&a==0)))then[119,97,116,99,104,32]++Lib.itoa u++[32]++n else
 bif (k==4&&(u==0&&(aB a&&n==[])))then[112,105,110,32]++Lib.itoa a else
 bif (k==5&&(u==0&&(aB a&&n==[])))then[117,110,112,105,110,32]++Lib.itoa a else
 bif (k==6&&(u==0&&(a==0&&n==[])))then[99,111,108,108,101,99,116]else
 bif (k==7&&(aB u&&(aB a&&au n)))then[97,100,100,32]++Lib.itoa u++[32]++n++[32]++Lib.itoa a else
 bif (k==8&&(aB u&&(aB a&&au n)))then[114,101,109,111,118,101,32]++Lib.itoa u++[32]++n++[32]++Lib.itoa a else[]
end Sp
namespace Sp
open Go
abbrev jP:=Bytes×Int×Unit
abbrev wR:=List jP×List bH×Int×Unit
instance:DecidableEq jP:=inferInstance
instance:DecidableEq (List jP):=inferInstance
instance:DecidableEq (List bH):=inferInstance
instance:DecidableEq (List bH×Int×Unit):=inferInstance
instance amj:DecidableEq wR:=(inferInstance:DecidableEq (List jP×List bH×Int×Unit))
def usual:List jP:=[([97],1,()),([98],1,()),([110],2,()),([116],2,())]
def ajk(f:bH):Prop:=f.2.2.2.2.1.length<=1000
def ai1(s:wR):Prop:=s.1.length<=1000/\s.2.1.length<=1000/\∀f∈s.2.1,ajk f
def qF(n:Nat)(f:Nat->Bool):Bool:=(List.range n).all f
def eF(s:Bytes):Bool:=lower s&&decide (1<=(s.length:Int))&&decide ((s.length:Int)<=1)
def aZ(k n:Int)(s:Bytes):Bool:=
 bif decide (k=0)then decide (n=0)&&decide (s=[])
 else bif decide (k=1)then decide (0<=n)&&decide (n<=999)&&decide (s=[])
 else bif decide (k=2)then au s&&decide (n=0)
 else false
def kindOf:List jP->Bytes->Int
 |[],_=>0
 |f::r,s=>bif decide (f.1=s)then f.2.1 else kindOf r s
def fieldAt(fs:List jP)(i:Nat):jP:=fs.getD i ([],0,())
def agy(fs:List jP)(i:Nat):Bool:=
 eF (fieldAt fs i).1&&(decide (1<=(fieldAt fs i).2.1)&&decide ((fieldAt fs i).2.1<=2))&&!(decide (0<i)&&!Op.bytesLess (fieldAt fs (i-1)).1 (fieldAt fs i).1)
def IZ(fs:List jP):Bool:=qF fs.length (agy fs)&&decide ((fs.length:Int)<=5)
def OM(fs:List jP)(name:Bytes)(k n:Int)(s:Bytes):Bool:=aZ k n s&&!decide (k=0)&&decide (k=kindOf fs name)
def iW(as:List bJ)(i:Nat):bJ:=as.getD i ([],0,0,[],())
def Jo(fs:List jP)(as:List bJ)(i:Nat):Bool:=
 OM fs (iW as i).1 (iW as i).2.1 (iW as i).2.2.1 (iW as i).2.2.2.1&&!(decide (0<i)&&!Op.bytesLess (iW as (i-1)).1 (iW as i).1)
def oW(fs:List jP)(as:List bJ):Bool:=qF as.length (Jo fs as)
def FV(fs:List jP)(f:bH):Bool:=
 oW fs f.2.2.2.2.1&&IZ fs&&(decide (1<=f.1)&&decide (f.1<=60))&&(decide (0<=f.2.1)&&decide (f.2.1<=2))&&(decide (0<=f.2.2.2.1)&&decide (f.2.2.2.1<=60))
def fileAt(fs:List bH)(i:Nat):bH:=fs.getD i (0,0,false,0,[],())
def acN(s:wR)(i:Nat):Bool:=
 FV s.1 (fileAt s.2.1 i)&&decide ((fileAt s.2.1 i).1<s.2.2.1)&&!(decide (0<i)&&!decide ((fileAt s.2.1 (i-1)).1<(fileAt s.2.1 i).1))
def yL(s:wR):Bool:=
 qF s.2.1.length (acN s)&&IZ s.1&&decide ((s.2.1.length:Int)<=12)&&(decide (1<=s.2.2.1)&&decide (s.2.2.1<=61))
def aao:Int->List bH->Int->Int
 |_,[],_=>-1
 |k,f::r,id=>bif decide (f.1=id)then k else aao (k+1) r id
def place(fs:List bH)(id:Int):Int:=aao 0 fs id
def mM(name:Bytes)(b:bJ):Bool:=!(b.1==name)
def pz(name:Bytes)(b:bJ):Bool:=Op.bytesLess b.1 name||b.1==name
def Ig(as:List bJ)(a:bJ):List bJ:=as.takeWhile (pz a.1)++a::as.dropWhile (pz a.1)
def iT(as:List bJ)(name:Bytes)(k n:Int)(s:Bytes):List bJ:=
 bif decide (k=0)then as.filter (mM name)else Ig (as.filter (mM name)) (name,k,n,s,())
def Af(s:wR)(f:bH):wR×Int×Bool:=
 let g:bH:=(s.2.2.1,f.2)
 bif yL s&&decide ((s.2.1.length:Int)<12)&&FV s.1 g then((s.1,s.2.1++[g],s.2.2.1+1,()),s.2.2.1,true)else(s,0,false)
def acO{α:Type}(p:α->Bool):Int->List α->Int
 |_,[]=>-1
 |k,f::r=>bif p f then k else acO p (k+1) r
def findAt{α:Type}(p:α->Bool)(l:List α):Int:=acO p 0 l
def fieldPlace(l:List jP)(name:Bytes):Int:=findAt (λf=>f.1==name) l
end Sp
namespace Sp
abbrev aa9:=List (Nat×Nat×Nat)
def Nk(E:aa9)(L:Nat->Nat):Prop:=∀e∈E,L e.2.1+e.2.2<=L e.1
def aio(E:aa9)(n:Nat):Prop:=∀e∈E,e.1<n/\e.2.1<n/\e.2.2<=1
structure Raises(E:aa9)(n:Nat)(R:(Nat->Nat)->Nat->Nat):Prop where
 up:∀L i,L i<=R L i
 fix:∀L,(∀i,i<n->R L i=L i)->Nk E L
 below:∀L M,Nk E M->(∀i,i<n->L i<=M i)->∀i,i<n->R L i<=M i
 same:∀L L',(∀i,i<n->L i=L' i)->∀i,i<n->R L i=R L' i
end Sp
namespace Sp
open Go
abbrev aki:=List jP×List bH×Int×List eX×Unit
abbrev ajl:=Int×List jP×List bH×Int×List eX×Int×Unit
instance:DecidableEq (List aA):=inferInstance
instance:DecidableEq eX:=inferInstance
instance:DecidableEq (List eX):=inferInstance
instance:DecidableEq (List eX×Unit):=inferInstance
instance:DecidableEq (Int×List eX×Unit):=inferInstance
instance:DecidableEq (List bH×Int×List eX×Unit):=inferInstance
instance amO:DecidableEq aki:=(inferInstance:DecidableEq (List jP×List bH×Int×List eX×Unit))
instance:DecidableEq (List eX×Int×Unit):=inferInstance
instance:DecidableEq (Int×List eX×Int×Unit):=inferInstance
instance:DecidableEq (List bH×Int×List eX×Int×Unit):=inferInstance
instance:DecidableEq (List jP×List bH×Int×List eX×Int×Unit):=inferInstance
instance amY:DecidableEq ajl:=(inferInstance:DecidableEq (Int×List jP×List bH×Int×List eX×Int×Unit))
instance:DecidableEq (List ajl):=inferInstance
def nodeAt(q:List aA)(i:Nat):aA:=q.getD i (0,0,0,[],0,0,[],())
def jS(n:aA):Bool:=n.1==6||n.1==7
def SL(n:aA):Bool:=n.1==8||n.1==9
def dZ(n:aA)(a:Int):Bool:=
 let kids:=decide (0<=n.2.1)&&decide (n.2.1<=a-1)&&decide (0<a)
 let two:=decide (0<=n.2.2.1)&&decide (n.2.2.1<=a-1)
 let bare:=n.2.2.2.1==[]&&(n.2.2.2.2.1==0&&(n.2.2.2.2.2.1==0&&n.2.2.2.2.2.2.1==[]))
 let flat:=n.2.1==0&&n.2.2.1==0
 let valued:=aZ n.2.2.2.2.1 n.2.2.2.2.2.1 n.2.2.2.2.2.2.1
 let void:=n.2.2.2.2.1==0&&(n.2.2.2.2.2.1==0&&n.2.2.2.2.2.2.1==[])
 bif n.1==1 then flat&&bare else bif n.1==2 then flat&&void&&eF n.2.2.2.1 else
 bif n.1==3 then flat&&eF n.2.2.2.1&&valued&&!(n.2.2.2.2.1==0)else bif n.1==4 then flat&&eF n.2.2.2.1&&valued&&n.2.2.2.2.1==1 else
 bif n.1==5 then kids&&n.2.2.1==0&&bare else bif n.1==6||n.1==7 then kids&&two&&bare else
 bif n.1==8||n.1==9 then flat&&void&&au n.2.2.2.1 else false
def refsOf(a:Int)(n:aA):Nat:=(bif (jS n||n.1==5)&&n.2.1==a then 1 else 0)+(bif jS n&&n.2.2.1==a then 1 else 0)
def kZ(q:List aA)(a:Int):Nat:=(q.map (refsOf a)).sum
def kW(q:List aA)(i:Nat):Bool:=dZ (nodeAt q i) i&&!(decide ((i:Int)<(q.length:Int)-1)&&!(kZ q i==1))
def aH(q:List aA):Bool:=qF q.length (kW q)&&(decide (1<=(q.length:Int))&&decide ((q.length:Int)<=9))
def qG(d:List eX)(i:Nat):eX:=d.getD i ([],[],())
def aip(d:List eX)(i:Nat):Bool:=au (qG d i).1&&aH (qG d i).2.1&&!(decide (0<i)&&!Op.bytesLess (qG d (i-1)).1 (qG d i).1)
def ajm(d:List eX):Bool:=qF d.length (aip d)&&decide ((d.length:Int)<=5)
def sD(q:List aA)(i:Nat)(out:List (Bool×Unit)):List (Bool×Unit):=
 let n:=nodeAt q i
 bif n.1==5 then out.set n.2.1.toNat (true,())else bif jS n then(out.set n.2.1.toNat ((out.getD i (false,())).1,())).set n.2.2.1.toNat ((out.getD i (false,())).1,())else out
def uw(q:List aA):Nat->List (Bool×Unit)->List (Bool×Unit)
 |0,out=>out
 |n+1,out=>uw q n (sD q n out)
def negated(q:List aA):List (Bool×Unit):=bif aH q then uw q q.length (List.replicate q.length (false,()))else[]
def BN(q:List aA)(neg:Bool):List Bytes:=(List.range (negated q).length).filterMap λi=>bif SL (nodeAt q i)&&((negated q).getD i (false,())).1==neg then some (nodeAt q i).2.2.2.1 else none
def Ah:Int->List eX->Bytes->Int
 |_,[],_=>-1
 |k,x::r,s=>bif x.1==s then k else Ah (k+1) r s
def qM(d:List eX)(s:Bytes):Int:=Ah 0 d s
def Ai(d:List eX):aa9:=
 (List.range d.length).flatMap λi=>
   ((BN (qG d i).2.1 false).filterMap λs=>bif decide (0<=qM d s)then some (i,(qM d s).toNat,0)else none)++
   ((BN (qG d i).2.1 true).filterMap λs=>bif decide (0<=qM d s)then some (i,(qM d s).toNat,1)else none)
open Classical in
noncomputable def afn (d:List eX):Bool:=ajm d&&decide (∃L,Nk (Ai d) L)
end Sp
namespace Sp
open Go
end Sp
namespace Sp
open Go
theorem SN(s:Bytes):∀(d:List eX)(k:Int),(Ah k d s=-1/\∀x∈d,x.1≠s)\/∃n,n<d.length/\Ah k d s=k+n/\(qG d n).1=s/\∀i,i<n->(qG d i).1≠s
 |[],k=>.inl ⟨rfl,λx hx=>by cases hx⟩
 |x::r,k=>by
  by_cases h:x.1=s
  .right;refine⟨0,by simp,?_,h,λi hi=>by omega⟩;rw[Ah,anq.2 h];simp
  .rcases SN s r (k+1)with⟨h1,h2⟩|⟨n,h1,h2,h3,h4⟩
   .left;refine⟨by rw[Ah,ang.2 h];exact h1,λy hy=>?_⟩;rcases anA.1 hy with rfl|hy
    .exact h
    .exact h2 y hy
   .right;refine⟨n+1,by simp;omega,by rw[Ah,ang.2 h];show Ah (k+1) r s=_;omega,h3,λi hi=>?_⟩;cases i with
    |zero=>exact h
    |succ i=>exact h4 i (by omega)
theorem Zv(d:List eX)(s:Bytes):(qM d s=-1/\∀x∈d,x.1≠s)\/∃n,n<d.length/\qM d s=n/\(qG d n).1=s/\∀i,i<n->(qG d i).1≠s:=by
 rcases SN s d 0 with h|⟨n,h1,h2,h3⟩
 .exact .inl h
 .exact .inr ⟨n,h1,by show Ah 0 d s=_;omega,h3⟩
theorem adF{d:List eX}{s:Bytes}(h:0<=qM d s):qM d s<d.length:=by rcases Zv d s with⟨h1,_⟩|⟨n,h1,h2,_⟩<;>omega
theorem agz{d:List eX}{i j m:Nat}:(i,j,m)∈Ai d↔i<d.length/\∃s,((m=0/\s∈BN (qG d i).2.1 false)\/(m=1/\s∈BN (qG d i).2.1 true))/\0<=qM d s/\j=(qM d s).toNat:=by
 unfold Ai;rw[List.mem_flatMap];constructor
 .rintro⟨k,hk,h⟩;rw[aov]at hk;rcases an4.1 h with h|h
  all_goals
   obtain⟨s,hs,e⟩:=apB.1 h;rw[cond_eq_ite]at e;split at e
   .next hp=>have hp:0<=qM d s:=aoe hp;cases e;exact⟨hk,s,by first|exact .inl ⟨rfl,hs⟩|exact .inr ⟨rfl,hs⟩,hp,rfl⟩
   .cases e
 .rintro⟨hi,s,h|h,hp,rfl⟩
  .obtain⟨rfl,hs⟩:=h;refine⟨i,aov.2 hi,an4.2 (.inl (apB.2 ⟨s,hs,?_⟩))⟩;rw[anE hp];rfl
  .obtain⟨rfl,hs⟩:=h;refine⟨i,aov.2 hi,an4.2 (.inr (apB.2 ⟨s,hs,?_⟩))⟩;rw[anE hp];rfl
theorem acP(d:List eX):aio (Ai d) d.length:=by
 rintro⟨i,j,m⟩ he;obtain⟨h1,s,h2,h3,h4⟩:=agz.1 he;have:=adF h3;refine⟨h1,?_,?_⟩
 .show j<_;omega
 .show m<=1;rcases h2 with⟨h,_⟩|⟨h,_⟩<;>omega
def lv(l:List (Int×Unit))(i:Nat):Int:=(l.getD i (0,())).1
theorem ajn{l:List (Int×Unit)}{i:Nat}(hi:i<l.length)(x:Int)(k:Nat):lv (l.set i (x,())) k=if k=i then x else lv l k:=by
 unfold lv;rw[anm,anm];by_cases h:k=i
 .subst h;rw[aoz hi,if_pos rfl];rfl
 .rw[aoh (λe=>h e.symm),if_neg h]
structure Cur(d:List eX)(iM cur:List (Int×Unit))(g:Int)(P:Nat×Nat×Nat->Prop):Prop where
 len:cur.length=d.length
 up:∀i,i<d.length->lv iM i<=lv cur i
 grow:∀B,(∀i,i<d.length->lv iM i<=B)->∀i,i<d.length->lv cur i<=B+g
 fix:(∀i,i<d.length->lv cur i=lv iM i)->∀e,P e->lv iM e.2.1+e.2.2<=lv iM e.1
 below:∀M,Nk (Ai d) M->(∀i,i<d.length->lv iM i<=M i)->∀i,i<d.length->lv cur i<=M i
theorem Cur.start{d:List eX}{iM:List (Int×Unit)}(h:iM.length=d.length):Cur d iM iM 0 λ_=>False:=
 ⟨h,λ_ _=>aol _,λB hB i hi=>by have:=hB i hi;omega,λ_ e he=>he.elim,λ_ _ h=>h⟩
theorem Cur.still{d:List eX}{iM cur:List (Int×Unit)}{g:Int}{P:Nat×Nat×Nat->Prop}(h:Cur d iM cur g P){i j m:Nat}(he:(i,j,m)∈Ai d)(hle:lv cur j+m<=lv cur i):Cur d iM cur g λe=>P e\/e=(i,j,m):=by
 obtain⟨h1,h2,_⟩:=acP d _ he;refine⟨h.len,h.up,h.grow,λhx e hp=>?_,h.below⟩;rcases hp with hp|rfl
 .exact h.fix hx e hp
 .have a:=hx i h1;have b:=hx j h2;show lv iM j+m<=lv iM i;omega
theorem Cur.set{d:List eX}{iM cur:List (Int×Unit)}{g:Int}{P:Nat×Nat×Nat->Prop}(h:Cur d iM cur g P){i j m:Nat}(he:(i,j,m)∈Ai d)(hlt:lv cur i<lv cur j+m):Cur d iM (cur.set i (lv cur j+m,())) (g+m) λe=>P e\/e=(i,j,m):=by
 obtain⟨h1,h2,_⟩:=acP d _ he;have h1:i<d.length:=h1;have h2:j<d.length:=h2;have hl:=h.len;have hs:=λk=>ajn (l:=cur) (i:=i) (by omega) (lv cur j+m) k;refine⟨by simp;omega,λk hk=>?_,λB hB k hk=>?_,λhx e hp=>?_,λM hM hb k hk=>?_⟩
 .rw[hs];have a:=h.up k hk;split
  .next e=>subst e;omega
  .exact a
 .rw[hs];have a:=h.grow B hB k hk;have b:=h.grow B hB j h2;split<;>omega
 .have:=hx i h1;rw[hs,if_pos rfl]at this;have:=h.up i h1;omega
 .rw[hs];split
  .next e=>subst e;have a:=h.below M hM hb j h2;have b:=hM _ he;have b:M j+m<=M k:=b;omega
  .exact h.below M hM hb k hk
end Sp
namespace Sp
abbrev Ext(ι α:Type):=ι->α->Bool
structure Sys(ι α:Type) where
 T:ι->Ext ι α->α->Prop
 pos:ι->ι->Prop
 neg:ι->ι->Prop
 mono:∀i X Y,(∀j,pos i j->∀x,X j x=true->Y j x=true)->(∀j,neg i j->∀x,X j x=Y j x)->∀x,T i X x->T i Y x
def akj{ι α:Type}(S:Sys ι α)(N:ι->Prop)(iM:ι->Nat):Prop:=∀i j,N i->N j->(S.pos i j->iM j<=iM i)/\(S.neg i j->iM j<iM i)
structure Eval{ι α:Type}(S:Sys ι α)(N:ι->Prop)(iM:ι->Nat)(X:Ext ι α):Prop where
 fix:∀i,N i->∀x,X i x=true↔S.T i X x
 least:∀k(Y:Ext ι α),(∀i,¬(N i/\iM i=k)->∀x,Y i x=X i x)->(∀i,N i->iM i=k->∀x,S.T i Y x->Y i x=true)->∀i,N i->iM i=k->∀x,X i x=true->Y i x=true
open Classical in
theorem alM{ι α:Type}{P:ι->Prop}{A B:Ext ι α}:∃Y:Ext ι α,(∀i x,Y i x=true↔A i x=true/\(P i->B i x=true))/\∀i,¬P i->∀x,Y i x=A i x:=by have h:∀i x,decide (A i x=true/\(P i->B i x=true))=true↔A i x=true/\(P i->B i x=true):=λi x=>decide_eq_true_iff;refine⟨λi x=>decide (A i x=true/\(P i->B i x=true)),h,λi hi x=>?_⟩;rw[an2,h];exact⟨λh=>h.1,λh=>⟨h,λh'=>(hi h').elim⟩⟩
end Sp
namespace Sp
open Go
abbrev wX:=Bytes×List (Int×Unit)×Unit
abbrev BX:=Ext Bytes Int
def ET:List bJ->Bytes->BA
 |[],_=>(0,0,[],())
 |a::r,s=>bif a.1==s then(a.2.1,a.2.2.1,a.2.2.2.1,())else ET r s
def Yg:List wX->Bytes->List (Int×Unit)
 |[],_=>[]
 |x::r,s=>bif x.1==s then x.2.1 else Yg r s
def afo(l:List (Int×Unit))(x:Int):Bool:=l.any λy=>y.1==x
def TU(r:List wX):BX:=λs x=>afo (Yg r s) x
def Ci(n:aA)(f:bH)(X:BX):Bool:=
 bif n.1==2 then !((ET f.2.2.2.2.1 n.2.2.2.1).1==0)else
 bif n.1==3 then decide (ET f.2.2.2.2.1 n.2.2.2.1=(n.2.2.2.2.1,n.2.2.2.2.2.1,n.2.2.2.2.2.2.1,()))else
 bif n.1==4 then(ET f.2.2.2.2.1 n.2.2.2.1).1==1&&decide ((ET f.2.2.2.2.1 n.2.2.2.1).2.1<n.2.2.2.2.2.1)else
 bif n.1==8 then X n.2.2.2.1 f.1 else
 bif n.1==9 then !(f.2.2.2.1==0)&&X n.2.2.2.1 f.2.2.2.1 else true
def val(q:List aA)(f:bH)(X:BX)(a:Nat):Bool:=
 if(nodeAt q a).1=5 then(if h:(nodeAt q a).2.1.toNat<a then !val q f X (nodeAt q a).2.1.toNat else true)
 else if(nodeAt q a).1=6 then(if h:(nodeAt q a).2.1.toNat<a/\(nodeAt q a).2.2.1.toNat<a then val q f X (nodeAt q a).2.1.toNat&&val q f X (nodeAt q a).2.2.1.toNat else true)
 else if(nodeAt q a).1=7 then(if h:(nodeAt q a).2.1.toNat<a/\(nodeAt q a).2.2.1.toNat<a then val q f X (nodeAt q a).2.1.toNat||val q f X (nodeAt q a).2.2.1.toNat else true)
 else Ci (nodeAt q a) f X
termination_by a
decreasing_by all_goals omega
theorem agA(q:List aA)(f:bH)(X:BX)(a:Nat):val q f X a=
 if(nodeAt q a).1=5 then(if h:(nodeAt q a).2.1.toNat<a then !val q f X (nodeAt q a).2.1.toNat else true)
 else if(nodeAt q a).1=6 then(if h:(nodeAt q a).2.1.toNat<a/\(nodeAt q a).2.2.1.toNat<a then val q f X (nodeAt q a).2.1.toNat&&val q f X (nodeAt q a).2.2.1.toNat else true)
 else if(nodeAt q a).1=7 then(if h:(nodeAt q a).2.1.toNat<a/\(nodeAt q a).2.2.1.toNat<a then val q f X (nodeAt q a).2.1.toNat||val q f X (nodeAt q a).2.2.1.toNat else true)
 else Ci (nodeAt q a) f X:=by rw[val]
def Jp(q:List aA)(f:bH)(X:BX):Bool:=aH q&&val q f X (q.length-1)
def sel(fs:List bH)(q:List aA)(X:BX):List (Int×Unit):=(fs.filter λf=>Jp q f X).map λf=>(f.1,())
def x9(q:List aA)(i:Nat):Bool:=((negated q).getD i (false,())).1
theorem nY{q:List aA}(h:aH q=true){i:Nat}(hi:i<q.length):dZ (nodeAt q i) i=true/\((i:Int)<(q.length:Int)-1->kZ q i=1):=by
 unfold aH at h;rw[ane]at h;have h1:kW q i=true:=by have:=h.1;unfold qF at this;exact anx.1 this i (aov.2 hi)
 unfold kW at h1;rw[ane]at h1;refine⟨h1.1,λhl=>?_⟩;have h2:=h1.2;rw[anE hl]at h2;simpa using h2
theorem jD{q:List aA}(h:aH q=true):1<=q.length/\q.length<=9:=by unfold aH at h;simp only[ane,anl]at h;omega
theorem U3{n:aA}{a:Nat}(h:dZ n a=true)(hn:n.1=5\/n.1=6\/n.1=7):0<=n.2.1/\n.2.1.toNat<a:=by unfold dZ at h;rcases hn with e|e|e<;>simp[e]at h<;>omega
theorem afp{n:aA}{a:Nat}(h:dZ n a=true)(hn:n.1=6\/n.1=7):0<=n.2.2.1/\n.2.2.1.toNat<a:=by unfold dZ at h;rcases hn with e|e<;>simp[e]at h<;>omega
theorem aeo{α:Type}(g:α->Nat):∀(l:List α),(l.map g).sum=1->∀i j,i<l.length->j<l.length->i≠j->∀d,1<=g (l.getD i d)->g (l.getD j d)=0
 |[],_,i,_,hi,_,_,_,_=>by simp at hi
 |x::r,h,i,j,hi,hj,hne,d,hg=>by
  rw[anH,apZ]at h;have mem:∀(l:List α) k,k<l.length->g (l.getD k d)<=(l.map g).sum:=by
   intro l
   induction l with
   |nil=>intro k hk;simp at hk
   |cons y t ih=>
    intro k hk;rw[anH,apZ];cases k with
    |zero=>exact Nat.le_add_right _ _
    |succ k=>exact ank (ih k (by simpa using hk)) (Nat.le_add_left _ _)
  cases i with
  |zero=>
   cases j with
   |zero=>exact(hne rfl).elim
   |succ j=>
    have h1:1<=g x:=hg;have:=mem r j (by simpa using hj);show g (r.getD j d)=0;omega
  |succ i=>
   have h1:1<=g (r.getD i d):=hg;have h2:=mem r i (by simpa using hi);cases j with
   |zero=>show g x=0;omega
   |succ j=>exact aeo g r (by omega) i j (by simpa using hi) (by simpa using hj) (by omega) d hg
theorem Ef{q:List aA}{p:Nat}:∀(n:Nat)(out:List (Bool×Unit)),(∀i,i<n->((nodeAt q i).1=5\/jS (nodeAt q i)=true->(nodeAt q i).2.1.toNat≠p)/\(jS (nodeAt q i)=true->(nodeAt q i).2.2.1.toNat≠p))->
 (uw q n out).getD p (false,())=out.getD p (false,())
 |0,_,_=>rfl
 |n+1,out,h=>by
  have ih:=Ef n (sD q n out) λi hi=>h i (by omega);show(uw q n (sD q n out)).getD p (false,())=_;rw[ih];have hs:∀(l:List (Bool×Unit)) k x,k≠p->(l.set k x).getD p (false,())=l.getD p (false,()):=λl k x hk=>by rw[anm,aoh hk,← anm]
  obtain⟨h1,h2⟩:=h n (by omega);unfold sD;dsimp only;cases e5:((nodeAt q n).1==5)with
  |true=>exact hs _ _ _ (h1 (.inl (anq.1 e5)))
  |false=>
   cases e2:jS (nodeAt q n)with
   |true=>exact(hs _ _ _ (h2 e2)).trans (hs _ _ _ (h1 (.inr e2)))
   |false=>rfl
theorem U4(q:List aA):∀(n:Nat)(out:List (Bool×Unit)),(uw q n out).length=out.length
 |0,_=>rfl
 |n+1,out=>by show(uw q n (sD q n out)).length=_;rw[U4 q n];unfold sD;dsimp only;cases (nodeAt q n).1==5<;>cases jS (nodeAt q n)<;>simp
theorem Gi{n:aA}:jS n=true↔n.1=6\/n.1=7:=by unfold jS;simp
theorem PD(q:List aA):∀(k m:Nat)(out:List (Bool×Unit)),∃mid:List (Bool×Unit),mid.length=out.length/\uw q (m+k) out=uw q m mid
 |0,_,out=>⟨out,rfl,rfl⟩
 |k+1,m,out=>by
  obtain⟨mid,h1,h2⟩:=PD q k m (sD q (m+k) out);have hl:(sD q (m+k) out).length=out.length:=by unfold sD;dsimp only;cases (nodeAt q (m+k)).1==5<;>cases jS (nodeAt q (m+k))<;>simp
  exact⟨mid,h1.trans hl,h2⟩
theorem SQ{q:List aA}(h:aH q=true){i:Nat}(hi:i<q.length):((nodeAt q i).1=5\/jS (nodeAt q i)=true->0<=(nodeAt q i).2.1/\(nodeAt q i).2.1.toNat<i)/\(jS (nodeAt q i)=true->0<=(nodeAt q i).2.2.1/\(nodeAt q i).2.2.1.toNat<i):=by
 have h1:=(nY h hi).1;refine⟨λh2=>?_,λh2=>afp h1 (Gi.1 h2)⟩;rcases h2 with h2|h2
 .exact U3 h1 (.inl h2)
 .exact U3 h1 (.inr (Gi.1 h2))
theorem afq{q:List aA}(h:aH q=true){i j p:Nat}(hi:i<q.length)(hj:j<q.length)(hne:i≠j)(hp:p<i)(hr:1<=refsOf p (nodeAt q i)):refsOf p (nodeAt q j)=0:=
 aeo (refsOf p) q ((nY h (by omega)).2 (by omega)) i j hi hj hne _ hr
theorem adG{p:Nat}{n:aA}(h:refsOf p n=0)(h0:((n.1=5\/jS n=true)->0<=n.2.1)/\(jS n=true->0<=n.2.2.1)):(n.1=5\/jS n=true->n.2.1.toNat≠p)/\(jS n=true->n.2.2.1.toNat≠p):=by
 unfold refsOf at h;refine⟨λh1 h2=>?_,λh1 h2=>?_⟩
 .have h3:=h0.1 h1;have h4:((jS n||n.1==5)&&n.2.1==(p:Int))=true:=by
   have:(jS n||n.1==5)=true:=by rcases h1 with h1|h1<;>simp[h1]
   rw[this];simp;omega
  rw[h4]at h;simp at h
 .have h3:=h0.2 h1;have h4:(jS n&&n.2.2.1==(p:Int))=true:=by rw[h1];simp;omega
  rw[h4]at h;simp at h
theorem U5{p:Nat}{n:aA}(h:n.1=5\/jS n=true)(h0:0<=n.2.1)(e:n.2.1.toNat=p):1<=refsOf p n:=by
 unfold refsOf;have h4:((jS n||n.1==5)&&n.2.1==(p:Int))=true:=by
  have:(jS n||n.1==5)=true:=by rcases h with h1|h1<;>simp[h1]
  rw[this];simp;omega
 rw[h4];simp
theorem acQ{p:Nat}{n:aA}(h:jS n=true)(h0:0<=n.2.2.1)(e:n.2.2.1.toNat=p):1<=refsOf p n:=by
 unfold refsOf;have h4:(jS n&&n.2.2.1==(p:Int))=true:=by rw[h];simp;omega
 rw[h4];simp
theorem OU{l:List (Bool×Unit)}{k p:Nat}{x:Bool×Unit}(hk:k<l.length):(l.set k x).getD p (false,())=if k=p then x else l.getD p (false,()):=by
 rw[anm,List.getElem?_set];by_cases h:k=p
 .subst h;simp[hk]
 .simp[h]
theorem afr{q:List aA}(h:aH q=true){i:Nat}(hi:i<q.length):
 ((nodeAt q i).1=5->x9 q (nodeAt q i).2.1.toNat=true)/\(jS (nodeAt q i)=true->x9 q (nodeAt q i).2.1.toNat=x9 q i/\x9 q (nodeAt q i).2.2.1.toNat=x9 q i):=by
 have hn:negated q=uw q q.length (List.replicate q.length (false,())):=by unfold negated;rw[h];rfl
 obtain⟨mid,hm1,hm2⟩:=PD q (q.length-(i+1)) (i+1) (List.replicate q.length (false,()));rw[show i+1+(q.length-(i+1))=q.length by omega,← hn]at hm2;have hml:mid.length=q.length:=by rw[hm1];simp
 have hm3:negated q=uw q i (sD q i mid):=hm2;obtain⟨k1,k2⟩:=SQ h hi;have keep:∀p,p<i->1<=refsOf p (nodeAt q i)->x9 q p=((sD q i mid).getD p (false,())).1:=λp hp hr=>by
  unfold x9;rw[hm3,Ef i];intro j hj;have hjl:j<q.length:=by omega
  obtain⟨g1,g2⟩:=SQ h hjl;exact adG (afq h hi hjl (by omega) hp hr) ⟨λz=>(g1 z).1,λz=>(g2 z).1⟩
 have self:x9 q i=(mid.getD i (false,())).1:=by unfold x9;rw[hm2,Ef (i+1)];intro j hj;obtain⟨g1,g2⟩:=SQ h (show j<q.length by omega);exact⟨λz=>by have:=(g1 z).2;omega,λz=>by have:=(g2 z).2;omega⟩
 refine⟨λh5=>?_,λh2=>?_⟩
 .obtain⟨a,b⟩:=k1 (.inl h5);rw[keep _ b (U5 (.inl h5) a rfl)];unfold sD;dsimp only;rw[anq.2 h5];show((mid.set _ (true,())).getD _ (false,())).1=true;rw[OU (by omega),if_pos rfl]
 .obtain⟨a,b⟩:=k1 (.inr h2);obtain⟨a',b'⟩:=k2 h2;have h5:((nodeAt q i).1==5)=false:=by rcases Gi.1 h2 with e|e<;>rw[e]<;>rfl
  rw[keep _ b (U5 (.inr h2) a rfl),keep _ b' (acQ h2 a' rfl),self];unfold sD;dsimp only;rw[h5,h2];show(((mid.set _ ((mid.getD i (false,())).1,())).set _ ((mid.getD i (false,())).1,())).getD _ (false,())).1=_/\(((mid.set _ ((mid.getD i (false,())).1,())).set _ ((mid.getD i (false,())).1,())).getD _ (false,())).1=_;rw[OU (by rw[anR];omega),OU (by omega),OU (by rw[anR];omega),if_pos rfl,if_pos rfl];exact⟨by split<;>rfl,rfl⟩
theorem afs{q:List aA}(h:aH q=true):x9 q (q.length-1)=false:=by
 have hn:negated q=uw q q.length (List.replicate q.length (false,())):=by unfold negated;rw[h];rfl
 have hl:=jD h;unfold x9;rw[hn,Ef q.length]
 .rw[anm,apF];split<;>rfl
 .intro j hj;obtain⟨g1,g2⟩:=SQ h hj;exact⟨λz=>by have:=(g1 z).2;omega,λz=>by have:=(g2 z).2;omega⟩
theorem acR{q:List aA}(h:aH q=true){i:Nat}(hi:i<q.length)(hd:SL (nodeAt q i)=true):(nodeAt q i).2.2.2.1∈BN q (x9 q i):=by
 have hl:(negated q).length=q.length:=by unfold negated;rw[h];show(uw _ _ _).length=_;rw[U4];simp
 unfold BN;rw[apB];refine⟨i,aov.2 (by omega),?_⟩;unfold x9;rw[hd];simp
theorem ahh{q:List aA}{f:bH}{X Y:BX}(h:aH q=true)(hp:∀s∈BN q false,∀x,X s x=true->Y s x=true)(hn:∀s∈BN q true,∀x,X s x=Y s x):
 ∀a,a<q.length->(x9 q a=false->val q f X a=true->val q f Y a=true)/\(x9 q a=true->val q f X a=val q f Y a):=by
 intro a
 induction a using Nat.strongRecOn with
 |_ a ih=>
  intro ha;obtain⟨k1,k2⟩:=SQ h ha;obtain⟨n1,n2⟩:=afr h ha;rw[agA q f X a,agA q f Y a];by_cases h5:(nodeAt q a).1=5
  .have hk:=k1 (.inl h5);have i1:=(ih _ hk.2 (by omega)).2 (n1 h5);rw[if_pos h5,if_pos h5,dif_pos hk.2,dif_pos hk.2,i1];exact⟨λ_=>id,λ_=>rfl⟩
  rw[if_neg h5,if_neg h5];by_cases h6:(nodeAt q a).1=6
  .have h2:jS (nodeAt q a)=true:=Gi.2 (.inl h6);have hk:=k1 (.inr h2);have hk':=k2 h2;have i1:=ih _ hk.2 (by omega);have i2:=ih _ hk'.2 (by omega);rw[(n2 h2).1]at i1;rw[(n2 h2).2]at i2;rw[if_pos h6,if_pos h6,dif_pos ⟨hk.2,hk'.2⟩,dif_pos ⟨hk.2,hk'.2⟩];refine⟨λhf hv=>?_,λht=>by rw[i1.2 ht,i2.2 ht]⟩;rw[ane]at hv ⊢;exact⟨i1.1 hf hv.1,i2.1 hf hv.2⟩
  rw[if_neg h6,if_neg h6];by_cases h7:(nodeAt q a).1=7
  .have h2:jS (nodeAt q a)=true:=Gi.2 (.inr h7);have hk:=k1 (.inr h2);have hk':=k2 h2;have i1:=ih _ hk.2 (by omega);have i2:=ih _ hk'.2 (by omega);rw[(n2 h2).1]at i1;rw[(n2 h2).2]at i2;rw[if_pos h7,if_pos h7,dif_pos ⟨hk.2,hk'.2⟩,dif_pos ⟨hk.2,hk'.2⟩];refine⟨λhf hv=>?_,λht=>by rw[i1.2 ht,i2.2 ht]⟩;rw[aot]at hv ⊢;exact hv.imp (i1.1 hf) (i2.1 hf)
  rw[if_neg h7,if_neg h7];by_cases h8:(nodeAt q a).1=8
  .have hm:=acR h ha (by unfold SL;simp[h8]);unfold Ci;simp only[h8];refine⟨λhf hv=>?_,λht=>?_⟩
   .rw[hf]at hm;exact hp _ hm _ hv
   .rw[ht]at hm;exact hn _ hm _
  by_cases h9:(nodeAt q a).1=9
  .have hm:=acR h ha (by unfold SL;simp[h9]);unfold Ci;simp only[h9];refine⟨λhf hv=>?_,λht=>?_⟩
   .rw[hf]at hm;have hv:(!((f.2.2.2.1==0))&&X (nodeAt q a).2.2.2.1 f.2.2.2.1)=true:=hv;rw[ane]at hv;show(!((f.2.2.2.1==0))&&Y (nodeAt q a).2.2.2.1 f.2.2.2.1)=true;rw[ane];exact⟨hv.1,hp _ hm _ hv.2⟩
   .rw[ht]at hm;show(!((f.2.2.2.1==0))&&X (nodeAt q a).2.2.2.1 f.2.2.2.1)=(!((f.2.2.2.1==0))&&Y (nodeAt q a).2.2.2.1 f.2.2.2.1);rw[hn _ hm]
  .have:Ci (nodeAt q a) f X=Ci (nodeAt q a) f Y:=by unfold Ci;rw[ang.2 h8,ang.2 h9];rfl
   rw[this];exact⟨λ_=>id,λ_=>rfl⟩
theorem acS{q:List aA}{f:bH}{X Y:BX}(hp:∀s∈BN q false,∀x,X s x=true->Y s x=true)(hn:∀s∈BN q true,∀x,X s x=Y s x)(hm:Jp q f X=true):Jp q f Y=true:=by unfold Jp at hm ⊢;rw[ane]at hm ⊢;have hl:=jD hm.1;exact⟨hm.1,(ahh hm.1 hp hn _ (by omega)).1 (afs hm.1) hm.2⟩
theorem aep{fs:List bH}{q:List aA}{X:BX}{x:Int}:(x,())∈sel fs q X↔∃f∈fs,f.1=x/\Jp q f X=true:=by
 unfold sel;rw[ao3];constructor
 .rintro⟨f,hf,e⟩;rw[ao5]at hf;exact⟨f,hf.1,congrArg Prod.fst e,hf.2⟩
 .rintro⟨f,hf,rfl,hm⟩;exact⟨f,ao5.2 ⟨hf,hm⟩,rfl⟩
def aft(fs:List bH)(d:List eX):Sys Bytes Int where
 T:=λs X x=>∃i,i<d.length/\(qG d i).1=s/\(x,())∈sel fs (qG d i).2.1 X
 pos:=λs t=>∃i,i<d.length/\(qG d i).1=s/\t∈BN (qG d i).2.1 false
 neg:=λs t=>∃i,i<d.length/\(qG d i).1=s/\t∈BN (qG d i).2.1 true
 mono:=λs X Y hp hn x⟨i,hi,e,hx⟩=>⟨i,hi,e,by obtain⟨f,hf,e2,hm⟩:=aep.1 hx;exact aep.2 ⟨f,hf,e2,acS (λt ht=>hp t ⟨i,hi,e,ht⟩) (λt ht=>hn t ⟨i,hi,e,ht⟩) hm⟩⟩
end Sp
namespace Go.Fw
open Go
end Go.Fw
namespace Go.Fw
open Go
theorem vX{p:Prop}[Decidable p]{A B:Prop}(h:p)(a:A):cond (decide p) A B:=by rw[anE h];exact a
theorem vY{p:Prop}[Decidable p]{A B:Prop}(h:¬p)(b:B):cond (decide p) A B:=by rw[anC h];exact b
theorem CX{B:((Int×Unit)×Unit->Prop)->((Int×Unit)×Unit->Nat)->(Int×Unit)×Unit->Prop}(len:Nat)(hlen:len<=9223372036854775807)(J:Nat->Prop)(h0:J 0)
 (hstep:∀I μ(n:Nat),n<len->J n->(J (n+1)->I ((IntKind.i64.wrap ((n:Int)+1),()),())/\μ ((IntKind.i64.wrap ((n:Int)+1),()),())<μ (((n:Int),()),()))->B I μ (((n:Int),()),()))
 (hend:∀I μ,J len->B I μ (((len:Int),()),())):∃I,∃μ,I (((0:Int),()),())/\∀y,I y->B I μ y:=by
 refine⟨λy=>∃n:Nat,y.1.1=n/\n<=len/\J n,λy=>((len:Int)-y.1.1).toNat,⟨0,rfl,ano _,h0⟩,?_⟩;rintro⟨⟨_,⟨⟩⟩,⟨⟩⟩ ⟨n,rfl,hn,hJ⟩;rcases anL n len with h|h
 .refine hstep _ _ n h hJ λhJ'=>?_;have e:IntKind.i64.wrap ((n:Int)+1)=((n+1:Nat):Int):=gJ _ (by omega);rw[e];exact⟨⟨n+1,rfl,h,hJ'⟩,by show((len:Int)-(n+1:Nat)).toNat<((len:Int)-n).toNat;omega⟩
 .have:n=len:=by omega
  subst this;exact hend _ _ hJ
theorem zH{Y S:Type}(mk:Int->S->Y)(idx:Y->Int)(hidx:∀i s,idx (mk i s)=i){B:(Y->Prop)->(Y->Nat)->Y->Prop}(len:Nat)(hlen:len<=9223372036854775807)(J:Nat->S->Prop){s0:S}(h0:J 0 s0)
 (hstep:∀I μ(n:Nat)(s:S),n<len->J n s->(∀s',J (n+1) s'->I (mk (IntKind.i64.wrap ((n:Int)+1)) s')/\μ (mk (IntKind.i64.wrap ((n:Int)+1)) s')<μ (mk n s))->B I μ (mk n s))
 (hend:∀I μ s,J len s->B I μ (mk len s)):∃I,∃μ,I (mk 0 s0)/\∀y,I y->B I μ y:=by
 refine⟨λy=>∃(n:Nat)(s:S),y=mk n s/\n<=len/\J n s,λy=>((len:Int)-idx y).toNat,⟨0,s0,rfl,ano _,h0⟩,?_⟩;rintro _ ⟨n,s,rfl,hn,hJ⟩;rcases anL n len with h|h
 .refine hstep _ _ n s h hJ λs' hJ'=>?_;have e:IntKind.i64.wrap ((n:Int)+1)=((n+1:Nat):Int):=gJ _ (by omega);rw[e];refine⟨⟨n+1,s',rfl,h,hJ'⟩,?_⟩;show((len:Int)-idx (mk (n+1:Nat) s')).toNat<((len:Int)-idx (mk n s)).toNat;rw[hidx,hidx];omega
 .have:n=len:=by omega
  subst this;exact hend _ _ s hJ
theorem aaM{len:Nat}{f:Nat->Bool}{n:Nat}(hn:n<len)(h:f n=false):Sp.qF len f=false:=by unfold Sp.qF;rw[ap1];exact⟨n,aov.2 hn,by rw[h];simp⟩
theorem RH{len:Nat}{f:Nat->Bool}(h:∀i,i<len->f i=true):Sp.qF len f=true:=by unfold Sp.qF;rw[anx];exactλi hi=>h i (aov.1 hi)
theorem adH{len:Nat}{f:Nat->Bool}:Sp.qF len f=true↔∀i,i<len->f i=true:=by unfold Sp.qF;rw[anx];exact⟨λh i hi=>h i (aov.2 hi),λh i hi=>h i (aov.1 hi)⟩
theorem yB{n:Nat}{f:Nat->Bool}(h:∀i,i<n->f i=true)(hn:f n=true):∀i,i<n+1->f i=true:=λi hi=>by
 rcases anL i n with h'|h'
 .exact h i h'
 .have:i=n:=by omega
  rw[this];exact hn
theorem nV{b:Bool}(h:(!b)=true):b=false:=by cases b<;>first|rfl|cases h
theorem jL{b:Bool}(h:(!b)=false):b=true:=by cases b<;>first|rfl|cases h
theorem lV{p:Prop}[Decidable p](h:decide p=true):p:=aoe h
theorem nH{p:Prop}[Decidable p](h:decide p=false):¬p:=aoS h
theorem aef{n:Nat}(h:0<n)(hn:n<=9223372036854775807):IntKind.i64.wrap ((n:Int)-1)=((n-1:Nat):Int):=by rw[gJ _ (by omega)];omega
theorem SS{α:Type}{d:α}{a b:List α}(hl:a.length=b.length)(h:∀i,i<a.length->a.getD i d=b.getD i d):a=b:=by refine ap5 hl λi h1 h2=>?_;have:=h i h1;rw[anm,anm,anu h1,anu h2]at this;simpa using this
theorem MJ{α β:Type}(e:α->α->Bool)(he:∀x y,e x y=false↔x=y)(d:α)(a b:List α)(t:β)(hlen:a.length<=9223372036854775807)(hl:a.length=b.length){K:Bool×Unit->Prop}(hF:a≠b->K (false,()))(hT:a=b->K (true,())):
 ∃(I:(Int×Unit)×Unit->Prop),∃(μ:(Int×Unit)×Unit->Nat),I (((0:Int),()),())/\∀(y:(Int×Unit)×Unit),I y->
  bif decide (y.fst.fst<(a.length:Int))then
   ((0:Int)<=y.fst.fst/\y.fst.fst<(a.length:Int))/\((0:Int)<=y.fst.fst/\y.fst.fst<(b.length:Int))/\
     (bif e (a.getD (Int.toNat y.fst.fst) d) (b.getD (Int.toNat y.fst.fst) d)then K (false,())
     else t=t/\I ((IntKind.i64.wrap (y.fst.fst+(1:Int)),()),())/\μ ((IntKind.i64.wrap (y.fst.fst+(1:Int)),()),())<μ y)
  else K (true,()):=by
 refine CX a.length hlen (λn=>∀i,i<n->a.getD i d=b.getD i d) (λi hi=>by omega) (λI μ n hn hJ next=>?_) λI μ hJ=>(by dsimp only;exact vY (by omega) (hT (SS hl hJ)));dsimp only;refine vX (by omega) ⟨⟨by omega,by omega⟩,⟨by omega,by omega⟩,af (λh=>hF λh'=>?_) λh=>⟨rfl,next λi hi=>?_⟩⟩
 .subst h';have:=(he (a.getD n d) (a.getD n d)).2 rfl;have h:e (a.getD n d) (a.getD n d)=true:=h;rw[this]at h;cases h
 .rcases anL i n with h'|h'
  .exact hJ i h'
  .have:i=n:=by omega
   rw[this];exact(he _ _).1 h
theorem ahi{α β:Type}(e:α->α->Bool)(he:∀x y,e x y=false↔x=y)(d:α)(a b:List α)(t:β)(hlen:a.length<=9223372036854775807)(hl:a.length=b.length){K:Bool×Unit->Prop}(hF:a≠b->K (false,()))(hT:a=b->K (true,())):
 ∃(I:(Int×Unit)×Unit->Prop),∃(μ:(Int×Unit)×Unit->Nat),I (((0:Int),()),())/\∀(y:(Int×Unit)×Unit),I y->
  bif decide (y.fst.fst<(a.length:Int))then
   ((0:Int)<=y.fst.fst/\y.fst.fst<(a.length:Int))/\((0:Int)<=y.fst.fst/\y.fst.fst<(b.length:Int))/\True/\
     (bif e (a.getD (Int.toNat y.fst.fst) d) (b.getD (Int.toNat y.fst.fst) d)then K (false,())
     else t=t/\I ((IntKind.i64.wrap (y.fst.fst+(1:Int)),()),())/\μ ((IntKind.i64.wrap (y.fst.fst+(1:Int)),()),())<μ y)
  else K (true,()):=by
 refine CX a.length hlen (λn=>∀i,i<n->a.getD i d=b.getD i d) (λi hi=>by omega) (λI μ n hn hJ next=>?_) λI μ hJ=>(by dsimp only;exact vY (by omega) (hT (SS hl hJ)));dsimp only;refine vX (by omega) ⟨⟨by omega,by omega⟩,⟨by omega,by omega⟩,trivial,af (λh=>hF λh'=>?_) λh=>⟨rfl,next λi hi=>?_⟩⟩
 .subst h';have:=(he (a.getD n d) (a.getD n d)).2 rfl;have h:e (a.getD n d) (a.getD n d)=true:=h;rw[this]at h;cases h
 .rcases anL i n with h'|h'
  .exact hJ i h'
  .have:i=n:=by omega
   rw[this];exact(he _ _).1 h
end Go.Fw
namespace Sp
open Go Go.Fw
theorem adv{s:wR}:yL s=true↔(∀i,i<s.2.1.length->acN s i=true)/\IZ s.1=true/\s.2.1.length<=12/\1<=s.2.2.1/\s.2.2.1<=61:=by
 unfold yL;rw[ane,ane,ane,ane,anl,anl,anl,adH];constructor
 .rintro⟨⟨⟨h1,h2⟩,h3⟩,h4,h5⟩;exact⟨h1,h2,by omega,h4,h5⟩
 .rintro⟨h1,h2,h3,h4,h5⟩;exact⟨⟨⟨h1,h2⟩,by omega⟩,h4,h5⟩
theorem I4(s:wR)(f:bH):(Af s f=(s,0,false)/\¬(yL s=true/\s.2.1.length<12/\FV s.1 (s.2.2.1,f.2)=true))\/
 (yL s=true/\s.2.1.length<12/\FV s.1 (s.2.2.1,f.2)=true/\Af s f=((s.1,s.2.1++[(s.2.2.1,f.2)],s.2.2.1+1,()),s.2.2.1,true)):=by
 by_cases h:yL s=true/\s.2.1.length<12/\FV s.1 (s.2.2.1,f.2)=true
 .right;refine⟨h.1,h.2.1,h.2.2,?_⟩;unfold Af;dsimp only;rw[h.1,h.2.2,anE (by omega)];rfl
 .left;refine⟨?_,h⟩;have:(yL s&&decide ((s.2.1.length:Int)<12)&&FV s.1 (s.2.2.1,f.2))=false:=by
   cases hb:(yL s&&decide ((s.2.1.length:Int)<12)&&FV s.1 (s.2.2.1,f.2))with
   |false=>rfl
   |true=>simp only[ane,anl]at hb;exact(h ⟨hb.1.1,by omega,hb.2⟩).elim
  unfold Af;dsimp only;rw[this];rfl
theorem Ru{α:Type}{p:α->Bool}{d:α}:∀(l:List α)(n:Nat),n<=l.length->(∀i,i<n->p (l.getD i d)=true)->(n<l.length->p (l.getD n d)=false)->l.takeWhile p=l.take n/\l.dropWhile p=l.drop n
 |[],n,h,_,_=>by simp
 |x::r,0,_,_,h=>by
  have h:p x=false:=h (by simp);constructor<;>simp[h]
 |x::r,n+1,hn,h1,h2=>by have h0:p x=true:=h1 0 (by omega);have:=Ru r n (by simpa using hn) (λi hi=>h1 (i+1) (by omega)) λhlt=>h2 (by simpa using hlt);constructor<;>simp[h0,this.1,this.2]
end Sp
namespace Sp
open Go Go.Fw
theorem agB{x y:UInt8}{a b:Bytes}:Op.bytesLess (x::a) (y::b)=true↔x.toNat<y.toNat\/(x=y/\Op.bytesLess a b=true):=by show(decide (x<y)||(x==y&&Op.bytesLess a b))=true↔_;rw[aot,anl,ane,anq,UInt8.lt_iff_toNat_lt]
theorem Yh:∀a b c:Bytes,Op.bytesLess a b=true->Op.bytesLess b c=true->Op.bytesLess a c=true
 |_,[],_,h,_=>by cases h':(‹Bytes›:Bytes)<;>simp_all [Op.bytesLess]
 |_,_::_,[],_,h=>by cases h
 |[],_::_,_::_,_,_=>rfl
 |x::a,y::b,z::c,h1,h2=>by
  rw[agB]at h1 h2 ⊢;rcases h1 with h1|⟨rfl,h1⟩
  .rcases h2 with h2|⟨rfl,h2⟩
   .exact .inl (by omega)
   .exact .inl h1
  .rcases h2 with h2|⟨rfl,h2⟩
   .exact .inl h2
   .exact .inr ⟨rfl,Yh a b c h1 h2⟩
end Sp
namespace Sp
open Go
def nameOf(d:List eX)(i:Nat):Bytes:=(qG d i).1
def Ih(d:List eX)(i:Nat):List aA:=(qG d i).2.1
def ahV(r:List wX)(i:Nat):wX:=r.getD i ([],[],())
def OV(r:List wX)(i:Nat):List (Int×Unit):=(ahV r i).2.1
def akk(d:List eX)(iM:List (Int×Unit)):Prop:=
 iM.length=d.length/\(∀i,i<d.length->0<=lv iM i/\lv iM i<=d.length)/\(Nk (Ai d) λi=>(lv iM i).toNat)/\∀M,Nk (Ai d) M->∀i,i<d.length->lv iM i<=M i
def ahj(d:List eX)(iM:List (Int×Unit))(s:Bytes):Nat:=(lv iM (qM d s).toNat).toNat
def due(d:List eX)(nm:Bytes->Bool)(s:Bytes):Prop:=nm s=true/\∃i,i<d.length/\nameOf d i=s
def aaq(d:List eX)(out:List wX):Prop:=out.length=d.length/\∀i,i<d.length->(ahV out i).1=nameOf d i
structure akl(fs:List bH)(d:List eX)(r:List wX)(nm:Bytes->Bool)(out:List wX):Prop where
 order:aaq d out
 kept:∀i,i<d.length->nm (nameOf d i)=false->OV out i=Yg r (nameOf d i)
 fix:∀i,i<d.length->nm (nameOf d i)=true->OV out i=sel fs (Ih d i) (TU out)
 iM:∃iM,akk d iM/\Eval (aft fs d) (due d nm) (ahj d iM) (TU out)
def TV{ι α:Type}(S:Sys ι α)(N:ι->Prop)(iM:ι->Nat)(k:Nat)(X:Ext ι α):Prop:=
 ∀Y:Ext ι α,(∀i,¬(N i/\iM i=k)->∀x,Y i x=X i x)->(∀i,N i->iM i=k->∀x,S.T i Y x->Y i x=true)->∀i,N i->iM i=k->∀x,X i x=true->Y i x=true
open Classical in
theorem aiq{ι α:Type}{S:Sys ι α}{N:ι->Prop}{iM:ι->Nat}(hs:akj S N iM){m:Nat}{X X':Ext ι α}(h:∀i,¬(N i/\m<iM i)->∀x,X i x=X' i x)(hX:TV S N iM m X):TV S N iM m X':=by
 intro Y hY hp i hi hl x hx;have key:=hX (λi x=>if N i/\m<iM i then X i x else Y i x) (λj hj y=>?_) (λj hj hlj y hy=>?_) i hi hl x (by rw[h i (by omega)];exact hx)
 .rw[if_neg (by omega)]at key;exact key
 .by_cases hc:N j/\m<iM j
  .rw[if_pos hc]
  .rw[if_neg hc,hY j hj,h j hc]
 .rw[if_neg (by omega)];have same:∀t,(S.pos j t\/S.neg j t)->¬(N t/\m<iM t):=λt ht hc=>by
   rcases ht with ht|ht
   .have:=(hs j t hj hc.1).1 ht;omega
   .have:=(hs j t hj hc.1).2 ht;omega
  refine hp j hj hlj y (S.mono j _ Y (λt ht z hz=>?_) (λt ht z=>?_) y hy)
  .rw[if_neg (same t (.inl ht))]at hz;exact hz
  .rw[if_neg (same t (.inr ht))]
def canon(fs:List bH)(l:List (Int×Unit)):Prop:=l=(fs.filter λf=>afo l f.1).map λf=>(f.1,())
structure alN(fs:List bH)(d:List eX)(r:List wX)(nm:Bytes->Bool)(iM:List (Int×Unit))(k:Nat)(out:List wX):Prop where
 order:aaq d out
 kept:∀i,i<d.length->nm (nameOf d i)=false->OV out i=Yg r (nameOf d i)
 later:∀i,i<d.length->nm (nameOf d i)=true->(k:Int)<lv iM i->OV out i=[]
 done:∀i,i<d.length->nm (nameOf d i)=true->lv iM i<k->OV out i=sel fs (Ih d i) (TU out)
 amk:∀m,m<k->TV (aft fs d) (due d nm) (ahj d iM) m (TU out)
 amZ:∀i,i<d.length->nm (nameOf d i)=true->lv iM i=k->∀x,afo (OV out i) x=true->(x,())∈sel fs (Ih d i) (TU out)
 least:TV (aft fs d) (due d nm) (ahj d iM) k (TU out)
 canon:∀i,i<d.length->nm (nameOf d i)=true->canon fs (OV out i)
def room(n:Nat)(out:List wX):Nat:=(out.map λx=>n-x.2.1.length).sum
end Sp
namespace Sp
open Go
abbrev acT:=List jP×List bH×Int×List eX×List wX×Unit
instance:DecidableEq (List (Int×Unit)):=inferInstance
instance:DecidableEq wX:=inferInstance
instance:DecidableEq (List wX):=inferInstance
instance:DecidableEq (List wX×Unit):=inferInstance
instance:DecidableEq (List eX×List wX×Unit):=inferInstance
instance:DecidableEq (Int×List eX×List wX×Unit):=inferInstance
instance:DecidableEq (List bH×Int×List eX×List wX×Unit):=inferInstance
instance am0:DecidableEq acT:=(inferInstance:DecidableEq (List jP×List bH×Int×List eX×List wX×Unit))
def ajo(c:acT):wR:=(c.1,c.2.1,c.2.2.1,())
def ahW(c:acT):List eX:=c.2.2.2.1
def alI(c:acT):List wX:=c.2.2.2.2.1
open Classical in
noncomputable def amP (c:acT):Bool:=afn (ahW c)&&yL (ajo c)&&decide (akl c.2.1 (ahW c) [] (λ_=>true) (alI c))
def ahk(f g:bH):List Bytes:=((f.2.2.2.2.1++g.2.2.2.2.1).map λa=>a.1).filter λs=>!decide (ET f.2.2.2.2.1 s=ET g.2.2.2.2.1 s)
def air(q:List aA):List Bytes:=(q.filter λn=>n.1==2||(n.1==3||n.1==4)).map λn=>n.2.2.2.1
def ajp(q:List aA):List Bytes:=(q.filter SL).map λn=>n.2.2.2.1
def linked(q:List aA):Bool:=q.any λn=>n.1==9
inductive Reach(d:List eX)(P:Bytes->Prop):Bytes->Prop where
 |base {s}:P s->Reach d P s
 |step {s i}:Reach d P s->i<d.length->s∈ajp (Ih d i)->Reach d P (nameOf d i)
def ahl(d:List eX)(f g:bH)(s:Bytes):Prop:=
 ∃i,i<d.length/\nameOf d i=s/\(f.1≠g.1\/(∃t,t∈air (Ih d i)/\t∈ahk f g)\/(linked (Ih d i)=true/\f.2.2.2.1≠g.2.2.2.1))
def Aff(d:List eX)(f g:bH):Bytes->Prop:=Reach d (ahl d f g)
open Classical in
noncomputable def am1 (d:List eX) (f g:bH) (s:Bytes):Bool:=decide (Aff d f g s)
end Sp
namespace Sp
open Go
end Sp
namespace Sp
open Go
def alJ(as:List bJ):Prop:=as.Pairwise λx y=>Op.bytesLess x.1 y.1=true
theorem acU{α:Type}{R:α->α->Prop}(ht:∀a b c,R a b->R b c->R a c)(d:α):∀(l:List α),(∀i,i+1<l.length->R (l.getD i d) (l.getD (i+1) d))->l.Pairwise R
 |[],_=>List.Pairwise.nil
 |[x],_=>List.pairwise_singleton _ _
 |x::y::r,h=>by
  have ih:=acU ht d (y::r) λi hi=>h (i+1) (by simpa using hi);have h0:R x y:=h 0 (by simp);refine aoR.2 ⟨λz hz=>?_,ih⟩;rcases anA.1 hz with rfl|hz
  .exact h0
  .exact ht _ _ _ h0 ((aoR.1 ih).1 z hz)
theorem adD{fs:List jP}{as:List bJ}:oW fs as=true↔(∀a∈as,OM fs a.1 a.2.1 a.2.2.1 a.2.2.2.1=true)/\alJ as:=by
 have at_:∀i(hi:i<as.length),iW as i=as[i]:=λi hi=>by unfold iW;rw[anm,anu hi];rfl
 unfold oW;rw[show(qF as.length (Jo fs as)=true)↔∀i,i<as.length->Jo fs as i=true from by unfold qF;rw[anx];exact⟨λh i hi=>h i (aov.2 hi),λh i hi=>h i (aov.1 hi)⟩];have one:∀i,Jo fs as i=true↔OM fs (iW as i).1 (iW as i).2.1 (iW as i).2.2.1 (iW as i).2.2.2.1=true/\(0<i->Op.bytesLess (iW as (i-1)).1 (iW as i).1=true):=λi=>by
  unfold Jo;rw[ane];refine apx λ_=>?_;by_cases h0:0<i
  .rw[anE h0];simp[h0]
  .rw[anC h0];simp[h0]
 constructor
 .intro h;refine⟨λa ha=>?_,?_⟩
  .obtain⟨i,hi,rfl⟩:=List.getElem_of_mem ha;have:=((one i).1 (h i hi)).1;rw[at_ i hi]at this;exact this
  .refine acU (R:=λx y:bJ=>Op.bytesLess x.1 y.1=true) (λa b c h1 h2=>Yh _ _ _ h1 h2) ([],0,0,[],()) as λi hi=>?_;exact((one (i+1)).1 (h (i+1) hi)).2 (by omega)
 .rintro⟨h1,h2⟩ i hi;refine(one i).2 ⟨?_,λh0=>?_⟩
  .rw[at_ i hi];exact h1 _ (ao9 hi)
  .rw[at_ i hi,at_ (i-1) (by omega)];exact List.pairwise_iff_getElem.1 h2 (i-1) i (by omega) hi (by omega)
end Sp
namespace Sp
open Go
def named(f:bH)(w:Bytes):bH:=(f.1,f.2.1,f.2.2.1,f.2.2.2.1,iT f.2.2.2.2.1 [110] 2 0 w,())
end Sp
namespace Sp
open Go
def jO(b:UInt8):Bool:=decide (32<=b.toNat)&&decide (b.toNat<=126)
def jU(s:Bytes):Bool:=s.all λb=>decide (b.toNat<128)
def wordsOf(s:Bytes):LS:=(Lib.fields s).map (·,())
def bW(s:Bytes):Bool:=decide ((s.length:Int)<=600)&&s.all jO&&decide (((Lib.fields s).length:Int)<=24)
def ai(s:Bytes):LS:=bif bW s then wordsOf s else[]
def ji(s:Bytes):Int:=s.foldl (λn b=>10*n+((b.toNat:Int)-48)) 0
def aN(s:Bytes):Bool:=aB (ji s)&&(Lib.itoa (ji s)==s)
def parseNum(s:Bytes):Int:=bif aN s then ji s else 0
def wordAt(w:LS)(i:Int):Bytes:=bif decide (i>=(w.length:Int))then[]else(w.getD i.toNat ([],())).1
def dL(w:LS):Bytes:=Lib.join (w.map (·.1)) [32]
def numAt(w:LS)(i:Int):Int:=parseNum (wordAt w i)
def dQ(w:LS):Int×Int×Bytes×Int:=
 bif wordAt w 0==[99,111,109,109,105,116]then(1,numAt w 1,[],0)else
 bif wordAt w 0==[99,114,97,115,104]then(2,numAt w 1,[],numAt w 2)else
 bif wordAt w 0==[119,97,116,99,104]then(3,numAt w 1,wordAt w 2,0)else
 bif wordAt w 0==[112,105,110]then(4,0,[],numAt w 1)else
 bif wordAt w 0==[117,110,112,105,110]then(5,0,[],numAt w 1)else
 bif wordAt w 0==[99,111,108,108,101,99,116]then(6,0,[],0)else
 bif wordAt w 0==[97,100,100]then(7,numAt w 1,wordAt w 2,numAt w 3)else
 bif wordAt w 0==[114,101,109,111,118,101]then(8,numAt w 1,wordAt w 2,numAt w 3)else(0,0,[],0)
def gV(x:Int×Int×Bytes×Int):Bytes:=aS x.1 x.2.1 0 x.2.2.1 x.2.2.2
def dR(s:Bytes):Bool:=bW s&&!(wordsOf s==[])&&(!(gV (dQ (wordsOf s))==[])&&(gV (dQ (wordsOf s))==dL (wordsOf s)))
def gu(s:Bytes):Zu:=
 bif dR s then((dQ (wordsOf s)).1,(dQ (wordsOf s)).2.1,[],(dQ (wordsOf s)).2.2.1,(dQ (wordsOf s)).2.2.2,())else(0,0,[],[],0,())
end Sp
namespace Sp
open Go
theorem acV(u:Nat):Lib.itoa (u:Int)=Lib.decDigits u:=by unfold Lib.itoa;rw[if_neg (by omega)];simp
theorem BO(s:Bytes)(d:UInt8):ji (s++[d])=10*ji s+((d.toNat:Int)-48):=by simp[ji,List.foldl_append]
theorem byte_of(d:Nat)(h:d<10):(UInt8.ofNat (48+d)).toNat=48+d:=by rw[UInt8.toNat_ofNat'];omega
theorem Nl(s:List UInt8):∀(acc:Nat)(n:Nat),Lib.decFrom acc s=some n->∀d,d<10->Lib.decFrom acc (s++[UInt8.ofNat (48+d)])=some (n*10+d):=by
 intro acc n h d hd
 induction s generalizing acc with
 |nil=>
  simp only[Lib.decFrom,Option.some.injEq]at h;subst h;have:∀d:Fin 10,Lib.digitVal (UInt8.ofNat (48+d.val))=some d.val:=by decide
  have h2:=this ⟨d,hd⟩;simp only[an7,Lib.decFrom];rw[h2]
 |cons a r ih=>
  simp only[aow,Lib.decFrom]at h ⊢;cases hv:Lib.digitVal a with
  |none=>rw[hv]at h;simp at h
  |some x=>rw[hv]at h;simp only at h ⊢;exact ih _ h
theorem BP:∀(k u:Nat),u<10 ^ (k+1)->ji (Lib.decDigits u)=u/\Lib.decFrom 0 (Lib.decDigits u)=some u/\(∀b∈Lib.decDigits u,48<=b.toNat/\b.toNat<=57)/\Lib.decDigits u≠[]/\(Lib.decDigits u).length<=k+1
 |0,u,h=>by
  have h:u<10:=by simpa using h
  rw[Lib.decDigits_one h];have hb:=byte_of u h;have:=Nl [] 0 0 rfl u h;refine⟨?_,?_,λb hm=>?_,aps _ _,ann _⟩
  .have:=BO [] (UInt8.ofNat (48+u));rw[an7]at this;rw[this,hb];show 10*0+_=_;omega
  .rw[an7,ao7,anJ]at this;exact this
  .rw[aod]at hm;subst hm;omega
 |k+1,u,h=>by
  by_cases h1:u<10
  .have:=BP 0 u (by simpa using h1);exact⟨this.1,this.2.1,this.2.2.1,this.2.2.2.1,by omega⟩
  .have hd:u / 10<10 ^ (k+1):=by rw[Nat.pow_succ]at h;omega
   obtain⟨i1,i2,i3,i4,i5⟩:=BP k (u / 10) hd;have e:Lib.decDigits u=Lib.decDigits (u / 10)++[UInt8.ofNat (48+u%10)]:=by
    conv=>lhs;rw[Lib.decDigits,dif_neg h1]
   have hm:u%10<10:=apR _ (by decide);have hb:=byte_of (u%10) hm;rw[e];refine⟨by rw[BO,i1,hb];omega,?_,λb hb2=>?_,by simp,by simp;omega⟩
   .rw[Nl _ _ _ i2 _ hm];congr 1;omega
   .rcases an4.1 hb2 with h2|h2
    .exact i3 b h2
    .rw[aod]at h2;subst h2;omega
theorem xJ{n:Int}:aB n=true↔0<=n/\n<=1000000000:=by unfold aB;rw[ane,anl,anl]
theorem qi{n:Int}(h:aB n=true):ji (Lib.itoa n)=n/\Lib.atoi (Lib.itoa n)=some n/\(∀b∈Lib.itoa n,48<=b.toNat/\b.toNat<=57)/\Lib.itoa n≠[]/\(Lib.itoa n).length<=10:=by
 obtain⟨h0,h1⟩:=xJ.1 h;obtain⟨u,rfl⟩:=Int.eq_ofNat_of_zero_le h0;have hu:u<10 ^ (9+1):=by omega
 rw[acV];obtain⟨i1,i2,i3,i4,i5⟩:=BP 9 u hu;refine⟨i1,?_,i3,i4,i5⟩;cases hd:Lib.decDigits u with
 |nil=>exact absurd hd i4
 |cons b r=>
  have hb:=i3 b (by rw[hd];simp);rw[hd]at i2;have n45:(b==45)=false:=by rw[ang];intro e;subst e;revert hb;decide
  have n43:(b==43)=false:=by rw[ang];intro e;subst e;revert hb;decide
  simp only[Lib.atoi,n45,n43,Lib.decNat,aoP,apm,List.isEmpty_cons,i2,aof]
theorem Bz{s:Bytes}:aN s=true↔aB (ji s)=true/\Lib.itoa (ji s)=s:=by unfold aN;rw[ane,anq]
theorem Og{s:Bytes}{n:Int}(h:aB n=true)(e:Lib.itoa n=s):aN s=true/\parseNum s=n:=by
 have hv:ji s=n:=by rw[← e];exact(qi h).1
 have:aN s=true:=Bz.2 ⟨by rw[hv];exact h,by rw[hv];exact e⟩;exact⟨this,by unfold parseNum;rw[this];exact hv⟩
theorem jQ{n:Int}(h:aB n=true):aN (Lib.itoa n)=true/\parseNum (Lib.itoa n)=n:=Og h rfl
theorem iR{s:Bytes}(h:aN s=true):Lib.itoa (parseNum s)=s/\aB (parseNum s)=true:=by
 have e:parseNum s=ji s:=by unfold parseNum;rw[h];rfl
 rw[e];exact⟨(Bz.1 h).2,(Bz.1 h).1⟩
theorem BK(s:Bytes):aB (parseNum s)=true:=by
 cases h:aN s with
 |true=>exact(iR h).2
 |false=>unfold parseNum;rw[h];rfl
theorem Bq{s:Bytes}(h:aN s=false):parseNum s=0:=by unfold parseNum;rw[h];rfl
theorem aaV{s:Bytes}(h:aN s=true):s.length<=10:=by
 have:=(qi (iR h).2).2.2.2.2
 rwa [(iR h).1]at this
theorem Ro{s:Bytes}(h:10<s.length):aN s=false:=by
 cases hp:aN s with
 |false=>rfl
 |true=>have:=aaV hp;omega
theorem Np{s:Bytes}(h:aN s=true):∀b∈s,48<=b.toNat/\b.toNat<=57:=by
 have:=(qi (iR h).2).2.2.1
 rwa [(iR h).1]at this
end Sp
namespace Sp
open Go
def vg(x:Bytes):Prop:=x≠[]/\∀b∈x,Lib.isSp b=false
theorem Gx:∀(x cur l:Bytes),(∀b∈x,Lib.isSp b=false)->Lib.fieldsGo cur (x++l)=Lib.fieldsGo (cur++x) l
 |[],cur,l,_=>by rw[anN,an7]
 |b::x,cur,l,h=>by rw[aow,Lib.fieldsGo_more _ _ _ (h b anp),Gx x _ l (λc hc=>h c (ant _ hc)),anz];rfl
theorem PE:∀(r:List Bytes)(x:Bytes),x≠[]->(∀y∈r,vg y)->Lib.fieldsGo x (Lib.joinTail [32] r)=x::r
 |[],x,hx,_=>by
  cases x with
  |nil=>exact absurd rfl hx
  |cons _ _=>simp[Lib.joinTail,Lib.fieldsGo]
 |y::r,x,hx,h=>by
  have hy:=h y anp;have e:Lib.joinTail [32] (y::r)=32::(y++Lib.joinTail [32] r):=by simp[Lib.joinTail]
  rw[e,Lib.fieldsGo_end x 32 _ (by decide) hx,Gx y [] _ hy.2,an7,PE r y hy.1 λz hz=>h z (ant _ hz)]
theorem Fg:∀ws:List Bytes,(∀x∈ws,vg x)->Lib.fields (Lib.join ws [32])=ws
 |[],_=>rfl
 |x::r,h=>by have hx:=h x anp;unfold Lib.fields;rw[Lib.join_cons,Gx x [] _ hx.2,an7,PE r x hx.1 λz hz=>h z (ant _ hz)]
theorem Aj:∀(l cur:Bytes),(∀b∈cur,Lib.isSp b=false)->∀x∈Lib.fieldsGo cur l,vg x
 |[],cur,hc,x,hx=>by
  rw[Lib.fieldsGo]at hx;split at hx
  .cases hx
  .next h=>simp at hx;subst hx;exact⟨λe=>h (by rw[e];rfl),hc⟩
 |b::l,cur,hc,x,hx=>by
  rw[Lib.fieldsGo]at hx;split at hx
  .split at hx
   .exact Aj l [] (by simp) x hx
   .next h=>
    rcases anA.1 hx with rfl|hx
    .exact⟨λe=>h (by rw[e];rfl),hc⟩
    .exact Aj l [] (by simp) x hx
  .next hb=>
   refine Aj l (cur++[b]) (λc h=>?_) x hx;rcases an4.1 h with h|h
   .exact hc c h
   .rw[aod]at h;subst h;simpa using hb
theorem acW(s:Bytes):∀x∈Lib.fields s,vg x:=Aj s [] (by simp)
theorem Gy(s:Bytes):∀x∈wordsOf s,vg x.1:=by intro x hx;obtain⟨y,hy,rfl⟩:=ao3.1 hx;exact acW s y hy
theorem map_unit:∀w:LS,(w.map (·.1)).map (·,())=w
 |[]=>rfl
 |(_,())::r=>by rw[anH,anH,map_unit r]
theorem zK(ws:List Bytes)(h:∀x∈ws,vg x):wordsOf (Lib.join ws [32])=ws.map (·,()):=by unfold wordsOf;rw[Fg ws h]
def tidy(t:Bytes):Prop:=∃ws:List Bytes,(∀x∈ws,vg x)/\t=Lib.join ws [32]
theorem Ia{t:Bytes}(h:tidy t){w:LS}(hw:∀x∈w,vg x.1):wordsOf t=w↔t=dL w:=by
 obtain⟨ws,h1,rfl⟩:=h;rw[zK ws h1];constructor
 .rintro rfl;unfold dL;rw[aoN];congr 1;exact(apt ws).symm
 .intro e;have:=congrArg Lib.fields e;rw[Fg ws h1]at this;unfold dL at this;rw[Fg _ (λx hx=>by obtain⟨y,hy,rfl⟩:=ao3.1 hx;exact hw y hy)]at this;rw[this,map_unit]
theorem OW{n:Int}(h:aB n=true):vg (Lib.itoa n):=by
 obtain⟨_,_,h3,h4,_⟩:=qi h;refine⟨h4,λb hb=>?_⟩;have:=h3 b hb;unfold Lib.isSp;have ne:∀c:UInt8,c.toNat<48->(b==c)=false:=λc hc=>by rw[ang];intro e;subst e;omega
 rw[ne 9 (by decide),ne 10 (by decide),ne 11 (by decide),ne 12 (by decide),ne 13 (by decide),ne 32 (by decide)];rfl
theorem U6{s:Bytes}(h:au s=true):vg s:=by
 unfold au lower at h;rw[ane,ane,anx,anl,anl]at h;refine⟨λe=>by subst e;simp at h,λb hb=>?_⟩;have:=h.1.1 b hb;rw[ane,anl,anl]at this;unfold Lib.isSp;have ne:∀c:UInt8,c.toNat<97->(b==c)=false:=λc hc=>by rw[ang];intro e;subst e;omega
 rw[ne 9 (by decide),ne 10 (by decide),ne 11 (by decide),ne 12 (by decide),ne 13 (by decide),ne 32 (by decide)];rfl
theorem itoa_ascii(n:Int)(h:aB n=true):jU (Lib.itoa n)=true:=by unfold jU;rw[anx];intro b hb;have:=(qi h).2.2.1 b hb;rw[anl];omega
def kX:Bytes:=[99,111,109,109,105,116]
def nD:Bytes:=[99,114,97,115,104]
def lM:Bytes:=[119,97,116,99,104]
def BM:Bytes:=[112,105,110]
def um:Bytes:=[117,110,112,105,110]
def qj:Bytes:=[99,111,108,108,101,99,116]
def xU:Bytes:=[97,100,100]
def mO:Bytes:=[114,101,109,111,118,101]
def dw(k u:Int)(n:Bytes)(a:Int):List Bytes:=
 bif k==1 then[kX,Lib.itoa u]else bif k==2 then[nD,Lib.itoa u,Lib.itoa a]else bif k==3 then[lM,Lib.itoa u,n]else
 bif k==4 then[BM,Lib.itoa a]else bif k==5 then[um,Lib.itoa a]else bif k==6 then[qj]else bif k==7 then[xU,Lib.itoa u,n,Lib.itoa a]else[mO,Lib.itoa u,n,Lib.itoa a]
theorem ahm(x:Bytes)(h:x=kX\/x=nD\/x=lM\/x=BM\/x=um\/x=qj\/x=xU\/x=mO):vg x:=by rcases h with rfl|rfl|rfl|rfl|rfl|rfl|rfl|rfl<;>exact⟨by decide,by decide⟩
def good(x:Bytes):Prop:=vg x/\jU x=true
theorem CZ(x:Bytes)(h:x=kX\/x=nD\/x=lM\/x=BM\/x=um\/x=qj\/x=xU\/x=mO):good x:=by refine⟨ahm x h,?_⟩;rcases h with rfl|rfl|rfl|rfl|rfl|rfl|rfl|rfl<;>decide
theorem rU{n:Int}(h:aB n=true):good (Lib.itoa n):=⟨OW h,itoa_ascii n h⟩
theorem OX{s:Bytes}(h:au s=true):good s:=by refine⟨U6 h,?_⟩;unfold au lower at h;rw[ane,ane,anx]at h;unfold jU;rw[anx];intro b hb;have:=h.1.1 b hb;rw[ane,anl,anl]at this;rw[anl];omega
theorem Jq{a b:Bytes}(ha:jU a=true)(hb:jU b=true):jU (a++b)=true:=by unfold jU at*;rw[aoM,ha,hb];rfl
theorem Yi:∀r:List Bytes,(∀x∈r,jU x=true)->jU (Lib.joinTail [32] r)=true
 |[],_=>rfl
 |x::r,h=>by
  have e:Lib.joinTail [32] (x::r)=[32]++(x++Lib.joinTail [32] r):=by simp[Lib.joinTail]
  rw[e];exact Jq (by decide) (Jq (h x anp) (Yi r λy hy=>h y (ant _ hy)))
theorem Yj:∀ws:List Bytes,(∀x∈ws,jU x=true)->jU (Lib.join ws [32])=true
 |[],_=>rfl
 |x::r,h=>by rw[Lib.join_cons];exact Jq (h x anp) (Yi r λy hy=>h y (ant _ hy))
theorem tV(x y:Bytes):Lib.join [x,y] [32]=x++32::y:=by rw[Lib.join_cons];simp[Lib.joinTail]
theorem BL(x y z:Bytes):Lib.join [x,y,z] [32]=x++32::(y++32::z):=by rw[Lib.join_cons];simp[Lib.joinTail]
theorem OA(x y z u:Bytes):Lib.join [x,y,z,u] [32]=x++32::(y++32::(z++32::u)):=by rw[Lib.join_cons];simp[Lib.joinTail]
theorem BQ(k u:Int)(nc:Nat)(n:Bytes)(a:Int)(h:aS k u nc n a≠[]):
 aS k u nc n a=Lib.join (dw k u n a) [32]/\(∀x∈dw k u n a,good x):=by
 revert h;unfold aS;cases h0:iC k nc with
 |false=>simp
 |true=>
 cases h1:(decide ((nc:Int)>0)&&decide (k>2))with
 |true=>simp
 |false=>
 simp only[aoc,anO];by_cases k1:k=1
 .subst k1;cases c:(aB u&&(a==0&&n==[]))with
  |false=>simp
  |true=>
   rw[ane]at c;intro _;refine⟨by simp[dw,tV,kX],λx hx=>?_⟩;simp[dw]at hx;rcases hx with rfl|rfl
   .exact CZ _ (by simp)
   .exact rU c.1
 by_cases k2:k=2
 .subst k2;cases c:(aB u&&(aB a&&n==[]))with
  |false=>simp
  |true=>
   rw[ane,ane]at c;intro _;refine⟨by simp[dw,BL,nD],λx hx=>?_⟩;simp[dw]at hx;rcases hx with rfl|rfl|rfl
   .exact CZ _ (by simp)
   .exact rU c.1
   .exact rU c.2.1
 by_cases k3:k=3
 .subst k3;cases c:(aB u&&(au n&&a==0))with
  |false=>simp
  |true=>
   rw[ane,ane]at c;intro _;refine⟨by simp[dw,BL,lM],λx hx=>?_⟩;simp[dw]at hx;rcases hx with rfl|rfl|rfl
   .exact CZ _ (by simp)
   .exact rU c.1
   .exact OX c.2.1
 by_cases k4:k=4
 .subst k4;cases c:(u==0&&(aB a&&n==[]))with
  |false=>simp
  |true=>
   rw[ane,ane]at c;intro _;refine⟨by simp[dw,tV,BM],λx hx=>?_⟩;simp[dw]at hx;rcases hx with rfl|rfl
   .exact CZ _ (by simp)
   .exact rU c.2.1
 by_cases k5:k=5
 .subst k5;cases c:(u==0&&(aB a&&n==[]))with
  |false=>simp
  |true=>
   rw[ane,ane]at c;intro _;refine⟨by simp[dw,tV,um],λx hx=>?_⟩;simp[dw]at hx;rcases hx with rfl|rfl
   .exact CZ _ (by simp)
   .exact rU c.2.1
 by_cases k6:k=6
 .subst k6;cases c:(u==0&&(a==0&&n==[]))with
  |false=>simp
  |true=>intro _;refine⟨by simp[dw,Lib.join_one,qj],λx hx=>?_⟩;simp[dw]at hx;subst hx;exact CZ _ (by simp)
 by_cases k7:k=7
 .subst k7;cases c:(aB u&&(aB a&&au n))with
  |false=>simp
  |true=>
   rw[ane,ane]at c;intro _;refine⟨by simp[dw,OA,xU],λx hx=>?_⟩;simp[dw]at hx;rcases hx with rfl|rfl|rfl|rfl
   .exact CZ _ (by simp)
   .exact rU c.1
   .exact OX c.2.2
   .exact rU c.2.1
 by_cases k8:k=8
 .subst k8;cases c:(aB u&&(aB a&&au n))with
  |false=>simp
  |true=>
   rw[ane,ane]at c;intro _;refine⟨by simp[dw,OA,mO],λx hx=>?_⟩;simp[dw]at hx;rcases hx with rfl|rfl|rfl|rfl
   .exact CZ _ (by simp)
   .exact rU c.1
   .exact OX c.2.2
   .exact rU c.2.1
 .simp only[ang.2 k1,ang.2 k2,ang.2 k3,ang.2 k4,ang.2 k5,ang.2 k6,ang.2 k7,ang.2 k8,anY,anO];exactλh=>absurd rfl h
end Sp
namespace Sp
open Go
def Zg(w:LS):Bool:=
 bif wordAt w 0==kX then aN (wordAt w 1)else bif wordAt w 0==nD then aN (wordAt w 2)else bif wordAt w 0==lM then aN (wordAt w 1)else
 bif wordAt w 0==BM then aN (wordAt w 1)else bif wordAt w 0==um then aN (wordAt w 1)else bif wordAt w 0==qj then true else
 bif wordAt w 0==xU then aN (wordAt w 3)else bif wordAt w 0==mO then aN (wordAt w 3)else true
theorem Wn(w:LS):dQ w=
 (bif wordAt w 0==kX then(1,numAt w 1,[],0)else bif wordAt w 0==nD then(2,numAt w 1,[],numAt w 2)else bif wordAt w 0==lM then(3,numAt w 1,wordAt w 2,0)else
   bif wordAt w 0==BM then(4,0,[],numAt w 1)else bif wordAt w 0==um then(5,0,[],numAt w 1)else bif wordAt w 0==qj then(6,0,[],0)else
   bif wordAt w 0==xU then(7,numAt w 1,wordAt w 2,numAt w 3)else bif wordAt w 0==mO then(8,numAt w 1,wordAt w 2,numAt w 3)else(0,0,[],0)):=rfl
theorem Gj(w:LS)(i:Int)(h:wordAt w i=Lib.itoa (numAt w i)):aN (wordAt w i)=true:=by rw[h];exact(jQ (BK _)).1
theorem ais{w:LS}(hne:gV (dQ w)≠[])(hw:wordsOf (gV (dQ w))=w):Zg w=true:=by
 have key:∀k u n a,dQ w=(k,u,n,a)->w=(dw k u n a).map (·,()):=by intro k u n a e;rw[e]at hne hw;obtain⟨h1,h2⟩:=BQ k u 0 n a hne;have hw:wordsOf (aS k u 0 n a)=w:=hw;rw[h1,zK _ λx hx=>(h2 x hx).1]at hw;exact hw.symm
 rw[Wn]at key;unfold Zg;cases h1:wordAt w 0==kX with
 |true=>
  have:=key 1 (numAt w 1) [] 0 (by rw[h1];rfl);exact Gj w 1 ((congrArg (wordAt · 1) this).trans (by simp[wordAt,dw]))
 |false=>
 cases h2:wordAt w 0==nD with
 |true=>
  have:=key 2 (numAt w 1) [] (numAt w 2) (by rw[h1,h2];rfl);exact Gj w 2 ((congrArg (wordAt · 2) this).trans (by simp[wordAt,dw]))
 |false=>
 cases h3:wordAt w 0==lM with
 |true=>
  have:=key 3 (numAt w 1) (wordAt w 2) 0 (by rw[h1,h2,h3];rfl);exact Gj w 1 ((congrArg (wordAt · 1) this).trans (by simp[wordAt,dw]))
 |false=>
 cases h4:wordAt w 0==BM with
 |true=>
  have:=key 4 0 [] (numAt w 1) (by rw[h1,h2,h3,h4];rfl);exact Gj w 1 ((congrArg (wordAt · 1) this).trans (by simp[wordAt,dw]))
 |false=>
 cases h5:wordAt w 0==um with
 |true=>
  have:=key 5 0 [] (numAt w 1) (by rw[h1,h2,h3,h4,h5];rfl);exact Gj w 1 ((congrArg (wordAt · 1) this).trans (by simp[wordAt,dw]))
 |false=>
 cases h6:wordAt w 0==qj with
 |true=>rfl
 |false=>
 cases h7:wordAt w 0==xU with
 |true=>
  have:=key 7 (numAt w 1) (wordAt w 2) (numAt w 3) (by rw[h1,h2,h3,h4,h5,h6,h7];rfl);exact Gj w 3 ((congrArg (wordAt · 3) this).trans (by simp[wordAt,dw]))
 |false=>
 cases h8:wordAt w 0==mO with
 |true=>
  have:=key 8 (numAt w 1) (wordAt w 2) (numAt w 3) (by rw[h1,h2,h3,h4,h5,h6,h7,h8];rfl);exact Gj w 3 ((congrArg (wordAt · 3) this).trans (by simp[wordAt,dw]))
 |false=>rfl
theorem agC{w:LS}(hs:∀x∈w,vg x.1):
 (Zg w&&(!(gV (dQ w)==[])&&decide (wordsOf (gV (dQ w))=w)))=(!(gV (dQ w)==[])&&(gV (dQ w)==dL w)):=by
 cases he:gV (dQ w)==[]with
 |true=>rw[aoc,anY,anB,anY]
 |false=>
  have hne:gV (dQ w)≠[]:=ne_of_beq_false he;have ht:tidy (gV (dQ w)):=by rcases e:dQ w with⟨k,u,n,a⟩;rw[e]at hne;obtain⟨h1,h2⟩:=BQ k u 0 n a hne;exact⟨_,λx hx=>(h2 x hx).1,h1⟩
  have hiff:=Ia ht hs;rw[aoi,anF,anF];by_cases hw:wordsOf (gV (dQ w))=w
  .rw[ais hne hw,anE hw,anq.2 (hiff.1 hw)];rfl
  .rw[anC hw,anB,ang.2 (λe=>hw (hiff.2 e))]
theorem aaO(s:Bytes):dR s=(bW s&&!(wordsOf s==[])&&(Zg (wordsOf s)&&(!(gV (dQ (wordsOf s))==[])&&decide (wordsOf (gV (dQ (wordsOf s)))=wordsOf s)))):=by unfold dR;rw[agC (Gy s)]
theorem aaP(w:LS):jU (gV (dQ w))=true:=by
 by_cases hne:gV (dQ w)=[]
 .rw[hne];rfl
 .rcases e:dQ w with⟨k,u,n,a⟩;rw[e]at hne;obtain⟨h1,h2⟩:=BQ k u 0 n a hne;have h1:gV (k,u,n,a)=_:=h1;rw[h1];exact Yj _ λx hx=>(h2 x hx).2
end Sp
namespace Sp
open Go
theorem afh(b:UInt8):(decide ((32:Int)<=IntKind.i64.wrap (b.toNat:Int))&&decide (IntKind.i64.wrap (b.toNat:Int)<=126))=jO b:=by
 have e:IntKind.i64.wrap (b.toNat:Int)=b.toNat:=by rw[IntKind.wrap_i64];have:=b.toNat_lt;omega
 rw[e];unfold jO;congr 1
 .exact decide_eq_decide.2 (by omega)
 .exact decide_eq_decide.2 (by omega)
theorem xR{b:UInt8}:jO b=true↔32<=b.toNat/\b.toNat<=126:=by unfold jO;rw[ane,anl,anl]
theorem acr{p:UInt8->Bool}{s:Bytes}(h:∀i,i<s.length->p (s.getD i 0)=true):s.all p=true:=by
 rw[anx];intro x hx;obtain⟨i,hi,rfl⟩:=aoB.1 hx;have:=h i hi
 rwa [anm,anu hi]at this
theorem V7{p:UInt8->Bool}{s:Bytes}(h:s.all p=true){i:Nat}(hi:i<s.length):p (s.getD i 0)=true:=by rw[anm,anu hi];exact anx.1 h _ (ao9 hi)
theorem Zw{b:UInt8}(h:jO b=true):Lib.isSp b=(b==32):=by
 have h:=xR.1 h;unfold Lib.isSp;have ne:∀c:UInt8,c.toNat<32->(b==c)=false:=λc hc=>by rw[ang];intro e;subst e;omega
 rw[ne 9 (by decide),ne 10 (by decide),ne 11 (by decide),ne 12 (by decide),ne 13 (by decide)];rfl
theorem acs{s:Bytes}(h:s.all jO=true):jU s=true:=by unfold jU;rw[anx]at h ⊢;intro b hb;have:=xR.1 (h b hb);rw[anl];omega
theorem kE{s:Bytes}:bW s=true↔s.length<=600/\s.all jO=true/\(Lib.fields s).length<=24:=by
 unfold bW;rw[ane,ane,anl,anl];constructor
 .rintro⟨⟨h1,h2⟩,h3⟩;exact⟨by omega,h2,by omega⟩
 .rintro⟨h1,h2,h3⟩;exact⟨⟨by omega,h2⟩,by omega⟩
theorem aah{s:Bytes}(h:bW s=true):(ai s,bW s,())=(wordsOf s,true,()):=by unfold ai;rw[h];rfl
theorem Cc{s:Bytes}(h:¬(s.length<=600/\s.all jO=true/\(Lib.fields s).length<=24)):(ai s,bW s,())=(([]:LS),false,()):=by
 have:bW s=false:=by
  cases hs:bW s with
  |false=>rfl
  |true=>exact(h (kE.1 hs)).elim
 unfold ai;rw[this];rfl
theorem lX(s:Bytes):(wordsOf s).length=(Lib.fields s).length:=by unfold wordsOf;rw[anV]
def splitAt(s:Bytes)(n b:Nat)(out:LS):Prop:=
 b<=n/\n<=s.length+1/\out.length<=n/\(∀i,i<n->i<s.length->jO (s.getD i 0)=true)/\
 (n<=s.length->out.map (·.1)++Lib.fieldsGo ((s.take n).drop b) (s.drop n)=Lib.fields s)/\(n=s.length+1->out.map (·.1)=Lib.fields s)
theorem ack(s:Bytes):splitAt s 0 0 []:=⟨ann _,ano _,ann _,λi hi=>absurd hi (aoo _),λ_=>by simp[Lib.fields],λh=>by omega⟩
theorem acp{s:Bytes}{n b:Nat}{out:LS}(h:splitAt s n b out)(hn:n<s.length)(ho:jO (s.getD n 0)=true)(hc:s.getD n 0≠32):splitAt s (n+1) b out:=by
 obtain⟨h1,h2,h3,h4,h5,h6⟩:=h;refine⟨by omega,by omega,by omega,λi hi hi2=>?_,λ_=>?_,λh=>by omega⟩
 .rcases anL i n with h|h
  .exact h4 i h hi2
  · rwa [show i=n by omega]
 .rw[← h5 (by omega),Fw.drop_cons s n 0 hn,Lib.fieldsGo_more _ _ _ (by rw[Zw ho];exact ang.2 hc)];congr 2;rw[List.take_add_one,anu hn,anm,anu hn,apM];show List.drop b (List.take n s++[s[n]])=_;rw[aoY (by rw[anv];omega)]
theorem acn{s:Bytes}{n b:Nat}{out:LS}(h:splitAt s n b out)(hn:n<=s.length)(hb:b<n)(ho:n<s.length->jO (s.getD n 0)=true/\s.getD n 0=32):
 splitAt s (n+1) (n+1) (out++[((s.take n).drop b,())]):=by
 obtain⟨h1,h2,h3,h4,h5,h6⟩:=h;have hne:(s.take n).drop b≠[]:=λe=>by have:=congrArg List.length e;simp at this;omega
 refine⟨ann _,by omega,by simp;omega,λi hi hi2=>?_,λhl=>?_,λhl=>?_⟩
 .rcases anL i n with h|h
  .exact h4 i h hi2
  .rw[show i=n by omega];exact(ho (by omega)).1
 .have hn2:n<s.length:=by omega
  obtain⟨o1,o2⟩:=ho hn2;rw[← h5 hn,Fw.drop_cons s n 0 hn2,Lib.fieldsGo_end _ _ _ (by rw[Zw o1,o2];rfl) hne,(aor (by rw[anv];omega):(s.take (n+1)).drop (n+1)=[]),aoL,anz];rfl
 .have hn2:n=s.length:=by omega
  rw[← h5 hn,aor (by omega:s.length<=n),aoL];cases hcur:(s.take n).drop b with
  |nil=>exact absurd hcur hne
  |cons _ _=>simp[Lib.fieldsGo]
theorem aco{s:Bytes}{n b:Nat}{out:LS}(h:splitAt s n b out)(hn:n<=s.length)(hb:¬b<n)(ho:n<s.length->jO (s.getD n 0)=true/\s.getD n 0=32):splitAt s (n+1) (n+1) out:=by
 obtain⟨h1,h2,h3,h4,h5,h6⟩:=h;have he:(s.take n).drop b=[]:=aor (by rw[anv];omega);refine⟨ann _,by omega,by omega,λi hi hi2=>?_,λhl=>?_,λhl=>?_⟩
 .rcases anL i n with h|h
  .exact h4 i h hi2
  .rw[show i=n by omega];exact(ho (by omega)).1
 .have hn2:n<s.length:=by omega
  obtain⟨o1,o2⟩:=ho hn2;rw[← h5 hn,he,Fw.drop_cons s n 0 hn2,Lib.fieldsGo_sp _ _ (by rw[Zw o1,o2];rfl),aor (by rw[anv];omega)]
 .rw[← h5 hn,he,aor (by omega:s.length<=n)];simp[Lib.fieldsGo]
theorem adA{s:Bytes}{b:Nat}{out:LS}(h:splitAt s (s.length+1) b out):s.all jO=true/\out=wordsOf s:=by obtain⟨h1,h2,h3,h4,h5,h6⟩:=h;refine⟨acr λi hi=>h4 i (by omega) hi,?_⟩;unfold wordsOf;rw[← h6 rfl,map_unit]
def Zx(s:Bytes):Prop:=∀b∈s,48<=b.toNat/\b.toNat<=57
theorem I9:∀(k:Nat)(s:Bytes),s.length=k->Zx s->0<=ji s/\ji s<(10:Int) ^ k
 |0,s,h,_=>by rw[an0.1 h];exact⟨aol _,by decide⟩
 |k+1,s,h,hd=>by
  have hne:s≠[]:=λe=>by rw[e]at h;cases h
  have e:s=s.take k++[s[k]'(by omega)]:=by
   conv=>lhs;rw[← apj k s,aoT (by omega:k<s.length),aor (by omega:s.length<=k+1)]
  have hd1:Zx (s.take k):=λb hb=>hd b (apo hb);obtain⟨i1,i2⟩:=I9 k (s.take k) (by rw[anv];omega) hd1;have hb:=hd _ (ao9 (by omega:k<s.length));rw[e,BO,Int.pow_succ];omega
theorem adz{s:Bytes}{n:Nat}(hn:n<s.length):ji (s.take (n+1))=10*ji (s.take n)+(((s.getD n 0).toNat:Int)-48):=by rw[List.take_add_one,anu hn,anm,anu hn];exact BO _ _
theorem acj{s:Bytes}{n:Nat}(hn:n<s.length)(hl:s.length<=10)(hd:∀i,i<n->48<=(s.getD i 0).toNat/\(s.getD i 0).toNat<=57):0<=ji (s.take n)/\ji (s.take n)<1000000000:=by
 have hd:Zx (s.take n):=by
  intro b hb;obtain⟨i,hi,rfl⟩:=aoB.1 hb;have hi2:i<n:=by rw[anv]at hi;omega
  have:=hd i hi2;rw[anm,anu (by omega)]at this;simpa using this
 obtain⟨h1,h2⟩:=I9 n (s.take n) (by rw[anv];omega) hd;refine⟨h1,Int.lt_of_lt_of_le h2 ?_⟩;have:n<=9:=by omega
 match n,this with
 |0,_|1,_|2,_|3,_|4,_|5,_|6,_|7,_|8,_|9,_=>decide
theorem Kr{s:Bytes}{i:Nat}(hi:i<s.length)(h:¬(48<=(s.getD i 0).toNat/\(s.getD i 0).toNat<=57)):aN s=false:=by
 cases hp:aN s with
 |false=>rfl
 |true=>refine(h (Np hp _ ?_)).elim;rw[anm,anu hi];exact ao9 hi
theorem I8{s:Bytes}(h:aN s=false):((0:Int),false,())=(parseNum s,aN s,()):=by rw[Bq h,h]
theorem afg{p:LS}{n:Nat}(hn:n<p.length):dL (p.take (n+1))=(if n=0 then[]else dL (p.take n)++[32])++(p.getD n ([],())).1:=by
 cases p with
 |nil=>cases hn
 |cons x r=>
  unfold dL;cases n with
  |zero=>simp[Lib.join_one]
  |succ n=>
   have hr:n<r.length:=by simpa using hn
   have e:(r.map (·.1))[n]? =some r[n].1:=by rw[aox,anu hr];rfl
   rw[if_neg (by omega),aoC,aoC,anH,anH,Lib.join_cons,Lib.join_cons,List.map_take,List.map_take,Lib.joinTail_take_succ _ _ _ _ e];rw[anm,List.getElem?_cons_succ,anu hr];simp[anz]
theorem aaN:∀(p:LS)(n:Nat),(dL (p.take n)).length<=(dL p).length
 |[],n=>by simp
 |x::r,0=>by simp[dL,Lib.join_nil]
 |x::r,n+1=>by unfold dL;rw[aoC,anH,anH,Lib.join_cons,Lib.join_cons,List.map_take,anf,anf];have:=Lib.joinTail_take_le [32] (r.map (·.1)) n;omega
theorem jk{w:LS}{i:Int}(h:i<(w.length:Int)):wordAt w i=(w.getD i.toNat ([],())).1:=by unfold wordAt;rw[anC (by omega)];rfl
theorem oD{w:LS}{i:Int}(h:i>=(w.length:Int)):wordAt w i=[]:=by unfold wordAt;rw[anE h];rfl
theorem FZ{s:Bytes}(h:dR s=false):(((0:Int),(0:Int),([]:List dG),([]:Bytes),(0:Int),()),false,())=(gu s,dR s,()):=by unfold gu;rw[h];rfl
theorem aei{s:Bytes}(h:dR s=true):(((dQ (wordsOf s)).1,(dQ (wordsOf s)).2.1,([]:List dG),(dQ (wordsOf s)).2.2.1,(dQ (wordsOf s)).2.2.2,()),true,())=(gu s,dR s,()):=by unfold gu;rw[h];rfl
theorem aeg{s:Bytes}(h:bW s=false):dR s=false:=by unfold dR;rw[h];rfl
theorem aeh{s:Bytes}(h:wordsOf s=[]):dR s=false:=by unfold dR;rw[h];cases bW s<;>rfl
theorem yN{b:Bool}{x y:Bytes}(h1:b=true->x.length<=60)(h2:y.length<=60):(bif b then x else y).length<=60:=by
 cases b with
 |true=>exact h1 rfl
 |false=>exact h2
theorem jZ{n:Bytes}(h:au n=true):n.length<=6:=by unfold au at h;rw[ane,anl]at h;omega
theorem Gw(k u:Int)(nc:Nat)(n:Bytes)(a:Int):(aS k u nc n a).length<=60:=by
 have z:([]:Bytes).length<=60:=by decide
 have hi:∀m:Int,aB m=true->(Lib.itoa m).length<=10:=λm h=>(qi h).2.2.2.2;unfold aS;refine yN (λ_=>z) (yN (λ_=>z) (yN (λh=>?_) (yN (λh=>?_) (yN (λh=>?_) (yN (λh=>?_) (yN (λh=>?_) (yN (λh=>?_) (yN (λh=>?_) (yN (λh=>?_) z)))))))))
 all_goals simp only[ane]at h
 all_goals simp only[anf,anh,anj]
 .have:=hi u h.2.1;omega
 .have:=hi u h.2.1;have:=hi a h.2.2.1;omega
 .have:=hi u h.2.1;have:=jZ h.2.2.1;omega
 .have:=hi a h.2.2.1;omega
 .have:=hi a h.2.2.1;omega
 .omega
 .have:=hi u h.2.1;have:=hi a h.2.2.1;have:=jZ h.2.2.2;omega
 .have:=hi u h.2.1;have:=hi a h.2.2.1;have:=jZ h.2.2.2;omega
theorem Fh:∀(l cur:Bytes)(x:Bytes),x∈Lib.fieldsGo cur l->x.length<=cur.length+l.length
 |[],cur,x,h=>by
  rw[Lib.fieldsGo]at h;split at h
  .cases h
  .simp at h;subst h;simp
 |b::l,cur,x,h=>by
  rw[Lib.fieldsGo]at h;split at h
  .split at h
   .have:=Fh l [] x h;simp at this ⊢;omega
   .rcases anA.1 h with rfl|h
    .simp
    .have:=Fh l [] x h;simp at this ⊢;omega
  .have:=Fh l (cur++[b]) x h;simp at this ⊢;omega
theorem Jg{s:Bytes}:∀x∈wordsOf s,x.1.length<=s.length:=by intro x hx;obtain⟨y,hy,rfl⟩:=ao3.1 hx;have:=Fh s [] y hy;simpa using this
theorem SX{w:LS}{m:Nat}(h:∀x∈w,x.1.length<=m)(i:Int):(wordAt w i).length<=m:=by
 unfold wordAt;cases decide (i>=(w.length:Int))with
 |true=>exact ano _
 |false=>
  show(w.getD i.toNat ([],())).1.length<=m;rw[anm];cases hg:w[i.toNat]? with
  |none=>exact ano _
  |some x=>exact h x (anX hg)
theorem aaW{w:LS}{m:Nat}(h:∀x∈w,x.1.length<=m):(dQ w).2.2.1.length<=m:=by
 rw[Wn];cases wordAt w 0==kX with
 |true=>exact ano _
 |false=>
 cases wordAt w 0==nD with
 |true=>exact ano _
 |false=>
 cases wordAt w 0==lM with
 |true=>exact SX h 2
 |false=>
 cases wordAt w 0==BM with
 |true=>exact ano _
 |false=>
 cases wordAt w 0==um with
 |true=>exact ano _
 |false=>
 cases wordAt w 0==qj with
 |true=>exact ano _
 |false=>
 cases wordAt w 0==xU with
 |true=>exact SX h 2
 |false=>
 cases wordAt w 0==mO with
 |true=>exact SX h 2
 |false=>exact ano _
theorem U7{m:Nat}:∀r:List Bytes,(∀x∈r,x.length<=m)->(Lib.joinTail [32] r).length<=r.length*(m+1)
 |[],_=>ano _
 |x::r,h=>by
  have e:Lib.joinTail [32] (x::r)=[32]++(x++Lib.joinTail [32] r):=by simp[Lib.joinTail]
  have h1:=h x anp;have h2:=U7 r λy hy=>h y (ant _ hy);have h3:(x::r).length*(m+1)=r.length*(m+1)+(m+1):=by rw[anh,anZ,Nat.one_mul]
  rw[e,anf,anf,h3];show 1+_<=_;omega
theorem Wl{m:Nat}{w:LS}(h:∀x∈w,x.1.length<=m):(dL w).length<=w.length*(m+1):=by
 cases w with
 |nil=>exact ano _
 |cons x r=>
  unfold dL;rw[anH,Lib.join_cons,anf];have h1:=h x anp;have h2:=U7 (m:=m) (r.map (·.1)) λy hy=>by obtain⟨z,hz,rfl⟩:=ao3.1 hy;exact h z (ant _ hz)
  rw[anV]at h2;rw[anh,anZ,Nat.one_mul];omega
theorem nJ{s:Bytes}(h:bW s=true):ai s=wordsOf s/\(wordsOf s).length<=1000/\(dL (wordsOf s)).length<=2097152/\(dQ (wordsOf s)).2.2.1.length<=1048576/\(gV (dQ (wordsOf s))).length<=1048576:=by
 obtain⟨h1,_,h3⟩:=kE.1 h;have hw:∀x∈wordsOf s,x.1.length<=600:=λx hx=>ank (Jg x hx) h1;have hl:(wordsOf s).length<=24:=by rw[lX];exact h3
 refine⟨by unfold ai;rw[h];rfl,by omega,?_,ank (aaW hw) (by omega),ank (Gw _ _ _ _ _) (by omega)⟩;have:=Wl hw;have h24:(wordsOf s).length*(600+1)<=24*(600+1):=anG _ hl;omega
end Sp
namespace Sp
open Go
inductive QT where
 |leaf (n:aA)
 |neg (t:QT)
 |two (op:Int) (a b:QT)
def dW(op:Int):Bytes:=
 bif op==1 then[97,108,108]else bif op==2 then[104,97,115]else bif op==3 then[101,113]else bif op==4 then[108,116]else
 bif op==5 then[110,111,116]else bif op==6 then[97,110,100]else bif op==7 then[111,114]else bif op==8 then[105,110]else
 bif op==9 then[108,105,110,107,101,100]else[63]
def bU(w:Bytes):Int:=
 bif w==[97,108,108]then 1 else bif w==[104,97,115]then 2 else bif w==[101,113]then 3 else bif w==[108,116]then 4 else
 bif w==[110,111,116]then 5 else bif w==[97,110,100]then 6 else bif w==[111,114]then 7 else bif w==[105,110]then 8 else
 bif w==[108,105,110,107,101,100]then 9 else 0
def aY(s:Bytes):BA×Bool:=
 bif aN s then(bif decide (parseNum s<=999)then((1,parseNum s,[],()),true)else((0,0,[],()),false))
 else bif s==[45]then((0,0,[],()),true)else bif au s then((2,0,s,()),true)else((0,0,[],()),false)
def bn(v:BA):Bytes:=
 bif !aZ v.1 v.2.1 v.2.2.1 then[63]else bif v.1==1 then Lib.itoa v.2.1 else bif v.1==2 then v.2.2.1 else[45]
def QT.size:QT->Nat
 |.leaf _=>1
 |.neg t=>t.size+1
 |.two _ a b=>a.size+b.size+1
def post:QT->Nat->List aA
 |.leaf n,_=>[n]
 |.neg t,b=>post t b++[(5,((b+t.size:Nat):Int)-1,0,[],0,0,[],())]
 |.two op x y,b=>post x b++(post y (b+x.size)++[(op,((b+x.size:Nat):Int)-1,((b+x.size+y.size:Nat):Int)-1,[],0,0,[],())])
def iY(n:aA):List Bytes:=
 dW n.1::(bif n.1==2||(n.1==8||n.1==9)then[n.2.2.2.1]else bif n.1==3||n.1==4 then[n.2.2.2.1,bn n.2.2.2.2]else[])
def aK:QT->List Bytes
 |.leaf n=>iY n
 |.neg t=>dW 5::aK t
 |.two op a b=>dW op::(aK a++aK b)
def ls(w:List Bytes):LS:=w.map (·,())
def zL:QT->Prop
 |.leaf n=>n.1=1\/n.1=2\/n.1=3\/n.1=4\/n.1=8\/n.1=9
 |.neg t=>zL t
 |.two op a b=>(op=6\/op=7)/\zL a/\zL b
def zM:QT->Prop
 |.leaf n=>dZ n 0=true
 |.neg t=>zM t
 |.two _ a b=>zM a/\zM b
theorem eY:∀(t:QT)(b:Nat),(post t b).length=t.size
 |.leaf _,_=>rfl
 |.neg t,b=>by rw[post,anf,eY t b];rfl
 |.two op x y,b=>by rw[post,anf,anf,eY x b,eY y];rw[QT.size,anh,anj];omega
theorem size_pos:∀t:QT,0<t.size
 |.leaf _=>Nat.one_pos
 |.neg _=>ao4 _
 |.two _ _ _=>ao4 _
theorem xW(w:Bytes):bU w=0\/((bU w=1\/bU w=2\/bU w=3\/bU w=4\/bU w=5\/bU w=6\/bU w=7\/bU w=8\/bU w=9)/\dW (bU w)=w):=by
 unfold bU;cases h1:w==[97,108,108]with
 |true=>right;rw[anq.1 h1];decide
 |false=>
 cases h2:w==[104,97,115]with
 |true=>right;rw[anq.1 h2];decide
 |false=>
 cases h3:w==[101,113]with
 |true=>right;rw[anq.1 h3];decide
 |false=>
 cases h4:w==[108,116]with
 |true=>right;rw[anq.1 h4];decide
 |false=>
 cases h5:w==[110,111,116]with
 |true=>right;rw[anq.1 h5];decide
 |false=>
 cases h6:w==[97,110,100]with
 |true=>right;rw[anq.1 h6];decide
 |false=>
 cases h7:w==[111,114]with
 |true=>right;rw[anq.1 h7];decide
 |false=>
 cases h8:w==[105,110]with
 |true=>right;rw[anq.1 h8];decide
 |false=>
 cases h9:w==[108,105,110,107,101,100]with
 |true=>right;rw[anq.1 h9];decide
 |false=>left;rfl
theorem wY{op:Int}(h:op=1\/op=2\/op=3\/op=4\/op=5\/op=6\/op=7\/op=8\/op=9):bU (dW op)=op:=by rcases h with rfl|rfl|rfl|rfl|rfl|rfl|rfl|rfl|rfl<;>decide
theorem ahn:bU []=0:=by decide
def rd:Nat->LS->List aA->Bool×LS×List aA
 |0,w,q=>(false,w,q)
 |k+1,w,q=>
  bif bU (wordAt w 0)==2||(bU (wordAt w 0)==8||bU (wordAt w 0)==9)then(true,(w.drop 1).drop 1,q++[(bU (wordAt w 0),0,0,wordAt (w.drop 1) 0,0,0,[],())])
  else bif bU (wordAt w 0)==3||bU (wordAt w 0)==4 then
   ((aY (wordAt ((w.drop 1).drop 1) 0)).2,((w.drop 1).drop 1).drop 1,q++[(bU (wordAt w 0),0,0,wordAt (w.drop 1) 0,(aY (wordAt ((w.drop 1).drop 1) 0)).1)])
  else bif bU (wordAt w 0)==5 then
   ((rd k (w.drop 1) q).1,(rd k (w.drop 1) q).2.1,(rd k (w.drop 1) q).2.2++[(5,((rd k (w.drop 1) q).2.2.length:Int)-1,0,[],0,0,[],())])
  else bif bU (wordAt w 0)==6||bU (wordAt w 0)==7 then
   (bif (rd k (w.drop 1) q).1 then
     ((rd k (rd k (w.drop 1) q).2.1 (rd k (w.drop 1) q).2.2).1,(rd k (rd k (w.drop 1) q).2.1 (rd k (w.drop 1) q).2.2).2.1,
       (rd k (rd k (w.drop 1) q).2.1 (rd k (w.drop 1) q).2.2).2.2++[(bU (wordAt w 0),((rd k (w.drop 1) q).2.2.length:Int)-1,((rd k (rd k (w.drop 1) q).2.1 (rd k (w.drop 1) q).2.2).2.2.length:Int)-1,[],0,0,[],())])
   else(false,(rd k (w.drop 1) q).2.1,(rd k (w.drop 1) q).2.2++[(bU (wordAt w 0),((rd k (w.drop 1) q).2.2.length:Int)-1,((rd k (w.drop 1) q).2.2.length:Int)-1,[],0,0,[],())]))
  else(!(bU (wordAt w 0)==0),w.drop 1,q++[(bU (wordAt w 0),0,0,[],0,0,[],())])
theorem yc(i:Int)(h:0<=i):wordAt [] i=[]:=oD (by simpa using h)
theorem dF(x:Bytes×Unit)(w:LS):wordAt (x::w) 0=x.1:=by rw[jk (by simp)];rfl
theorem TQ{w:LS}(h:bU (wordAt w 0)≠0):∃r,w=(dW (bU (wordAt w 0)),())::r/\w.drop 1=r:=by
 cases w with
 |nil=>exact(h (by rw[yc 0 (aol _)];exact ahn)).elim
 |cons x r=>
  obtain⟨x,⟨⟩⟩:=x;rcases xW (wordAt ((x,())::r) 0)with e|⟨_,e⟩
  .exact(h e).elim
  .refine⟨r,?_,rfl⟩;rw[e,dF]
theorem Je:∀(k:Nat)(w:LS)(q:List aA),(rd k w q).2.1.length<=w.length
 |0,w,q=>ann _
 |k+1,w,q=>by
  have h1:=Je k (w.drop 1) q;have h2:=Je k (rd k (w.drop 1) q).2.1 (rd k (w.drop 1) q).2.2;have h3:(w.drop 1).length<=w.length:=by rw[anI];omega
  rw[rd];cases bU (wordAt w 0)==2||(bU (wordAt w 0)==8||bU (wordAt w 0)==9)with
  |true=>show((w.drop 1).drop 1).length<=_;rw[anI];omega
  |false=>
  cases bU (wordAt w 0)==3||bU (wordAt w 0)==4 with
  |true=>show(((w.drop 1).drop 1).drop 1).length<=_;rw[anI,anI];omega
  |false=>
  cases bU (wordAt w 0)==5 with
  |true=>exact ank h1 h3
  |false=>
  cases bU (wordAt w 0)==6||bU (wordAt w 0)==7 with
  |true=>
   show(bif (rd k (w.drop 1) q).1 then _ else _:Bool×LS×List aA).2.1.length<=_;cases (rd k (w.drop 1) q).1 with
   |true=>exact ank h2 (ank h1 h3)
   |false=>exact ank h1 h3
  |false=>exact h3
end Sp
namespace Sp
open Go
theorem afm{n:Int}{s:Bytes}(h:aZ 1 n s=true):0<=n/\n<=999/\s=[]:=by unfold aZ at h;simp at h;exact⟨h.1.1,h.1.2,h.2⟩
theorem ahT{n:Int}{s:Bytes}(h:aZ 2 n s=true):au s=true/\n=0:=by unfold aZ at h;simp at h;exact h
theorem aho{v:BA}(h:aZ v.1 v.2.1 v.2.2.1=true)(h0:v.1≠0):(∃n,v=(1,n,[],())/\0<=n/\n<=999)\/∃s,v=(2,0,s,())/\au s=true:=by
 obtain⟨k,n,s,⟨⟩⟩:=v;by_cases h1:k=1
 .subst h1;obtain⟨a,b,c⟩:=afm h;have c:s=[]:=c;subst c;exact .inl ⟨n,rfl,a,b⟩
 by_cases h2:k=2
 .subst h2;obtain⟨a,b⟩:=ahT h;have b:n=0:=b;subst b;exact .inr ⟨s,rfl,a⟩
 .unfold aZ at h;dsimp only at h h0;rw[anC h0,anC h1,anC h2]at h;cases h
theorem afu{s:Bytes}(h:au s=true):∃b r,s=b::r/\97<=b.toNat:=by
 unfold au at h;rw[ane,ane,anl]at h;cases s with
 |nil=>exact absurd h.1.2 (by decide)
 |cons b r=>refine⟨b,r,rfl,?_⟩;have h1:=h.1.1;unfold lower at h1;rw[aoj,ane,ane,anl]at h1;exact h1.1.1
theorem aaX{s:Bytes}(h:au s=true):aN s=false/\(s==[45])=false:=by
 obtain⟨b,r,rfl,hb⟩:=afu h;refine⟨?_,?_⟩
 .cases hp:aN (b::r)with
  |false=>rfl
  |true=>have:=Np hp b anp;omega
 .rw[ang];intro e;have:b=45:=(List.cons.inj e).1;rw[this]at hb;exact absurd hb (by decide)
theorem U8:aN []=false:=by
 cases h:aN []with
 |false=>rfl
 |true=>obtain⟨a,b⟩:=iR h;exact((OW b).1 a).elim
theorem Le{v:BA}(h:aZ v.1 v.2.1 v.2.2.1=true)(h0:v.1≠0):aY (bn v)=(v,true):=by
 unfold bn;rw[h];rcases aho h h0 with⟨n,rfl,a,b⟩|⟨s,rfl,a⟩
 .show aY (Lib.itoa n)=_;have hu:aB n=true:=by unfold aB;rw[anE a,anE (show n<=1000000000 by omega)];rfl
  obtain⟨q1,q2⟩:=jQ hu;unfold aY;rw[q1,q2,anE b];rfl
 .show aY s=_;obtain⟨q1,q2⟩:=aaX a;unfold aY;rw[q1,q2,a];rfl
theorem U9{s:Bytes}(h:aZ (aY s).1.1 (aY s).1.2.1 (aY s).1.2.2.1=true)(h0:(aY s).1.1≠0):(aY s).2=true/\bn (aY s).1=s:=by
 unfold bn;rw[h];revert h0;unfold aY;cases h1:aN s with
 |true=>
  cases h2:decide (parseNum s<=999)with
  |true=>exactλ_=>⟨rfl,(iR h1).1⟩
  |false=>exactλh0=>(h0 rfl).elim
 |false=>
  cases h2:s==[45]with
  |true=>exactλh0=>(h0 rfl).elim
  |false=>
   cases h3:au s with
   |true=>exactλ_=>⟨rfl,rfl⟩
   |false=>exactλh0=>(h0 rfl).elim
theorem Zy{s:Bytes}(h:eF s=true):s≠[]:=by rintro rfl;exact absurd h (by decide)
theorem acX{s:Bytes}(h:au s=true):s≠[]:=by rintro rfl;exact absurd h (by decide)
theorem vw{n:aA}{a:Int}(h:dZ n a=true)(hw:n.1=1\/n.1=2\/n.1=3\/n.1=4\/n.1=8\/n.1=9):
 n=(1,0,0,[],0,0,[],())\/(∃op s,n=(op,0,0,s,0,0,[],())/\(op=2\/op=8\/op=9)/\s≠[])\/
 ∃op s v,n=(op,0,0,s,v)/\(op=3\/op=4)/\s≠[]/\aZ v.1 v.2.1 v.2.2.1=true/\v.1≠0:=by
 obtain⟨op,l,r,s,k,m,t,⟨⟩⟩:=n;dsimp only at hw;rcases hw with rfl|rfl|rfl|rfl|rfl|rfl
 .left;have h:((l==0&&r==0)&&(s==[]&&(k==0&&(m==0&&t==[]))))=true:=h;simp only[ane,anq]at h;rw[h.1.1,h.1.2,h.2.1,h.2.2.1,h.2.2.2.1,h.2.2.2.2]
 .right;left;have h:((l==0&&r==0)&&(k==0&&(m==0&&t==[]))&&eF s)=true:=h;simp only[ane,anq]at h;refine⟨2,s,?_,.inl rfl,Zy h.2⟩;rw[h.1.1.1,h.1.1.2,h.1.2.1,h.1.2.2.1,h.1.2.2.2]
 .right;right;have h:((l==0&&r==0)&&eF s&&aZ k m t&&!(k==0))=true:=h;simp only[ane,anq,aoJ,ang]at h;refine⟨3,s,(k,m,t,()),?_,.inl rfl,Zy h.1.1.2,h.1.2,h.2⟩;rw[h.1.1.1.1,h.1.1.1.2]
 .right;right;have h:((l==0&&r==0)&&eF s&&aZ k m t&&k==1)=true:=h;simp only[ane,anq]at h;refine⟨4,s,(k,m,t,()),?_,.inr rfl,Zy h.1.1.2,h.1.2,by dsimp only;omega⟩;rw[h.1.1.1.1,h.1.1.1.2]
 .right;left;have h:((l==0&&r==0)&&(k==0&&(m==0&&t==[]))&&au s)=true:=h;simp only[ane,anq]at h;refine⟨8,s,?_,.inr (.inl rfl),acX h.2⟩;rw[h.1.1.1,h.1.1.2,h.1.2.1,h.1.2.2.1,h.1.2.2.2]
 .right;left;have h:((l==0&&r==0)&&(k==0&&(m==0&&t==[]))&&au s)=true:=h;simp only[ane,anq]at h;refine⟨9,s,?_,.inr (.inr rfl),acX h.2⟩;rw[h.1.1.1,h.1.1.2,h.1.2.1,h.1.2.2.1,h.1.2.2.2]
theorem yO{w:LS}(h:wordAt w 0≠[]):w=(wordAt w 0,())::w.drop 1:=by
 cases w with
 |nil=>exact(h (yc 0 (aol _))).elim
 |cons x r=>obtain⟨x,⟨⟩⟩:=x;rw[dF];rfl
theorem TW:∀(k:Nat)(w:LS)(q:List aA),(rd k w q).1=true->∃t,zL t/\(rd k w q).2.2=q++post t q.length/\(zM t->w=ls (aK t)++(rd k w q).2.1)
 |0,w,q,h=>by cases h
 |k+1,w,q,h=>by
  by_cases h0:bU (wordAt w 0)=0
  .rw[rd,h0]at h;cases h
  obtain⟨r,e,e2⟩:=TQ h0;rcases xW (wordAt w 0)with c|⟨c,_⟩
  .exact(h0 c).elim
  rw[rd]at h ⊢;rw[e2]at h ⊢;generalize bU (wordAt w 0)=op at h c e h0 ⊢;have OY:op=2\/op=8\/op=9->∃t,zL t/\q++[(op,0,0,wordAt r 0,0,0,[],())]=q++post t q.length/\(zM t->w=ls (aK t)++r.drop 1):=λc=>by
   refine⟨.leaf (op,0,0,wordAt r 0,0,0,[],()),?_,rfl,λht=>?_⟩
   .show op=1\/op=2\/op=3\/op=4\/op=8\/op=9;omega
   .have ht:dZ (op,0,0,wordAt r 0,0,0,[],()) 0=true:=ht;have hn:wordAt r 0≠[]:=by
     rcases vw ht (by dsimp only;omega)with x|⟨_,s,x,_,hs⟩|⟨op',s,v,x,hop,_⟩
     .have:=congrArg (·.1) x;dsimp only at this;omega
     .have:=congrArg (λn:aA=>n.2.2.2.1) x;dsimp only at this;rw[this];exact hs
     .have:=congrArg (·.1) x;dsimp only at this;omega
    rw[e,yO hn];have hb:(op==2||(op==8||op==9))=true:=by rcases c with rfl|rfl|rfl<;>rfl
    show _=ls (dW op::(bif op==2||(op==8||op==9)then[wordAt ((wordAt r 0,())::r.drop 1) 0]else _))++_;rw[hb,dF];rfl
  have Yk:op=3\/op=4->∃t,zL t/\q++[(op,0,0,wordAt r 0,(aY (wordAt (r.drop 1) 0)).1)]=q++post t q.length/\(zM t->w=ls (aK t)++(r.drop 1).drop 1):=λc=>by
   refine⟨.leaf (op,0,0,wordAt r 0,(aY (wordAt (r.drop 1) 0)).1),?_,rfl,λht=>?_⟩
   .show op=1\/op=2\/op=3\/op=4\/op=8\/op=9;omega
   .have ht:dZ (op,0,0,wordAt r 0,(aY (wordAt (r.drop 1) 0)).1) 0=true:=ht;have hn:wordAt r 0≠[]/\(aY (wordAt (r.drop 1) 0)).2=true/\bn (aY (wordAt (r.drop 1) 0)).1=wordAt (r.drop 1) 0:=by
     rcases vw ht (by dsimp only;omega)with x|⟨op',s,x,hop,hs⟩|⟨op',s,v,x,hop,hs,hv,h1⟩
     .have:=congrArg (·.1) x;dsimp only at this;omega
     .have:=congrArg (·.1) x;dsimp only at this;omega
     .have x1:=congrArg (λn:aA=>n.2.2.2.1) x;have x2:=congrArg (λn:aA=>n.2.2.2.2) x;dsimp only at x1 x2;refine⟨by rw[x1];exact hs,U9 (by rw[x2];exact hv) (by rw[x2];exact h1)⟩
    have hw2:wordAt (r.drop 1) 0≠[]:=λe0=>by
     rw[e0]at hn;have:(aY []).2=false:=by unfold aY;rw[U8];rfl
     rw[this]at hn;cases hn.2.1
    have hb:(op==2||(op==8||op==9))=false:=by rcases c with rfl|rfl<;>rfl
    have hb2:(op==3||op==4)=true:=by rcases c with rfl|rfl<;>rfl
    have e3:r=(wordAt r 0,())::(wordAt (r.drop 1) 0,())::(r.drop 1).drop 1:=by rw[← yO hw2];exact yO hn.1
    show _=ls (dW op::(bif op==2||(op==8||op==9)then _ else bif op==3||op==4 then[wordAt r 0,bn (aY (wordAt (r.drop 1) 0)).1]else _))++_;rw[hb,hb2,hn.2.2];exact e.trans (congrArg _ e3)
  have acY:(op=6\/op=7)->(rd k r q).1=true->(rd k (rd k r q).2.1 (rd k r q).2.2).1=true->∃t,zL t/\(rd k (rd k r q).2.1 (rd k r q).2.2).2.2++[(op,((rd k r q).2.2.length:Int)-1,((rd k (rd k r q).2.1 (rd k r q).2.2).2.2.length:Int)-1,[],0,0,[],())]=q++post t q.length/\(zM t->w=ls (aK t)++(rd k (rd k r q).2.1 (rd k r q).2.2).2.1):=λc g1 g2=>by
   obtain⟨x,x1,x2,x3⟩:=TW k r q g1;obtain⟨y,y1,y2,y3⟩:=TW k _ _ g2;have lx:(rd k r q).2.2.length=q.length+x.size:=by rw[x2,anf,eY]
   have ly:(rd k (rd k r q).2.1 (rd k r q).2.2).2.2.length=q.length+x.size+y.size:=by rw[y2,anf,eY,lx]
   refine⟨.two op x y,⟨c,x1,y1⟩,?_,λht=>?_⟩
   .rw[ly,lx,y2,lx,x2];show _=q++(post x q.length++(post y (q.length+x.size)++[_]));rw[anz,anz]
   .obtain⟨t1,t2⟩:zM x/\zM y:=ht;rw[e];show _=ls (dW op::(aK x++aK y))++_;unfold ls;rw[anH,aoL,aow,anz];exact congrArg _ ((x3 t1).trans (congrArg _ (y3 t2)))
  rcases c with rfl|rfl|rfl|rfl|rfl|rfl|rfl|rfl|rfl
  .refine⟨.leaf (1,0,0,[],0,0,[],()),.inl rfl,rfl,λ_=>?_⟩;rw[e];rfl
  .exact OY (.inl rfl)
  .exact Yk (.inl rfl)
  .exact Yk (.inr rfl)
  .have h:(rd k r q).1=true:=h;obtain⟨x,x1,x2,x3⟩:=TW k r q h;have lx:(rd k r q).2.2.length=q.length+x.size:=by rw[x2,anf,eY]
   refine⟨.neg x,x1,?_,λht=>?_⟩
   .show(rd k r q).2.2++[(5,((rd k r q).2.2.length:Int)-1,0,[],0,0,[],())]=q++(post x q.length++[_]);rw[lx,x2,anz]
   .rw[e];show _=ls (dW 5::aK x)++(rd k r q).2.1;exact congrArg _ (x3 ht)
  .have h:(bif (rd k r q).1 then _ else _:Bool×LS×List aA).1=true:=h;cases g:(rd k r q).1 with
   |false=>rw[g]at h;cases h
   |true=>rw[g]at h;exact acY (.inl rfl) g h
  .have h:(bif (rd k r q).1 then _ else _:Bool×LS×List aA).1=true:=h;cases g:(rd k r q).1 with
   |false=>rw[g]at h;cases h
   |true=>rw[g]at h;exact acY (.inr rfl) g h
  .exact OY (.inr (.inl rfl))
  .exact OY (.inr (.inr rfl))
end Sp
namespace Sp
open Go
theorem ajq(k:Nat)(r:LS)(q:List aA):rd (k+1) ((dW 1,())::r) q=(true,r,q++[(1,0,0,[],0,0,[],())]):=by rw[rd,dF,wY (.inl rfl)];rfl
theorem ait{op:Int}(c:op=2\/op=8\/op=9)(k:Nat)(r:LS)(q:List aA):rd (k+1) ((dW op,())::r) q=(true,r.drop 1,q++[(op,0,0,wordAt r 0,0,0,[],())]):=by rw[rd,dF,wY (by omega)];rcases c with rfl|rfl|rfl<;>rfl
theorem rd_val{op:Int}(c:op=3\/op=4)(k:Nat)(r:LS)(q:List aA):rd (k+1) ((dW op,())::r) q=((aY (wordAt (r.drop 1) 0)).2,(r.drop 1).drop 1,q++[(op,0,0,wordAt r 0,(aY (wordAt (r.drop 1) 0)).1)]):=by rw[rd,dF,wY (by omega)];rcases c with rfl|rfl<;>rfl
theorem rd_not(k:Nat)(r:LS)(q:List aA):rd (k+1) ((dW 5,())::r) q=((rd k r q).1,(rd k r q).2.1,(rd k r q).2.2++[(5,((rd k r q).2.2.length:Int)-1,0,[],0,0,[],())]):=by rw[rd,dF,wY (.inr (.inr (.inr (.inr (.inl rfl)))))];rfl
theorem ajr{op:Int}(c:op=6\/op=7)(k:Nat)(r:LS)(q:List aA)(h:(rd k r q).1=true):rd (k+1) ((dW op,())::r) q=
 ((rd k (rd k r q).2.1 (rd k r q).2.2).1,(rd k (rd k r q).2.1 (rd k r q).2.2).2.1,(rd k (rd k r q).2.1 (rd k r q).2.2).2.2++[(op,((rd k r q).2.2.length:Int)-1,((rd k (rd k r q).2.1 (rd k r q).2.2).2.2.length:Int)-1,[],0,0,[],())]):=by
 rw[rd,dF,wY (by omega)];rcases c with rfl|rfl
 .show(bif (rd k r q).1 then _ else _:Bool×LS×List aA)=_;rw[h];rfl
 .show(bif (rd k r q).1 then _ else _:Bool×LS×List aA)=_;rw[h];rfl
theorem acZ(x:Bytes)(a b:List Bytes)(r:LS):ls (x::(a++b))++r=(x,())::(ls a++(ls b++r)):=by unfold ls;rw[anH,aoL,aow,anz]
theorem Ak{op:Int}{s:Bytes}(c:op=2\/op=8\/op=9):iY (op,0,0,s,0,0,[],())=[dW op,s]:=by rcases c with rfl|rfl|rfl<;>rfl
theorem C9{op:Int}{s:Bytes}{v:BA}(c:op=3\/op=4):iY (op,0,0,s,v)=[dW op,s,bn v]:=by rcases c with rfl|rfl<;>rfl
theorem Jr:∀(t:QT)(k:Nat)(rest:LS)(q:List aA),zL t->zM t->(ls (aK t)++rest).length<k->rd k (ls (aK t)++rest) q=(true,rest,q++post t q.length)
 |_,0,_,_,_,_,h=>absurd h (aoo _)
 |.leaf n,k+1,rest,q,hw,ho,_=>by
  have hw:n.1=1\/n.1=2\/n.1=3\/n.1=4\/n.1=8\/n.1=9:=hw;rcases vw ho hw with rfl|⟨op,s,rfl,c,hs⟩|⟨op,s,v,rfl,c,hs,hv,h0⟩
  .exact ajq k rest q
  .show rd (k+1) (ls (iY _)++rest) q=_;rw[Ak c];show rd (k+1) ((dW op,())::(s,())::rest) q=_;rw[ait c,dF];rfl
  .show rd (k+1) (ls (iY _)++rest) q=_;rw[C9 c];show rd (k+1) ((dW op,())::(s,())::(bn v,())::rest) q=_;rw[rd_val c,dF];show((aY (wordAt ((bn v,())::rest) 0)).2,rest,q++[(op,0,0,s,(aY (wordAt ((bn v,())::rest) 0)).1)])=_;rw[dF,Le hv h0];rfl
 |.neg t,k+1,rest,q,hw,ho,h=>by
  have h:((dW 5,())::(ls (aK t)++rest)).length<k+1:=h;rw[anh]at h;show rd (k+1) ((dW 5,())::(ls (aK t)++rest)) q=_;rw[rd_not,Jr t k rest q hw ho (by omega)];show(true,rest,(q++post t q.length)++[(5,((q++post t q.length).length:Int)-1,0,[],0,0,[],())])=(true,rest,q++(post t q.length++[_]));rw[anf,eY,anz]
 |.two op x y,k+1,rest,q,⟨c,w1,w2⟩,⟨o1,o2⟩,h=>by show rd (k+1) (ls (dW op::(aK x++aK y))++rest) q=_;have h:(ls (dW op::(aK x++aK y))++rest).length<k+1:=h;rw[acZ]at h ⊢;rw[anh]at h;have e1:=Jr x k (ls (aK y)++rest) q w1 o1 (by omega);rw[anf]at h;have e2:=Jr y k rest (q++post x q.length) w2 o2 (by omega);rw[ajr c k _ q (by rw[e1]),e1,e2];show(true,rest,((q++post x q.length)++post y (q++post x q.length).length)++[(op,((q++post x q.length).length:Int)-1,(((q++post x q.length)++post y (q++post x q.length).length).length:Int)-1,[],0,0,[],())])=(true,rest,q++(post x q.length++(post y (q.length+x.size)++[_])));rw[anf,anf,eY,eY,anf,eY,anz,anz]
def rs:Nat->LS->List aA->List aA×Int
 |0,_,q=>(q,0)
 |d+1,w,q=>
  bif bU (wordAt w 0)==0||decide ((q.length:Int)>9)then(q,0)
  else bif bU (wordAt w 0)==2||(bU (wordAt w 0)==8||bU (wordAt w 0)==9)then(q++[(bU (wordAt w 0),0,0,wordAt w 1,0,0,[],())],2)
  else bif bU (wordAt w 0)==3||bU (wordAt w 0)==4 then(q++[(bU (wordAt w 0),0,0,wordAt w 1,(aY (wordAt w 2)).1)],3)
  else bif bU (wordAt w 0)==5||(bU (wordAt w 0)==6||bU (wordAt w 0)==7)then
   (bif (rs d (w.drop 1) q).2==0 then((rs d (w.drop 1) q).1,0)
   else bif bU (wordAt w 0)==5 then((rs d (w.drop 1) q).1++[(5,((rs d (w.drop 1) q).1.length:Int)-1,0,[],0,0,[],())],1+(rs d (w.drop 1) q).2)
   else bif (rs d (w.drop (1+(rs d (w.drop 1) q).2).toNat) (rs d (w.drop 1) q).1).2==0 then((rs d (w.drop (1+(rs d (w.drop 1) q).2).toNat) (rs d (w.drop 1) q).1).1,0)
   else((rs d (w.drop (1+(rs d (w.drop 1) q).2).toNat) (rs d (w.drop 1) q).1).1++[(bU (wordAt w 0),((rs d (w.drop 1) q).1.length:Int)-1,((rs d (w.drop (1+(rs d (w.drop 1) q).2).toNat) (rs d (w.drop 1) q).1).1.length:Int)-1,[],0,0,[],())],
    1+(rs d (w.drop 1) q).2+(rs d (w.drop (1+(rs d (w.drop 1) q).2).toNat) (rs d (w.drop 1) q).1).2))
  else(q++[(bU (wordAt w 0),0,0,[],0,0,[],())],1)
theorem BB(x:Bytes×Unit)(r:LS)(i:Int)(h:0<=i):wordAt (x::r) (i+1)=wordAt r i:=by
 by_cases hi:i<(r.length:Int)
 .rw[jk hi,jk (by rw[anh];omega),show(i+1).toNat=i.toNat+1 by omega];rfl
 .rw[oD (show i>=(r.length:Int) by omega),oD (by rw[anh];omega)]
theorem Yl(x:Bytes×Unit)(r:LS):wordAt (x::r) 2=wordAt (r.drop 1) 0:=by
 rw[show(2:Int)=1+1 from rfl,BB x r 1 (by decide)];cases r with
 |nil=>rw[yc 1 (by decide)];exact(yc 0 (by decide)).symm
 |cons y r=>rw[show(1:Int)=0+1 from rfl,BB y r 0 (by decide)];rfl
theorem Eg(x:Bytes×Unit)(r:LS):wordAt (x::r) 1=wordAt r 0:=BB x r 0 (by decide)
theorem OZ:∀(t:QT)(d:Nat)(rest:LS)(q:List aA),zL t->zM t->t.size<=d->q.length+t.size<=10->rs d (ls (aK t)++rest) q=(q++post t q.length,((aK t).length:Int))
 |t,0,_,_,_,_,h,_=>absurd (size_pos t) (by omega)
 |.leaf n,d+1,rest,q,hw,ho,_,hq=>by
  have hq1:q.length+1<=10:=hq;have hq2:decide ((q.length:Int)>9)=false:=anC (by omega);have hw:n.1=1\/n.1=2\/n.1=3\/n.1=4\/n.1=8\/n.1=9:=hw;rcases vw ho hw with rfl|⟨op,s,rfl,c,hs⟩|⟨op,s,v,rfl,c,hs,hv,h0⟩
  .show rs (d+1) ((dW 1,())::rest) q=_;rw[rs,dF,wY (.inl rfl),hq2];rfl
  .show rs (d+1) (ls (iY _)++rest) q=(_,((iY _).length:Int));rw[Ak c];show rs (d+1) ((dW op,())::(s,())::rest) q=_;rw[rs,Eg,dF,dF,wY (by omega),hq2];rcases c with rfl|rfl|rfl<;>rfl
  .show rs (d+1) (ls (iY _)++rest) q=(_,((iY _).length:Int));rw[C9 c];show rs (d+1) ((dW op,())::(s,())::(bn v,())::rest) q=_;rw[rs,Eg,Yl,dF,dF,wY (by omega),hq2];have e:wordAt (List.drop 1 ((s,())::(bn v,())::rest)) 0=bn v:=dF _ _;rw[e,Le hv h0];rcases c with rfl|rfl<;>rfl
 |.neg t,d+1,rest,q,hw,ho,hd,hq=>by
  have hd:t.size+1<=d+1:=hd;have hq:q.length+(t.size+1)<=10:=hq;have hq':decide ((q.length:Int)>9)=false:=anC (by omega);have e:=OZ t d rest q hw ho (by omega) (by omega);have hl:0<(aK t).length:=by
   cases t with
   |leaf n=>exact ao4 _
   |neg t=>exact ao4 _
   |two op a b=>exact ao4 _
  show rs (d+1) ((dW 5,())::(ls (aK t)++rest)) q=_;rw[rs,dF,wY (.inr (.inr (.inr (.inr (.inl rfl))))),hq'];show(bif (rs d (ls (aK t)++rest) q).2==0 then _ else(_,1+(rs d (ls (aK t)++rest) q).2):List aA×Int)=_;rw[show List.drop 1 ((dW 5,())::(ls (aK t)++rest))=ls (aK t)++rest from rfl,e];rw[show(((aK t).length:Int)==0)=false from ang.2 (by omega)];show((q++post t q.length)++[(5,((q++post t q.length).length:Int)-1,0,[],0,0,[],())],1+((aK t).length:Int))=(q++(post t q.length++[_]),(((aK t).length+1:Nat):Int));rw[anf,eY,anz,show(1+((aK t).length:Int))=(((aK t).length+1:Nat):Int) by omega]
 |.two op x y,d+1,rest,q,⟨c,w1,w2⟩,⟨o1,o2⟩,hd,hq=>by
  have hd:x.size+y.size+1<=d+1:=hd;have hq:q.length+(x.size+y.size+1)<=10:=hq;have sx:=size_pos x;have sy:=size_pos y;have hq':decide ((q.length:Int)>9)=false:=anC (by omega);have wl:∀t:QT,0<(aK t).length:=λt=>by
   cases t with
   |leaf n=>exact ao4 _
   |neg t=>exact ao4 _
   |two op a b=>exact ao4 _
  have l1:=wl x;have l2:=wl y;have e1:=OZ x d (ls (aK y)++rest) q w1 o1 (by omega) (by omega);have e2:=OZ y d rest (q++post x q.length) w2 o2 (by omega) (by rw[anf,eY];omega);show rs (d+1) (ls (dW op::(aK x++aK y))++rest) q=_;rw[acZ,rs,dF,wY (by omega),hq'];rw[show List.drop 1 ((dW op,())::(ls (aK x)++(ls (aK y)++rest)))=ls (aK x)++(ls (aK y)++rest)from rfl,e1];have ed:List.drop (1+((aK x).length:Int)).toNat ((dW op,())::(ls (aK x)++(ls (aK y)++rest)))=ls (aK y)++rest:=by rw[show(1+((aK x).length:Int)).toNat=(aK x).length+1 by omega,List.drop_succ_cons];exact List.drop_left' (by unfold ls;rw[anV])
  dsimp only;rw[ed,e2];rw[show(((aK x).length:Int)==0)=false from ang.2 (by omega),show(((aK y).length:Int)==0)=false from ang.2 (by omega)];have fin:((q++post x q.length)++post y (q++post x q.length).length++[(op,((q++post x q.length).length:Int)-1,((q++post x q.length++post y (q++post x q.length).length).length:Int)-1,[],0,0,[],())],1+((aK x).length:Int)+((aK y).length:Int))=(q++post (.two op x y) q.length,((aK (.two op x y)).length:Int)):=by show _=(q++(post x q.length++(post y (q.length+x.size)++[_])),((dW op::(aK x++aK y)).length:Int));rw[anf,anf,eY,eY,anf,eY,anz,anz,anh,anf];rw[show(1+((aK x).length:Int)+((aK y).length:Int))=(((aK x).length+(aK y).length+1:Nat):Int) by omega]
  rcases c with rfl|rfl<;>exact fin
end Sp
namespace Sp
open Go
theorem adI{op:Int}{r:LS}(c:op=2\/op=8\/op=9)(ht:dZ (op,0,0,wordAt r 0,0,0,[],()) 0=true):
 (dW op,())::r=ls (iY (op,0,0,wordAt r 0,0,0,[],()))++r.drop 1:=by
 have hn:wordAt r 0≠[]:=by
  rcases vw ht (by dsimp only;omega)with x|⟨_,s,x,_,hs⟩|⟨op',s,v,x,hop,_⟩
  .have:=congrArg (·.1) x;dsimp only at this;omega
  .have:=congrArg (λn:aA=>n.2.2.2.1) x;dsimp only at this;rw[this];exact hs
  .have:=congrArg (·.1) x;dsimp only at this;omega
 rw[Ak c];exact congrArg _ (yO hn)
theorem adJ{op:Int}{r:LS}(c:op=3\/op=4)(ht:dZ (op,0,0,wordAt r 0,(aY (wordAt (r.drop 1) 0)).1) 0=true):
 (dW op,())::r=ls (iY (op,0,0,wordAt r 0,(aY (wordAt (r.drop 1) 0)).1))++(r.drop 1).drop 1:=by
 have hn:wordAt r 0≠[]/\(aY (wordAt (r.drop 1) 0)).2=true/\bn (aY (wordAt (r.drop 1) 0)).1=wordAt (r.drop 1) 0:=by
  rcases vw ht (by dsimp only;omega)with x|⟨op',s,x,hop,hs⟩|⟨op',s,v,x,hop,hs,hv,h1⟩
  .have:=congrArg (·.1) x;dsimp only at this;omega
  .have:=congrArg (·.1) x;dsimp only at this;omega
  .have x1:=congrArg (λn:aA=>n.2.2.2.1) x;have x2:=congrArg (λn:aA=>n.2.2.2.2) x;dsimp only at x1 x2;refine⟨by rw[x1];exact hs,U9 (by rw[x2];exact hv) (by rw[x2];exact h1)⟩
 have hw2:wordAt (r.drop 1) 0≠[]:=λe0=>by
  rw[e0]at hn;have:(aY []).2=false:=by unfold aY;rw[U8];rfl
  rw[this]at hn;cases hn.2.1
 have e3:r=(wordAt r 0,())::(wordAt (r.drop 1) 0,())::(r.drop 1).drop 1:=by rw[← yO hw2];exact yO hn.1
 rw[C9 c,hn.2.2];exact congrArg _ e3
theorem TY:∀(d:Nat)(w:LS)(q:List aA),(rs d w q).2≠0->∃t,zL t/\(rs d w q).1=q++post t q.length/\0<(rs d w q).2/\(zM t->∃rest,w=ls (aK t)++rest/\(rs d w q).2=((aK t).length:Int))
 |0,w,q,h=>(h rfl).elim
 |d+1,w,q,h=>by
  by_cases h0:bU (wordAt w 0)=0
  .rw[rs,h0]at h;exact(h rfl).elim
  obtain⟨r,e,e2⟩:=TQ h0;rcases xW (wordAt w 0)with c|⟨c,_⟩
  .exact(h0 c).elim
  have w1:wordAt w 1=wordAt r 0:=by rw[e];exact Eg _ _
  have w2:wordAt w 2=wordAt (r.drop 1) 0:=by rw[e];exact Yl _ _
  have wd:∀n:Nat,w.drop (1+(n:Int)).toNat=r.drop n:=λn=>by rw[e,show(1+(n:Int)).toNat=n+1 by omega,List.drop_succ_cons]
  rw[rs]at h ⊢;rw[e2,w1,w2]at h ⊢;generalize bU (wordAt w 0)=op at h c e h0 ⊢;cases hq:decide ((q.length:Int)>9)with
  |true=>rw[hq,Bool.or_true]at h;exact(h rfl).elim
  |false=>
  rw[hq,show(op==0)=false from ang.2 h0]at h;rw[show(op==0)=false from ang.2 h0];have OY:op=2\/op=8\/op=9->∃t,zL t/\q++[(op,0,0,wordAt r 0,0,0,[],())]=q++post t q.length/\(0:Int)<2/\(zM t->∃rest,w=ls (aK t)++rest/\(2:Int)=((aK t).length:Int)):=λc=>
   ⟨.leaf (op,0,0,wordAt r 0,0,0,[],()),(show op=1\/op=2\/op=3\/op=4\/op=8\/op=9 by omega),rfl,by decide,λht=>⟨r.drop 1,e.trans (adI c ht),by show _=((iY _).length:Int);rw[Ak c];rfl⟩⟩
  have Yk:op=3\/op=4->∃t,zL t/\q++[(op,0,0,wordAt r 0,(aY (wordAt (r.drop 1) 0)).1)]=q++post t q.length/\(0:Int)<3/\(zM t->∃rest,w=ls (aK t)++rest/\(3:Int)=((aK t).length:Int)):=λc=>
   ⟨.leaf (op,0,0,wordAt r 0,(aY (wordAt (r.drop 1) 0)).1),(show op=1\/op=2\/op=3\/op=4\/op=8\/op=9 by omega),rfl,by decide,λht=>⟨(r.drop 1).drop 1,e.trans (adJ c ht),by show _=((iY _).length:Int);rw[C9 c];rfl⟩⟩
  have acY:(op=6\/op=7)->(rs d r q).2≠0->(rs d (w.drop (1+(rs d r q).2).toNat) (rs d r q).1).2≠0->
   ∃t,zL t/\(rs d (w.drop (1+(rs d r q).2).toNat) (rs d r q).1).1++[(op,((rs d r q).1.length:Int)-1,((rs d (w.drop (1+(rs d r q).2).toNat) (rs d r q).1).1.length:Int)-1,[],0,0,[],())]=q++post t q.length/\
    0<1+(rs d r q).2+(rs d (w.drop (1+(rs d r q).2).toNat) (rs d r q).1).2/\(zM t->∃rest,w=ls (aK t)++rest/\1+(rs d r q).2+(rs d (w.drop (1+(rs d r q).2).toNat) (rs d r q).1).2=((aK t).length:Int)):=λc g1 g2=>by
   obtain⟨x,x1,x2,x3,x4⟩:=TY d r q g1;obtain⟨y,y1,y2,y3,y4⟩:=TY d _ _ g2;have lx:(rs d r q).1.length=q.length+x.size:=by rw[x2,anf,eY]
   have ly:(rs d (w.drop (1+(rs d r q).2).toNat) (rs d r q).1).1.length=q.length+x.size+y.size:=by rw[y2,anf,eY,lx]
   refine⟨.two op x y,⟨c,x1,y1⟩,?_,by omega,λht=>?_⟩
   .rw[ly,lx,y2,lx,x2];show _=q++(post x q.length++(post y (q.length+x.size)++[_]));rw[anz,anz]
   .obtain⟨t1,t2⟩:zM x/\zM y:=ht;obtain⟨r1,q1,q2⟩:=x4 t1;obtain⟨r2,q3,q4⟩:=y4 t2;have e4:w.drop (1+(rs d r q).2).toNat=r1:=by rw[q2,wd,q1];exact List.drop_left' (by unfold ls;rw[anV])
    refine⟨r2,?_,?_⟩
    .rw[e];show _=ls (dW op::(aK x++aK y))++_;rw[acZ];refine congrArg _ (q1.trans (congrArg _ ?_));rw[← q3];exact e4.symm
    .rw[q4,q2];show _=(((dW op::(aK x++aK y)).length:Nat):Int);rw[anh,anf];omega
  rcases c with rfl|rfl|rfl|rfl|rfl|rfl|rfl|rfl|rfl
  .refine⟨.leaf (1,0,0,[],0,0,[],()),.inl rfl,rfl,(by show(0:Int)<1;decide),λ_=>⟨r,e,rfl⟩⟩
  .exact OY (.inl rfl)
  .exact Yk (.inl rfl)
  .exact Yk (.inr rfl)
  .have h:(bif (rs d r q).2==0 then((rs d r q).1,0)else(_,1+(rs d r q).2):List aA×Int).2≠0:=h;cases g:(rs d r q).2==0 with
   |true=>rw[g]at h;exact(h rfl).elim
   |false=>
    obtain⟨x,x1,x2,x3,x4⟩:=TY d r q (ang.1 g);have lx:(rs d r q).1.length=q.length+x.size:=by rw[x2,anf,eY]
    refine⟨.neg x,x1,?_,?_,λht=>?_⟩
    .show(rs d r q).1++[(5,((rs d r q).1.length:Int)-1,0,[],0,0,[],())]=q++(post x q.length++[_]);rw[lx,x2,anz]
    .show 0<1+(rs d r q).2;omega
    .obtain⟨r1,q1,q2⟩:=x4 ht;refine⟨r1,e.trans (congrArg _ q1),?_⟩;show 1+(rs d r q).2=((dW 5::aK x).length:Int);rw[q2,anh];omega
  .have h:(bif (rs d r q).2==0 then((rs d r q).1,0)else bif (rs d (w.drop (1+(rs d r q).2).toNat) (rs d r q).1).2==0 then(_,0)else(_,_):List aA×Int).2≠0:=h;cases g:(rs d r q).2==0 with
   |true=>rw[g]at h;exact(h rfl).elim
   |false=>
    rw[g]at h;cases g2:(rs d (w.drop (1+(rs d r q).2).toNat) (rs d r q).1).2==0 with
    |true=>rw[g2]at h;exact(h rfl).elim
    |false=>exact acY (.inl rfl) (ang.1 g) (ang.1 g2)
  .have h:(bif (rs d r q).2==0 then((rs d r q).1,0)else bif (rs d (w.drop (1+(rs d r q).2).toNat) (rs d r q).1).2==0 then(_,0)else(_,_):List aA×Int).2≠0:=h;cases g:(rs d r q).2==0 with
   |true=>rw[g]at h;exact(h rfl).elim
   |false=>
    rw[g]at h;cases g2:(rs d (w.drop (1+(rs d r q).2).toNat) (rs d r q).1).2==0 with
    |true=>rw[g2]at h;exact(h rfl).elim
    |false=>exact acY (.inr rfl) (ang.1 g) (ang.1 g2)
  .exact OY (.inr (.inl rfl))
  .exact OY (.inr (.inr rfl))
end Sp
namespace Sp
open Go
def bf:Nat->List aA->Int->List Bytes
 |0,_,_=>[]
 |k+1,q,i=>
  bif (nodeAt q i.toNat).1==5 then dW (nodeAt q i.toNat).1::bf k q (nodeAt q i.toNat).2.1
  else bif (nodeAt q i.toNat).1==6||(nodeAt q i.toNat).1==7 then dW (nodeAt q i.toNat).1::(bf k q (nodeAt q i.toNat).2.1++bf k q (nodeAt q i.toNat).2.2.1)
  else iY (nodeAt q i.toNat)
def textOf(q:List aA):Bytes:=bif aH q then Lib.join (bf 9 q ((q.length:Int)-1)) [32]else[]
theorem O0(l r:List aA)(n:aA):nodeAt (l++(n::r)) l.length=n:=by unfold nodeAt;rw[anm,anW (ann _),apy];rfl
theorem Gl:∀(t:QT)(k:Nat)(l r:List aA),zL t->t.size<=k->bf k (l++(post t l.length++r)) (((l.length+t.size:Nat):Int)-1)=aK t
 |t,0,_,_,_,h=>absurd (size_pos t) (by omega)
 |.leaf n,k+1,l,r,hw,_=>by
  have hw:n.1=1\/n.1=2\/n.1=3\/n.1=4\/n.1=8\/n.1=9:=hw;show bf (k+1) (l++(n::r)) (((l.length+1:Nat):Int)-1)=iY n;rw[bf,show((((l.length+1:Nat):Int)-1).toNat)=l.length by omega,O0];rw[show(n.1==5)=false from ang.2 (by omega),show(n.1==6)=false from ang.2 (by omega),show(n.1==7)=false from ang.2 (by omega)];rfl
 |.neg t,k+1,l,r,hw,hk=>by
  have hk:t.size+1<=k+1:=hk;have ih:=Gl t k l ((5,((l.length+t.size:Nat):Int)-1,0,[],0,0,[],())::r) hw (by omega);have e:l++(post (.neg t) l.length++r)=l++(post t l.length++(((5,((l.length+t.size:Nat):Int)-1,0,[],0,0,[],()):aA)::r)):=by show l++((post t l.length++[_])++r)=_;rw[anz];rfl
  have en:nodeAt (l++(post (.neg t) l.length++r)) (l.length+t.size)=(5,((l.length+t.size:Nat):Int)-1,0,[],0,0,[],()):=by rw[e,← anz,show l.length+t.size=(l++post t l.length).length by rw[anf,eY]];exact O0 _ _ _
  rw[bf,show((((l.length+(QT.neg t).size:Nat):Int)-1).toNat)=l.length+t.size by show(((l.length+(t.size+1):Nat):Int)-1).toNat=_;omega,en,e];show dW 5::bf k _ _=dW 5::aK t;rw[ih]
 |.two op x y,k+1,l,r,⟨c,w1,w2⟩,hk=>by
  have hk:x.size+y.size+1<=k+1:=hk;generalize hn:((op,((l.length+x.size:Nat):Int)-1,((l.length+x.size+y.size:Nat):Int)-1,[],0,0,[],()):aA)=N;have e:l++(post (.two op x y) l.length++r)=l++(post x l.length++(post y (l.length+x.size)++(N::r))):=by show l++((post x l.length++(post y (l.length+x.size)++[_]))++r)=_;rw[hn,anz,anz];rfl
  have i1:=Gl x k l (post y (l.length+x.size)++(N::r)) w1 (by omega);have i2:=Gl y k (l++post x l.length) (N::r) w2 (by omega);rw[anf,eY,anz]at i2;have en:nodeAt (l++(post (.two op x y) l.length++r)) (l.length+x.size+y.size)=N:=by rw[e,← anz,← anz,show l.length+x.size+y.size=((l++post x l.length)++post y (l.length+x.size)).length by rw[anf,anf,eY,eY]];exact O0 _ _ _
  rw[bf,show((((l.length+(QT.two op x y).size:Nat):Int)-1).toNat)=l.length+x.size+y.size by show(((l.length+(x.size+y.size+1):Nat):Int)-1).toNat=_;omega,en,e];subst hn;dsimp only;rw[i1,i2];rcases c with rfl|rfl<;>rfl
theorem Va{n:aA}(a:Int)(hw:n.1=1\/n.1=2\/n.1=3\/n.1=4\/n.1=8\/n.1=9):dZ n a=dZ n 0:=by obtain⟨op,l,r,s,v⟩:=n;dsimp only at hw;rcases hw with rfl|rfl|rfl|rfl|rfl|rfl<;>rfl
theorem Ym:∀(t:QT)(b:Nat),zL t->(∀n∈post t b,∃a,dZ n a=true)->zM t
 |.leaf n,_,hw,h=>by
  obtain⟨a,ha⟩:=h n anp;show dZ n 0=true;rw[← Va a hw];exact ha
 |.neg t,b,hw,h=>Ym t b hw λn hn=>h n (an5 _ hn)
 |.two op x y,b,⟨_,w1,w2⟩,h=>⟨Ym x b w1 λn hn=>h n (an5 _ hn),Ym y _ w2 λn hn=>h n (aou _ (an5 _ hn))⟩
theorem EU{t:QT}(hw:zL t)(h:aH (post t 0)=true):zM t/\t.size<=9:=by refine⟨Ym t 0 hw λn hn=>?_,by have:=(jD h).2;rwa [eY]at this⟩;obtain⟨i,hi,e⟩:=List.getElem_of_mem hn;refine⟨i,?_⟩;have:=(nY h hi).1;unfold nodeAt at this;rw[anm,anu hi,e]at this;exact this
theorem ahp:∀t:QT,∃x r,aK t=x::r/\x≠[]
 |.leaf n=>⟨_,_,rfl,afv _⟩
 |.neg t=>⟨_,_,rfl,afv _⟩
 |.two op x y=>⟨_,_,rfl,afv _⟩
where afv (op:Int):dW op≠[]:=by unfold dW;cases op==1<;>cases op==2<;>cases op==3<;>cases op==4<;>cases op==5<;>cases op==6<;>cases op==7<;>cases op==8<;>cases op==9<;>intro h<;>cases h
theorem aar{t:QT}(hw:zL t)(h:aH (post t 0)=true):textOf (post t 0)=Lib.join (aK t) [32]/\textOf (post t 0)≠[]:=by
 obtain⟨_,hs⟩:=EU hw h;have e:textOf (post t 0)=Lib.join (aK t) [32]:=by unfold textOf;rw[h,eY];have:=Gl t 9 [] [] hw hs;rw[anN,an7,anj,anJ]at this;show Lib.join (bf 9 (post t 0) ((t.size:Int)-1)) [32]=_;rw[this]
 refine⟨e,?_⟩;obtain⟨x,r,ew,hx⟩:=ahp t;rw[e,ew,Lib.join_cons];intro h0;exact hx (an6.1 h0).1
def ve(w:LS):Bool×LS×List aA:=rd (w.length+1) w []
def gU(s:Bytes):Bool:=bW s&&((ve (wordsOf s)).1&&(!decide (((ve (wordsOf s)).2.1.length:Int)>0)&&aH (ve (wordsOf s)).2.2))
def fA(s:Bytes):List aA:=bif gU s then(ve (wordsOf s)).2.2 else[]
def TR(s:Bytes):Bool:=bW s&&((rs 10 (wordsOf s) []).2==((wordsOf s).length:Int)&&(!(textOf (rs 10 (wordsOf s) []).1==[])&&textOf (rs 10 (wordsOf s) []).1==dL (wordsOf s)))
theorem SA(w:List Bytes):(ls w).map (·.1)=w:=by unfold ls;rw[aoN];exact List.map_id' w
theorem O1(s:Bytes):gU s=true↔bW s=true/\∃t,zL t/\aH (post t 0)=true/\wordsOf s=ls (aK t):=by
 unfold gU;rw[ane,ane,ane,aoJ,an1];refine apx λ_=>⟨λ⟨h1,h2,h3⟩=>?_,λ⟨t,hw,hq,e⟩=>?_⟩
 .obtain⟨t,hw,e,h⟩:=TW _ _ _ h1;have e:(ve (wordsOf s)).2.2=post t 0:=e;rw[e]at h3;have hr:(ve (wordsOf s)).2.1=[]:=an0.1 (by omega);have h:zM t->wordsOf s=ls (aK t)++(ve (wordsOf s)).2.1:=h;exact⟨t,hw,h3,by rw[h (EU hw h3).1,hr,anN]⟩
 .have e1:=Jr t ((wordsOf s).length+1) [] [] hw (EU hw hq).1 (by rw[anN,← e];exact aoF _);rw[anN,← e]at e1;have e1:ve (wordsOf s)=(true,[],post t 0):=e1;rw[e1];exact⟨rfl,(by show ¬((0:Nat):Int)>0;decide),hq⟩
theorem ac0{s:Bytes}{t:QT}(hw:zL t)(hq:aH (post t 0)=true)(e:wordsOf s=ls (aK t)):ve (wordsOf s)=(true,[],post t 0):=by have e1:=Jr t ((wordsOf s).length+1) [] [] hw (EU hw hq).1 (by rw[anN,← e];exact aoF _);rw[anN,← e]at e1;exact e1
theorem ahX{s:Bytes}{t:QT}(hw:zL t)(hq:aH (post t 0)=true)(e:wordsOf s=ls (aK t)):rs 10 (wordsOf s) []=(post t 0,((wordsOf s).length:Int)):=by obtain⟨ho,hs⟩:=EU hw hq;have e1:=OZ t 10 [] [] hw ho (by omega) (by rw[anj];omega);rw[anN,← e]at e1;rw[e1,e];unfold ls;rw[anV];rfl
theorem XZ(s:Bytes):TR s=gU s:=by
 rw[an2,O1];unfold TR;rw[ane,ane,ane,aoJ,anq,anq,ang];refine apx λ_=>⟨λ⟨h1,h2,h3⟩=>?_,λ⟨t,hw,hq,e⟩=>?_⟩
 .have hq:aH (rs 10 (wordsOf s) []).1=true:=by
   cases h:aH (rs 10 (wordsOf s) []).1 with
   |true=>rfl
   |false=>unfold textOf at h2;rw[h]at h2;exact(h2 rfl).elim
  by_cases h0:(rs 10 (wordsOf s) []).2=0
  .have:wordsOf s=[]:=an0.1 (by omega);rw[this]at hq;exact absurd hq (by decide)
  obtain⟨t,hw,e,hk,h⟩:=TY _ _ _ h0;have e:(rs 10 (wordsOf s) []).1=post t 0:=e;rw[e]at hq;obtain⟨rest,q1,q2⟩:=h (EU hw hq).1;refine⟨t,hw,hq,?_⟩;rw[h1]at q2;have hl:=congrArg List.length q1;rw[anf]at hl;have h3:(ls (aK t)).length=(aK t).length:=by unfold ls;rw[anV]
  have hr:rest=[]:=an0.1 (by omega);rw[q1,hr,anN]
 .obtain⟨q1,q2⟩:=aar hw hq;rw[ahX hw hq e];refine⟨rfl,q2,q1.trans ?_⟩;unfold dL;rw[e,SA]
theorem OG{s:Bytes}(h:gU s=true):(rs 10 (wordsOf s) []).1=(ve (wordsOf s)).2.2/\fA s=(ve (wordsOf s)).2.2/\aH (fA s)=true:=by
 obtain⟨_,t,hw,hq,e⟩:=(O1 s).1 h;have e2:fA s=(ve (wordsOf s)).2.2:=by unfold fA;rw[h];rfl
 rw[ahX hw hq e,e2,ac0 hw hq e];exact⟨rfl,rfl,hq⟩
end Sp
namespace Sp
open Go
def iD:Bytes:=[99,114,101,97,116,101]
def fK:Bytes:=[117,112,100,97,116,101]
def iE:Bytes:=[100,101,108,101,116,101]
def eP:Bytes:=[100,101,102,105,110,101]
def fV:Bytes:=[117,110,100,101,102,105,110,101]
def Nq:Bytes->Bytes->LS
 |cur,[]=>[(cur,())]
 |cur,b::l=>bif b==10 then(cur,())::Nq [] l else Nq (cur++[b]) l
end Sp
namespace Sp
open Go
def fine(x:Bytes):Prop:=vg x/\x.all jO=true
theorem ku{n:Int}(h:aB n=true):fine (Lib.itoa n):=by refine⟨OW h,?_⟩;rw[anx];intro b hb;have:=(qi h).2.2.1 b hb;exact xR.2 (by omega)
theorem aer:∀r:List Bytes,(∀x∈r,x.all jO=true)->(Lib.joinTail [32] r).all jO=true
 |[],_=>rfl
 |x::r,h=>by
  have e:Lib.joinTail [32] (x::r)=[32]++(x++Lib.joinTail [32] r):=by simp[Lib.joinTail]
  rw[e,aoM,aoM,h x anp,aer r λy hy=>h y (ant _ hy)];decide
theorem Zz:∀ws:List Bytes,(∀x∈ws,x.all jO=true)->(Lib.join ws [32]).all jO=true
 |[],_=>rfl
 |x::r,h=>by rw[Lib.join_cons,aoM,h x anp,aer r λy hy=>h y (ant _ hy)];rfl
theorem afw{ws:List Bytes}(h:∀x∈ws,fine x)(hl:(Lib.join ws [32]).length<=600)(hc:ws.length<=24):bW (Lib.join ws [32])=true/\wordsOf (Lib.join ws [32])=ws.map (·,()):=by have hs:∀x∈ws,vg x:=λx hx=>(h x hx).1;refine⟨kE.2 ⟨hl,Zz ws λx hx=>(h x hx).2,by rw[Fg ws hs];exact hc⟩,zK ws hs⟩
theorem agD:Lib.itoa 0=[48]:=by have:=acV 0;have e:Lib.decDigits 0=[UInt8.ofNat (48+0)]:=Lib.decDigits_one (by decide);rw[e]at this;exact this
theorem kz{n:Int}(h:aB n=true):(Lib.itoa n).length<=10:=(qi h).2.2.2.2
end Sp
namespace Sp
open Go
def cO(x:dG):bH:=(x.2.1,x.2.2.1,x.2.2.2.1,x.2.2.2.2.1,x.2.2.2.2.2.1,())
def rO(x:dG):Int:=x.2.2.2.2.2.2.1
def fE(x:dG):eX:=(x.2.2.2.2.2.2.2.1,x.2.2.2.2.2.2.2.2.1,())
end Sp
namespace Sp
open Go
def kQ(a:bJ):Bool:=eF a.1&&(aZ a.2.1 a.2.2.1 a.2.2.2.1&&!(a.2.1==0))
def dU(f:bH):Bool:=f.2.2.2.2.1.all kQ&&(aB f.1&&(aB f.2.1&&aB f.2.2.2.1))
def dM:List bJ->List Bytes
 |[]=>[]
 |a::r=>a.1::bn a.2::dM r
def bI(f:bH):List Bytes:=Lib.itoa f.2.1::(bif f.2.2.1 then[115]else[111])::Lib.itoa f.2.2.2.1::dM f.2.2.2.2.1
def fO:bH:=(0,0,false,0,[],())
def bZ(k:Int)(f:bH)(id:Int)(nm:Bytes)(q:List aA):dG:=(k,f.1,f.2.1,f.2.2.1,f.2.2.2.1,f.2.2.2.2.1,id,nm,q,())
def fM(q:List aA):Bool:=aH q&&decide (fA (textOf q)=q)
def Am(x:dG):Bool:=(fE x).1==[]&&(fE x).2.1.isEmpty
def aV(x:dG):List Bytes:=
 bif x.1==1&&(dU (cO x)&&((cO x).1==0&&(rO x==0&&Am x)))then iD::bI (cO x)
 else bif x.1==2&&(dU (cO x)&&(rO x==0&&Am x))then fK::Lib.itoa (cO x).1::bI (cO x)
 else bif x.1==3&&(decide (cO x=fO)&&(aB (rO x)&&Am x))then[iE,Lib.itoa (rO x)]
 else bif x.1==4&&(decide (cO x=fO)&&(rO x==0&&(au (fE x).1&&fM (fE x).2.1)))then eP::(fE x).1::bf 9 (fE x).2.1 (((fE x).2.1.length:Int)-1)
 else bif x.1==5&&(decide (cO x=fO)&&(rO x==0&&(au (fE x).1&&(fE x).2.1.isEmpty)))then[fV,(fE x).1]
 else[]
def aI(x:dG):Bytes:=Lib.join (aV x) [32]
theorem vz{s:Bytes}(h:eF s=true):au s=true:=by unfold eF at h;unfold au;rw[ane,ane,anl,anl]at h ⊢;exact⟨h.1,by omega⟩
theorem mg{s:Bytes}(h:au s=true):fine s:=by refine⟨U6 h,?_⟩;unfold au lower at h;rw[ane,ane,anx]at h;rw[anx];intro b hb;have:=h.1.1 b hb;rw[ane,anl,anl]at this;rw[xR];omega
theorem ac1{v:BA}(h:aZ v.1 v.2.1 v.2.2.1=true)(h0:v.1≠0):fine (bn v):=by
 unfold bn;rw[h];rcases aho h h0 with⟨n,rfl,a,b⟩|⟨s,rfl,a⟩
 .exact ku (by unfold aB;rw[anE a,anE (show n<=1000000000 by omega)];rfl)
 .exact mg a
theorem O3{a:bJ}:kQ a=true↔eF a.1=true/\aZ a.2.1 a.2.2.1 a.2.2.2.1=true/\a.2.1≠0:=by unfold kQ;rw[ane,ane,aoJ,ang]
theorem vC{f:bH}:dU f=true↔(∀a∈f.2.2.2.2.1,kQ a=true)/\aB f.1=true/\aB f.2.1=true/\aB f.2.2.2.1=true:=by unfold dU;rw[ane,ane,ane,anx]
theorem Yn:∀as:List bJ,(∀a∈as,kQ a=true)->∀y∈dM as,fine y
 |[],_,y,hy=>by cases hy
 |a::r,h,y,hy=>by
  obtain⟨h1,h2,h3⟩:=O3.1 (h a anp);rcases anA.1 hy with rfl|hy
  .exact mg (vz h1)
  rcases anA.1 hy with rfl|hy
  .exact ac1 h2 h3
  .exact Yn r (λb hb=>h b (ant _ hb)) y hy
theorem aiu(b:Bool):fine (bif b then[115]else[111]):=by cases b<;>exact⟨⟨by decide,by decide⟩,by decide⟩
theorem aas{f:bH}(h:dU f=true):∀y∈bI f,fine y:=by
 obtain⟨h1,h2,h3,h4⟩:=vC.1 h;intro y hy;rcases anA.1 hy with rfl|hy
 .exact ku h3
 rcases anA.1 hy with rfl|hy
 .exact aiu _
 rcases anA.1 hy with rfl|hy
 .exact ku h4
 .exact Yn _ h1 y hy
theorem agE{n:aA}(h:dZ n 0=true)(hw:n.1=1\/n.1=2\/n.1=3\/n.1=4\/n.1=8\/n.1=9):n.1=1\/fine n.2.2.2.1:=by
 obtain⟨op,l,r,s,k,m,t,⟨⟩⟩:=n;dsimp only at hw ⊢;rcases hw with rfl|rfl|rfl|rfl|rfl|rfl
 .exact .inl rfl
 .have h:((l==0&&r==0)&&(k==0&&(m==0&&t==[]))&&eF s)=true:=h;rw[ane]at h;exact .inr (mg (vz h.2))
 .have h:((l==0&&r==0)&&eF s&&aZ k m t&&!(k==0))=true:=h;rw[ane,ane,ane]at h;exact .inr (mg (vz h.1.1.2))
 .have h:((l==0&&r==0)&&eF s&&aZ k m t&&k==1)=true:=h;rw[ane,ane,ane]at h;exact .inr (mg (vz h.1.1.2))
 .have h:((l==0&&r==0)&&(k==0&&(m==0&&t==[]))&&au s)=true:=h;rw[ane]at h;exact .inr (mg h.2)
 .have h:((l==0&&r==0)&&(k==0&&(m==0&&t==[]))&&au s)=true:=h;rw[ane]at h;exact .inr (mg h.2)
theorem Js(op:Int):fine (dW op):=by unfold dW;cases op==1<;>cases op==2<;>cases op==3<;>cases op==4<;>cases op==5<;>cases op==6<;>cases op==7<;>cases op==8<;>cases op==9<;>exact⟨⟨by decide,by decide⟩,by decide⟩
theorem Fj:∀t:QT,zL t->zM t->∀y∈aK t,fine y
 |.leaf n,hw,ho,y,hy=>by
  have hg:=agE ho hw;have hy:y∈iY n:=hy;rcases vw ho hw with rfl|⟨op,s,rfl,c,hs⟩|⟨op,s,v,rfl,c,hs,hv,h0⟩
  .have:y=dW 1:=aod.1 hy;rw[this];exact Js 1
  .rw[Ak c]at hy;rcases anA.1 hy with rfl|hy
   .exact Js op
   .rw[aod.1 hy];exact hg.resolve_left (by dsimp only;omega)
  .rw[C9 c]at hy;rcases anA.1 hy with rfl|hy
   .exact Js op
   rcases anA.1 hy with rfl|hy
   .exact hg.resolve_left (by dsimp only;omega)
   .rw[aod.1 hy];exact ac1 hv h0
 |.neg t,hw,ho,y,hy=>by
  rcases anA.1 (show y∈dW 5::aK t from hy)with rfl|hy
  .exact Js 5
  .exact Fj t hw ho y hy
 |.two op a b,⟨_,w1,w2⟩,⟨o1,o2⟩,y,hy=>by
  rcases anA.1 (show y∈dW op::(aK a++aK b)from hy)with rfl|hy
  .exact Js op
  rcases an4.1 hy with hy|hy
  .exact Fj a w1 o1 y hy
  .exact Fj b w2 o2 y hy
theorem Ky{q:List aA}(h:fM q=true):∃t,zL t/\zM t/\q=post t 0/\bf 9 q ((q.length:Int)-1)=aK t/\textOf q=Lib.join (aK t) [32]:=by
 unfold fM at h;rw[ane,anl]at h;obtain⟨h1,h2⟩:=h;have hp:gU (textOf q)=true:=by
  cases hp:gU (textOf q)with
  |true=>rfl
  |false=>unfold fA at h2;rw[hp]at h2;rw[← h2]at h1;have h1:aH []=true:=h1;exact absurd h1 (by decide)
 obtain⟨_,t,hw,hq,e⟩:=(O1 _).1 hp;have eq:q=post t 0:=by rw[← h2,(OG hp).2.1,ac0 hw hq e]
 obtain⟨ho,hs⟩:=EU hw hq;refine⟨t,hw,ho,eq,?_,by rw[eq];exact(aar hw hq).1⟩;have:=Gl t 9 [] [] hw hs;rw[anN,an7,anj,anJ]at this;rw[eq,eY];exact this
theorem EW(x:dG):∀y∈aV x,fine y:=by
 intro y hy;unfold aV at hy;cases h1:x.1==1&&(dU (cO x)&&((cO x).1==0&&(rO x==0&&Am x)))with
 |true=>
  rw[h1]at hy;rw[ane,ane]at h1;rcases anA.1 hy with rfl|hy
  .exact⟨⟨by decide,by decide⟩,by decide⟩
  .exact aas h1.2.1 y hy
 |false=>
 rw[h1]at hy;cases h2:x.1==2&&(dU (cO x)&&(rO x==0&&Am x))with
 |true=>
  rw[h2]at hy;rw[ane,ane]at h2;rcases anA.1 hy with rfl|hy
  .exact⟨⟨by decide,by decide⟩,by decide⟩
  rcases anA.1 hy with rfl|hy
  .exact ku (vC.1 h2.2.1).2.1
  .exact aas h2.2.1 y hy
 |false=>
 rw[h2]at hy;cases h3:x.1==3&&(decide (cO x=fO)&&(aB (rO x)&&Am x))with
 |true=>
  rw[h3]at hy;rw[ane,ane,ane]at h3;rcases anA.1 hy with rfl|hy
  .exact⟨⟨by decide,by decide⟩,by decide⟩
  .rw[aod.1 hy];exact ku h3.2.2.1
 |false=>
 rw[h3]at hy;cases h4:x.1==4&&(decide (cO x=fO)&&(rO x==0&&(au (fE x).1&&fM (fE x).2.1)))with
 |true=>
  rw[h4]at hy;rw[ane,ane,ane,ane]at h4;obtain⟨t,hw,ho,_,et,_⟩:=Ky h4.2.2.2.2;rcases anA.1 hy with rfl|hy
  .exact⟨⟨by decide,by decide⟩,by decide⟩
  rcases anA.1 hy with rfl|hy
  .exact mg h4.2.2.2.1
  .rw[et]at hy;exact Fj t hw ho y hy
 |false=>
 rw[h4]at hy;cases h5:x.1==5&&(decide (cO x=fO)&&(rO x==0&&(au (fE x).1&&(fE x).2.1.isEmpty)))with
 |true=>
  rw[h5]at hy;rw[ane,ane,ane,ane]at h5;rcases anA.1 hy with rfl|hy
  .exact⟨⟨by decide,by decide⟩,by decide⟩
  .rw[aod.1 hy];exact mg h5.2.2.2.1
 |false=>rw[h5]at hy;cases hy
end Sp
namespace Sp
open Go
def gG:LS->List bJ
 |[]=>[]
 |[x]=>[(x.1,(aY []).1)]
 |x::y::r=>(x.1,(aY y.1).1)::gG r
def sZ:LS->Bool
 |[]=>true
 |[_]=>true
 |_::y::r=>(aY y.1).2&&sZ r
def jr(id:Int)(r:LS):bH:=(id,numAt r 0,wordAt r 1==[115],numAt r 2,gG (r.drop 3),())
def iP(w:LS):bH×Bool:=
 bif decide ((w.length:Int)<4)||!(w.length%2==0)then(fO,false)
 else(jr (numAt w 0) (w.drop 1),(aN (wordAt w 0)&&(aN (wordAt w 1)&&aN (wordAt w 3)))&&sZ (w.drop 4))
def gq(w:LS):dG:=
 bif wordAt w 0==iD then bZ 1 (jr 0 (w.drop 1)) 0 [] []else bif wordAt w 0==fK then bZ 2 (jr (numAt w 1) (w.drop 2)) 0 [] []
 else bif wordAt w 0==iE then bZ 3 fO (numAt w 1) [] []else bif wordAt w 0==eP then bZ 4 fO 0 (wordAt w 1) (fA (dL (w.drop 2)))
 else bif wordAt w 0==fV then bZ 5 fO 0 (wordAt w 1) []else bZ 0 fO 0 [] []
def iL(w:LS):dG×Bool:=
 bif wordAt w 0==iD then(bZ 1 (iP (([48],())::w.drop 1)).1 0 [] [],(iP (([48],())::w.drop 1)).2)
 else bif wordAt w 0==fK then(bZ 2 (iP (w.drop 1)).1 0 [] [],(iP (w.drop 1)).2)
 else bif wordAt w 0==iE then(bZ 3 fO (numAt w 1) [] [],aN (wordAt w 1))
 else bif wordAt w 0==eP then(bZ 4 fO 0 (wordAt w 1) (fA (dL (w.drop 2))),gU (dL (w.drop 2)))
 else bif wordAt w 0==fV then(bZ 5 fO 0 (wordAt w 1) [],true)else(bZ 0 fO 0 [] [],true)
theorem Ib:∀as:List bJ,(∀a∈as,kQ a=true)->gG (ls (dM as))=as/\sZ (ls (dM as))=true/\(dM as).length=2*as.length
 |[],_=>⟨rfl,rfl,rfl⟩
 |a::r,h=>by
  obtain⟨h1,h2,h3⟩:=O3.1 (h a anp);obtain⟨i1,i2,i3⟩:=Ib r λb hb=>h b (ant _ hb);have e:=Le (v:=a.2) h2 h3;refine⟨?_,?_,?_⟩
  .show(a.1,(aY (bn a.2)).1)::gG (ls (dM r))=_;rw[e,i1]
  .show((aY (bn a.2)).2&&sZ (ls (dM r)))=true;rw[e,i2];rfl
  .show(dM r).length+1+1=2*(r.length+1);omega
theorem word2(x:Bytes×Unit)(y:Bytes×Unit)(r:LS):wordAt (x::y::r) 1=y.1:=by rw[Eg,dF]
theorem Ua(x y z:Bytes×Unit)(r:LS):wordAt (x::y::z::r) 2=z.1:=by rw[show(2:Int)=1+1 from rfl,BB _ _ 1 (by decide),word2]
theorem ahY(x y z u:Bytes×Unit)(r:LS):wordAt (x::y::z::u::r) 3=u.1:=by rw[show(3:Int)=2+1 from rfl,BB _ _ 2 (by decide),Ua]
theorem SY{f:bH}(h:dU f=true)(id:Int):jr id (ls (bI f))=(id,f.2):=by
 obtain⟨h1,h2,h3,h4⟩:=vC.1 h;obtain⟨i0,o,s,l,as,⟨⟩⟩:=f;have e0:numAt (ls (bI (i0,o,s,l,as,()))) 0=o:=by show parseNum (wordAt ((Lib.itoa o,())::_) 0)=o;rw[dF];exact(jQ h3).2
 have e1:(wordAt (ls (bI (i0,o,s,l,as,()))) 1==[115])=s:=by show(wordAt ((Lib.itoa o,())::((bif s then[115]else[111]),())::_) 1==[115])=s;rw[word2];cases s<;>rfl
 have e2:numAt (ls (bI (i0,o,s,l,as,()))) 2=l:=by show parseNum (wordAt ((Lib.itoa o,())::((bif s then[115]else[111]),())::(Lib.itoa l,())::_) 2)=l;rw[Ua];exact(jQ h4).2
 have e3:gG ((ls (bI (i0,o,s,l,as,()))).drop 3)=as:=(Ib as h1).1;unfold jr;rw[e0,e1,e2,e3]
theorem Yo{f:bH}(h:dU f=true):iP ((Lib.itoa f.1,())::ls (bI f))=(f,true):=by
 obtain⟨h1,h2,h3,h4⟩:=vC.1 h;obtain⟨_,a2,a3⟩:=Ib _ h1;have hl:((Lib.itoa f.1,())::ls (bI f)).length=4+2*f.2.2.2.2.1.length:=by show((Lib.itoa f.1,())::((Lib.itoa f.2.1,())::((bif f.2.2.1 then[115]else[111]),())::(Lib.itoa f.2.2.2.1,())::ls (dM f.2.2.2.2.1))).length=_;rw[anh,anh,anh,anh];unfold ls;rw[anV];omega
 have e0:wordAt ((Lib.itoa f.1,())::ls (bI f)) 0=Lib.itoa f.1:=dF _ _;have e1:wordAt ((Lib.itoa f.1,())::ls (bI f)) 1=Lib.itoa f.2.1:=word2 _ _ _;have e3:wordAt ((Lib.itoa f.1,())::ls (bI f)) 3=Lib.itoa f.2.2.2.1:=ahY _ _ _ _ _;have ev:sZ (((Lib.itoa f.1,())::ls (bI f)).drop 4)=true:=a2;have ef:jr (numAt ((Lib.itoa f.1,())::ls (bI f)) 0) (((Lib.itoa f.1,())::ls (bI f)).drop 1)=f:=by show jr (numAt _ 0) (ls (bI f))=f;rw[SY h];unfold numAt;rw[e0,(jQ h2).2]
 unfold iP;rw[hl,e0,e1,e3,ev,ef,(jQ h2).1,(jQ h3).1,(jQ h4).1,anC (by omega),show((4+2*f.2.2.2.2.1.length)%2==0)=true from anq.2 (by omega)];rfl
def passes(x:dG)(w:LS):Prop:=aI x≠[]/\aI x=dL w
theorem ac2{x:dG}{w:LS}(hs:∀y∈w,vg y.1)(h:passes x w):w=ls (aV x)/\aV x≠[]:=by obtain⟨h1,h2⟩:=h;have ht:tidy (aI x):=⟨aV x,λy hy=>(EW x y hy).1,rfl⟩;have e:=(Ia ht hs).2 h2;have e2:wordsOf (aI x)=ls (aV x):=zK _ λy hy=>(EW x y hy).1;refine⟨by rw[← e,e2],λh0=>h1 ?_⟩;unfold aI;rw[h0];rfl
theorem Ii(k:Int)(f:bH)(id:Int)(nm:Bytes)(q:List aA):cO (bZ k f id nm q)=f:=rfl
theorem akm{f:bH}(h:aV (bZ 1 f 0 [] [])≠[]):dU f=true/\f.1=0/\aV (bZ 1 f 0 [] [])=iD::bI f:=by
 have e:aV (bZ 1 f 0 [] [])=bif dU f&&(f.1==0&&true)then iD::bI f else[]:=by unfold aV;rw[Ii];cases dU f<;>cases f.1==0<;>rfl
 rw[e]at h ⊢;cases c:dU f&&(f.1==0&&true)with
 |false=>rw[c]at h;exact(h rfl).elim
 |true=>rw[ane,anQ,anq]at c;exact⟨c.1,c.2,rfl⟩
theorem akn{f:bH}(h:aV (bZ 2 f 0 [] [])≠[]):dU f=true/\aV (bZ 2 f 0 [] [])=fK::Lib.itoa f.1::bI f:=by
 have e:aV (bZ 2 f 0 [] [])=bif dU f then fK::Lib.itoa f.1::bI f else[]:=by unfold aV;rw[Ii];cases dU f<;>rfl
 rw[e]at h ⊢;cases c:dU f with
 |false=>rw[c]at h;exact(h rfl).elim
 |true=>exact⟨rfl,rfl⟩
theorem ako{id:Int}(h:aV (bZ 3 fO id [] [])≠[]):aB id=true/\aV (bZ 3 fO id [] [])=[iE,Lib.itoa id]:=by
 have e:aV (bZ 3 fO id [] [])=bif aB id then[iE,Lib.itoa id]else[]:=by unfold aV;rw[Ii,anE (rfl:fO=fO)];show(bif (3:Int)==3&&(true&&(aB id&&true))then[iE,Lib.itoa id]else _)=_;cases aB id<;>rfl
 rw[e]at h ⊢;cases c:aB id with
 |false=>rw[c]at h;exact(h rfl).elim
 |true=>exact⟨rfl,rfl⟩
theorem akp{nm:Bytes}{q:List aA}(h:aV (bZ 4 fO 0 nm q)≠[]):au nm=true/\fM q=true/\aV (bZ 4 fO 0 nm q)=eP::nm::bf 9 q ((q.length:Int)-1):=by
 have e:aV (bZ 4 fO 0 nm q)=bif au nm&&fM q then eP::nm::bf 9 q ((q.length:Int)-1)else[]:=by unfold aV;rw[Ii,anE (rfl:fO=fO)];show(bif (4:Int)==4&&(true&&(true&&(au nm&&fM q)))then eP::nm::bf 9 q ((q.length:Int)-1)else _)=_;cases au nm<;>cases fM q<;>rfl
 rw[e]at h ⊢;cases c:au nm&&fM q with
 |false=>rw[c]at h;exact(h rfl).elim
 |true=>rw[ane]at c;exact⟨c.1,c.2,rfl⟩
theorem akq:aV (bZ 0 fO 0 [] [])=[]:=rfl
theorem ZA{w:LS}(hs:∀y∈w,vg y.1)(h:passes (gq w) w):iL w=(gq w,true)/\2<=w.length:=by
 obtain⟨e,hne⟩:=ac2 hs h;unfold gq at e hne ⊢;unfold iL;cases h1:wordAt w 0==iD with
 |true=>
  rw[h1]at e hne;obtain⟨a1,a2,a3⟩:=akm hne;have e:w=ls (aV (bZ 1 (jr 0 (w.drop 1)) 0 [] [])):=e;generalize hf:jr 0 (w.drop 1)=f at a1 a2 a3 e;rw[a3]at e;have e1:w.drop 1=ls (bI f):=by rw[e];rfl
  have e2:((([48]:Bytes),())::w.drop 1)=(Lib.itoa f.1,())::ls (bI f):=by rw[e1,a2,agD]
  dsimp only[cond_true];rw[e2,Yo a1];refine⟨rfl,?_⟩;rw[e];show 2<=((iD,())::(Lib.itoa f.2.1,())::_:LS).length;rw[anh,anh];omega
 |false=>
 rw[h1]at e hne;cases h2:wordAt w 0==fK with
 |true=>
  rw[h2]at e hne;obtain⟨a1,a3⟩:=akn hne;have e:w=ls (aV (bZ 2 (jr (numAt w 1) (w.drop 2)) 0 [] [])):=e;generalize hf:jr (numAt w 1) (w.drop 2)=f at a1 a3 e;rw[a3]at e;have e1:w.drop 1=(Lib.itoa f.1,())::ls (bI f):=by rw[e];rfl
  dsimp only[cond_true,cond_false];rw[e1,Yo a1];refine⟨rfl,?_⟩;rw[e];show 2<=((fK,())::(Lib.itoa f.1,())::_:LS).length;rw[anh,anh];omega
 |false=>
 rw[h2]at e hne;cases h3:wordAt w 0==iE with
 |true=>
  rw[h3]at e hne;obtain⟨a1,a3⟩:=ako hne;have e:w=ls (aV (bZ 3 fO (numAt w 1) [] [])):=e;rw[a3]at e;have e1:wordAt w 1=Lib.itoa (numAt w 1):=by have:=congrArg (λw=>wordAt w 1) e;exact this.trans (word2 _ _ _)
  dsimp only[cond_true,cond_false];rw[Gj w 1 e1];refine⟨rfl,?_⟩;rw[e];exact ann 2
 |false=>
 rw[h3]at e hne;cases h4:wordAt w 0==eP with
 |true=>
  rw[h4]at e hne;obtain⟨a1,a2,a3⟩:=akp hne;have e:w=ls (aV (bZ 4 fO 0 (wordAt w 1) (fA (dL (w.drop 2))))):=e;rw[a3]at e;have hp:gU (dL (w.drop 2))=true:=by
   cases hp:gU (dL (w.drop 2))with
   |true=>rfl
   |false=>unfold fA at a2;rw[hp]at a2;exact absurd (show fM []=true from a2) (by unfold fM;rw[show aH []=false by decide];decide)
  dsimp only[cond_true,cond_false];rw[hp];refine⟨rfl,?_⟩;rw[e];show 2<=((eP,())::(wordAt w 1,())::_:LS).length;rw[anh,anh];omega
 |false=>
 rw[h4]at e hne;cases h5:wordAt w 0==fV with
 |true=>
  rw[h5]at e hne;have e:w=ls (aV (bZ 5 fO 0 (wordAt w 1) [])):=e;have hne:aV (bZ 5 fO 0 (wordAt w 1) [])≠[]:=hne;refine⟨rfl,?_⟩;have e5:aV (bZ 5 fO 0 (wordAt w 1) [])=bif au (wordAt w 1)then[fV,wordAt w 1]else[]:=by unfold aV;rw[Ii,anE (rfl:fO=fO)];show(bif (5:Int)==5&&(true&&(true&&(au (wordAt w 1)&&true)))then[fV,wordAt w 1]else[])=_;cases au (wordAt w 1)<;>rfl
  rw[e5]at e hne;cases c:au (wordAt w 1)with
  |false=>rw[c]at hne;exact(hne rfl).elim
  |true=>
   rw[c]at e;have hl:=congrArg List.length e;exact Nat.le_of_eq hl.symm
 |false=>rw[h5]at hne;exact(hne akq).elim
theorem aes{w:LS}(hok:(iL w).2=true)(h:aI (iL w).1≠[]):iL w=(gq w,true):=by
 have hf:∀w:LS,(iP w).2=true->(iP w).1=jr (numAt w 0) (w.drop 1):=λw hw=>by
  unfold iP at hw ⊢;cases c:decide ((w.length:Int)<4)||!(w.length%2==0)with
  |true=>rw[c]at hw;cases hw
  |false=>rfl
 have e:(iL w).1=gq w:=by
  unfold iL at hok ⊢;unfold gq;cases h1:wordAt w 0==iD with
  |true=>
   rw[h1]at hok;show bZ 1 (iP (([48],())::w.drop 1)).1 0 [] []=bZ 1 (jr 0 (w.drop 1)) 0 [] [];rw[hf _ hok];have:numAt (([48],())::w.drop 1) 0=0:=by unfold numAt;rw[dF,← agD];exact(jQ (n:=0) (by decide)).2
   rw[this];rfl
  |false=>
  rw[h1]at hok;cases h2:wordAt w 0==fK with
  |true=>
   rw[h2]at hok;show bZ 2 (iP (w.drop 1)).1 0 [] []=bZ 2 (jr (numAt w 1) (w.drop 2)) 0 [] [];rw[hf _ hok];have e1:numAt (w.drop 1) 0=numAt w 1:=by
    unfold numAt;cases w with
    |nil=>rw[List.drop_nil,yc 0 (by decide),yc 1 (by decide)]
    |cons x r=>rw[Eg];rfl
   rw[e1,aoG]
  |false=>
  cases h3:wordAt w 0==iE<;>cases h4:wordAt w 0==eP<;>cases h5:wordAt w 0==fV<;>rfl
 exact Prod.ext e hok
end Sp
namespace Sp
open Go
def dJ(b:UInt8):Bytes->Bytes->LS
 |cur,[]=>[(cur,())]
 |cur,x::l=>bif x==b then(cur,())::dJ b [] l else dJ b (cur++[x]) l
def pieces(b:UInt8)(s:Bytes):LS:=dJ b [] s
theorem S9:∀(l cur:Bytes),dJ 10 cur l=Nq cur l
 |[],_=>rfl
 |x::l,cur=>by
  show(bif x==10 then(cur,())::dJ 10 [] l else dJ 10 (cur++[x]) l)=bif x==10 then(cur,())::Nq [] l else Nq (cur++[x]) l
  rw[S9 l [],S9 l (cur++[x])]
theorem Vb{b:UInt8}:∀(w cur l:Bytes),(∀x∈w,x≠b)->dJ b cur (w++l)=dJ b (cur++w) l
 |[],cur,l,_=>by rw[anN];rfl
 |x::w,cur,l,h=>by have hx:(x==b)=false:=ang.2 (h x anp);show(bif x==b then(cur,())::dJ b [] (w++l)else dJ b (cur++[x]) (w++l))=_;rw[hx];show dJ b (cur++[x]) (w++l)=_;rw[Vb w (cur++[x]) l λy hy=>h y (ant _ hy),anz];rfl
theorem Yp{b:UInt8}{w:Bytes}(h:∀x∈w,x≠b)(l:Bytes):pieces b (w++b::l)=(w,())::pieces b l:=by unfold pieces;rw[Vb w [] (b::l) h,an7];show(bif b==b then _ else _)=_;rw[anT];rfl
theorem dX(x y:Bytes)(r:List Bytes):Lib.join (x::y::r) [32]=x++32::Lib.join (y::r) [32]:=by rw[Lib.join_cons,Lib.join_cons];show x++([32]++y++Lib.joinTail [32] r)=_;rw[anz];rfl
theorem Jt(b:UInt8):∀(l cur:Bytes),0<(dJ b cur l).length
 |[],_=>Nat.one_pos
 |x::l,cur=>by
  show 0<(bif x==b then(cur,())::dJ b [] l else dJ b (cur++[x]) l).length;cases x==b with
  |true=>exact ao4 _
  |false=>exact Jt b l _
theorem Gz(b:UInt8):∀(l cur:Bytes),Lib.join ((dJ b cur l).map (·.1)) [b]=cur++l
 |[],cur=>by
  show Lib.join [cur] [b]=_;rw[Lib.join_cons];rfl
 |x::l,cur=>by
  show Lib.join ((bif x==b then(cur,())::dJ b [] l else dJ b (cur++[x]) l).map (·.1)) [b]=_;cases h:x==b with
  |false=>
   show Lib.join ((dJ b (cur++[x]) l).map (·.1)) [b]=_;rw[Gz b l (cur++[x]),anz];rfl
  |true=>
   have hx:x=b:=anq.1 h;have ih:=Gz b l [];have hp:=Jt b l [];cases e:dJ b [] l with
   |nil=>rw[e]at hp;exact absurd hp (apY 0)
   |cons y r=>rw[e]at ih;show Lib.join (cur::((y::r).map (·.1))) [b]=_;rw[anH]at ih ⊢;rw[Lib.join_cons]at ih ⊢;show cur++([b]++y.1++Lib.joinTail [b] (r.map (·.1)))=_;rw[anz,ih,hx];rfl
theorem adK(s:Bytes):dL (pieces 32 s)=s:=by unfold dL pieces;rw[Gz,an7]
def cZ:List bJ->Bytes
 |[]=>[]
 |a::r=>32::(a.1++32::(bn a.2++cZ r))
theorem Yq:∀as:List bJ,Lib.joinTail [32] (dM as)=cZ as
 |[]=>rfl
 |a::r=>by show[32]++a.1++([32]++bn a.2++Lib.joinTail [32] (dM r))=_;rw[Yq r];show _=32::(a.1++32::(bn a.2++cZ r));simp
theorem agt{as:List bJ}{n:Nat}(h:n<as.length):cZ (as.take (n+1))=cZ (as.take n)++32::((as.getD n ([],0,0,[],())).1++32::bn (as.getD n ([],0,0,[],())).2):=by
 induction as generalizing n with
 |nil=>exact absurd h (aoo _)
 |cons a r ih=>
  cases n with
  |zero=>
   show 32::(a.1++32::(bn a.2++[]))=[]++32::(a.1++32::bn a.2);rw[anN];rfl
  |succ n=>
   have h:n<r.length:=by rw[anh]at h;omega
   show 32::(a.1++32::(bn a.2++cZ (r.take (n+1))))=(32::(a.1++32::(bn a.2++cZ (r.take n))))++_;rw[ih h];show _=32::(a.1++32::(bn a.2++cZ (r.take n)))++32::((r.getD n ([],0,0,[],())).1++32::bn (r.getD n ([],0,0,[],())).2);simp
theorem aak(f:bH):Lib.join (bI f) [32]=Lib.itoa f.2.1++32::((bif f.2.2.1 then[115]else[111])++32::(Lib.itoa f.2.2.2.1++cZ f.2.2.2.2.1)):=by unfold bI;rw[dX,dX,Lib.join_cons,Yq]
def Ec:Bytes:=[102,105,108,101]
def fH(f:bH):Bytes:=Lib.join (Ec::Lib.itoa f.1::bI f) [32]
theorem ac3(n:Int):∀x∈Lib.itoa n,x≠32:=by
 intro x hx e;subst e;have h:∀k:Nat,∀y∈Lib.decDigits k,48<=y.toNat:=λk y hy=>
  ((BP k k (Nat.lt_trans (Nat.lt_pow_self (by decide)) (Nat.pow_lt_pow_right (by decide) (aoF k)))).2.2.1 y hy).1
 unfold Lib.itoa at hx;split at hx
 .rcases anA.1 hx with h0|h0
  .exact absurd h0 (by decide)
  .exact absurd (h _ _ h0) (by decide)
 .exact absurd (h _ _ hx) (by decide)
theorem adC(f:bH):(pieces 32 (fH f)).drop 2=pieces 32 (Lib.join (bI f) [32])/\(pieces 32 (fH f)).drop 1=(Lib.itoa f.1,())::pieces 32 (Lib.join (bI f) [32])/\2<=(pieces 32 (fH f)).length:=by
 have e:pieces 32 (fH f)=(Ec,())::(Lib.itoa f.1,())::pieces 32 (Lib.join (bI f) [32]):=by unfold fH;rw[dX,Yp (by decide)];unfold bI;rw[dX,Yp (ac3 _)]
 rw[e];exact⟨rfl,rfl,by rw[anh,anh];omega⟩
end Sp
namespace Sp
open Go
theorem U2(kw s:Bytes):Lib.join (kw::(pieces 32 s).map (·.1)) [32]=kw++32::s:=by
 have h:=adK s;have hp:=Jt 32 s [];unfold dL pieces at h;unfold pieces;cases e:dJ 32 [] s with
 |nil=>rw[e]at hp;exact absurd hp (apY 0)
 |cons y r=>rw[e]at h;rw[anH]at h ⊢;rw[dX,h]
theorem join_one(x:Bytes):Lib.join [x] [32]=x:=by rw[Lib.join_cons];exact anN x
theorem ac4:∀(a:List Bytes)(y:Bytes)(b:List Bytes),a≠[]->Lib.join (a++y::b) [32]=Lib.join a [32]++32::Lib.join (y::b) [32]
 |[],_,_,h=>(h rfl).elim
 |[x],y,b,_=>by rw[join_one];exact dX x y b
 |x::z::a,y,b,_=>by show Lib.join (x::z::(a++y::b)) [32]=_;rw[dX,dX];have:=ac4 (z::a) y b (by simp);rw[show z::(a++y::b)=(z::a)++y::b from rfl,this,anz];rfl
theorem XO(x:Bytes){a:List Bytes}(h:a≠[]):Lib.join [x,Lib.join a [32]] [32]=Lib.join (x::a) [32]:=by
 cases a with
 |nil=>exact(h rfl).elim
 |cons y r=>rw[dX,join_one,dX]
theorem XP(x:Bytes){a b:List Bytes}(h:a≠[])(g:b≠[]):Lib.join [x,Lib.join a [32],Lib.join b [32]] [32]=Lib.join (x::(a++b)) [32]:=by
 cases a with
 |nil=>exact(h rfl).elim
 |cons y r=>
  cases b with
  |nil=>exact(g rfl).elim
  |cons z s=>have:=ac4 (y::r) z s (by simp);rw[dX,dX,join_one];show _=Lib.join (x::y::(r++z::s)) [32];rw[dX];show _=x++32::Lib.join ((y::r)++z::s) [32];rw[this]
theorem CY(k:Nat)(q:List aA)(i:Int):bf (k+1) q i≠[]:=by
 rw[bf];cases (nodeAt q i.toNat).1==5 with
 |true=>exact aps _ _
 |false=>
  cases (nodeAt q i.toNat).1==6||(nodeAt q i.toNat).1==7 with
  |true=>exact aps _ _
  |false=>exact aps _ _
theorem ZB{n:aA}{a:Int}(h:dZ n a=true)(c:n.1=5):0<=n.2.1/\n.2.1<a:=by obtain⟨op,l,r,s,k,m,t,⟨⟩⟩:=n;have c:op=5:=c;subst c;have h:((decide (0<=l)&&decide (l<=a-1)&&decide (0<a))&&r==0&&(s==[]&&(k==0&&(m==0&&t==[]))))=true:=h;rw[ane,ane,ane,ane,anl,anl]at h;have h1:=h.1.1.1;dsimp only;omega
theorem ZC{n:aA}{a:Int}(h:dZ n a=true)(c:n.1=6\/n.1=7):(0<=n.2.1/\n.2.1<a)/\0<=n.2.2.1/\n.2.2.1<a:=by
 obtain⟨op,l,r,s,k,m,t,⟨⟩⟩:=n;have h:((decide (0<=l)&&decide (l<=a-1)&&decide (0<a))&&(decide (0<=r)&&decide (r<=a-1))&&(s==[]&&(k==0&&(m==0&&t==[]))))=true:=by
  rcases c with c|c
  .have c:op=6:=c;subst c;exact h
  .have c:op=7:=c;subst c;exact h
 simp only[ane,anl]at h;have h1:=h.1.1.1;have h2:=h.1.2;dsimp only;omega
theorem zI{q:List aA}(h:aH q=true):∀(k j:Nat)(i:Int),0<=i->i.toNat<q.length->i.toNat<k->i.toNat<j->bf k q i=bf j q i
 |0,_,_,_,_,hk,_=>absurd hk (aoo _)
 |_+1,0,_,_,_,_,hj=>absurd hj (aoo _)
 |k+1,j+1,i,hi,hl,hk,hj=>by
  have hn:=(nY h hl).1;rw[bf,bf];cases c5:(nodeAt q i.toNat).1==5 with
  |true=>
   have hc:=ZB hn (anq.1 c5);show _::bf k q _=_::bf j q _;rw[zI h k j (nodeAt q i.toNat).2.1 hc.1 (by omega) (by omega) (by omega)]
  |false=>
  cases c6:(nodeAt q i.toNat).1==6||(nodeAt q i.toNat).1==7 with
  |true=>
   rw[aot,anq,anq]at c6;have hc:=ZC hn c6;show _::(bf k q _++bf k q _)=_::(bf j q _++bf j q _);rw[zI h k j (nodeAt q i.toNat).2.1 hc.1.1 (by omega) (by omega) (by omega),zI h k j (nodeAt q i.toNat).2.2.1 hc.2.1 (by omega) (by omega) (by omega)]
  |false=>rfl
def iK(w:List Bytes):Nat:=(w.map λx=>x.length+1).sum
theorem Dc:∀w:List Bytes,(Lib.join w [32]).length<=iK w
 |[]=>ann _
 |[x]=>by rw[join_one];show x.length<=x.length+1+0;omega
 |x::y::r=>by have:=Dc (y::r);rw[dX,anf,anh];show _<=x.length+1+iK (y::r);omega
theorem aW(x:Bytes)(r:List Bytes):iK (x::r)=x.length+1+iK r:=by unfold iK;rw[anH,apZ]
theorem ac5(a b:List Bytes):iK (a++b)=iK a+iK b:=by unfold iK;rw[aoL,List.sum_append]
theorem Tc(op:Int):(dW op).length<=6:=by unfold dW;cases op==1<;>cases op==2<;>cases op==3<;>cases op==4<;>cases op==5<;>cases op==6<;>cases op==7<;>cases op==8<;>cases op==9<;>decide
theorem aeu{v:BA}(h:aZ v.1 v.2.1 v.2.2.1=true)(h0:v.1≠0):(bn v).length<=10:=by
 unfold bn;rw[h];rcases aho h h0 with⟨n,rfl,a,b⟩|⟨s,rfl,a⟩
 .exact kz (by unfold aB;rw[anE a,anE (show n<=1000000000 by omega)];rfl)
 .exact ank (jZ a) (by decide)
theorem ac6{n:aA}(h:dZ n 0=true)(hw:n.1=1\/n.1=2\/n.1=3\/n.1=4\/n.1=8\/n.1=9):iK (iY n)<=25:=by
 have hg:n.1=1\/n.2.2.2.1.length<=6:=by
  obtain⟨op,l,r,s,k,m,t,⟨⟩⟩:=n;dsimp only at hw ⊢;rcases hw with rfl|rfl|rfl|rfl|rfl|rfl
  .exact .inl rfl
  .have h:((l==0&&r==0)&&(k==0&&(m==0&&t==[]))&&eF s)=true:=h;rw[ane]at h;exact .inr (jZ (vz h.2))
  .have h:((l==0&&r==0)&&eF s&&aZ k m t&&!(k==0))=true:=h;rw[ane,ane,ane]at h;exact .inr (jZ (vz h.1.1.2))
  .have h:((l==0&&r==0)&&eF s&&aZ k m t&&k==1)=true:=h;rw[ane,ane,ane]at h;exact .inr (jZ (vz h.1.1.2))
  .have h:((l==0&&r==0)&&(k==0&&(m==0&&t==[]))&&au s)=true:=h;rw[ane]at h;exact .inr (jZ h.2)
  .have h:((l==0&&r==0)&&(k==0&&(m==0&&t==[]))&&au s)=true:=h;rw[ane]at h;exact .inr (jZ h.2)
 rcases vw h hw with rfl|⟨op,s,rfl,c,hs⟩|⟨op,s,v,rfl,c,hs,hv,h0⟩
 .decide
 .have hl:s.length<=6:=hg.resolve_left (by dsimp only;omega);have hk:=Tc op;rw[Ak c,aW,aW];show _+(_+0)<=25;omega
 .have hl:s.length<=6:=hg.resolve_left (by dsimp only;omega);have hk:=Tc op;have hq:=aeu hv h0;rw[C9 c,aW,aW,aW];show _+(_+(_+0))<=25;omega
theorem Gm{q:List aA}(h:aH q=true):∀(k:Nat)(i:Int),0<=i->i.toNat<q.length->iK (bf k q i)+7<=24*2 ^ k
 |0,_,_,_=>by show 0+7<=24*1;decide
 |k+1,i,hi,hl=>by
  have hn:=(nY h hl).1;have hk:=Tc (nodeAt q i.toNat).1;have hp:1<=2 ^ k:=apA;have e2:2 ^ (k+1)=2*2 ^ k:=by rw[Nat.pow_succ,apz]
  rw[bf];cases c5:(nodeAt q i.toNat).1==5 with
  |true=>
   have hc:=ZB hn (anq.1 c5);have ih:=Gm h k (nodeAt q i.toNat).2.1 hc.1 (by omega);show iK (_::_)+7<=_;rw[aW];omega
  |false=>
  cases c6:(nodeAt q i.toNat).1==6||(nodeAt q i.toNat).1==7 with
  |true=>
   rw[aot,anq,anq]at c6;have hc:=ZC hn c6;have i1:=Gm h k (nodeAt q i.toNat).2.1 hc.1.1 (by omega);have i2:=Gm h k (nodeAt q i.toNat).2.2.1 hc.2.1 (by omega);show iK (_::(_++_))+7<=_;rw[aW,ac5];omega
  |false=>
   rw[aoy,ang,ang]at c6;have c5:=ang.1 c5;have hw:(nodeAt q i.toNat).1=1\/(nodeAt q i.toNat).1=2\/(nodeAt q i.toNat).1=3\/(nodeAt q i.toNat).1=4\/(nodeAt q i.toNat).1=8\/(nodeAt q i.toNat).1=9:=by
    generalize nodeAt q i.toNat=n at hn c5 c6;obtain⟨op,l,r,s,k,m,t,⟨⟩⟩:=n;dsimp only at c5 c6 ⊢;by_cases a1:op=1
    .exact .inl a1
    by_cases a2:op=2
    .exact .inr (.inl a2)
    by_cases a3:op=3
    .exact .inr (.inr (.inl a3))
    by_cases a4:op=4
    .exact .inr (.inr (.inr (.inl a4)))
    by_cases a8:op=8
    .exact .inr (.inr (.inr (.inr (.inl a8))))
    by_cases a9:op=9
    .exact .inr (.inr (.inr (.inr (.inr a9))))
    unfold dZ at hn;dsimp only at hn;rw[ang.2 a1,ang.2 a2,ang.2 a3,ang.2 a4,ang.2 c5,ang.2 c6.1,ang.2 c6.2,ang.2 a8,ang.2 a9]at hn;cases hn
   have:=ac6 (by rw[← Va _ hw];exact hn) hw;show iK (iY _)+7<=_;omega
theorem H7(q:List aA):(textOf q).length<=12288:=by
 unfold textOf;cases h:aH q with
 |false=>exact ano _
 |true=>have hl:=jD h;have:=Gm h 9 ((q.length:Int)-1) (by omega) (by omega);exact ank (Dc _) (by show iK (bf 9 q _)<=12288;omega)
end Sp
namespace Sp
open Go
def fP(s:Bytes):Bool:=bW s&&(!(wordsOf s==[])&&((iL (wordsOf s)).2&&(!(aI (iL (wordsOf s)).1==[])&&decide (wordsOf (aI (iL (wordsOf s)).1)=wordsOf s))))
def dO(s:Bytes):dG:=bif fP s then(iL (wordsOf s)).1 else bZ 0 fO 0 [] []
def ES(s:Bytes):Bool:=bW s&&(!decide (((wordsOf s).length:Int)<2)&&(!(aI (gq (wordsOf s))==[])&&aI (gq (wordsOf s))==dL (wordsOf s)))
theorem ac7(x:dG):tidy (aI x):=⟨aV x,λy hy=>(EW x y hy).1,rfl⟩
theorem agv(x:dG):jU (aI x)=true:=Yj _ λy hy=>acs (EW x y hy).2
theorem H9(s:Bytes):ES s=fP s:=by
 have hs:=Gy s;rw[an2];unfold ES fP;simp only[ane,aoJ,ang,anq,anl,an1];refine apx λ_=>⟨λ⟨h1,h2,h3⟩=>?_,λ⟨h1,h2,h3,h4⟩=>?_⟩
 .obtain⟨e,hl⟩:=ZA hs ⟨h2,h3⟩;rw[e];refine⟨λh0=>?_,rfl,h2,(Ia (ac7 _) hs).2 h3⟩;rw[h0]at hl;exact absurd hl (by decide)
 .have e:=aes h2 h3;rw[e]at h3 h4;have h5:=(Ia (ac7 _) hs).1 h4;obtain⟨_,hl⟩:=ZA hs ⟨h3,h5⟩;exact⟨by omega,h3,h5⟩
theorem Ld{s:Bytes}(h:fP s=true):dO s=gq (wordsOf s)/\dO s=(iL (wordsOf s)).1:=by
 have e1:dO s=(iL (wordsOf s)).1:=by unfold dO;rw[h];rfl
 unfold fP at h;simp only[ane,aoJ,ang]at h;have e:=aes h.2.2.1 h.2.2.2.1;exact⟨by rw[e1,e],e1⟩
theorem agF{x:dG}(hx:aI x≠[]):gq (ls (aV x))=x:=by
 have kw:∀(y:Bytes)(r:List Bytes),wordAt (ls (y::r)) 0=y:=λy r=>dF _ _;have hw:aV x≠[]:=λh=>hx (by unfold aI;rw[h];rfl);obtain⟨k,i,o,sh,l,as,id,nm,q,⟨⟩⟩:=x;have ex:((k,i,o,sh,l,as,id,nm,q,()):dG)=bZ k (i,o,sh,l,as,()) id nm q:=rfl;rw[ex]at hw ⊢;generalize hf:((i,o,sh,l,as,()):bH)=f at hw ⊢;have nd:∀{nm:Bytes}{q:List aA},(nm==[]&&q.isEmpty)=true->nm=[]/\q=[]:=λh=>by rw[ane,anq,List.isEmpty_iff]at h;exact h
 unfold aV at hw ⊢;rw[Ii]at hw ⊢;have d1:rO (bZ k f id nm q)=id:=rfl;have d2:fE (bZ k f id nm q)=(nm,q,()):=rfl;have d3:(bZ k f id nm q).1=k:=rfl;have d4:Am (bZ k f id nm q)=(nm==[]&&q.isEmpty):=rfl;rw[d1,d2,d3,d4]at hw ⊢;dsimp only at hw ⊢;cases h1:k==1&&(dU f&&(f.1==0&&(id==0&&(nm==[]&&q.isEmpty))))with
 |true=>
  rw[ane,ane,ane,ane,anq,anq,anq]at h1;obtain⟨rfl,a1,a2,rfl,a3⟩:=h1;obtain⟨rfl,rfl⟩:=nd a3;show gq (ls (iD::bI f))=_;unfold gq;rw[kw];show bZ 1 (jr 0 (ls (bI f))) 0 [] []=_;rw[SY a1,← a2]
 |false=>
 rw[h1]at hw;cases h2:k==2&&(dU f&&(id==0&&(nm==[]&&q.isEmpty)))with
 |true=>
  rw[ane,ane,ane,anq,anq]at h2;obtain⟨rfl,a1,rfl,a3⟩:=h2;obtain⟨rfl,rfl⟩:=nd a3;show gq (ls (fK::Lib.itoa f.1::bI f))=_;unfold gq;rw[kw];have en:numAt (ls (fK::Lib.itoa f.1::bI f)) 1=f.1:=by show parseNum (wordAt ((fK,())::(Lib.itoa f.1,())::ls (bI f)) 1)=f.1;rw[word2];exact(jQ (vC.1 a1).2.1).2
  show bZ 2 (jr (numAt (ls (fK::Lib.itoa f.1::bI f)) 1) (ls (bI f))) 0 [] []=_;rw[SY a1,en]
 |false=>
 rw[h2]at hw;cases h3:k==3&&(decide (f=fO)&&(aB id&&(nm==[]&&q.isEmpty)))with
 |true=>
  rw[ane,ane,ane,anq,anl]at h3;obtain⟨rfl,rfl,a2,a3⟩:=h3;obtain⟨rfl,rfl⟩:=nd a3;show gq (ls [iE,Lib.itoa id])=_;unfold gq;rw[kw];have en:numAt (ls [iE,Lib.itoa id]) 1=id:=by show parseNum (wordAt ((iE,())::(Lib.itoa id,())::[]) 1)=id;rw[word2];exact(jQ a2).2
  show bZ 3 fO (numAt (ls [iE,Lib.itoa id]) 1) [] []=_;rw[en]
 |false=>
 rw[h3]at hw;cases h4:k==4&&(decide (f=fO)&&(id==0&&(au nm&&fM q)))with
 |true=>
  rw[ane,ane,ane,ane,anq,anq,anl]at h4;obtain⟨rfl,rfl,rfl,a2,a3⟩:=h4;show gq (ls (eP::nm::bf 9 q ((q.length:Int)-1)))=_;obtain⟨t,hw,ho,e,et,ex⟩:=Ky a3;unfold gq;rw[kw];have en:wordAt (ls (eP::nm::bf 9 q ((q.length:Int)-1))) 1=nm:=word2 _ _ _;show bZ 4 fO 0 (wordAt (ls (eP::nm::bf 9 q ((q.length:Int)-1))) 1) (fA (dL (ls (bf 9 q ((q.length:Int)-1)))))=_;rw[en];unfold dL;rw[SA,et,← ex];unfold fM at a3;rw[ane,anl]at a3;rw[a3.2]
 |false=>
 rw[h4]at hw;cases h5:k==5&&(decide (f=fO)&&(id==0&&(au nm&&q.isEmpty)))with
 |true=>
  rw[ane,ane,ane,ane,anq,anq,anl,List.isEmpty_iff]at h5;obtain⟨rfl,rfl,rfl,a2,rfl⟩:=h5;show gq (ls [fV,nm])=_;unfold gq;rw[kw];have en:wordAt (ls [fV,nm]) 1=nm:=word2 _ _ _;show bZ 5 fO 0 (wordAt (ls [fV,nm]) 1) []=_;rw[en]
 |false=>rw[h5]at hw;exact(hw rfl).elim
end Sp
namespace Sp
open Go
theorem GH:∀(l cur:Bytes),Lib.fieldsGo cur (l++[32])=Lib.fieldsGo cur l
 |[],cur=>by
  cases cur with
  |nil=>rfl
  |cons a r=>rfl
 |x::l,cur=>by show Lib.fieldsGo cur (x::(l++[32]))=_;unfold Lib.fieldsGo;rw[GH l [],GH l (cur++[x])]
theorem agG(s:Bytes):wordsOf ([32,32]++s++[32])=wordsOf s:=by unfold wordsOf Lib.fields;rw[GH];rfl
theorem afx(s:Bytes):wordsOf ([32]++s)=wordsOf s:=by unfold wordsOf Lib.fields;rfl
theorem zN:∀t:QT,zL t->zM t->(aK t).length<=2*t.size+1/\iK (aK t)<=32*t.size
 |.leaf n,hw,ho=>by
  have h:=ac6 ho hw;refine⟨?_,show iK (iY n)<=32*1 by omega⟩;show(iY n).length<=2*1+1;unfold iY;cases n.1==2||(n.1==8||n.1==9)with
  |true=>show 2<=3;decide
  |false=>
   cases n.1==3||n.1==4 with
   |true=>show 3<=3;decide
   |false=>show 1<=3;decide
 |.neg t,hw,ho=>by
  obtain⟨h1,h2⟩:=zN t hw ho;have:=Tc 5;refine⟨?_,?_⟩
  .show(aK t).length+1<=2*(t.size+1)+1;omega
  .show iK (dW 5::aK t)<=32*(t.size+1);rw[aW];omega
 |.two op a b,⟨_,w1,w2⟩,⟨o1,o2⟩=>by
  obtain⟨h1,h2⟩:=zN a w1 o1;obtain⟨h3,h4⟩:=zN b w2 o2;have:=Tc op;refine⟨?_,?_⟩
  .show(aK a++aK b).length+1<=2*(a.size+b.size+1)+1;rw[anf];omega
  .show iK (dW op::(aK a++aK b))<=32*(a.size+b.size+1);rw[aW,ac5];omega
theorem Yr:∀as:List bJ,(∀a∈as,kQ a=true)->iK (dM as)<=18*as.length
 |[],_=>ann _
 |a::r,h=>by obtain⟨h1,h2,h3⟩:=O3.1 (h a anp);have i:=Yr r λb hb=>h b (ant _ hb);have l1:=jZ (vz h1);have l2:=aeu (v:=a.2) h2 h3;show iK (a.1::bn a.2::dM r)<=18*(r.length+1);rw[aW,aW];omega
theorem Kz{f:bH}(h:dU f=true):iK (bI f)<=24+18*f.2.2.2.2.1.length/\(bI f).length=3+2*f.2.2.2.2.1.length:=by
 obtain⟨h1,h2,h3,h4⟩:=vC.1 h;have i:=Yr _ h1;have l1:=kz h3;have l2:=kz h4;have l3:(bif f.2.2.1 then[115]else[111]:Bytes).length=1:=by cases f.2.2.1<;>rfl
 refine⟨?_,?_⟩
 .show iK (Lib.itoa f.2.1::(bif f.2.2.1 then[115]else[111])::Lib.itoa f.2.2.2.1::dM f.2.2.2.2.1)<=_;rw[aW,aW,aW];omega
 .show(dM f.2.2.2.2.1).length+1+1+1=_;rw[(Ib _ h1).2.2];omega
theorem agH(x:dG)(hx:(cO x).2.2.2.2.1.length<=9):(aV x).length<=24/\iK (aV x)<=400:=by
 unfold aV;cases h1:x.1==1&&(dU (cO x)&&((cO x).1==0&&(rO x==0&&Am x)))with
 |true=>
  rw[ane,ane]at h1;obtain⟨b1,b2⟩:=Kz h1.2.1;show(iD::bI (cO x)).length<=24/\iK (iD::bI (cO x))<=400;rw[anh,aW,b2];exact⟨by omega,by show 6+1+_<=400;omega⟩
 |false=>
 cases h2:x.1==2&&(dU (cO x)&&(rO x==0&&Am x))with
 |true=>
  rw[ane,ane]at h2;obtain⟨b1,b2⟩:=Kz h2.2.1;have l1:=kz (vC.1 h2.2.1).2.1;show(fK::Lib.itoa (cO x).1::bI (cO x)).length<=24/\iK (fK::Lib.itoa (cO x).1::bI (cO x))<=400;rw[anh,anh,aW,aW,b2];exact⟨by omega,by show 6+1+_<=400;omega⟩
 |false=>
 cases h3:x.1==3&&(decide (cO x=fO)&&(aB (rO x)&&Am x))with
 |true=>
  rw[ane,ane,ane]at h3;have l1:=kz h3.2.2.1;show 2<=24/\iK [iE,Lib.itoa (rO x)]<=400;rw[aW,aW];exact⟨by decide,by show 6+1+(_+0)<=400;omega⟩
 |false=>
 cases h4:x.1==4&&(decide (cO x=fO)&&(rO x==0&&(au (fE x).1&&fM (fE x).2.1)))with
 |true=>
  rw[ane,ane,ane,ane]at h4;obtain⟨t,hw,ho,eq,et,_⟩:=Ky h4.2.2.2.2;have hs:t.size<=9:=by have h:=h4.2.2.2.2;unfold fM at h;rw[ane]at h;have:=(jD h.1).2;rw[eq,eY]at this;exact this
  obtain⟨c1,c2⟩:=zN t hw ho;have l1:=jZ h4.2.2.2.1;show(eP::(fE x).1::bf 9 (fE x).2.1 (((fE x).2.1.length:Int)-1)).length<=24/\iK (eP::(fE x).1::bf 9 (fE x).2.1 (((fE x).2.1.length:Int)-1))<=400;rw[et,anh,anh,aW,aW];exact⟨by omega,by show 6+1+_<=400;omega⟩
 |false=>
 cases h5:x.1==5&&(decide (cO x=fO)&&(rO x==0&&(au (fE x).1&&(fE x).2.1.isEmpty)))with
 |true=>
  rw[ane,ane,ane,ane]at h5;have l1:=jZ h5.2.2.2.1;show 2<=24/\iK [fV,(fE x).1]<=400;rw[aW,aW];exact⟨by decide,by show 8+1+(_+0)<=400;omega⟩
 |false=>exact⟨ano _,ano _⟩
theorem ahf(x:dG)(hx:(cO x).2.2.2.2.1.length<=9)(h:aI x≠[]):fP ([32,32]++aI x++[32])=true/\dO ([32,32]++aI x++[32])=x:=by
 obtain⟨c1,c2⟩:=agH x hx;have hl:=ank (Dc (aV x)) c2;obtain⟨g1,g2⟩:=afw (EW x) (ank hl (by decide)) c1;have ew:wordsOf ([32,32]++aI x++[32])=ls (aV x):=(agG _).trans g2;have es:bW ([32,32]++aI x++[32])=true:=by
  refine kE.2 ⟨?_,?_,?_⟩
  .rw[anf,anf];show 2+(Lib.join (aV x) [32]).length+1<=600;omega
  .rw[aoM,aoM,show(aI x).all jO=true from Zz _ λy hy=>(EW x y hy).2];decide
  .rw[← lX,ew];unfold ls;rw[anV];exact c1
 have e:=agF h;have hw:aV x≠[]:=λh0=>h (by unfold aI;rw[h0];rfl);have hp:passes (gq (ls (aV x))) (ls (aV x)):=by rw[e];refine⟨h,?_⟩;unfold dL;rw[SA];rfl
 have hc:fP ([32,32]++aI x++[32])=true:=by rw[← H9];unfold ES;rw[es,ew];have hs:=Gy ([32,32]++aI x++[32]);rw[ew]at hs;obtain⟨_,h2⟩:=ZA hs hp;rw[anC (show ¬(((ls (aV x)).length:Int)<2) by omega),ang.2 hp.1,anq.2 hp.2];rfl
 exact⟨hc,by rw[(Ld hc).1,ew,e]⟩
end Sp
namespace Sp
open Go
theorem num_1{x:Bytes}{n:Int}(r:List Bytes)(h:aB n=true):numAt (ls (x::Lib.itoa n::r)) 1=n:=by show parseNum (wordAt ((x,())::(Lib.itoa n,())::ls r) 1)=n;rw[word2];exact(jQ h).2
theorem akr{x y:Bytes}{n:Int}(r:List Bytes)(h:aB n=true):numAt (ls (x::y::Lib.itoa n::r)) 2=n:=by show parseNum (wordAt ((x,())::(y,())::(Lib.itoa n,())::ls r) 2)=n;rw[Ua];exact(jQ h).2
theorem ahZ{x y z:Bytes}{n:Int}(r:List Bytes)(h:aB n=true):numAt (ls (x::y::z::Lib.itoa n::r)) 3=n:=by show parseNum (wordAt ((x,())::(y,())::(z,())::(Lib.itoa n,())::ls r) 3)=n;rw[ahY];exact(jQ h).2
theorem ahq{k u a:Int}{nc:Nat}{n:Bytes}(h:aS k u nc n a≠[]):dQ (ls (dw k u n a))=(k,u,n,a)/\(dw k u n a).length<=4/\iK (dw k u n a)<=60:=by
 have kw:∀(y:Bytes)(r:List Bytes),wordAt (ls (y::r)) 0=y:=λy r=>dF _ _;unfold aS at h;cases h0:iC k nc with
 |false=>rw[h0]at h;exact(h rfl).elim
 |true=>
 cases h1:(decide ((nc:Int)>0)&&decide (k>2))with
 |true=>rw[h0,h1]at h;exact(h rfl).elim
 |false=>
 rw[h0,h1]at h;rw[Wn];cases c:(k==1&&(aB u&&(a==0&&n==[])))with
 |true=>
  simp only[ane,anq]at c;obtain⟨rfl,hu,rfl,rfl⟩:=c;have l1:=kz hu;show(bif wordAt (ls [kX,Lib.itoa u]) 0==kX then(1,numAt (ls [kX,Lib.itoa u]) 1,[],0)else _:Int×Int×Bytes×Int)=_/\_/\iK [kX,Lib.itoa u]<=60;rw[kw,num_1 _ hu,aW,aW];exact⟨rfl,(by show 2<=4;decide),by show 6+1+(_+0)<=60;omega⟩
 |false=>
 rw[c]at h;cases c:(k==2&&(aB u&&(aB a&&n==[])))with
 |true=>
  simp only[ane,anq]at c;obtain⟨rfl,hu,ha,rfl⟩:=c;have l1:=kz hu;have l2:=kz ha;show(bif wordAt (ls [nD,Lib.itoa u,Lib.itoa a]) 0==kX then _ else bif wordAt (ls [nD,Lib.itoa u,Lib.itoa a]) 0==nD then(2,numAt (ls [nD,Lib.itoa u,Lib.itoa a]) 1,[],numAt (ls [nD,Lib.itoa u,Lib.itoa a]) 2)else _:Int×Int×Bytes×Int)=_/\_/\iK [nD,Lib.itoa u,Lib.itoa a]<=60;rw[kw,num_1 _ hu,akr _ ha,aW,aW,aW];exact⟨rfl,(by show 3<=4;decide),by show 5+1+(_+(_+0))<=60;omega⟩
 |false=>
 rw[c]at h;cases c:(k==3&&(aB u&&(au n&&a==0)))with
 |true=>
  simp only[ane,anq]at c;obtain⟨rfl,hu,hn,rfl⟩:=c;have l1:=kz hu;have l2:=jZ hn;have ew:wordAt (ls [lM,Lib.itoa u,n]) 2=n:=Ua _ _ _ _;refine⟨?_,(by show 3<=4;decide),?_⟩
  .show(bif wordAt (ls [lM,Lib.itoa u,n]) 0==kX then _ else bif wordAt (ls [lM,Lib.itoa u,n]) 0==nD then _ else bif wordAt (ls [lM,Lib.itoa u,n]) 0==lM then(3,numAt (ls [lM,Lib.itoa u,n]) 1,wordAt (ls [lM,Lib.itoa u,n]) 2,0)else _:Int×Int×Bytes×Int)=_;rw[kw,num_1 _ hu,ew];rfl
  .show iK [lM,Lib.itoa u,n]<=60;rw[aW,aW,aW];show 5+1+(_+(_+0))<=60;omega
 |false=>
 rw[c]at h;cases c:(k==4&&(u==0&&(aB a&&n==[])))with
 |true=>
  simp only[ane,anq]at c;obtain⟨rfl,rfl,ha,rfl⟩:=c;have l1:=kz ha;refine⟨?_,(by show 2<=4;decide),?_⟩
  .show(4,0,[],numAt (ls [BM,Lib.itoa a]) 1)=(_:Int×Int×Bytes×Int);rw[num_1 _ ha]
  .show iK [BM,Lib.itoa a]<=60;rw[aW,aW];show 3+1+(_+0)<=60;omega
 |false=>
 rw[c]at h;cases c:(k==5&&(u==0&&(aB a&&n==[])))with
 |true=>
  simp only[ane,anq]at c;obtain⟨rfl,rfl,ha,rfl⟩:=c;have l1:=kz ha;refine⟨?_,(by show 2<=4;decide),?_⟩
  .show(5,0,[],numAt (ls [um,Lib.itoa a]) 1)=(_:Int×Int×Bytes×Int);rw[num_1 _ ha]
  .show iK [um,Lib.itoa a]<=60;rw[aW,aW];show 5+1+(_+0)<=60;omega
 |false=>
 rw[c]at h;cases c:(k==6&&(u==0&&(a==0&&n==[])))with
 |true=>
  simp only[ane,anq]at c;obtain⟨rfl,rfl,rfl,rfl⟩:=c;exact⟨rfl,(by show 1<=4;decide),(by show 7+1+0<=60;decide)⟩
 |false=>
 rw[c]at h;cases c:(k==7&&(aB u&&(aB a&&au n)))with
 |true=>
  simp only[ane,anq]at c;obtain⟨rfl,hu,ha,hn⟩:=c;have l1:=kz hu;have l2:=kz ha;have l3:=jZ hn;have ew:wordAt (ls [xU,Lib.itoa u,n,Lib.itoa a]) 2=n:=Ua _ _ _ _;refine⟨?_,(by show 4<=4;decide),?_⟩
  .show(7,numAt (ls [xU,Lib.itoa u,n,Lib.itoa a]) 1,wordAt (ls [xU,Lib.itoa u,n,Lib.itoa a]) 2,numAt (ls [xU,Lib.itoa u,n,Lib.itoa a]) 3)=(_:Int×Int×Bytes×Int);rw[num_1 _ hu,ahZ _ ha,ew]
  .show iK [xU,Lib.itoa u,n,Lib.itoa a]<=60;rw[aW,aW,aW,aW];show 3+1+(_+(_+(_+0)))<=60;omega
 |false=>
 rw[c]at h;cases c:(k==8&&(aB u&&(aB a&&au n)))with
 |true=>
  simp only[ane,anq]at c;obtain⟨rfl,hu,ha,hn⟩:=c;have l1:=kz hu;have l2:=kz ha;have l3:=jZ hn;have ew:wordAt (ls [mO,Lib.itoa u,n,Lib.itoa a]) 2=n:=Ua _ _ _ _;refine⟨?_,(by show 4<=4;decide),?_⟩
  .show(8,numAt (ls [mO,Lib.itoa u,n,Lib.itoa a]) 1,wordAt (ls [mO,Lib.itoa u,n,Lib.itoa a]) 2,numAt (ls [mO,Lib.itoa u,n,Lib.itoa a]) 3)=(_:Int×Int×Bytes×Int);rw[num_1 _ hu,ahZ _ ha,ew]
  .show iK [mO,Lib.itoa u,n,Lib.itoa a]<=60;rw[aW,aW,aW,aW];show 6+1+(_+(_+(_+0)))<=60;omega
 |false=>rw[c]at h;exact(h rfl).elim
end Sp
namespace Sp
open Go
theorem Df(x:Bytes)(h:x=kX\/x=nD\/x=lM\/x=BM\/x=um\/x=qj\/x=xU\/x=mO):fine x:=by rcases h with rfl|rfl|rfl|rfl|rfl|rfl|rfl|rfl<;>exact⟨⟨by decide,by decide⟩,by decide⟩
theorem abb{x y:Bytes}(h1:fine x)(h2:fine y):∀z∈[x,y],fine z:=λz hz=>by
 rcases anA.1 hz with rfl|hz
 .exact h1
 .rw[aod.1 hz];exact h2
theorem afy{x y u:Bytes}(h1:fine x)(h2:fine y)(h3:fine u):∀z∈[x,y,u],fine z:=λz hz=>by
 rcases anA.1 hz with rfl|hz
 .exact h1
 .exact abb h2 h3 z hz
theorem ah0{x y u v:Bytes}(h1:fine x)(h2:fine y)(h3:fine u)(h4:fine v):∀z∈[x,y,u,v],fine z:=λz hz=>by
 rcases anA.1 hz with rfl|hz
 .exact h1
 .exact afy h2 h3 h4 z hz
theorem ahr{k u a:Int}{nc:Nat}{n:Bytes}(h:aS k u nc n a≠[]):∀x∈dw k u n a,fine x:=by
 unfold aS at h;cases h0:iC k nc with
 |false=>rw[h0]at h;exact(h rfl).elim
 |true=>
 cases h1:(decide ((nc:Int)>0)&&decide (k>2))with
 |true=>rw[h0,h1]at h;exact(h rfl).elim
 |false=>
 rw[h0,h1]at h;cases c:(k==1&&(aB u&&(a==0&&n==[])))with
 |true=>
  simp only[ane,anq]at c;obtain⟨rfl,hu,rfl,rfl⟩:=c;exact abb (Df _ (.inl rfl)) (ku hu)
 |false=>
 rw[c]at h;cases c:(k==2&&(aB u&&(aB a&&n==[])))with
 |true=>
  simp only[ane,anq]at c;obtain⟨rfl,hu,ha,rfl⟩:=c;exact afy (Df _ (.inr (.inl rfl))) (ku hu) (ku ha)
 |false=>
 rw[c]at h;cases c:(k==3&&(aB u&&(au n&&a==0)))with
 |true=>
  simp only[ane,anq]at c;obtain⟨rfl,hu,hn,rfl⟩:=c;exact afy (Df _ (.inr (.inr (.inl rfl)))) (ku hu) (mg hn)
 |false=>
 rw[c]at h;cases c:(k==4&&(u==0&&(aB a&&n==[])))with
 |true=>
  simp only[ane,anq]at c;obtain⟨rfl,rfl,ha,rfl⟩:=c;exact abb (Df _ (.inr (.inr (.inr (.inl rfl))))) (ku ha)
 |false=>
 rw[c]at h;cases c:(k==5&&(u==0&&(aB a&&n==[])))with
 |true=>
  simp only[ane,anq]at c;obtain⟨rfl,rfl,ha,rfl⟩:=c;exact abb (Df _ (.inr (.inr (.inr (.inr (.inl rfl)))))) (ku ha)
 |false=>
 rw[c]at h;cases c:(k==6&&(u==0&&(a==0&&n==[])))with
 |true=>
  simp only[ane,anq]at c;obtain⟨rfl,rfl,rfl,rfl⟩:=c;intro x hx;have hx:x∈[qj]:=hx;rw[aod.1 hx];exact Df _ (.inr (.inr (.inr (.inr (.inr (.inl rfl))))))
 |false=>
 rw[c]at h;cases c:(k==7&&(aB u&&(aB a&&au n)))with
 |true=>
  simp only[ane,anq]at c;obtain⟨rfl,hu,ha,hn⟩:=c;exact ah0 (Df _ (.inr (.inr (.inr (.inr (.inr (.inr (.inl rfl)))))))) (ku hu) (mg hn) (ku ha)
 |false=>
 rw[c]at h;cases c:(k==8&&(aB u&&(aB a&&au n)))with
 |true=>
  simp only[ane,anq]at c;obtain⟨rfl,hu,ha,hn⟩:=c;exact ah0 (Df _ (.inr (.inr (.inr (.inr (.inr (.inr (.inr rfl)))))))) (ku hu) (mg hn) (ku ha)
 |false=>rw[c]at h;exact(h rfl).elim
theorem adL{k u a:Int}{nc:Nat}{n:Bytes}(h:aS k u nc n a≠[]):aS k u 0 n a=aS k u nc n a:=by
 unfold aS at h ⊢;cases h0:iC k nc with
 |false=>rw[h0]at h;exact(h rfl).elim
 |true=>
 cases h1:(decide ((nc:Int)>0)&&decide (k>2))with
 |true=>rw[h0,h1]at h;exact(h rfl).elim
 |false=>
  have h2:iC k 0=true:=by unfold iC at h0 ⊢;rw[ane,ane]at h0;rw[h0.1.1,h0.1.2];rfl
  rw[h2];rfl
theorem ahg{k u a:Int}{nc:Nat}{n:Bytes}(h:aS k u nc n a≠[]):
 dR ([32]++aS k u nc n a)=true/\gu ([32]++aS k u nc n a)=(k,u,[],n,a,()):=by
 obtain⟨e1,c1,c2⟩:=ahq h;obtain⟨et,_⟩:=BQ k u nc n a h;have hf:=ahr h;have hl:=ank (Dc (dw k u n a)) c2;have ew:wordsOf ([32]++aS k u nc n a)=ls (dw k u n a):=by rw[afx,et];exact zK _ λx hx=>(hf x hx).1
 have es:bW ([32]++aS k u nc n a)=true:=by
  refine kE.2 ⟨?_,?_,?_⟩
  .rw[et,anf];show 1+(Lib.join (dw k u n a) [32]).length<=600;omega
  .rw[et,aoM,show(Lib.join (dw k u n a) [32]).all jO=true from Zz _ λy hy=>(hf y hy).2];decide
  .rw[← lX,ew];unfold ls;rw[anV];omega
 have hn:ls (dw k u n a)≠[]:=λh0=>by have h2:dw k u n a=[]:=List.map_eq_nil_iff.1 h0;rw[h2]at et;exact h et
 have ea:gV (dQ (ls (dw k u n a)))=aS k u nc n a:=by rw[e1];exact adL h
 have ok:dR ([32]++aS k u nc n a)=true:=by unfold dR;rw[es,ew,ea,ang.2 hn,ang.2 h];show(aS k u nc n a==dL (ls (dw k u n a)))=true;unfold dL;rw[SA,anq];exact et
 refine⟨ok,?_⟩;unfold gu;rw[ok,ew,e1];rfl
end Sp
namespace Sp
open Go
theorem Fe(w:LS)(a i:Int)(ha:0<=a)(hi:0<=i):wordAt (w.drop a.toNat) i=wordAt w (a+i):=by
 by_cases h:a+i<(w.length:Int)
 .rw[jk h,jk (by rw[anI];omega),anm,anU,anm,show a.toNat+i.toNat=(a+i).toNat by omega]
 .rw[oD (show a+i>=(w.length:Int) by omega),oD (by rw[anI];omega)]
theorem Ku:∀(d:Nat)(w:LS)(q:List aA),(rs d w q).1.length<=max (10+d) q.length/\0<=(rs d w q).2/\(rs d w q).2<3*2 ^ d
 |0,w,q=>⟨Nat.le_max_right _ _,aol _,by show(0:Int)<_;decide⟩
 |d+1,w,q=>by
  have hp:1<=2 ^ d:=apA;have e2:(3:Int)*2 ^ (d+1)=2*(3*2 ^ d):=by rw[Int.pow_succ];omega
  have e3:(1:Int)<=2 ^ d:=by exact_mod_cast hp
  rw[rs];cases h0:bU (wordAt w 0)==0||decide ((q.length:Int)>9)with
  |true=>exact⟨Nat.le_max_right _ _,aol _,by show(0:Int)<_;omega⟩
  |false=>
  rw[aoy,an1]at h0;have hq:q.length<=9:=by omega
  have one:∀(x:aA)(k:Int),0<=k->k<=3->(q++[x],k).1.length<=max (10+(d+1)) q.length/\0<=(q++[x],k).2/\(q++[x],k).2<3*2 ^ (d+1):=λx k h1 h2=>
   ⟨by rw[anf,anh,anj];omega,h1,by show k<_;omega⟩
  cases bU (wordAt w 0)==2||(bU (wordAt w 0)==8||bU (wordAt w 0)==9)with
  |true=>exact one _ _ (by decide) (by decide)
  |false=>
  cases bU (wordAt w 0)==3||bU (wordAt w 0)==4 with
  |true=>exact one _ _ (by decide) (by decide)
  |false=>
  cases bU (wordAt w 0)==5||(bU (wordAt w 0)==6||bU (wordAt w 0)==7)with
  |false=>exact one _ _ (by decide) (by decide)
  |true=>
  have i1:=Ku d (w.drop 1) q;show(bif (rs d (w.drop 1) q).2==0 then _ else _:List aA×Int).1.length<=_/\0<=(bif (rs d (w.drop 1) q).2==0 then _ else _:List aA×Int).2/\(bif (rs d (w.drop 1) q).2==0 then _ else _:List aA×Int).2<_;generalize rs d (w.drop 1) q=x at i1 ⊢;obtain⟨r,k⟩:=x;have i1:r.length<=max (10+d) q.length/\0<=k/\k<3*2 ^ d:=i1;have i2:=Ku d (w.drop (1+k).toNat) r;cases k==0 with
  |true=>exact⟨by show r.length<=_;omega,aol _,by show(0:Int)<_;omega⟩
  |false=>
  cases bU (wordAt w 0)==5 with
  |true=>exact⟨by show(r++[_]).length<=_;rw[anf,anh,anj];omega,by show 0<=1+k;omega,by show 1+k<_;omega⟩
  |false=>
  show(bif (rs d (w.drop (1+k).toNat) r).2==0 then _ else _:List aA×Int).1.length<=_/\0<=(bif (rs d (w.drop (1+k).toNat) r).2==0 then _ else _:List aA×Int).2/\(bif (rs d (w.drop (1+k).toNat) r).2==0 then _ else _:List aA×Int).2<_;generalize rs d (w.drop (1+k).toNat) r=y at i2 ⊢;obtain⟨s,m⟩:=y;have i2:s.length<=max (10+d) r.length/\0<=m/\m<3*2 ^ d:=i2;cases m==0 with
  |true=>exact⟨by show s.length<=_;omega,aol _,by show(0:Int)<_;omega⟩
  |false=>exact⟨by show(s++[_]).length<=_;rw[anf,anh,anj];omega,by show 0<=1+k+m;omega,by show 1+k+m<_;omega⟩
theorem pR{n:Int}(h:(-9223372036854775808:Int)<=n/\n<=9223372036854775807):(Lib.itoa n).length<=21:=Lib.itoa_length_le n h.1 h.2
theorem Vd{v:BA}:(bn v).length<=21+v.2.2.1.length:=by
 unfold bn;cases h:aZ v.1 v.2.1 v.2.2.1 with
 |false=>show 1<=_;omega
 |true=>
  cases h1:v.1==1 with
  |true=>
   have h:=(afm (n:=v.2.1) (s:=v.2.2.1) (by rw[← anq.1 h1];exact h));exact ank (pR (by omega)) (Nat.le_add_right _ _)
  |false=>
   cases v.1==2 with
   |true=>show v.2.2.1.length<=_;omega
   |false=>show 1<=_;omega
theorem PG:∀as:List bJ,(cZ as).length<=23*Nj as
 |[]=>ann _
 |a::r=>by have ih:=PG r;have hv:=@Vd a.2;obtain⟨n,k,i,s,⟨⟩⟩:=a;have e:Nj ((n,k,i,s,())::r)=1+(n.length+s.length)+Nj r:=rfl;show(32::(n++32::(bn (k,i,s,())++cZ r))).length<=_;have hv:(bn (k,i,s,())).length<=21+s.length:=hv;rw[anh,anf,anh,anf,e];omega
theorem Zl{as:List bJ}{n:Nat}:(cZ (as.take n)).length<=(cZ as).length:=by
 induction as generalizing n with
 |nil=>rw[List.take_nil];exact ann _
 |cons a r ih=>
  cases n with
  |zero=>exact ano _
  |succ n=>show(32::(a.1++32::(bn a.2++cZ (r.take n)))).length<=(32::(a.1++32::(bn a.2++cZ r))).length;have:=@ih n;simp only[anh,anf];omega
theorem Jh{f:bH}(h1:(-9223372036854775808:Int)<=f.1/\f.1<=9223372036854775807)(h2:(-9223372036854775808:Int)<=f.2.1/\f.2.1<=9223372036854775807)(h3:(-9223372036854775808:Int)<=f.2.2.2.1/\f.2.2.2.1<=9223372036854775807):
 (fH f).length<=80+(cZ f.2.2.2.2.1).length/\(Lib.join (bI f) [32]).length<=47+(cZ f.2.2.2.2.1).length:=by
 have q1:=pR h1;have q2:=pR h2;have q3:=pR h3;have e0:(bif f.2.2.1 then[115]else[111]:Bytes).length=1:=by cases f.2.2.1<;>rfl
 have hb:(Lib.join (bI f) [32]).length<=47+(cZ f.2.2.2.2.1).length:=by rw[aak];simp only[anh,anf,e0];omega
 refine⟨?_,hb⟩;have e:fH f=Ec++32::(Lib.itoa f.1++32::Lib.join (bI f) [32]):=by unfold fH;rw[dX];unfold bI;rw[dX]
 rw[e];simp only[anh,anf,show Ec.length=4 from rfl];omega
def ug(x:dG):Prop:=(cO x).2.2.2.2.1.length<=1048576/\(cZ (cO x).2.2.2.2.1).length<=1073741824/\(fE x).1.length<=1048576/\(fE x).2.1.length<=2000000
def zY(a:List bJ):Bool:=decide (a.length<=9)&&a.all λx=>decide (x.1.length<=10)&&decide (x.2.2.2.1.length<=10)
theorem Yt:∀(a:List bJ),(a.all λx=>decide (x.1.length<=10)&&decide (x.2.2.2.1.length<=10))=true->(cZ a).length<=50*a.length
 |[],_=>ann _
 |a::r,h=>by rw[aoj,ane,ane,anl,anl]at h;have ih:=Yt r h.2;have hv:=@Vd a.2;show(32::(a.1++32::(bn a.2++cZ r))).length<=50*(r.length+1);rw[anh,anf,anh,anf];omega
def oZ(x:dG):Prop:=zY (cO x).2.2.2.2.1=true/\(fE x).1.length<=10/\(fE x).2.1.length<=1000
theorem Pz{x:dG}(h:oZ x):ug x/\(cO x).2.2.2.2.1.length<=9:=by obtain⟨h1,h2,h3⟩:=h;unfold zY at h1;rw[ane,anl]at h1;have:=Yt _ h1.2;exact⟨⟨by omega,by omega,by omega,by omega⟩,h1.1⟩
end Sp
namespace Sp
open Go
theorem Ve:∀(sep:List UInt8)(k:Nat)(s:List UInt8),∃h t,Lib.splitK sep 0 k s=h::t
 |_,0,s=>⟨s,[],rfl⟩
 |sep,k+1,s=>by
  unfold Lib.splitK;split
  .exact⟨_,_,rfl⟩
  .exact⟨_,_,rfl⟩
theorem ahs(b c:UInt8)(l h:List UInt8)(t:List (List UInt8))(hb:b≠c)(e:Lib.splitK [c] 0 (Lib.count l [c]) l=h::t):Lib.splitK [c] 0 (Lib.count (b::l) [c]) (b::l)=(b::h)::t:=by
 rw[Lib.count_cons_ne b c l hb];have hp:([c]:List UInt8).isPrefixOf (b::l)=false:=by simp[List.isPrefixOf,aoQ hb]
 have hix:Lib.index (b::l) [c]=if Lib.index l [c]==-1 then -1 else Lib.index l [c]+1:=by rw[Lib.index,hp];simp
 cases hk:Lib.count l [c]with
 |zero=>rw[hk]at e;simp only[Lib.splitK,List.cons.injEq]at e ⊢;exact⟨⟨trivial,e.1⟩,e.2⟩
 |succ k=>
  rw[hk]at e;by_cases hm:Lib.index l [c]=-1
  .rw[Lib.count_miss hm]at hk;cases hk
  .have hge:=Lib.index_ge l [c];obtain⟨j,hj⟩:∃j:Nat,Lib.index l [c]=j:=⟨(Lib.index l [c]).toNat,by omega⟩;have hix':Lib.index (b::l) [c]=((j+1:Nat):Int):=by rw[hix,if_neg (λe=>hm (anq.1 e)),hj];omega
   simp only[Lib.splitK]at e ⊢;rw[hj,if_neg (λh=>by have:=anq.1 h;omega)]at e;rw[hix',if_neg (λh=>by have:=anq.1 h;omega)];simp only[List.cons.injEq,an9]at e ⊢;refine⟨?_,?_⟩
   .rw[← e.1];rfl
   .rw[← e.2];rfl
theorem aht(c:UInt8)(l:List UInt8):Lib.splitK [c] 0 (Lib.count (c::l) [c]) (c::l)=[]::Lib.splitK [c] 0 (Lib.count l [c]) l:=by
 rw[Lib.count_cons_eq,apS];have hix:Lib.index (c::l) [c]=((0:Nat):Int):=by rw[Lib.index];simp[List.isPrefixOf]
 simp only[Lib.splitK];rw[hix,if_neg (by simp)];rfl
end Sp
namespace Sp
open Go
theorem EX(c:UInt8):∀(l cur h:Bytes)(t:List Bytes),Lib.splitK [c] 0 (Lib.count l [c]) l=h::t->(dJ c cur l).map (·.1)=(cur++h)::t
 |[],cur,h,t,e=>by
  have h0:Lib.count [] [c]=0:=Lib.count_one c [];rw[h0]at e;simp only[Lib.splitK,List.cons.injEq]at e;rw[← e.1,← e.2,anN];rfl
 |b::l,cur,h,t,e=>by
  obtain⟨h',t',e'⟩:=Ve [c] (Lib.count l [c]) l;by_cases hb:b=c
  .obtain rfl:b=c:=hb;rw[aht,List.cons.injEq]at e;have hl:dJ b cur (b::l)=(cur,())::dJ b [] l:=by rw[dJ,anT];rfl
   rw[hl,anH,EX b l [] h' t' e',← e.1,← e.2,e',anN,an7]
  .rw[ahs b c l h' t' hb e',List.cons.injEq]at e;have hl:dJ c cur (b::l)=dJ c (cur++[b]) l:=by rw[dJ,ang.2 hb];rfl
   rw[hl,EX c l (cur++[b]) h' t' e',← e.1,← e.2,anz];rfl
theorem acf(c:UInt8)(s:Bytes):(pieces c s).map (·.1)=Lib.split s [c]:=by obtain⟨h,t,e⟩:=Ve [c] (Lib.count s [c]) s;unfold pieces Lib.split;rw[EX c s [] h t e,e,an7]
theorem Lh(c:UInt8):∀(l cur:Bytes)(x:Bytes×Unit),x∈dJ c cur l->x.1.length<=cur.length+l.length
 |[],cur,x,h=>by
  simp only[dJ,aod]at h;subst h;simp
 |b::l,cur,x,h=>by
  rw[dJ]at h;cases hb:b==c with
  |true=>
   rw[hb]at h;rcases anA.1 h with rfl|h
   .simp
   .have:=Lh c l [] x h;simp at this ⊢;omega
  |false=>rw[hb]at h;have:=Lh c l (cur++[b]) x h;simp at this ⊢;omega
theorem agj{c:UInt8}{s:Bytes}:∀x∈pieces c s,x.1.length<=s.length:=λx hx=>by have:=Lh c s [] x hx;simpa using this
theorem Ju(c:UInt8):∀(l cur:Bytes),(dJ c cur l).length<=l.length+1
 |[],cur=>ann _
 |b::l,cur=>by
  rw[dJ];cases b==c with
  |true=>have:=Ju c l [];show _+1<=_;simp;omega
  |false=>have:=Ju c l (cur++[b]);show(dJ c (cur++[b]) l).length<=_;simp;omega
theorem pieces_len(c:UInt8)(s:Bytes):(pieces c s).length<=s.length+1:=Ju c s []
end Sp
namespace Sp
open Go
theorem aai{n:aA}{a:Int}(hn:dZ n a=true):(n.1=1\/n.1=2\/n.1=3\/n.1=4\/n.1=8\/n.1=9)\/n.1=5\/n.1=6\/n.1=7:=by
 obtain⟨op,l,r,s,k,m,t,⟨⟩⟩:=n;dsimp only;by_cases a1:op=1
 .omega
 by_cases a2:op=2
 .omega
 by_cases a3:op=3
 .omega
 by_cases a4:op=4
 .omega
 by_cases a5:op=5
 .omega
 by_cases a6:op=6
 .omega
 by_cases a7:op=7
 .omega
 by_cases a8:op=8
 .omega
 by_cases a9:op=9
 .omega
 unfold dZ at hn;dsimp only at hn;rw[ang.2 a1,ang.2 a2,ang.2 a3,ang.2 a4,ang.2 a5,ang.2 a6,ang.2 a7,ang.2 a8,ang.2 a9]at hn;cases hn
theorem aej{q:List aA}{i:Int}(k:Nat)(c:(nodeAt q i.toNat).1=1\/(nodeAt q i.toNat).1=2\/(nodeAt q i.toNat).1=3\/(nodeAt q i.toNat).1=4\/(nodeAt q i.toNat).1=8\/(nodeAt q i.toNat).1=9):bf (k+1) q i=iY (nodeAt q i.toNat):=by rw[bf,ang.2 (show(nodeAt q i.toNat).1≠5 by omega),ang.2 (show(nodeAt q i.toNat).1≠6 by omega),ang.2 (show(nodeAt q i.toNat).1≠7 by omega)];rfl
theorem agq{q:List aA}{i:Int}(h:aH q=true)(h0:0<=i)(hl:i<(q.length:Int))(c:(nodeAt q i.toNat).1=5):
 bf (i.toNat+1) q i=dW 5::bf ((nodeAt q i.toNat).2.1.toNat+1) q (nodeAt q i.toNat).2.1/\0<=(nodeAt q i.toNat).2.1/\(nodeAt q i.toNat).2.1<i:=by
 have hn:=(nY h (show i.toNat<q.length by omega)).1;have hk:=ZB hn c;have hk2:(nodeAt q i.toNat).2.1<i:=by have:=hk.2;omega
 refine⟨?_,hk.1,hk2⟩;rw[bf,anq.2 c,c,zI h i.toNat ((nodeAt q i.toNat).2.1.toNat+1) (nodeAt q i.toNat).2.1 hk.1 (by omega) (by omega) (by omega)];rfl
theorem agr{q:List aA}{i:Int}(h:aH q=true)(h0:0<=i)(hl:i<(q.length:Int))(c:(nodeAt q i.toNat).1=6\/(nodeAt q i.toNat).1=7):
 bf (i.toNat+1) q i=dW (nodeAt q i.toNat).1::(bf ((nodeAt q i.toNat).2.1.toNat+1) q (nodeAt q i.toNat).2.1++bf ((nodeAt q i.toNat).2.2.1.toNat+1) q (nodeAt q i.toNat).2.2.1)/\
  (0<=(nodeAt q i.toNat).2.1/\(nodeAt q i.toNat).2.1<i)/\0<=(nodeAt q i.toNat).2.2.1/\(nodeAt q i.toNat).2.2.1<i:=by
 have hn:=(nY h (show i.toNat<q.length by omega)).1;have hk:=ZC hn c;have e:((i.toNat:Nat):Int)=i:=by omega
 rw[e]at hk;refine⟨?_,hk.1,hk.2⟩;have hc:((nodeAt q i.toNat).1==6||(nodeAt q i.toNat).1==7)=true:=by rcases c with c|c<;>rw[c]<;>rfl
 rw[bf,ang.2 (show(nodeAt q i.toNat).1≠5 by omega),hc,zI h i.toNat ((nodeAt q i.toNat).2.1.toNat+1) (nodeAt q i.toNat).2.1 hk.1.1 (by omega) (by omega) (by omega),
  zI h i.toNat ((nodeAt q i.toNat).2.2.1.toNat+1) (nodeAt q i.toNat).2.2.1 hk.2.1 (by omega) (by omega) (by omega)]
 rfl
theorem acu{q:List aA}{i:Int}(h:aH q=true)(h0:0<=i)(hl:i<(q.length:Int)):(Lib.join (bf (i.toNat+1) q i) [32]).length<=12288:=by
 have:=(jD h).2;have hw:=Gm h (i.toNat+1) i h0 (by omega);have hp:2 ^ (i.toNat+1)<=2 ^ 9:=Nat.pow_le_pow_right (by decide) (by omega);refine ank (Dc _) ?_;have e:(2:Nat) ^ 9=512:=by decide
 omega
def Ea(w:Bytes):Nat->Int
 |0=>0
 |k+1=>bif w==dW ((k:Int)+1)then(k:Int)+1 else Ea w k
theorem XU(w:Bytes):Ea w 9=bU w:=by
 rcases xW w with h|⟨h,e⟩
 .have no:∀op:Int,(op=1\/op=2\/op=3\/op=4\/op=5\/op=6\/op=7\/op=8\/op=9)->(w==dW op)=false:=λop ho=>ang.2 λe=>by rw[e,wY ho]at h;omega
  rw[h];simp only[Ea];rw[no _ (by decide),no _ (by decide),no _ (by decide),no _ (by decide),no _ (by decide),no _ (by decide),no _ (by decide),no _ (by decide),no _ (by decide)];rfl
 .rw[← e];rcases h with h|h|h|h|h|h|h|h|h<;>rw[h]<;>decide
theorem XV(w:Bytes):0<=bU w/\bU w<=9:=by rcases xW w with h|⟨h,_⟩<;>omega
theorem X4{as:List bJ}{n:Nat}(h:n<as.length):dM (as.take (n+1))=dM (as.take n)++[(as.getD n ([],0,0,[],())).1,bn (as.getD n ([],0,0,[],())).2]:=by
 induction as generalizing n with
 |nil=>exact absurd h (aoo _)
 |cons a r ih=>
  cases n with
  |zero=>rfl
  |succ n=>
   have h:n<r.length:=by rw[anh]at h;omega
   show a.1::bn a.2::dM (r.take (n+1))=a.1::bn a.2::(dM (r.take n)++_);rw[ih h];rfl
theorem ER:∀as:List bJ,(dM as).length=2*as.length
 |[]=>rfl
 |a::r=>by show(dM r).length+1+1=2*(r.length+1);rw[ER r];omega
end Sp
namespace Sp
open Go
theorem aiv(x:dG)(hx:(cO x).2.2.2.2.1.length<=12):(aV x).length<=40/\iK (aV x)<=400:=by
 unfold aV;cases h1:x.1==1&&(dU (cO x)&&((cO x).1==0&&(rO x==0&&Am x)))with
 |true=>
  rw[ane,ane]at h1;obtain⟨b1,b2⟩:=Kz h1.2.1;show(iD::bI (cO x)).length<=40/\iK (iD::bI (cO x))<=400;rw[anh,aW,b2];exact⟨by omega,by show 6+1+_<=400;omega⟩
 |false=>
 cases h2:x.1==2&&(dU (cO x)&&(rO x==0&&Am x))with
 |true=>
  rw[ane,ane]at h2;obtain⟨b1,b2⟩:=Kz h2.2.1;have l1:=kz (vC.1 h2.2.1).2.1;show(fK::Lib.itoa (cO x).1::bI (cO x)).length<=40/\iK (fK::Lib.itoa (cO x).1::bI (cO x))<=400;rw[anh,anh,aW,aW,b2];exact⟨by omega,by show 6+1+_<=400;omega⟩
 |false=>
 cases h3:x.1==3&&(decide (cO x=fO)&&(aB (rO x)&&Am x))with
 |true=>
  rw[ane,ane,ane]at h3;have l1:=kz h3.2.2.1;show 2<=40/\iK [iE,Lib.itoa (rO x)]<=400;rw[aW,aW];exact⟨by decide,by show 6+1+(_+0)<=400;omega⟩
 |false=>
 cases h4:x.1==4&&(decide (cO x=fO)&&(rO x==0&&(au (fE x).1&&fM (fE x).2.1)))with
 |true=>
  rw[ane,ane,ane,ane]at h4;obtain⟨t,hw,ho,eq,et,_⟩:=Ky h4.2.2.2.2;have hs:t.size<=9:=by have h:=h4.2.2.2.2;unfold fM at h;rw[ane]at h;have:=(jD h.1).2;rw[eq,eY]at this;exact this
  obtain⟨c1,c2⟩:=zN t hw ho;have l1:=jZ h4.2.2.2.1;show(eP::(fE x).1::bf 9 (fE x).2.1 (((fE x).2.1.length:Int)-1)).length<=40/\iK (eP::(fE x).1::bf 9 (fE x).2.1 (((fE x).2.1.length:Int)-1))<=400;rw[et,anh,anh,aW,aW];exact⟨by omega,by show 6+1+_<=400;omega⟩
 |false=>
 cases h5:x.1==5&&(decide (cO x=fO)&&(rO x==0&&(au (fE x).1&&(fE x).2.1.isEmpty)))with
 |true=>
  rw[ane,ane,ane,ane]at h5;have l1:=jZ h5.2.2.2.1;show 2<=40/\iK [fV,(fE x).1]<=400;rw[aW,aW];exact⟨by decide,by show 8+1+(_+0)<=400;omega⟩
 |false=>exact⟨ano _,ano _⟩
theorem Ji(x:dG)(hx:(cO x).2.2.2.2.1.length<=12):(aI x).length<=400:=ank (Dc _) (aiv x hx).2
theorem Yu(s:Bytes):(aY s).1.2.2.1.length<=s.length:=by
 unfold aY;cases aN s with
 |true=>cases decide (parseNum s<=999)<;>exact ano _
 |false=>
  cases s==[45]with
  |true=>exact ano _
  |false=>cases au s with
   |true=>exact ann _
   |false=>exact ano _
theorem Nr(m:Nat):∀w:LS,(∀x∈w,x.1.length<=m)->2*(gG w).length<=w.length+1/\∀a∈gG w,a.1.length<=m/\a.2.2.2.1.length<=m
 |[],_=>⟨ano _,λa ha=>by cases ha⟩
 |[x],h=>⟨ann _,λa ha=>by
  rw[gG,aod]at ha;subst ha;exact⟨h x anp,ank (Yu []) (ano _)⟩⟩
 |x::y::r,h=>by
  obtain⟨h1,h2⟩:=Nr m r λz hz=>h z (ant _ (ant _ hz));refine⟨by show 2*((gG r).length+1)<=r.length+1+1+1;omega,λa ha=>?_⟩;rw[gG]at ha;rcases anA.1 ha with rfl|ha
  .exact⟨h x anp,ank (Yu y.1) (h y (ant _ anp))⟩
  .exact h2 a ha
theorem aat(m:Nat):∀as:List bJ,(∀a∈as,a.1.length<=m/\a.2.2.2.1.length<=m)->Nj as<=(1+2*m)*as.length
 |[],_=>ano _
 |a::r,h=>by have ih:=aat m r λb hb=>h b (ant _ hb);have h1:=h a anp;obtain⟨n,k,i,s,⟨⟩⟩:=a;have e:Nj ((n,k,i,s,())::r)=1+(n.length+s.length)+Nj r:=rfl;have h1:n.length<=m/\s.length<=m:=h1;rw[e,anh,Nat.mul_add,apH];omega
theorem Yv(s:Bytes):(fA s).length<=9:=by
 cases h:gU s with
 |true=>exact(jD (OG h).2.2).2
 |false=>unfold fA;rw[h];exact ano _
theorem qN{k:Int}{f:bH}{id:Int}{nm:Bytes}{q:List aA}(h1:f.2.2.2.2.1.length<=12)(h2:∀a∈f.2.2.2.2.1,a.1.length<=1000/\a.2.2.2.1.length<=1000)(h3:nm.length<=1000)(h4:q.length<=9):
 ug (bZ k f id nm q)/\(cO (bZ k f id nm q)).2.2.2.2.1.length<=12:=by
 have e1:(cO (bZ k f id nm q)).2.2.2.2.1=f.2.2.2.2.1:=rfl;have e2:(fE (bZ k f id nm q)).1=nm:=rfl;have e3:(fE (bZ k f id nm q)).2.1=q:=rfl;unfold ug;rw[e1,e2,e3];have hw:=aat 1000 _ h2;have ht:=PG f.2.2.2.2.1;exact⟨⟨by omega,by omega,by omega,by omega⟩,h1⟩
theorem Lj{id:Int}{r:LS}(hl:r.length<=23)(hw:∀x∈r,x.1.length<=1000):(jr id r).2.2.2.2.1.length<=12/\∀a∈(jr id r).2.2.2.2.1,a.1.length<=1000/\a.2.2.2.1.length<=1000:=by
 obtain⟨h1,h2⟩:=Nr 1000 (r.drop 3) λx hx=>hw x (aoq hx);have:(r.drop 3).length<=20:=by rw[anI];omega
 exact⟨by show(gG (r.drop 3)).length<=12;omega,h2⟩
theorem Vf{w:LS}(hl:w.length<=24)(hw:∀x∈w,x.1.length<=1000):(iP w).1.2.2.2.2.1.length<=12/\∀a∈(iP w).1.2.2.2.2.1,a.1.length<=1000/\a.2.2.2.1.length<=1000:=by
 unfold iP;cases decide ((w.length:Int)<4)||!(w.length%2==0)with
 |true=>exact⟨ano _,λa ha=>by cases ha⟩
 |false=>exact Lj (by rw[anI];omega) λx hx=>hw x (aoq hx)
theorem Yw{w:LS}(hw:∀x∈w,x.1.length<=1000)(i:Int):(wordAt w i).length<=1000:=by
 by_cases hh:i<(w.length:Int)
 .rw[jk hh,anm];cases e:w[i.toNat]? with
  |none=>exact ano _
  |some x=>exact hw x (anX e)
 .rw[oD (by omega)];exact ano _
theorem jE:fO.2.2.2.2.1.length<=12/\∀a∈fO.2.2.2.2.1,a.1.length<=1000/\a.2.2.2.1.length<=1000:=⟨ano _,λa ha=>by cases ha⟩
theorem acI{w:LS}(hl:w.length<=24)(hw:∀x∈w,x.1.length<=1000):ug (gq w)/\(cO (gq w)).2.2.2.2.1.length<=12:=by
 have hd:∀n,∀x∈w.drop n,x.1.length<=1000:=λn x hx=>hw x (aoq hx);have n1:=Yw hw 1;unfold gq;cases wordAt w 0==iD with
 |true=>obtain⟨a,b⟩:=Lj (id:=0) (r:=w.drop 1) (by rw[anI];omega) (hd 1);exact qN a b (ano _) (ano _)
 |false=>
 cases wordAt w 0==fK with
 |true=>obtain⟨a,b⟩:=Lj (id:=numAt w 1) (r:=w.drop 2) (by rw[anI];omega) (hd 2);exact qN a b (ano _) (ano _)
 |false=>
 cases wordAt w 0==iE with
 |true=>exact qN jE.1 jE.2 (ano _) (ano _)
 |false=>
 cases wordAt w 0==eP with
 |true=>exact qN jE.1 jE.2 n1 (Yv _)
 |false=>
 cases wordAt w 0==fV with
 |true=>exact qN jE.1 jE.2 n1 (ano _)
 |false=>exact qN jE.1 jE.2 (ano _) (ano _)
theorem acH{w:LS}(hl:w.length<=24)(hw:∀x∈w,x.1.length<=1000):ug (iL w).1/\(cO (iL w).1).2.2.2.2.1.length<=12:=by
 have hd:∀n,∀x∈w.drop n,x.1.length<=1000:=λn x hx=>hw x (aoq hx);have n1:=Yw hw 1;unfold iL;cases h0:wordAt w 0==iD with
 |true=>
  have hne:0<w.length:=by
   rcases Nat.eq_zero_or_pos w.length with e|e
   .rw[an0.1 e,yc 0 (aol _)]at h0;cases h0
   .exact e
  obtain⟨a,b⟩:=Vf (w:=([48],())::w.drop 1) (by rw[anh,anI];omega) λx hx=>by
   rcases anA.1 hx with rfl|hx
   .show 1<=1000;decide
   .exact hd 1 x hx
  exact qN a b (ano _) (ano _)
 |false=>
 cases wordAt w 0==fK with
 |true=>obtain⟨a,b⟩:=Vf (w:=w.drop 1) (by rw[anI];omega) (hd 1);exact qN a b (ano _) (ano _)
 |false=>
 cases wordAt w 0==iE with
 |true=>exact qN jE.1 jE.2 (ano _) (ano _)
 |false=>
 cases wordAt w 0==eP with
 |true=>exact qN jE.1 jE.2 n1 (Yv _)
 |false=>
 cases wordAt w 0==fV with
 |true=>exact qN jE.1 jE.2 n1 (ano _)
 |false=>exact qN jE.1 jE.2 (ano _) (ano _)
end Sp
namespace Sp
open Go
end Sp
namespace Go.Fw
open Go
theorem eqL{α β:Type}(e:α->α->Bool)(he:∀x y,e x y=false↔x=y)(d:α)(a b:List α)[Decidable (a=b)](t:β)(hlen:a.length<=maxLen){K:Bool×Unit->Prop}(hK:K (decide (a=b),())):
 bif ((a.length:Int)) !=(b.length:Int)then K (false,())else
 ∃(I:(Int×Unit)×Unit->Prop),∃(μ:(Int×Unit)×Unit->Nat),I (((0:Int),()),())/\∀(y:(Int×Unit)×Unit),I y->
  bif decide (y.fst.fst<(a.length:Int))then
   ((0:Int)<=y.fst.fst/\y.fst.fst<(a.length:Int))/\((0:Int)<=y.fst.fst/\y.fst.fst<(b.length:Int))/\
     (bif e (a.getD (Int.toNat y.fst.fst) d) (b.getD (Int.toNat y.fst.fst) d)then K (false,())
     else t=t/\I ((IntKind.i64.wrap (y.fst.fst+(1:Int)),()),())/\μ ((IntKind.i64.wrap (y.fst.fst+(1:Int)),()),())<μ y)
  else K (true,()):=by
 rw[maxLen_eq]at hlen;refine af (λh=>?_) λh=>?_
 .have h:(a.length:Int)≠b.length:=by simpa using h
  rw[anC λe=>h (by rw[e])]at hK;exact hK
 .have h:(a.length:Int)=b.length:=by simpa using h
  exact MJ e he d a b t hlen (by omega) (λe=>by rw[anC e]at hK;exact hK) λe=>by rw[anE e]at hK;exact hK
theorem alB{α β:Type}(e:α->α->Bool)(he:∀x y,e x y=false↔x=y)(d:α)(a b:List α)[Decidable (a=b)](t:β)(hlen:a.length<=maxLen){K:Bool×Unit->Prop}(hK:K (decide (a=b),())):
 bif ((a.length:Int)) !=(b.length:Int)then K (false,())else
 ∃(I:(Int×Unit)×Unit->Prop),∃(μ:(Int×Unit)×Unit->Nat),I (((0:Int),()),())/\∀(y:(Int×Unit)×Unit),I y->
  bif decide (y.fst.fst<(a.length:Int))then
   ((0:Int)<=y.fst.fst/\y.fst.fst<(a.length:Int))/\((0:Int)<=y.fst.fst/\y.fst.fst<(b.length:Int))/\True/\
     (bif e (a.getD (Int.toNat y.fst.fst) d) (b.getD (Int.toNat y.fst.fst) d)then K (false,())
     else t=t/\I ((IntKind.i64.wrap (y.fst.fst+(1:Int)),()),())/\μ ((IntKind.i64.wrap (y.fst.fst+(1:Int)),()),())<μ y)
  else K (true,()):=by
 rw[maxLen_eq]at hlen;refine af (λh=>?_) λh=>?_
 .have h:(a.length:Int)≠b.length:=by simpa using h
  rw[anC λe=>h (by rw[e])]at hK;exact hK
 .have h:(a.length:Int)=b.length:=by simpa using h
  exact ahi e he d a b t hlen (by omega) (λe=>by rw[anC e]at hK;exact hK) λe=>by rw[anE e]at hK;exact hK
end Go.Fw
