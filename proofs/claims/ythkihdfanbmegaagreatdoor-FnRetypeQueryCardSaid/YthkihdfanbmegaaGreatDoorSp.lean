import Derived.Test.YthkihdfanbmegaaGreatDoorFwA
import Derived.Lib.ItoaNum
import Derived.Lib.ItoaLen
import Derived.Lib.Join
import Derived.Test.YthkihdfanbmegaaGreatDoorFwC
import Derived.Lib.Fields
import Derived.Lib.Atoi
namespace Sp
open Go
abbrev Bytes:=List UInt8
abbrev LI:=List (Int×Unit)
abbrev LS:=List (Bytes×Unit)
theorem take_succ'{α:Type}(a:List α)(n:Nat)(d:α)(h:n<a.length):a.take (n+1)=a.take n++[a.getD n d]:=by rw[aof h,alM,alO h];rfl
def YH(l:LI):Prop:=∀x∈l,-9223372036854775808<=x.1/\x.1<=9223372036854775807
theorem YH.take{a:LI}(h:YH a)(n:Nat):YH (a.take n):=λx hx=>h x (aop hx)
theorem YH.get{a:LI}(h:YH a){n:Nat}(hn:n<a.length)(d:Int×Unit):(Lib.itoa (a.getD n d).1).length<=21:=by
 have:a.getD n d∈a:=by rw[alM,alO hn,aog];exact am0 hn
 exact Lib.itoa_length_le _ (h _ this).1 (h _ this).2
end Sp
namespace Sp
open Go
set_option synthInstance.maxSize 100000
set_option synthInstance.maxHeartbeats 1000000
abbrev pq:=Int×Int×Bytes×Unit
abbrev aW:=Bytes×Int×Int×Bytes×Unit
abbrev aY:=Int×Int×Int×Bytes×Int×Int×Bytes×Unit
abbrev aH:=Int×Int×Bool×Int×List aW×Unit
abbrev aK:=Bytes×List aY×Unit
abbrev ZI:=Int×Int×Int×Bool×Int×List aW×Int×Bytes×List aY×Unit
instance:DecidableEq pq:=inferInstance
instance:DecidableEq aW:=inferInstance
instance:DecidableEq aY:=inferInstance
instance:DecidableEq aH:=inferInstance
instance:DecidableEq aK:=inferInstance
instance:DecidableEq (Int×aK):=inferInstance
instance:DecidableEq (List aW×Int×aK):=inferInstance
instance:DecidableEq (Bool×Int×List aW×Int×aK):=inferInstance
instance ak1:DecidableEq ZI:=(inferInstance:DecidableEq (Int×Int×Int×Bool×Int×List aW×Int×aK))
instance:DecidableEq (List ZI):=inferInstance
instance:DecidableEq (List ZI×Bytes×Int×Unit):=inferInstance
def lower(s:Bytes):Bool:=s.all λc=>decide (97<=c.toNat)&&decide (c.toNat<=122)
def dX(s:Bytes):Bool:=lower s&&decide (1<=(s.length:Int))&&decide ((s.length:Int)<=6)
def xW(n:Int):Bool:=decide (0<=n)&&decide (n<=1000000000)
def idxFrom:Int->LI->Int
 |_,[]=>-1
 |k,x::r=>if xW x.1 then idxFrom (k+1) r else k
def idxOf(l:LI):Int:=idxFrom 0 l
end Sp
namespace Sp
open Go
abbrev bV:=Bytes×Int×Unit
abbrev bF:=List bV×List aH×Int×Unit
instance:DecidableEq bV:=inferInstance
instance:DecidableEq (List bV):=inferInstance
instance:DecidableEq (List aH):=inferInstance
instance:DecidableEq (List aH×Int×Unit):=inferInstance
instance alo:DecidableEq bF:=(inferInstance:DecidableEq (List bV×List aH×Int×Unit))
def usual:List bV:=[([97],1,()),([98],1,()),([110],2,()),([116],2,())]
def qo(f:aH):Prop:=f.2.2.2.2.1.length<=1000
def dH(s:bF):Prop:=s.1.length<=1000/\s.2.1.length<=1000/\∀f∈s.2.1,qo f
def gu(n:Nat)(f:Nat->Bool):Bool:=(List.range n).all f
def iq(s:Bytes):Bool:=lower s&&decide (1<=(s.length:Int))&&decide ((s.length:Int)<=1)
def bQ(k n:Int)(s:Bytes):Bool:=
 bif decide (k=0)then decide (n=0)&&decide (s=[])
 else bif decide (k=1)then decide (0<=n)&&decide (n<=999)&&decide (s=[])
 else bif decide (k=2)then dX s&&decide (n=0)
 else false
def kindOf:List bV->Bytes->Int
 |[],_=>0
 |f::r,s=>bif decide (f.1=s)then f.2.1 else kindOf r s
def fieldAt(fs:List bV)(i:Nat):bV:=fs.getD i ([],0,())
def iy(fs:List bV)(i:Nat):Bool:=
 iq (fieldAt fs i).1&&(decide (1<=(fieldAt fs i).2.1)&&decide ((fieldAt fs i).2.1<=2))&&!(decide (0<i)&&!Op.bytesLess (fieldAt fs (i-1)).1 (fieldAt fs i).1)
def bK(fs:List bV):Bool:=gu fs.length (iy fs)&&decide ((fs.length:Int)<=5)
def dY(fs:List bV)(name:Bytes)(k n:Int)(s:Bytes):Bool:=bQ k n s&&!decide (k=0)&&decide (k=kindOf fs name)
def bf(as:List aW)(i:Nat):aW:=as.getD i ([],0,0,[],())
def iM(fs:List bV)(as:List aW)(i:Nat):Bool:=
 dY fs (bf as i).1 (bf as i).2.1 (bf as i).2.2.1 (bf as i).2.2.2.1&&!(decide (0<i)&&!Op.bytesLess (bf as (i-1)).1 (bf as i).1)
def kJ(fs:List bV)(as:List aW):Bool:=gu as.length (iM fs as)
def bU(fs:List bV)(f:aH):Bool:=
 kJ fs f.2.2.2.2.1&&bK fs&&(decide (1<=f.1)&&decide (f.1<=60))&&(decide (0<=f.2.1)&&decide (f.2.1<=2))&&(decide (0<=f.2.2.2.1)&&decide (f.2.2.2.1<=60))
def fileAt(fs:List aH)(i:Nat):aH:=fs.getD i (0,0,false,0,[],())
def ja(s:bF)(i:Nat):Bool:=
 bU s.1 (fileAt s.2.1 i)&&decide ((fileAt s.2.1 i).1<s.2.2.1)&&!(decide (0<i)&&!decide ((fileAt s.2.1 (i-1)).1<(fileAt s.2.1 i).1))
def aB(s:bF):Bool:=
 gu s.2.1.length (ja s)&&bK s.1&&decide ((s.2.1.length:Int)<=12)&&(decide (1<=s.2.2.1)&&decide (s.2.2.1<=61))
def wL:Int->List aH->Int->Int
 |_,[],_=>-1
 |k,f::r,id=>bif decide (f.1=id)then k else wL (k+1) r id
def place(fs:List aH)(id:Int):Int:=wL 0 fs id
def aiw(f:aH)(u:Int):Bool:=(decide (0<=u)&&decide (u<=2))&&(decide (f.2.1=u)||f.2.2.1)
def ahs(f:aH)(u:Int):Bool:=(decide (0<=u)&&decide (u<=2))&&decide (f.2.1=u)
def unlink(fs:List aH)(f:aH):aH:=(f.1,f.2.1,f.2.2.1,(bif decide (place fs f.2.2.2.1<0)then 0 else f.2.2.2.1),f.2.2.2.2.1,())
def visible(s:bF)(u:Int):bF:=
 let fs:=s.2.1.filter (aiw · u)
 (s.1,fs.map (unlink fs),s.2.2.1,())
def ai8:aH:=(0,0,false,0,[],())
def lD(s:bF)(id:Int):aH×Bool:=
 bif decide (place s.2.1 id<0)then(ai8,false)else(fileAt s.2.1 (place s.2.1 id).toNat,true)
def gJ(name:Bytes)(b:aW):Bool:=!(b.1==name)
def iO(name:Bytes)(b:aW):Bool:=Op.bytesLess b.1 name||b.1==name
def vW(as:List aW)(a:aW):List aW:=as.takeWhile (iO a.1)++a::as.dropWhile (iO a.1)
def eH(as:List aW)(name:Bytes)(k n:Int)(s:Bytes):List aW:=
 bif decide (k=0)then as.filter (gJ name)else vW (as.filter (gJ name)) (name,k,n,s,())
def dZ(s:bF)(f:aH):bF×Int×Bool:=
 let g:aH:=(s.2.2.1,f.2)
 bif aB s&&decide ((s.2.1.length:Int)<12)&&bU s.1 g then((s.1,s.2.1++[g],s.2.2.1+1,()),s.2.2.1,true)else(s,0,false)
def adI(s:bF)(f:aH):bF×Bool:=
 bif aB s&&!decide (place s.2.1 f.1<0)&&bU s.1 f then((s.1,s.2.1.set (place s.2.1 f.1).toNat f,s.2.2.1,()),true)else(s,false)
def sample(n:Int):bF:=(dZ (usual,[],1,()) (0,0,false,0,eH [] [97] 1 n [],())).1
def zy{α:Type}(p:α->Bool):Int->List α->Int
 |_,[]=>-1
 |k,f::r=>bif p f then k else zy p (k+1) r
def findAt{α:Type}(p:α->Bool)(l:List α):Int:=zy p 0 l
def fieldPlace(l:List bV)(name:Bytes):Int:=findAt (λf=>f.1==name) l
end Sp
namespace Sp
theorem acW:∀(n m:Nat)(L:Nat->Nat),(∀k,k<m->∃j,j<n/\L j=k)->m<=n
 |0,m,L,h=>by
  rcases anv m with h0|h0
  .omega
  .obtain⟨j,hj,_⟩:=h 0 h0;omega
 |n+1,m,L,h=>by
  by_cases hv:L n<m
  .have:=acW n (m-1) (λj=>if L n<L j then L j-1 else L j) λk hk=>by
    by_cases h1:k<L n
    .obtain⟨j,hj,e⟩:=h k (by omega);have:j≠n:=λe2=>by subst e2;omega
     exact⟨j,by omega,by show(if _ then _ else _)=_;rw[if_neg (by omega)];exact e⟩
    .obtain⟨j,hj,e⟩:=h (k+1) (by omega);have:j≠n:=λe2=>by subst e2;omega
     exact⟨j,by omega,by show(if _ then _ else _)=_;rw[if_pos (by omega)];omega⟩
   omega
  .have:=acW n m L λk hk=>by
    obtain⟨j,hj,e⟩:=h k hk;have:j≠n:=λe2=>by subst e2;omega
    exact⟨j,by omega,e⟩
   omega
abbrev NT:=List (Nat×Nat×Nat)
def gq(E:NT)(L:Nat->Nat):Prop:=∀e∈E,L e.2.1+e.2.2<=L e.1
def ZJ(E:NT)(n:Nat):Prop:=∀e∈E,e.1<n/\e.2.1<n/\e.2.2<=1
def sumTo(n:Nat)(L:Nat->Nat):Nat:=match n with|0=>0|n+1=>sumTo n L+L n
theorem sumTo_le{L M:Nat->Nat}:∀n,(∀i,i<n->L i<=M i)->sumTo n L<=sumTo n M
 |0,_=>alY _
 |n+1,h=>Nat.add_le_add (sumTo_le n λi hi=>h i (by omega)) (h n (by omega))
theorem acX{L M:Nat->Nat}:∀n,(∀i,i<n->L i<=M i)->(∃i,i<n/\L i<M i)->sumTo n L<sumTo n M
 |0,_,⟨i,hi,_⟩=>by omega
 |n+1,h,⟨i,hi,hl⟩=>by
  have h1:=sumTo_le n λj hj=>h j (anB hj);show sumTo n L+L n<sumTo n M+M n;by_cases e:i=n
  .subst e;omega
  .have:=acX n (λj hj=>h j (anB hj)) ⟨i,by omega,hl⟩;have:=h n (by omega);omega
theorem Ll{E:NT}{n:Nat}(hE:ZJ E n):∀(s:Nat)(L:Nat->Nat),sumTo n L<=s->gq E L->∃M,gq E M/\∀i,i<n->M i<n
 |s,L,hs,hL=>by
  by_cases hall:∀i,i<n->L i<n
  .exact⟨L,hL,hall⟩
  .obtain⟨i,hi⟩:=Classical.not_forall.1 hall;have hi1:i<n/\n<=L i:=by
    by_cases h1:i<n
    .exact⟨h1,Nat.le_of_not_lt λh2=>hi λ_=>h2⟩
    .exact(hi λh2=>(h1 h2).elim).elim
   have akW:∃k,k<n/\∀j,j<n->L j≠k:=by
    refine amo λhno=>?_;have:=acW n (n+1) (λj=>min (L j) n) λk hk=>by
     by_cases h1:k<n
     .refine amo λh2=>hno ⟨k,h1,λj hj e=>h2 ⟨j,hj,?_⟩⟩;show min (L j) n=k;omega
     .exact⟨i,hi1.1,by show min (L i) n=k;omega⟩
    omega
   obtain⟨k,hk,hno⟩:=akW;have hlt:sumTo n (λj=>if k<L j then L j-1 else L j)<sumTo n L:=by
    refine acX n (λj _=>?_) ⟨i,hi1.1,?_⟩
    .show(if _ then _ else _)<=_;split
     .exact Nat.sub_le _ _
     .exact alY _
    .show(if _ then _ else _)<_;rw[if_pos (by omega)];omega
   match s,hs with
   |0,hs=>omega
   |s+1,hs=>refine Ll hE s (λj=>if k<L j then L j-1 else L j) (by omega) λe he=>?_;have h1:=hL e he;obtain⟨h2,h3,h4⟩:=hE e he;have n1:=hno e.1 h2;have n2:=hno e.2.1 h3;show(if k<L e.2.1 then L e.2.1-1 else L e.2.1)+e.2.2<=(if k<L e.1 then L e.1-1 else L e.1);split<;>split<;>omega
theorem G6{E:NT}{n:Nat}(hE:ZJ E n)(h:∃L,gq E L):∃M,gq E M/\∀i,i<n->M i<n:=by obtain⟨L,hL⟩:=h;exact Ll hE (sumTo n L) L (alY _) hL
structure Raises(E:NT)(n:Nat)(R:(Nat->Nat)->Nat->Nat):Prop where
 up:∀L i,L i<=R L i
 fix:∀L,(∀i,i<n->R L i=L i)->gq E L
 below:∀L M,gq E M->(∀i,i<n->L i<=M i)->∀i,i<n->R L i<=M i
 same:∀L L',(∀i,i<n->L i=L' i)->∀i,i<n->R L i=R L' i
end Sp
namespace Sp
open Go
abbrev ajO:=List bV×List aH×Int×List aK×Unit
abbrev ai9:=Int×List bV×List aH×Int×List aK×Int×Unit
instance:DecidableEq (List aY):=inferInstance
instance:DecidableEq aK:=inferInstance
instance:DecidableEq (List aK):=inferInstance
instance:DecidableEq (List aK×Unit):=inferInstance
instance:DecidableEq (Int×List aK×Unit):=inferInstance
instance:DecidableEq (List aH×Int×List aK×Unit):=inferInstance
instance alu:DecidableEq ajO:=(inferInstance:DecidableEq (List bV×List aH×Int×List aK×Unit))
instance:DecidableEq (List aK×Int×Unit):=inferInstance
instance:DecidableEq (Int×List aK×Int×Unit):=inferInstance
instance:DecidableEq (List aH×Int×List aK×Int×Unit):=inferInstance
instance:DecidableEq (List bV×List aH×Int×List aK×Int×Unit):=inferInstance
instance alF:DecidableEq ai9:=(inferInstance:DecidableEq (Int×List bV×List aH×Int×List aK×Int×Unit))
instance:DecidableEq (List ai9):=inferInstance
def nodeAt(q:List aY)(i:Nat):aY:=q.getD i (0,0,0,[],0,0,[],())
def iC(n:aY):Bool:=n.1==6||n.1==7
def wz(n:aY):Bool:=n.1==8||n.1==9
def iT(n:aY)(a:Int):Bool:=
 let kids:=decide (0<=n.2.1)&&decide (n.2.1<=a-1)&&decide (0<a)
 let two:=decide (0<=n.2.2.1)&&decide (n.2.2.1<=a-1)
 let bare:=n.2.2.2.1==[]&&(n.2.2.2.2.1==0&&(n.2.2.2.2.2.1==0&&n.2.2.2.2.2.2.1==[]))
 let flat:=n.2.1==0&&n.2.2.1==0
 let valued:=bQ n.2.2.2.2.1 n.2.2.2.2.2.1 n.2.2.2.2.2.2.1
 let void:=n.2.2.2.2.1==0&&(n.2.2.2.2.2.1==0&&n.2.2.2.2.2.2.1==[])
 bif n.1==1 then flat&&bare else bif n.1==2 then flat&&void&&iq n.2.2.2.1 else
 bif n.1==3 then flat&&iq n.2.2.2.1&&valued&&!(n.2.2.2.2.1==0)else bif n.1==4 then flat&&iq n.2.2.2.1&&valued&&n.2.2.2.2.1==1 else
 bif n.1==5 then kids&&n.2.2.1==0&&bare else bif n.1==6||n.1==7 then kids&&two&&bare else
 bif n.1==8||n.1==9 then flat&&void&&dX n.2.2.2.1 else false
def refsOf(a:Int)(n:aY):Nat:=(bif (iC n||n.1==5)&&n.2.1==a then 1 else 0)+(bif iC n&&n.2.2.1==a then 1 else 0)
def jW(q:List aY)(a:Int):Nat:=(q.map (refsOf a)).sum
def jC(q:List aY)(i:Nat):Bool:=iT (nodeAt q i) i&&!(decide ((i:Int)<(q.length:Int)-1)&&!(jW q i==1))
def aU(q:List aY):Bool:=gu q.length (jC q)&&(decide (1<=(q.length:Int))&&decide ((q.length:Int)<=9))
def bW(d:List aK)(i:Nat):aK:=d.getD i ([],[],())
def jQ(d:List aK)(i:Nat):Bool:=dX (bW d i).1&&aU (bW d i).2.1&&!(decide (0<i)&&!Op.bytesLess (bW d (i-1)).1 (bW d i).1)
def eF(d:List aK):Bool:=gu d.length (jQ d)&&decide ((d.length:Int)<=5)
def iY(q:List aY)(i:Nat)(out:List (Bool×Unit)):List (Bool×Unit):=
 let n:=nodeAt q i
 bif n.1==5 then out.set n.2.1.toNat (true,())else bif iC n then(out.set n.2.1.toNat ((out.getD i (false,())).1,())).set n.2.2.1.toNat ((out.getD i (false,())).1,())else out
def gy(q:List aY):Nat->List (Bool×Unit)->List (Bool×Unit)
 |0,out=>out
 |n+1,out=>gy q n (iY q n out)
def negated(q:List aY):List (Bool×Unit):=bif aU q then gy q q.length (List.replicate q.length (false,()))else[]
def dF(q:List aY)(neg:Bool):List Bytes:=(List.range (negated q).length).filterMap λi=>bif wz (nodeAt q i)&&((negated q).getD i (false,())).1==neg then some (nodeAt q i).2.2.2.1 else none
def zV:Int->List aK->Bytes->Int
 |_,[],_=>-1
 |k,x::r,s=>bif x.1==s then k else zV (k+1) r s
def aF(d:List aK)(s:Bytes):Int:=zV 0 d s
def bY(d:List aK):NT:=
 (List.range d.length).flatMap λi=>
   ((dF (bW d i).2.1 false).filterMap λs=>bif decide (0<=aF d s)then some (i,(aF d s).toNat,0)else none)++
   ((dF (bW d i).2.1 true).filterMap λs=>bif decide (0<=aF d s)then some (i,(aF d s).toNat,1)else none)
open Classical in
noncomputable def ax (d:List aK):Bool:=eF d&&decide (∃L,gq (bY d) L)
def gV(r:LS)(l:List Bytes):Prop:=r.length<=1000/\∀s,(s,())∈r↔s∈l
def sD(d:List aK)(ak:List (Int×Unit))(more:Int):LS->Int
 |[]=>0
 |x::r=>max (bif decide (0<=aF d x.1)then(ak.getD (aF d x.1).toNat (0,())).1+more else 0) (sD d ak more r)
def Bg(l:LS)(s:Bytes):LS:=
 let n:=(l.takeWhile λx=>Op.bytesLess x.1 s).length
 bif decide (n<l.length)&&(l.getD n ([],())).1==s then l else l.take n++[(s,())]++l.drop n
def raised(d:List aK)(ak r:List (Int×Unit)):Prop:=
 r.length=d.length/\(∀i,i<d.length->(ak.getD i (0,())).1<=(r.getD i (0,())).1)/\(∀B:Int,(∀i,i<d.length->(ak.getD i (0,())).1<=B)->∀i,i<d.length->(r.getD i (0,())).1<=B+5000)/\
 ((∀i,i<d.length->(r.getD i (0,())).1=(ak.getD i (0,())).1)->gq (bY d) λi=>(ak.getD i (0,())).1.toNat)/\
 ∀M,gq (bY d) M->(∀i,i<d.length->(ak.getD i (0,())).1<=M i)->∀i,i<d.length->(r.getD i (0,())).1<=M i
def bI(d:List aK):Prop:=d.length<=1000/\∀x∈d,x.2.1.length<=1000
end Sp
namespace Sp
open Go
end Sp
namespace Sp
open Go
theorem RQ(s:Bytes):∀(d:List aK)(k:Int),(zV k d s=-1/\∀x∈d,x.1≠s)\/∃n,n<d.length/\zV k d s=k+n/\(bW d n).1=s/\∀i,i<n->(bW d i).1≠s
 |[],k=>.inl ⟨rfl,λx hx=>by cases hx⟩
 |x::r,k=>by
  by_cases h:x.1=s
  .right;refine⟨0,by simp,?_,h,λi hi=>by omega⟩;rw[zV,alT.2 h];simp
  .rcases RQ s r (k+1)with⟨h1,h2⟩|⟨n,h1,h2,h3,h4⟩
   .left;refine⟨by rw[zV,alN.2 h];exact h1,λy hy=>?_⟩;rcases ame.1 hy with rfl|hy
    .exact h
    .exact h2 y hy
   .right;refine⟨n+1,by simp;omega,by rw[zV,alN.2 h];show zV (k+1) r s=_;omega,h3,λi hi=>?_⟩;cases i with
    |zero=>exact h
    |succ i=>exact h4 i (by omega)
theorem zU(d:List aK)(s:Bytes):(aF d s=-1/\∀x∈d,x.1≠s)\/∃n,n<d.length/\aF d s=n/\(bW d n).1=s/\∀i,i<n->(bW d i).1≠s:=by
 rcases RQ s d 0 with h|⟨n,h1,h2,h3⟩
 .exact .inl h
 .exact .inr ⟨n,h1,by show zV 0 d s=_;omega,h3⟩
theorem Ei{d:List aK}{s:Bytes}(h:0<=aF d s):aF d s<d.length:=by rcases zU d s with⟨h1,_⟩|⟨n,h1,h2,_⟩<;>omega
theorem wJ{d:List aK}{i j m:Nat}:(i,j,m)∈bY d↔i<d.length/\∃s,((m=0/\s∈dF (bW d i).2.1 false)\/(m=1/\s∈dF (bW d i).2.1 true))/\0<=aF d s/\j=(aF d s).toNat:=by
 unfold bY;rw[List.mem_flatMap];constructor
 .rintro⟨k,hk,h⟩;rw[amB]at hk;rcases amg.1 h with h|h
  all_goals
   obtain⟨s,hs,e⟩:=aoa.1 h;rw[cond_eq_ite]at e;split at e
   .next hp=>have hp:0<=aF d s:=am2 hp;cases e;exact⟨hk,s,by first|exact .inl ⟨rfl,hs⟩|exact .inr ⟨rfl,hs⟩,hp,rfl⟩
   .cases e
 .rintro⟨hi,s,h|h,hp,rfl⟩
  .obtain⟨rfl,hs⟩:=h;refine⟨i,amB.2 hi,amg.2 (.inl (aoa.2 ⟨s,hs,?_⟩))⟩;rw[alP hp];rfl
  .obtain⟨rfl,hs⟩:=h;refine⟨i,amB.2 hi,amg.2 (.inr (aoa.2 ⟨s,hs,?_⟩))⟩;rw[alP hp];rfl
theorem jf(d:List aK):ZJ (bY d) d.length:=by
 rintro⟨i,j,m⟩ he;obtain⟨h1,s,h2,h3,h4⟩:=wJ.1 he;have:=Ei h3;refine⟨h1,?_,?_⟩
 .show j<_;omega
 .show m<=1;rcases h2 with⟨h,_⟩|⟨h,_⟩<;>omega
def lv(l:List (Int×Unit))(i:Nat):Int:=(l.getD i (0,())).1
theorem acI{l:List (Int×Unit)}{i:Nat}(hi:i<l.length)(x:Int)(k:Nat):lv (l.set i (x,())) k=if k=i then x else lv l k:=by
 unfold lv;rw[alM,alM];by_cases h:k=i
 .subst h;rw[amZ hi,if_pos rfl];rfl
 .rw[amE (λe=>h e.symm),if_neg h]
theorem QY{l:List (Int×Unit)}{i:Nat}(hi:i<l.length):(lv l i,())∈l:=by unfold lv;rw[alM,alO hi];exact am0 hi
theorem acH{l:List (Int×Unit)}{p:Int->Prop}(h:∀i,i<l.length->p (lv l i)):∀x∈l,p x.1:=by intro x hx;obtain⟨i,hi,e⟩:=amx hx;have:=h i hi;unfold lv at this;rw[alM,alO hi]at this;rw[← e];exact this
theorem agx{a b:List (Int×Unit)}(hl:a.length=b.length)(h:∀i,i<a.length->lv a i=lv b i):a=b:=by refine anZ hl λi h1 h2=>?_;have:=h i h1;unfold lv at this;rw[alM,alM,alO h1,alO h2]at this;exact aow this rfl
structure DU(d:List aK)(ak cur:List (Int×Unit))(g:Int)(P:Nat×Nat×Nat->Prop):Prop where
 len:cur.length=d.length
 up:∀i,i<d.length->lv ak i<=lv cur i
 grow:∀B,(∀i,i<d.length->lv ak i<=B)->∀i,i<d.length->lv cur i<=B+g
 fix:(∀i,i<d.length->lv cur i=lv ak i)->∀e,P e->lv ak e.2.1+e.2.2<=lv ak e.1
 below:∀M,gq (bY d) M->(∀i,i<d.length->lv ak i<=M i)->∀i,i<d.length->lv cur i<=M i
theorem DU.start{d:List aK}{ak:List (Int×Unit)}(h:ak.length=d.length):DU d ak ak 0 λ_=>False:=
 ⟨h,λ_ _=>amC _,λB hB i hi=>by have:=hB i hi;omega,λ_ e he=>he.elim,λ_ _ h=>h⟩
theorem DU.weaken{d:List aK}{ak cur:List (Int×Unit)}{g g':Int}{P P':Nat×Nat×Nat->Prop}(h:DU d ak cur g P)(hg:g<=g')(hP:∀e,P' e->P e):DU d ak cur g' P':=
 ⟨h.len,h.up,λB hB i hi=>by have:=h.grow B hB i hi;omega,λhx e he=>h.fix hx e (hP e he),h.below⟩
theorem DU.still{d:List aK}{ak cur:List (Int×Unit)}{g:Int}{P:Nat×Nat×Nat->Prop}(h:DU d ak cur g P){i j m:Nat}(he:(i,j,m)∈bY d)(hle:lv cur j+m<=lv cur i):DU d ak cur g λe=>P e\/e=(i,j,m):=by
 obtain⟨h1,h2,_⟩:=jf d _ he;refine⟨h.len,h.up,h.grow,λhx e hp=>?_,h.below⟩;rcases hp with hp|rfl
 .exact h.fix hx e hp
 .have a:=hx i h1;have b:=hx j h2;show lv ak j+m<=lv ak i;omega
theorem DU.set{d:List aK}{ak cur:List (Int×Unit)}{g:Int}{P:Nat×Nat×Nat->Prop}(h:DU d ak cur g P){i j m:Nat}(he:(i,j,m)∈bY d)(hlt:lv cur i<lv cur j+m):DU d ak (cur.set i (lv cur j+m,())) (g+m) λe=>P e\/e=(i,j,m):=by
 obtain⟨h1,h2,_⟩:=jf d _ he;have h1:i<d.length:=h1;have h2:j<d.length:=h2;have hl:=h.len;have hs:=λk=>acI (l:=cur) (i:=i) (by omega) (lv cur j+m) k;refine⟨by simp;omega,λk hk=>?_,λB hB k hk=>?_,λhx e hp=>?_,λM hM hb k hk=>?_⟩
 .rw[hs];have a:=h.up k hk;split
  .next e=>subst e;omega
  .exact a
 .rw[hs];have a:=h.grow B hB k hk;have b:=h.grow B hB j h2;split<;>omega
 .have:=hx i h1;rw[hs,if_pos rfl]at this;have:=h.up i h1;omega
 .rw[hs];split
  .next e=>subst e;have a:=h.below M hM hb j h2;have b:=hM _ he;have b:M j+m<=M k:=b;omega
  .exact h.below M hM hb k hk
theorem DU.raised{d:List aK}{ak cur:List (Int×Unit)}{g:Int}{P:Nat×Nat×Nat->Prop}(h:DU d ak cur g P)(hg:g<=5000)(hP:∀e∈bY d,P e)(h0:∀i,i<d.length->0<=lv ak i):raised d ak cur:=by refine⟨h.len,h.up,λB hB i hi=>by have:=h.grow B hB i hi;show lv cur i<=_;omega,λhx e he=>?_,h.below⟩;have a:=h.fix hx e (hP e he);obtain⟨h1,h2,_⟩:=jf d _ he;have b:=h0 _ h1;have c:=h0 _ h2;show(lv ak e.2.1).toNat+e.2.2<=(lv ak e.1).toNat;omega
theorem YI(d:List aK)(ak:List (Int×Unit))(hl:ak.length=d.length):∀(E:NT),(∀e∈E,e∈bY d)->∃cur:List (Int×Unit),cur.length=d.length/\(∀i,i<d.length->lv ak i<=lv cur i/\(lv cur i=lv ak i\/∃e∈E,e.1=i/\lv cur i=lv ak e.2.1+e.2.2))/\∀e∈E,lv ak e.2.1+e.2.2<=lv cur e.1
 |[],_=>⟨ak,hl,λi hi=>⟨amC _,.inl rfl⟩,λe he=>by cases he⟩
 |e::E,hE=>by
  obtain⟨cur,h1,h2,h3⟩:=YI d ak hl E λx hx=>hE x (alU _ hx);obtain⟨g1,g2,_⟩:=jf d e (hE e alW);by_cases h:lv cur e.1<lv ak e.2.1+e.2.2
  .have hs:=λk=>acI (l:=cur) (i:=e.1) (by omega) (lv ak e.2.1+e.2.2) k;refine⟨cur.set e.1 (lv ak e.2.1+e.2.2,()),by simp;omega,λi hi=>?_,λx hx=>?_⟩
   .rw[hs];have:=h2 i hi;split
    .next hi'=>exact⟨by rw[hi']at this ⊢;omega,.inr ⟨e,alW,hi'.symm,rfl⟩⟩
    .refine⟨this.1,this.2.imp_right λ⟨x,hx,hy⟩=>⟨x,alU _ hx,hy⟩⟩
   .rw[hs];rcases ame.1 hx with rfl|hx
    .rw[if_pos rfl];omega
    .have:=h3 x hx;split
     .next he=>rw[he]at this;omega
     .exact this
  .refine⟨cur,h1,λi hi=>?_,λx hx=>?_⟩
   .have:=h2 i hi;exact⟨this.1,this.2.imp_right λ⟨x,hx,hy⟩=>⟨x,alU _ hx,hy⟩⟩
   .rcases ame.1 hx with rfl|hx
    .omega
    .exact h3 x hx
theorem adH(d:List aK)(ak:List (Int×Unit))(hl:ak.length=d.length)(h0:∀i,i<d.length->0<=lv ak i):∃cur,raised d ak cur:=by
 obtain⟨cur,h1,h2,h3⟩:=YI d ak hl (bY d) λ_ h=>h;refine⟨cur,h1,λi hi=>(h2 i hi).1,λB hB i hi=>?_,λhx e he=>?_,λM hM hb i hi=>?_⟩
 .show lv cur i<=_;rcases(h2 i hi).2 with h|⟨e,he,rfl,h⟩
  .rw[h];have:=hB i hi;show(ak.getD i (0,())).1<=_;omega
  .obtain⟨_,g2,g3⟩:=jf d e he;have:lv ak e.2.1<=B:=hB _ g2;omega
 .obtain⟨g1,g2,_⟩:=jf d e he;have a:=h3 e he;have b:=h0 _ g1;have c:=h0 _ g2;have x:lv cur e.1=lv ak e.1:=hx _ g1;show(lv ak e.2.1).toNat+e.2.2<=(lv ak e.1).toNat;omega
 .show lv cur i<=_;rcases(h2 i hi).2 with h|⟨e,he,rfl,h⟩
  .rw[h];exact hb i hi
  .obtain⟨_,g2,_⟩:=jf d e he;have a:lv ak e.2.1<=M e.2.1:=hb _ g2;have b:=hM e he;omega
theorem BL{d:List aK}{ak:List (Int×Unit)}{more:Int}:∀(r:LS)(B:Int),sD d ak more r<=B↔0<=B/\∀x∈r,0<=aF d x.1->lv ak (aF d x.1).toNat+more<=B
 |[],B=>by simp[sD]
 |x::r,B=>by
  have ih:=BL (d:=d) (ak:=ak) (more:=more) r B;rw[sD];have e:∀a b:Int,max a b<=B↔a<=B/\b<=B:=λa b=>by omega
  rw[e,ih];simp only[ame,forall_eq_or_imp];by_cases h:0<=aF d x.1
  .rw[alP h];show lv ak _+more<=B/\_↔_;constructor
   .exactλ⟨a,b,c⟩=>⟨b,λ_=>a,c⟩
   .exactλ⟨a,b,c⟩=>⟨b h,a,c⟩
  .rw[alR h];show(0:Int)<=B/\_↔_;constructor
   .exactλ⟨a,b,c⟩=>⟨b,λh'=>(h h').elim,c⟩
   .exactλ⟨a,b,c⟩=>⟨a,a,c⟩
def tH(l:List (Int×Unit)):Nat->Int
 |0=>0
 |n+1=>tH l n+lv l n
theorem VR{a b:List (Int×Unit)}:∀n,(∀i,i<n->lv a i<=lv b i)->tH a n<=tH b n
 |0,_=>amC _
 |n+1,h=>Int.add_le_add (VR n λi hi=>h i (by omega)) (h n (by omega))
theorem VQ{a b:List (Int×Unit)}:∀n,(∀i,i<n->lv a i<=lv b i)->(∃i,i<n/\lv a i<lv b i)->tH a n<tH b n
 |0,_,⟨i,hi,_⟩=>by omega
 |n+1,h,⟨i,hi,hl⟩=>by
  have h1:=VR n λj hj=>h j (anB hj);show tH a n+lv a n<tH b n+lv b n;by_cases e:i=n
  .subst e;omega
  .have:=VQ n (λj hj=>h j (anB hj)) ⟨i,by omega,hl⟩;have:=h n (by omega);omega
theorem Jv{a:List (Int×Unit)}{b:Nat}:∀n:Nat,(∀i,i<n->lv a i<=b)->tH a n<=(n*b:Nat)
 |0,_=>by simp[tH]
 |n+1,h=>by have h1:=Jv n λi hi=>h i (anB hi);have h2:=h n (by omega);show tH a n+lv a n<=((n+1)*b:Nat);rw[Nat.succ_mul];omega
theorem QK{a:List (Int×Unit)}:∀n:Nat,(∀i,i<n->0<=lv a i)->0<=tH a n
 |0,_=>amC _
 |n+1,h=>Int.add_nonneg (QK n λi hi=>h i (by omega)) (h n (by omega))
theorem jO{d:List aK}:ax d=true↔eF d=true/\∃L,gq (bY d) L:=by unfold ax;simp
theorem MV{d:List aK}(h:eF d=true):d.length<=5:=by unfold eF at h;simp only[alK,alX]at h;omega
end Sp
namespace Sp
abbrev Ext(ι α:Type):=ι->α->Bool
structure Sys(ι α:Type) where
 T:ι->Ext ι α->α->Prop
 pos:ι->ι->Prop
 neg:ι->ι->Prop
 mono:∀i X Y,(∀j,pos i j->∀x,X j x=true->Y j x=true)->(∀j,neg i j->∀x,X j x=Y j x)->∀x,T i X x->T i Y x
def abm{ι α:Type}(S:Sys ι α)(N:ι->Prop)(ak:ι->Nat):Prop:=∀i j,N i->N j->(S.pos i j->ak j<=ak i)/\(S.neg i j->ak j<ak i)
structure Eval{ι α:Type}(S:Sys ι α)(N:ι->Prop)(ak:ι->Nat)(X:Ext ι α):Prop where
 fix:∀i,N i->∀x,X i x=true↔S.T i X x
 least:∀k(Y:Ext ι α),(∀i,¬(N i/\ak i=k)->∀x,Y i x=X i x)->(∀i,N i->ak i=k->∀x,S.T i Y x->Y i x=true)->∀i,N i->ak i=k->∀x,X i x=true->Y i x=true
open Classical in
theorem aeg{ι α:Type}{P:ι->Prop}{A B:Ext ι α}:∃Y:Ext ι α,(∀i x,Y i x=true↔A i x=true/\(P i->B i x=true))/\∀i,¬P i->∀x,Y i x=A i x:=by have h:∀i x,decide (A i x=true/\(P i->B i x=true))=true↔A i x=true/\(P i->B i x=true):=λi x=>aoA;refine⟨λi x=>decide (A i x=true/\(P i->B i x=true)),h,λi hi x=>?_⟩;rw[amc,h];exact⟨λh=>h.1,λh=>⟨h,λh'=>(hi h').elim⟩⟩
theorem adJ{ι α:Type}{S1 S2:Sys ι α}{N1 N2 U:ι->Prop}{l1 l2:ι->Nat}{X1 X2:Ext ι α}
 (h1:Eval S1 N1 l1 X1) (h2:Eval S2 N2 l2 X2) (s1:abm S1 N1 l1) (s2:abm S2 N2 l2) (u1:∀i,U i->N1 i) (u2:∀i,U i->N2 i)
 (hT:∀i,U i->∀X x,S1.T i X x↔S2.T i X x) (hp:∀i,U i->∀j,S2.pos i j->S1.pos i j) (hn:∀i,U i->∀j,S2.neg i j->S1.neg i j)
 (hc:∀i,U i->∀j,S1.pos i j\/S1.neg i j->U j\/∀x,X1 j x=X2 j x):∀i,U i->∀x,X1 i x=X2 i x:=by
 have key:∀k,∀i,U i->l1 i=k->∀x,X1 i x=X2 i x:=by
  intro k
  induction k using Nat.strongRecOn with
  |_ k ih=>
   have below:∀j,U j->l1 j<k->∀x,X1 j x=X2 j x:=λj hj hl=>ih (l1 j) hl j hj rfl;have ajP:∀i,U i->l1 i=k->∀x,X1 i x=true->X2 i x=true:=by
    obtain⟨Y,hY,Qa⟩:=aeg (P:=λi=>U i/\l1 i=k) (A:=X1) (B:=X2);have:=h1.least k Y (λi hi=>Qa i λh=>hi ⟨u1 i h.1,h.2⟩) λi hN hl x hx=>by
     have acY:∀j,S1.neg i j->∀x,Y j x=X1 j x:=λj hj=>Qa j λh=>by have:=(s1 i j hN (u1 j h.1)).2 hj;omega
     refine(hY i x).2 ⟨(h1.fix i hN x).2 (S1.mono i Y X1 (λj _ y hy=>((hY j y).1 hy).1) acY x hx),λhU=>?_⟩;refine(h2.fix i (u2 i hU.1) x).2 ((hT i hU.1 X2 x).1 (S1.mono i Y X2 (λj hj y hy=>?_) (λj hj y=>?_) x hx))
     .have hy:=(hY j y).1 hy;rcases hc i hU.1 j (.inl hj)with h|h
      .have hl2:=(s1 i j hN (u1 j h)).1 hj;rcases al4 (l1 j) k with h3|h3
       .rw[← below j h h3];exact hy.1
       .exact hy.2 ⟨h,by omega⟩
      .rw[← h];exact hy.1
     .rw[acY j hj];rcases hc i hU.1 j (.inr hj)with h|h
      .exact below j h (by have:=(s1 i j hN (u1 j h)).2 hj;omega) y
      .exact h y
    exactλi hU hl x hx=>((hY i x).1 (this i (u1 i hU) hl x hx)).2 ⟨hU,hl⟩
   have ajQ:∀m,∀i,U i->l1 i=k->l2 i=m->∀x,X2 i x=true->X1 i x=true:=by
    intro m
    induction m using Nat.strongRecOn with
    |_ m ih2=>
     obtain⟨Y,hY,Qa⟩:=aeg (P:=λi=>U i/\l1 i=k/\l2 i=m) (A:=X2) (B:=X1);have:=h2.least m Y (λi hi=>Qa i λh=>hi ⟨u2 i h.1,h.2.2⟩) λi hN hl x hx=>by
      have acY:∀j,S2.neg i j->∀x,Y j x=X2 j x:=λj hj=>Qa j λh=>by have:=(s2 i j hN (u2 j h.1)).2 hj;omega
      refine(hY i x).2 ⟨(h2.fix i hN x).2 (S2.mono i Y X2 (λj _ y hy=>((hY j y).1 hy).1) acY x hx),λhU=>?_⟩;refine(h1.fix i (u1 i hU.1) x).2 ((hT i hU.1 X1 x).2 (S2.mono i Y X1 (λj hj y hy=>?_) (λj hj y=>?_) x hx))
      .have hy:=(hY j y).1 hy;have hj1:=hp i hU.1 j hj;rcases hc i hU.1 j (.inl hj1)with h|h
       .have g1:=(s1 i j (u1 i hU.1) (u1 j h)).1 hj1;have g2:=(s2 i j hN (u2 j h)).1 hj;rcases al4 (l1 j) k with h3|h3
        .rw[below j h h3];exact hy.1
        .rcases al4 (l2 j) m with h4|h4
         .exact ih2 (l2 j) h4 j h (by omega) rfl y hy.1
         .exact hy.2 ⟨h,by omega,by omega⟩
       .rw[h];exact hy.1
      .rw[acY j hj];have hj1:=hn i hU.1 j hj;rcases hc i hU.1 j (.inr hj1)with h|h
       .exact(below j h (by have:=(s1 i j (u1 i hU.1) (u1 j h)).2 hj1;omega) y).symm
       .exact(h y).symm
     exactλi hU hl1 hl2 x hx=>((hY i x).1 (this i (u2 i hU) hl2 x hx)).2 ⟨hU,hl1,hl2⟩
   exactλi hU hl x=>amc.2 ⟨ajP i hU hl x,ajQ (l2 i) i hU hl rfl x⟩
 exactλi hU x=>key (l1 i) i hU rfl x
end Sp
namespace Sp
open Go
abbrev bP:=Bytes×List (Int×Unit)×Unit
abbrev BX:=Ext Bytes Int
def aG:List aW->Bytes->pq
 |[],_=>(0,0,[],())
 |a::r,s=>bif a.1==s then(a.2.1,a.2.2.1,a.2.2.2.1,())else aG r s
def dn:List bP->Bytes->List (Int×Unit)
 |[],_=>[]
 |x::r,s=>bif x.1==s then x.2.1 else dn r s
def fF(l:List (Int×Unit))(x:Int):Bool:=l.any λy=>y.1==x
def aT(r:List bP):BX:=λs x=>fF (dn r s) x
theorem BN{l:List (Int×Unit)}{x:Int}:fF l x=true↔(x,())∈l:=by unfold fF;rw[anH];exact⟨λ⟨y,hy,h⟩=>by rw[← alT.1 h];exact hy,λh=>⟨_,h,alT.2 rfl⟩⟩
def ig(n:aY)(f:aH)(X:BX):Bool:=
 bif n.1==2 then !((aG f.2.2.2.2.1 n.2.2.2.1).1==0)else
 bif n.1==3 then decide (aG f.2.2.2.2.1 n.2.2.2.1=(n.2.2.2.2.1,n.2.2.2.2.2.1,n.2.2.2.2.2.2.1,()))else
 bif n.1==4 then(aG f.2.2.2.2.1 n.2.2.2.1).1==1&&decide ((aG f.2.2.2.2.1 n.2.2.2.1).2.1<n.2.2.2.2.2.1)else
 bif n.1==8 then X n.2.2.2.1 f.1 else
 bif n.1==9 then !(f.2.2.2.1==0)&&X n.2.2.2.1 f.2.2.2.1 else true
def val(q:List aY)(f:aH)(X:BX)(a:Nat):Bool:=
 if(nodeAt q a).1=5 then(if h:(nodeAt q a).2.1.toNat<a then !val q f X (nodeAt q a).2.1.toNat else true)
 else if(nodeAt q a).1=6 then(if h:(nodeAt q a).2.1.toNat<a/\(nodeAt q a).2.2.1.toNat<a then val q f X (nodeAt q a).2.1.toNat&&val q f X (nodeAt q a).2.2.1.toNat else true)
 else if(nodeAt q a).1=7 then(if h:(nodeAt q a).2.1.toNat<a/\(nodeAt q a).2.2.1.toNat<a then val q f X (nodeAt q a).2.1.toNat||val q f X (nodeAt q a).2.2.1.toNat else true)
 else ig (nodeAt q a) f X
termination_by a
decreasing_by all_goals omega
theorem EI(q:List aY)(f:aH)(X:BX)(a:Nat):val q f X a=
 if(nodeAt q a).1=5 then(if h:(nodeAt q a).2.1.toNat<a then !val q f X (nodeAt q a).2.1.toNat else true)
 else if(nodeAt q a).1=6 then(if h:(nodeAt q a).2.1.toNat<a/\(nodeAt q a).2.2.1.toNat<a then val q f X (nodeAt q a).2.1.toNat&&val q f X (nodeAt q a).2.2.1.toNat else true)
 else if(nodeAt q a).1=7 then(if h:(nodeAt q a).2.1.toNat<a/\(nodeAt q a).2.2.1.toNat<a then val q f X (nodeAt q a).2.1.toNat||val q f X (nodeAt q a).2.2.1.toNat else true)
 else ig (nodeAt q a) f X:=by rw[val]
def gZ(q:List aY)(f:aH)(X:BX):Bool:=aU q&&val q f X (q.length-1)
def sel(fs:List aH)(q:List aY)(X:BX):List (Int×Unit):=(fs.filter λf=>gZ q f X).map λf=>(f.1,())
def xH(q:List aY)(i:Nat):Bool:=((negated q).getD i (false,())).1
theorem G9{q:List aY}(h:aU q=true){i:Nat}(hi:i<q.length):iT (nodeAt q i) i=true/\((i:Int)<(q.length:Int)-1->jW q i=1):=by
 unfold aU at h;rw[alK]at h;have h1:jC q i=true:=by have:=h.1;unfold gu at this;exact al0.1 this i (amB.2 hi)
 unfold jC at h1;rw[alK]at h1;refine⟨h1.1,λhl=>?_⟩;have h2:=h1.2;rw[alP hl]at h2;simpa using h2
theorem AP{q:List aY}(h:aU q=true):1<=q.length/\q.length<=9:=by unfold aU at h;simp only[alK,alX]at h;omega
theorem UR{n:aY}{a:Nat}(h:iT n a=true)(hn:n.1=5\/n.1=6\/n.1=7):0<=n.2.1/\n.2.1.toNat<a:=by unfold iT at h;rcases hn with e|e|e<;>simp[e]at h<;>omega
theorem F9{n:aY}{a:Nat}(h:iT n a=true)(hn:n.1=6\/n.1=7):0<=n.2.2.1/\n.2.2.1.toNat<a:=by unfold iT at h;rcases hn with e|e<;>simp[e]at h<;>omega
theorem aeh{α:Type}(g:α->Nat):∀(l:List α),(l.map g).sum=1->∀i j,i<l.length->j<l.length->i≠j->∀d,1<=g (l.getD i d)->g (l.getD j d)=0
 |[],_,i,_,hi,_,_,_,_=>by simp at hi
 |x::r,h,i,j,hi,hj,hne,d,hg=>by
  rw[al8,anM]at h;have mem:∀(l:List α) k,k<l.length->g (l.getD k d)<=(l.map g).sum:=by
   intro l
   induction l with
   |nil=>intro k hk;simp at hk
   |cons y t ih=>
    intro k hk;rw[al8,anM];cases k with
    |zero=>exact Nat.le_add_right _ _
    |succ k=>exact amk (ih k (by simpa using hk)) (Nat.le_add_left _ _)
  cases i with
  |zero=>
   cases j with
   |zero=>exact(hne rfl).elim
   |succ j=>
    have h1:1<=g x:=hg;have:=mem r j (by simpa using hj);show g (r.getD j d)=0;omega
  |succ i=>
   have h1:1<=g (r.getD i d):=hg;have h2:=mem r i (by simpa using hi);cases j with
   |zero=>show g x=0;omega
   |succ j=>exact aeh g r (by omega) i j (by simpa using hi) (by simpa using hj) (by omega) d hg
theorem Dx{q:List aY}{p:Nat}:∀(n:Nat)(out:List (Bool×Unit)),(∀i,i<n->((nodeAt q i).1=5\/iC (nodeAt q i)=true->(nodeAt q i).2.1.toNat≠p)/\(iC (nodeAt q i)=true->(nodeAt q i).2.2.1.toNat≠p))->
 (gy q n out).getD p (false,())=out.getD p (false,())
 |0,_,_=>rfl
 |n+1,out,h=>by
  have ih:=Dx n (iY q n out) λi hi=>h i (by omega);show(gy q n (iY q n out)).getD p (false,())=_;rw[ih];have hs:∀(l:List (Bool×Unit)) k x,k≠p->(l.set k x).getD p (false,())=l.getD p (false,()):=λl k x hk=>by rw[alM,amE hk,← alM]
  obtain⟨h1,h2⟩:=h n (by omega);unfold iY;dsimp only;cases e5:((nodeAt q n).1==5)with
  |true=>exact hs _ _ _ (h1 (.inl (alT.1 e5)))
  |false=>
   cases e2:iC (nodeAt q n)with
   |true=>exact(hs _ _ _ (h2 e2)).trans (hs _ _ _ (h1 (.inr e2)))
   |false=>rfl
theorem AX(q:List aY):∀(n:Nat)(out:List (Bool×Unit)),(gy q n out).length=out.length
 |0,_=>rfl
 |n+1,out=>by show(gy q n (iY q n out)).length=_;rw[AX q n];unfold iY;dsimp only;cases (nodeAt q n).1==5<;>cases iC (nodeAt q n)<;>simp
theorem tJ{n:aY}:iC n=true↔n.1=6\/n.1=7:=by unfold iC;simp
theorem Om(q:List aY):∀(k m:Nat)(out:List (Bool×Unit)),∃mid:List (Bool×Unit),mid.length=out.length/\gy q (m+k) out=gy q m mid
 |0,_,out=>⟨out,rfl,rfl⟩
 |k+1,m,out=>by
  obtain⟨mid,h1,h2⟩:=Om q k m (iY q (m+k) out);have hl:(iY q (m+k) out).length=out.length:=by unfold iY;dsimp only;cases (nodeAt q (m+k)).1==5<;>cases iC (nodeAt q (m+k))<;>simp
  exact⟨mid,h1.trans hl,h2⟩
theorem G8{q:List aY}(h:aU q=true){i:Nat}(hi:i<q.length):((nodeAt q i).1=5\/iC (nodeAt q i)=true->0<=(nodeAt q i).2.1/\(nodeAt q i).2.1.toNat<i)/\(iC (nodeAt q i)=true->0<=(nodeAt q i).2.2.1/\(nodeAt q i).2.2.1.toNat<i):=by
 have h1:=(G9 h hi).1;refine⟨λh2=>?_,λh2=>F9 h1 (tJ.1 h2)⟩;rcases h2 with h2|h2
 .exact UR h1 (.inl h2)
 .exact UR h1 (.inr (tJ.1 h2))
theorem afs{q:List aY}(h:aU q=true){i j p:Nat}(hi:i<q.length)(hj:j<q.length)(hne:i≠j)(hp:p<i)(hr:1<=refsOf p (nodeAt q i)):refsOf p (nodeAt q j)=0:=
 aeh (refsOf p) q ((G9 h (by omega)).2 (by omega)) i j hi hj hne _ hr
theorem adK{p:Nat}{n:aY}(h:refsOf p n=0)(h0:((n.1=5\/iC n=true)->0<=n.2.1)/\(iC n=true->0<=n.2.2.1)):(n.1=5\/iC n=true->n.2.1.toNat≠p)/\(iC n=true->n.2.2.1.toNat≠p):=by
 unfold refsOf at h;refine⟨λh1 h2=>?_,λh1 h2=>?_⟩
 .have h3:=h0.1 h1;have h4:((iC n||n.1==5)&&n.2.1==(p:Int))=true:=by
   have:(iC n||n.1==5)=true:=by rcases h1 with h1|h1<;>simp[h1]
   rw[this];simp;omega
  rw[h4]at h;simp at h
 .have h3:=h0.2 h1;have h4:(iC n&&n.2.2.1==(p:Int))=true:=by rw[h1];simp;omega
  rw[h4]at h;simp at h
theorem UU{p:Nat}{n:aY}(h:n.1=5\/iC n=true)(h0:0<=n.2.1)(e:n.2.1.toNat=p):1<=refsOf p n:=by
 unfold refsOf;have h4:((iC n||n.1==5)&&n.2.1==(p:Int))=true:=by
  have:(iC n||n.1==5)=true:=by rcases h with h1|h1<;>simp[h1]
  rw[this];simp;omega
 rw[h4];simp
theorem acZ{p:Nat}{n:aY}(h:iC n=true)(h0:0<=n.2.2.1)(e:n.2.2.1.toNat=p):1<=refsOf p n:=by
 unfold refsOf;have h4:(iC n&&n.2.2.1==(p:Int))=true:=by rw[h];simp;omega
 rw[h4];simp
theorem NU{l:List (Bool×Unit)}{k p:Nat}{x:Bool×Unit}(hk:k<l.length):(l.set k x).getD p (false,())=if k=p then x else l.getD p (false,()):=by
 rw[alM,anT];by_cases h:k=p
 .subst h;simp[hk]
 .simp[h]
theorem aft{q:List aY}(h:aU q=true){i:Nat}(hi:i<q.length):
 ((nodeAt q i).1=5->xH q (nodeAt q i).2.1.toNat=true)/\(iC (nodeAt q i)=true->xH q (nodeAt q i).2.1.toNat=xH q i/\xH q (nodeAt q i).2.2.1.toNat=xH q i):=by
 have hn:negated q=gy q q.length (List.replicate q.length (false,())):=by unfold negated;rw[h];rfl
 obtain⟨mid,hm1,hm2⟩:=Om q (q.length-(i+1)) (i+1) (List.replicate q.length (false,()));rw[show i+1+(q.length-(i+1))=q.length by omega,← hn]at hm2;have hml:mid.length=q.length:=by rw[hm1];simp
 have hm3:negated q=gy q i (iY q i mid):=hm2;obtain⟨k1,k2⟩:=G8 h hi;have keep:∀p,p<i->1<=refsOf p (nodeAt q i)->xH q p=((iY q i mid).getD p (false,())).1:=λp hp hr=>by
  unfold xH;rw[hm3,Dx i];intro j hj;have hjl:j<q.length:=by omega
  obtain⟨g1,g2⟩:=G8 h hjl;exact adK (afs h hi hjl (by omega) hp hr) ⟨λz=>(g1 z).1,λz=>(g2 z).1⟩
 have self:xH q i=(mid.getD i (false,())).1:=by unfold xH;rw[hm2,Dx (i+1)];intro j hj;obtain⟨g1,g2⟩:=G8 h (show j<q.length by omega);exact⟨λz=>by have:=(g1 z).2;omega,λz=>by have:=(g2 z).2;omega⟩
 refine⟨λh5=>?_,λh2=>?_⟩
 .obtain⟨a,b⟩:=k1 (.inl h5);rw[keep _ b (UU (.inl h5) a rfl)];unfold iY;dsimp only;rw[alT.2 h5];show((mid.set _ (true,())).getD _ (false,())).1=true;rw[NU (by omega),if_pos rfl]
 .obtain⟨a,b⟩:=k1 (.inr h2);obtain⟨a',b'⟩:=k2 h2;have h5:((nodeAt q i).1==5)=false:=by rcases tJ.1 h2 with e|e<;>rw[e]<;>rfl
  rw[keep _ b (UU (.inr h2) a rfl),keep _ b' (acZ h2 a' rfl),self];unfold iY;dsimp only;rw[h5,h2];show(((mid.set _ ((mid.getD i (false,())).1,())).set _ ((mid.getD i (false,())).1,())).getD _ (false,())).1=_/\(((mid.set _ ((mid.getD i (false,())).1,())).set _ ((mid.getD i (false,())).1,())).getD _ (false,())).1=_;rw[NU (by rw[amX];omega),NU (by omega),NU (by rw[amX];omega),if_pos rfl,if_pos rfl];exact⟨by split<;>rfl,rfl⟩
theorem afu{q:List aY}(h:aU q=true):xH q (q.length-1)=false:=by
 have hn:negated q=gy q q.length (List.replicate q.length (false,())):=by unfold negated;rw[h];rfl
 have hl:=AP h;unfold xH;rw[hn,Dx q.length]
 .rw[alM,anI];split<;>rfl
 .intro j hj;obtain⟨g1,g2⟩:=G8 h hj;exact⟨λz=>by have:=(g1 z).2;omega,λz=>by have:=(g2 z).2;omega⟩
theorem ac0{q:List aY}(h:aU q=true){i:Nat}(hi:i<q.length)(hd:wz (nodeAt q i)=true):(nodeAt q i).2.2.2.1∈dF q (xH q i):=by
 have hl:(negated q).length=q.length:=by unfold negated;rw[h];show(gy _ _ _).length=_;rw[AX];simp
 unfold dF;rw[aoa];refine⟨i,amB.2 (by omega),?_⟩;unfold xH;rw[hd];simp
theorem aht{q:List aY}{f:aH}{X Y:BX}(h:aU q=true)(hp:∀s∈dF q false,∀x,X s x=true->Y s x=true)(hn:∀s∈dF q true,∀x,X s x=Y s x):
 ∀a,a<q.length->(xH q a=false->val q f X a=true->val q f Y a=true)/\(xH q a=true->val q f X a=val q f Y a):=by
 intro a
 induction a using Nat.strongRecOn with
 |_ a ih=>
  intro ha;obtain⟨k1,k2⟩:=G8 h ha;obtain⟨n1,n2⟩:=aft h ha;rw[EI q f X a,EI q f Y a];by_cases h5:(nodeAt q a).1=5
  .have hk:=k1 (.inl h5);have i1:=(ih _ hk.2 (by omega)).2 (n1 h5);rw[if_pos h5,if_pos h5,dif_pos hk.2,dif_pos hk.2,i1];exact⟨λ_=>id,λ_=>rfl⟩
  rw[if_neg h5,if_neg h5];by_cases h6:(nodeAt q a).1=6
  .have h2:iC (nodeAt q a)=true:=tJ.2 (.inl h6);have hk:=k1 (.inr h2);have hk':=k2 h2;have i1:=ih _ hk.2 (by omega);have i2:=ih _ hk'.2 (by omega);rw[(n2 h2).1]at i1;rw[(n2 h2).2]at i2;rw[if_pos h6,if_pos h6,dif_pos ⟨hk.2,hk'.2⟩,dif_pos ⟨hk.2,hk'.2⟩];refine⟨λhf hv=>?_,λht=>by rw[i1.2 ht,i2.2 ht]⟩;rw[alK]at hv ⊢;exact⟨i1.1 hf hv.1,i2.1 hf hv.2⟩
  rw[if_neg h6,if_neg h6];by_cases h7:(nodeAt q a).1=7
  .have h2:iC (nodeAt q a)=true:=tJ.2 (.inr h7);have hk:=k1 (.inr h2);have hk':=k2 h2;have i1:=ih _ hk.2 (by omega);have i2:=ih _ hk'.2 (by omega);rw[(n2 h2).1]at i1;rw[(n2 h2).2]at i2;rw[if_pos h7,if_pos h7,dif_pos ⟨hk.2,hk'.2⟩,dif_pos ⟨hk.2,hk'.2⟩];refine⟨λhf hv=>?_,λht=>by rw[i1.2 ht,i2.2 ht]⟩;rw[amN]at hv ⊢;exact hv.imp (i1.1 hf) (i2.1 hf)
  rw[if_neg h7,if_neg h7];by_cases h8:(nodeAt q a).1=8
  .have hm:=ac0 h ha (by unfold wz;simp[h8]);unfold ig;simp only[h8];refine⟨λhf hv=>?_,λht=>?_⟩
   .rw[hf]at hm;exact hp _ hm _ hv
   .rw[ht]at hm;exact hn _ hm _
  by_cases h9:(nodeAt q a).1=9
  .have hm:=ac0 h ha (by unfold wz;simp[h9]);unfold ig;simp only[h9];refine⟨λhf hv=>?_,λht=>?_⟩
   .rw[hf]at hm;have hv:(!((f.2.2.2.1==0))&&X (nodeAt q a).2.2.2.1 f.2.2.2.1)=true:=hv;rw[alK]at hv;show(!((f.2.2.2.1==0))&&Y (nodeAt q a).2.2.2.1 f.2.2.2.1)=true;rw[alK];exact⟨hv.1,hp _ hm _ hv.2⟩
   .rw[ht]at hm;show(!((f.2.2.2.1==0))&&X (nodeAt q a).2.2.2.1 f.2.2.2.1)=(!((f.2.2.2.1==0))&&Y (nodeAt q a).2.2.2.1 f.2.2.2.1);rw[hn _ hm]
  .have:ig (nodeAt q a) f X=ig (nodeAt q a) f Y:=by unfold ig;rw[alN.2 h8,alN.2 h9];rfl
   rw[this];exact⟨λ_=>id,λ_=>rfl⟩
theorem Hw{q:List aY}{f:aH}{X Y:BX}(hp:∀s∈dF q false,∀x,X s x=true->Y s x=true)(hn:∀s∈dF q true,∀x,X s x=Y s x)(hm:gZ q f X=true):gZ q f Y=true:=by unfold gZ at hm ⊢;rw[alK]at hm ⊢;have hl:=AP hm.1;exact⟨hm.1,(aht hm.1 hp hn _ (by omega)).1 (afu hm.1) hm.2⟩
theorem ZK{fs:List aH}{q:List aY}{X:BX}{x:Int}:(x,())∈sel fs q X↔∃f∈fs,f.1=x/\gZ q f X=true:=by
 unfold sel;rw[am6];constructor
 .rintro⟨f,hf,e⟩;rw[ane]at hf;exact⟨f,hf.1,congrArg Prod.fst e,hf.2⟩
 .rintro⟨f,hf,rfl,hm⟩;exact⟨f,ane.2 ⟨hf,hm⟩,rfl⟩
theorem agJ{fs:List aH}{q:List aY}{X Y:BX}(h:∀b,∀s∈dF q b,∀x,X s x=Y s x):sel fs q X=sel fs q Y:=by unfold sel;congr 1;apply aoI;intro f _;rw[amc];exact⟨Hw (λs hs x hx=>by rw[← h false s hs x];exact hx) (λs hs x=>h true s hs x),Hw (λs hs x hx=>by rw[h false s hs x];exact hx) (λs hs x=>(h true s hs x).symm)⟩
def Ja(fs:List aH)(d:List aK):Sys Bytes Int where
 T:=λs X x=>∃i,i<d.length/\(bW d i).1=s/\(x,())∈sel fs (bW d i).2.1 X
 pos:=λs t=>∃i,i<d.length/\(bW d i).1=s/\t∈dF (bW d i).2.1 false
 neg:=λs t=>∃i,i<d.length/\(bW d i).1=s/\t∈dF (bW d i).2.1 true
 mono:=λs X Y hp hn x⟨i,hi,e,hx⟩=>⟨i,hi,e,by obtain⟨f,hf,e2,hm⟩:=ZK.1 hx;exact ZK.2 ⟨f,hf,e2,Hw (λt ht=>hp t ⟨i,hi,e,ht⟩) (λt ht=>hn t ⟨i,hi,e,ht⟩) hm⟩⟩
end Sp
namespace Go.Fw
open Go
end Go.Fw
namespace Go.Fw
open Go
theorem dR{p:Prop}[Decidable p]{A B:Prop}(h:p)(a:A):cond (decide p) A B:=by rw[alP h];exact a
theorem dS{p:Prop}[Decidable p]{A B:Prop}(h:¬p)(b:B):cond (decide p) A B:=by rw[alR h];exact b
theorem iH{B:((Int×Unit)×Unit->Prop)->((Int×Unit)×Unit->Nat)->(Int×Unit)×Unit->Prop}(len:Nat)(hlen:len<=9223372036854775807)(J:Nat->Prop)(h0:J 0)
 (hstep:∀I μ(n:Nat),n<len->J n->(J (n+1)->I ((IntKind.i64.wrap ((n:Int)+1),()),())/\μ ((IntKind.i64.wrap ((n:Int)+1),()),())<μ (((n:Int),()),()))->B I μ (((n:Int),()),()))
 (hend:∀I μ,J len->B I μ (((len:Int),()),())):∃I,∃μ,I (((0:Int),()),())/\∀y,I y->B I μ y:=by
 refine⟨λy=>∃n:Nat,y.1.1=n/\n<=len/\J n,λy=>((len:Int)-y.1.1).toNat,⟨0,rfl,amm _,h0⟩,?_⟩;rintro⟨⟨_,⟨⟩⟩,⟨⟩⟩ ⟨n,rfl,hn,hJ⟩;rcases al4 n len with h|h
 .refine hstep _ _ n h hJ λhJ'=>?_;have e:IntKind.i64.wrap ((n:Int)+1)=((n+1:Nat):Int):=fU _ (by omega);rw[e];exact⟨⟨n+1,rfl,h,hJ'⟩,by show((len:Int)-(n+1:Nat)).toNat<((len:Int)-n).toNat;omega⟩
 .have:n=len:=by omega
  subst this;exact hend _ _ hJ
theorem fZ{Y S:Type}(mk:Int->S->Y)(idx:Y->Int)(hidx:∀i s,idx (mk i s)=i){B:(Y->Prop)->(Y->Nat)->Y->Prop}(len:Nat)(hlen:len<=9223372036854775807)(J:Nat->S->Prop){s0:S}(h0:J 0 s0)
 (hstep:∀I μ(n:Nat)(s:S),n<len->J n s->(∀s',J (n+1) s'->I (mk (IntKind.i64.wrap ((n:Int)+1)) s')/\μ (mk (IntKind.i64.wrap ((n:Int)+1)) s')<μ (mk n s))->B I μ (mk n s))
 (hend:∀I μ s,J len s->B I μ (mk len s)):∃I,∃μ,I (mk 0 s0)/\∀y,I y->B I μ y:=by
 refine⟨λy=>∃(n:Nat)(s:S),y=mk n s/\n<=len/\J n s,λy=>((len:Int)-idx y).toNat,⟨0,s0,rfl,amm _,h0⟩,?_⟩;rintro _ ⟨n,s,rfl,hn,hJ⟩;rcases al4 n len with h|h
 .refine hstep _ _ n s h hJ λs' hJ'=>?_;have e:IntKind.i64.wrap ((n:Int)+1)=((n+1:Nat):Int):=fU _ (by omega);rw[e];refine⟨⟨n+1,s',rfl,h,hJ'⟩,?_⟩;show((len:Int)-idx (mk (n+1:Nat) s')).toNat<((len:Int)-idx (mk n s)).toNat;rw[hidx,hidx];omega
 .have:n=len:=by omega
  subst this;exact hend _ _ s hJ
theorem x9{len:Nat}{f:Nat->Bool}{n:Nat}(hn:n<len)(h:f n=false):Sp.gu len f=false:=by unfold Sp.gu;rw[List.all_eq_false];exact⟨n,amB.2 hn,by rw[h];simp⟩
theorem kP{len:Nat}{f:Nat->Bool}(h:∀i,i<len->f i=true):Sp.gu len f=true:=by unfold Sp.gu;rw[al0];exactλi hi=>h i (amB.1 hi)
theorem JL{len:Nat}{f:Nat->Bool}:Sp.gu len f=true↔∀i,i<len->f i=true:=by unfold Sp.gu;rw[al0];exact⟨λh i hi=>h i (amB.2 hi),λh i hi=>h i (amB.1 hi)⟩
theorem dw{n:Nat}{f:Nat->Bool}(h:∀i,i<n->f i=true)(hn:f n=true):∀i,i<n+1->f i=true:=λi hi=>by
 rcases al4 i n with h'|h'
 .exact h i h'
 .have:i=n:=by omega
  rw[this];exact hn
theorem gW{b:Bool}(h:(!b)=true):b=false:=by cases b<;>first|rfl|cases h
theorem dM{b:Bool}(h:(!b)=false):b=true:=by cases b<;>first|rfl|cases h
theorem iF{p:Prop}[Decidable p](h:decide p=true):p:=am2 h
theorem iI{p:Prop}[Decidable p](h:decide p=false):¬p:=of_decide_eq_false h
theorem rO{n:Nat}(h:0<n)(hn:n<=9223372036854775807):IntKind.i64.wrap ((n:Int)-1)=((n-1:Nat):Int):=by rw[fU _ (by omega)];omega
theorem RS{α:Type}{d:α}{a b:List α}(hl:a.length=b.length)(h:∀i,i<a.length->a.getD i d=b.getD i d):a=b:=by refine anZ hl λi h1 h2=>?_;have:=h i h1;rw[alM,alM,alO h1,alO h2]at this;simpa using this
theorem KI{α β:Type}(e:α->α->Bool)(he:∀x y,e x y=false↔x=y)(d:α)(a b:List α)(t:β)(hlen:a.length<=9223372036854775807)(hl:a.length=b.length){K:Bool×Unit->Prop}(hF:a≠b->K (false,()))(hT:a=b->K (true,())):
 ∃(I:(Int×Unit)×Unit->Prop),∃(μ:(Int×Unit)×Unit->Nat),I (((0:Int),()),())/\∀(y:(Int×Unit)×Unit),I y->
  bif decide (y.fst.fst<(a.length:Int))then
   ((0:Int)<=y.fst.fst/\y.fst.fst<(a.length:Int))/\((0:Int)<=y.fst.fst/\y.fst.fst<(b.length:Int))/\
     (bif e (a.getD (Int.toNat y.fst.fst) d) (b.getD (Int.toNat y.fst.fst) d)then K (false,())
     else t=t/\I ((IntKind.i64.wrap (y.fst.fst+(1:Int)),()),())/\μ ((IntKind.i64.wrap (y.fst.fst+(1:Int)),()),())<μ y)
  else K (true,()):=by
 refine iH a.length hlen (λn=>∀i,i<n->a.getD i d=b.getD i d) (λi hi=>by omega) (λI μ n hn hJ next=>?_) λI μ hJ=>(by dsimp only;exact dS (by omega) (hT (RS hl hJ)));dsimp only;refine dR (by omega) ⟨⟨by omega,by omega⟩,⟨by omega,by omega⟩,af (λh=>hF λh'=>?_) λh=>⟨rfl,next λi hi=>?_⟩⟩
 .subst h';have:=(he (a.getD n d) (a.getD n d)).2 rfl;have h:e (a.getD n d) (a.getD n d)=true:=h;rw[this]at h;cases h
 .rcases al4 i n with h'|h'
  .exact hJ i h'
  .have:i=n:=by omega
   rw[this];exact(he _ _).1 h
theorem VG{α β:Type}(e:α->α->Bool)(he:∀x y,e x y=false↔x=y)(d:α)(a b:List α)(t:β)(hlen:a.length<=9223372036854775807)(hl:a.length=b.length){K:Bool×Unit->Prop}(hF:a≠b->K (false,()))(hT:a=b->K (true,())):
 ∃(I:(Int×Unit)×Unit->Prop),∃(μ:(Int×Unit)×Unit->Nat),I (((0:Int),()),())/\∀(y:(Int×Unit)×Unit),I y->
  bif decide (y.fst.fst<(a.length:Int))then
   ((0:Int)<=y.fst.fst/\y.fst.fst<(a.length:Int))/\((0:Int)<=y.fst.fst/\y.fst.fst<(b.length:Int))/\True/\
     (bif e (a.getD (Int.toNat y.fst.fst) d) (b.getD (Int.toNat y.fst.fst) d)then K (false,())
     else t=t/\I ((IntKind.i64.wrap (y.fst.fst+(1:Int)),()),())/\μ ((IntKind.i64.wrap (y.fst.fst+(1:Int)),()),())<μ y)
  else K (true,()):=by
 refine iH a.length hlen (λn=>∀i,i<n->a.getD i d=b.getD i d) (λi hi=>by omega) (λI μ n hn hJ next=>?_) λI μ hJ=>(by dsimp only;exact dS (by omega) (hT (RS hl hJ)));dsimp only;refine dR (by omega) ⟨⟨by omega,by omega⟩,⟨by omega,by omega⟩,trivial,af (λh=>hF λh'=>?_) λh=>⟨rfl,next λi hi=>?_⟩⟩
 .subst h';have:=(he (a.getD n d) (a.getD n d)).2 rfl;have h:e (a.getD n d) (a.getD n d)=true:=h;rw[this]at h;cases h
 .rcases al4 i n with h'|h'
  .exact hJ i h'
  .have:i=n:=by omega
   rw[this];exact(he _ _).1 h
end Go.Fw
namespace Sp
open Go Go.Fw
theorem IV{name:Bytes}:∀(s:List bV)(n:Nat),n<s.length->(∀i,i<n->(s.getD i ([],0,())).1≠name)->(s.getD n ([],0,())).1=name->kindOf s name=(s.getD n ([],0,())).2.1
 |[],n,h,_,_=>by simp at h
 |f::r,0,_,_,he=>by
  have he:f.1=name:=he;show(bif decide (f.1=name)then f.2.1 else kindOf r name)=f.2.1;rw[alP he];rfl
 |f::r,n+1,h,hne,he=>by have h0:f.1≠name:=hne 0 (by omega);show(bif decide (f.1=name)then f.2.1 else kindOf r name)=_;rw[alR h0];exact IV r n (by simpa using h) (λi hi=>hne (i+1) (by omega)) he
theorem Eg{name:Bytes}:∀(s:List bV),(∀i,i<s.length->(s.getD i ([],0,())).1≠name)->kindOf s name=0
 |[],_=>rfl
 |f::r,hne=>by have h0:f.1≠name:=hne 0 (by simp);show(bif decide (f.1=name)then f.2.1 else kindOf r name)=_;rw[alR h0];exact Eg r λi hi=>hne (i+1) (by simp;omega)
theorem RU{id:Int}:∀(s:List aH)(k:Int)(n:Nat),n<s.length->(∀i,i<n->(fileAt s i).1≠id)->(fileAt s n).1=id->wL k s id=k+n
 |[],_,n,h,_,_=>by simp at h
 |f::r,k,0,_,_,he=>by
  have he:f.1=id:=he;show(bif decide (f.1=id)then k else wL (k+1) r id)=_;rw[alP he];simp
 |f::r,k,n+1,h,hne,he=>by have h0:f.1≠id:=hne 0 (by omega);show(bif decide (f.1=id)then k else wL (k+1) r id)=_;rw[alR h0];show wL (k+1) r id=_;rw[RU r (k+1) n (by simpa using h) (λi hi=>hne (i+1) (by omega)) he];omega
theorem Lm{id:Int}:∀(s:List aH)(k:Int),(∀i,i<s.length->(fileAt s i).1≠id)->wL k s id=-1
 |[],_,_=>rfl
 |f::r,k,hne=>by have h0:f.1≠id:=hne 0 (by simp);show(bif decide (f.1=id)then k else wL (k+1) r id)=_;rw[alR h0];exact Lm r (k+1) λi hi=>hne (i+1) (by simp;omega)
theorem NS{id:Int}{s:List aH}{n:Nat}(h:n<s.length)(hne:∀i,i<n->(fileAt s i).1≠id)(he:(fileAt s n).1=id):place s id=n:=by unfold place;rw[RU s 0 n h hne he];omega
theorem afv{id:Int}{s:List aH}(hne:∀i,i<s.length->(fileAt s i).1≠id):place s id=-1:=Lm s 0 hne
theorem UW(s:List aH)(id:Int):(place s id=-1/\∀i,i<s.length->(fileAt s i).1≠id)\/∃n,n<s.length/\place s id=n/\(fileAt s n).1=id/\∀i,i<n->(fileAt s i).1≠id:=by
 by_cases h:∃n,n<s.length/\(fileAt s n).1=id
 .obtain⟨n,h1,h2,h3⟩:=(least s.length (p:=λn=>(fileAt s n).1=id) h);exact .inr ⟨n,h1,NS h1 (λi hi=>h3 i hi) h2,h2,λi hi=>h3 i hi⟩
 .have hne:∀i,i<s.length->(fileAt s i).1≠id:=λi hi e=>h ⟨i,hi,e⟩;exact .inl ⟨afv hne,hne⟩
theorem UH{s:List bV}{n:Nat}(h:n<s.length)(hn:iy s n=false):bK s=false:=by unfold bK;rw[x9 h hn];rfl
theorem afw{fs:List bV}{s:List aW}{n:Nat}(h:n<s.length)(hn:iM fs s n=false):kJ fs s=false:=x9 h hn
theorem aas{fs:List bV}{f:aH}{n:Nat}(h:n<f.2.2.2.2.1.length)(hn:iM fs f.2.2.2.2.1 n=false):bU fs f=false:=by unfold bU;rw[afw h hn];rfl
theorem XM{s:bF}{n:Nat}(h:n<s.2.1.length)(hn:ja s n=false):aB s=false:=by unfold aB;rw[x9 h hn];rfl
theorem wu{s:bF}{i:Nat}:ja s i=true↔bU s.1 (fileAt s.2.1 i)=true/\(fileAt s.2.1 i).1<s.2.2.1/\(0<i->(fileAt s.2.1 (i-1)).1<(fileAt s.2.1 i).1):=by
 unfold ja;rw[alK,alK,alX,and_assoc];refine anx λ_=>anx λ_=>?_;by_cases h:0<i
 .simp[h]
 .simp[h]
theorem lW{s:bF}:aB s=true↔(∀i,i<s.2.1.length->ja s i=true)/\bK s.1=true/\s.2.1.length<=12/\1<=s.2.2.1/\s.2.2.1<=61:=by
 unfold aB;rw[alK,alK,alK,alK,alX,alX,alX,JL];constructor
 .rintro⟨⟨⟨h1,h2⟩,h3⟩,h4,h5⟩;exact⟨h1,h2,by omega,h4,h5⟩
 .rintro⟨h1,h2,h3,h4,h5⟩;exact⟨⟨⟨h1,h2⟩,by omega⟩,h4,h5⟩
theorem qM(s:bF)(f:aH):(dZ s f=(s,0,false)/\¬(aB s=true/\s.2.1.length<12/\bU s.1 (s.2.2.1,f.2)=true))\/
 (aB s=true/\s.2.1.length<12/\bU s.1 (s.2.2.1,f.2)=true/\dZ s f=((s.1,s.2.1++[(s.2.2.1,f.2)],s.2.2.1+1,()),s.2.2.1,true)):=by
 by_cases h:aB s=true/\s.2.1.length<12/\bU s.1 (s.2.2.1,f.2)=true
 .right;refine⟨h.1,h.2.1,h.2.2,?_⟩;unfold dZ;dsimp only;rw[h.1,h.2.2,alP (by omega)];rfl
 .left;refine⟨?_,h⟩;have:(aB s&&decide ((s.2.1.length:Int)<12)&&bU s.1 (s.2.2.1,f.2))=false:=by
   cases hb:(aB s&&decide ((s.2.1.length:Int)<12)&&bU s.1 (s.2.2.1,f.2))with
   |false=>rfl
   |true=>simp only[alK,alX]at hb;exact(h ⟨hb.1.1,by omega,hb.2⟩).elim
  unfold dZ;dsimp only;rw[this];rfl
theorem Gf{s:List aH}{f:aH}(h:f∈s):∃i,i<s.length/\fileAt s i=f:=by obtain⟨i,hi,rfl⟩:=amx h;refine⟨i,hi,?_⟩;unfold fileAt;rw[alM,alO hi];rfl
theorem Dt{s:List aH}{i:Nat}(h:i<s.length):fileAt s i∈s:=getD_mem h
theorem agK(s:List aH)(id:Int):place s id<0↔∀f∈s,f.1≠id:=by
 rcases UW s id with⟨h,h2⟩|⟨n,hn,h,h2,_⟩
 .refine⟨λ_ f hf=>?_,λ_=>by omega⟩;obtain⟨i,hi,rfl⟩:=Gf hf;exact h2 i hi
 .refine⟨λh'=>by omega,λh'=>(h' _ (Dt hn) h2).elim⟩
theorem RV(s:bF)(id:Int):(lD s id).2=!decide (place s.2.1 id<0):=by unfold lD;cases decide (place s.2.1 id<0)<;>rfl
theorem ZL(s:bF)(id:Int):(lD s id).2=true↔∃f∈s.2.1,f.1=id:=by
 rw[RV,anS,amy,agK];constructor
 .intro h;refine amo λhno=>h λf hf e=>hno ⟨f,hf,e⟩
 .rintro⟨f,hf,e⟩ h;exact h f hf e
theorem YJ{s:bF}(h:aB s=true):∀(j i:Nat),i<j->j<s.2.1.length->(fileAt s.2.1 i).1<(fileAt s.2.1 j).1
 |0,i,hi,_=>by omega
 |j+1,i,hi,hj=>by
  have h1:=(wu.1 ((lW.1 h).1 (j+1) hj)).2.2 (by omega);rw[aoy]at h1;rcases al4 i j with h2|h2
  .have:=YJ h j i h2 (by omega);omega
  .have:i=j:=by omega
   rw[this];exact h1
theorem aee{s:bF}(h:aB s=true){f g:aH}(hf:f∈s.2.1)(hg:g∈s.2.1)(e:f.1=g.1):f=g:=by
 obtain⟨i,hi,rfl⟩:=Gf hf;obtain⟨j,hj,rfl⟩:=Gf hg;rcases anU i j with h1|h1|h1
 .have:=YJ h j i h1 hj;omega
 .rw[h1]
 .have:=YJ h i j h1 hi;omega
theorem G5{α:Type}{p:α->Bool}{d:α}:∀(l:List α)(n:Nat),n<=l.length->(∀i,i<n->p (l.getD i d)=true)->(n<l.length->p (l.getD n d)=false)->l.takeWhile p=l.take n/\l.dropWhile p=l.drop n
 |[],n,h,_,_=>by simp
 |x::r,0,_,_,h=>by
  have h:p x=false:=h (by simp);constructor<;>simp[h]
 |x::r,n+1,hn,h1,h2=>by have h0:p x=true:=h1 0 (by omega);have:=G5 r n (by simpa using hn) (λi hi=>h1 (i+1) (by omega)) λhlt=>h2 (by simpa using hlt);constructor<;>simp[h0,this.1,this.2]
theorem adL{s:bF}{id:Int}(h:(lD s id).2=true):(lD s id).1∈s.2.1/\(lD s id).1.1=id:=by
 rw[RV,anS,amy]at h;rcases UW s.2.1 id with⟨h',_⟩|⟨n,hn,h',h2,_⟩
 .omega
 .have e:(lD s id).1=fileAt s.2.1 n:=by unfold lD;rw[alR h,h',amd];rfl
  rw[e];exact⟨Dt hn,h2⟩
theorem ac1{s:bF}{f:aH}(h:aB s=true)(hf:f∈s.2.1):lD s f.1=(f,true):=by have h2:(lD s f.1).2=true:=(ZL s f.1).2 ⟨f,hf,rfl⟩;obtain⟨h3,h4⟩:=adL h2;exact aow (aee h h3 hf h4) h2
end Sp
namespace Sp
open Go Go.Fw
theorem UX{α:Type}{p:α->Bool}{d:α}:∀(s:List α)(k:Int)(n:Nat),n<s.length->(∀i,i<n->p (s.getD i d)=false)->p (s.getD n d)=true->zy p k s=k+n
 |[],_,n,h,_,_=>by simp at h
 |f::r,k,0,_,_,he=>by
  have he:p f=true:=he;show(bif p f then k else zy p (k+1) r)=_;rw[he];simp
 |f::r,k,n+1,h,hne,he=>by have h0:p f=false:=hne 0 (by omega);show(bif p f then k else zy p (k+1) r)=_;rw[h0];show zy p (k+1) r=_;rw[UX r (k+1) n (by simpa using h) (λi hi=>hne (i+1) (by omega)) he];omega
theorem Oo{α:Type}{p:α->Bool}{d:α}:∀(s:List α)(k:Int),(∀i,i<s.length->p (s.getD i d)=false)->zy p k s=-1
 |[],_,_=>rfl
 |f::r,k,hne=>by have h0:p f=false:=hne 0 (by simp);show(bif p f then k else zy p (k+1) r)=_;rw[h0];exact Oo r (k+1) λi hi=>hne (i+1) (by simp;omega)
theorem aaG{α:Type}{p:α->Bool}{d:α}{s:List α}{n:Nat}(h:n<s.length)(hne:∀i,i<n->p (s.getD i d)=false)(he:p (s.getD n d)=true):findAt p s=n:=by unfold findAt;rw[UX s 0 n h hne he];omega
theorem UY{α:Type}{p:α->Bool}{d:α}{s:List α}(hne:∀i,i<s.length->p (s.getD i d)=false):findAt p s=-1:=Oo s 0 hne
theorem Dp{α:Type}(p:α->Bool)(d:α)(s:List α):(findAt p s=-1/\∀i,i<s.length->p (s.getD i d)=false)\/∃n,n<s.length/\findAt p s=n/\p (s.getD n d)=true/\∀i,i<n->p (s.getD i d)=false:=by
 by_cases h:∃n,n<s.length/\p (s.getD n d)=true
 .obtain⟨n,h1,h2,h3⟩:=least s.length (p:=λn=>p (s.getD n d)=true) h;have h3:∀i,i<n->p (s.getD i d)=false:=λi hi=>by simpa using h3 i hi
  exact .inr ⟨n,h1,aaG h1 h3 h2,h2,h3⟩
 .have hne:∀i,i<s.length->p (s.getD i d)=false:=λi hi=>by
   cases hp:p (s.getD i d)with
   |false=>rfl
   |true=>exact(h ⟨i,hi,hp⟩).elim
  exact .inl ⟨UY hne,hne⟩
theorem Ej:∀a:Bytes,Op.bytesLess a a=false
 |[]=>rfl
 |x::a=>by show(decide (x<x)||(x==x&&Op.bytesLess a a))=false;rw[Ej a,alR (UInt8.lt_irrefl x),amP];rfl
theorem Np:∀a b:Bytes,Op.bytesLess a b=false->a≠b->Op.bytesLess b a=true
 |[],[],_,h=>(h rfl).elim
 |x::a,[],_,_=>rfl
 |[],y::b,h,_=>by cases h
 |x::a,y::b,h,hne=>by
  have h:(decide (x<y)||(x==y&&Op.bytesLess a b))=false:=h;show(decide (y<x)||(y==x&&Op.bytesLess b a))=true;rw[anc,amy]at h;by_cases e:x=y
  .subst e;have h2:Op.bytesLess a b=false:=by simpa using h.2
   rw[Np a b h2 (λe=>hne (by rw[e]))];simp
  .have:y<x:=by have h1:¬x.toNat<y.toNat:=λhh=>h.1 (aok.2 hh);have h2:x.toNat≠y.toNat:=λhh=>e (UInt8.toNat_inj.1 hh);exact aok.2 (by omega)
   rw[alP this];rfl
theorem agL{x y:UInt8}{a b:Bytes}:Op.bytesLess (x::a) (y::b)=true↔x.toNat<y.toNat\/(x=y/\Op.bytesLess a b=true):=by show(decide (x<y)||(x==y&&Op.bytesLess a b))=true↔_;rw[amN,alX,alK,alT,aok]
theorem zT:∀a b c:Bytes,Op.bytesLess a b=true->Op.bytesLess b c=true->Op.bytesLess a c=true
 |_,[],_,h,_=>by cases h':(‹Bytes›:Bytes)<;>simp_all [Op.bytesLess]
 |_,_::_,[],_,h=>by cases h
 |[],_::_,_::_,_,_=>rfl
 |x::a,y::b,z::c,h1,h2=>by
  rw[agL]at h1 h2 ⊢;rcases h1 with h1|⟨rfl,h1⟩
  .rcases h2 with h2|⟨rfl,h2⟩
   .exact .inl (by omega)
   .exact .inl h1
  .rcases h2 with h2|⟨rfl,h2⟩
   .exact .inl h2
   .exact .inr ⟨rfl,zT a b c h1 h2⟩
theorem KX{a b:Bytes}(h:Op.bytesLess a b=true):a≠b:=λe=>by rw[e,Ej]at h;cases h
theorem afx{a b:Bytes}(h:Op.bytesLess a b=true):Op.bytesLess b a=false:=by
 cases hb:Op.bytesLess b a with
 |false=>rfl
 |true=>have:=zT a b a h hb;rw[Ej]at this;cases this
theorem Wh(a b:Bytes):(!(Op.bytesLess a b||a==b))=Op.bytesLess b a:=by
 cases h:Op.bytesLess a b with
 |true=>rw[afx h];rfl
 |false=>
  by_cases e:a=b
  .subst e;rw[Ej];simp
  .rw[Np a b h e];simp[e]
theorem Hy{s:List bV}:bK s=true↔(∀i,i<s.length->iy s i=true)/\s.length<=5:=by unfold bK;rw[alK,JL,alX];exact anx λ_=>by omega
theorem EU{s:List bV}{i:Nat}:iy s i=true↔iq (fieldAt s i).1=true/\(1<=(fieldAt s i).2.1/\(fieldAt s i).2.1<=2)/\(0<i->Op.bytesLess (fieldAt s (i-1)).1 (fieldAt s i).1=true):=by
 unfold iy;rw[alK,alK,alK,alX,alX,and_assoc];refine anx λ_=>anx λ_=>?_;by_cases h:0<i
 .simp[h]
 .simp[h]
theorem ahu{s:List bV}{name:Bytes}(h:bK s=true):(decide (kindOf s name=0))=decide (fieldPlace s name<0):=by
 rcases Dp (λf:bV=>f.1==name) ([],0,()) s with⟨e,hn⟩|⟨n,hn,e,he,hne⟩
 .have e:fieldPlace s name=-1:=e;rw[e,Eg s λi hi=>by simpa using hn i hi];rfl
 .have e:fieldPlace s name=n:=e;have k:=(EU.1 ((Hy.1 h).1 n hn)).2.1;unfold fieldAt at k;rw[e,IV s n hn (λi hi=>by simpa using hne i hi) (by simpa using he),alR (by omega),alR (by omega)]
end Sp
namespace Sp
open Go
def nameOf(d:List aK)(i:Nat):Bytes:=(bW d i).1
def eP(d:List aK)(i:Nat):List aY:=(bW d i).2.1
def nT(r:List bP)(i:Nat):bP:=r.getD i ([],[],())
def fQ(r:List bP)(i:Nat):List (Int×Unit):=(nT r i).2.1
def jI(d:List aK)(ak:List (Int×Unit)):Prop:=
 ak.length=d.length/\(∀i,i<d.length->0<=lv ak i/\lv ak i<=d.length)/\(gq (bY d) λi=>(lv ak i).toNat)/\∀M,gq (bY d) M->∀i,i<d.length->lv ak i<=M i
theorem Q7{d:List aK}{a b:List (Int×Unit)}(h1:jI d a)(h2:jI d b):a=b:=by
 refine agx (h1.1.trans h2.1.symm) λi hi=>?_;have hi:i<d.length:=by rw[← h1.1];exact hi
 have a1:=h1.2.2.2 _ h2.2.2.1 i hi;have a2:=h2.2.2.2 _ h1.2.2.1 i hi;have:=(h1.2.1 i hi).1;have:=(h2.2.1 i hi).1;omega
theorem afb{d:List aK}(h:∃M,gq (bY d) M/\∀i,i<d.length->M i<d.length):∃s,jI d s:=by
 have hE:=jf d;have hmin:∀i,∃m,(∃M,gq (bY d) M/\M i=m)/\∀M,gq (bY d) M->m<=M i:=λi=>by
  obtain⟨M0,h0,_⟩:=h;have:∀n,(∃M,gq (bY d) M/\M i=n)->∃m,(∃M,gq (bY d) M/\M i=m)/\∀M,gq (bY d) M->m<=M i:=by
   intro n
   induction n using Nat.strongRecOn with
   |_ n ih=>
    intro hn;by_cases hl:∃M,gq (bY d) M/\M i<n
    .obtain⟨M,h1,h2⟩:=hl;exact ih _ h2 ⟨M,h1,rfl⟩
    .exact⟨n,hn,λM hM=>Nat.le_of_not_lt λhlt=>hl ⟨M,hM,hlt⟩⟩
  exact this (M0 i) ⟨M0,h0,rfl⟩
 obtain⟨L,hL⟩:=Classical.axiomOfChoice hmin;have hfix:gq (bY d) L:=λe he=>by obtain⟨⟨M,h1,h2⟩,_⟩:=hL e.1;have a:=(hL e.2.1).2 M h1;have b:=h1 e he;rw[← h2];omega
 have hlv:∀i,i<d.length->lv ((List.range d.length).map λi=>((L i:Int),())) i=L i:=λi hi=>by unfold lv;rw[alM,amR,List.getElem?_range hi];rfl
 refine⟨(List.range d.length).map λi=>((L i:Int),()),by simp,λi hi=>?_,λe he=>?_,λM hM i hi=>?_⟩
 .rw[hlv i hi];obtain⟨M,h1,h2⟩:=h;have:=(hL i).2 M h1;have:=h2 i hi;omega
 .obtain⟨h1,h2,_⟩:=hE e he;have:=hfix e he;dsimp only;rw[hlv _ h1,hlv _ h2];omega
 .rw[hlv i hi];have:=(hL i).2 M hM;omega
def EW(d:List aK)(ak:List (Int×Unit))(s:Bytes):Nat:=(lv ak (aF d s).toNat).toNat
def due(d:List aK)(nm:Bytes->Bool)(s:Bytes):Prop:=nm s=true/\∃i,i<d.length/\nameOf d i=s
theorem agM{d:List aK}(h:eF d=true){i:Nat}(hi:i<d.length):aU (eP d i)=true/\(0<i->Op.bytesLess (nameOf d (i-1)) (nameOf d i)=true):=by
 unfold eF at h;rw[alK]at h;have h1:jQ d i=true:=by have:=h.1;unfold gu at this;exact al0.1 this i (amB.2 hi)
 unfold jQ at h1;rw[alK,alK]at h1;refine⟨h1.1.2,λh0=>?_⟩;have:=h1.2;rw[alP h0]at this;simpa[nameOf]using this
theorem ZM{d:List aK}(h:eF d=true):∀(j i:Nat),i<j->j<d.length->Op.bytesLess (nameOf d i) (nameOf d j)=true
 |0,i,hi,_=>by omega
 |j+1,i,hi,hj=>by
  have h1:=(agM h hj).2 (by omega);rcases al4 i j with h2|h2
  .exact zT _ _ _ (ZM h j i h2 (by omega)) h1
  .have:i=j:=by omega
   subst this;exact h1
theorem WE{d:List aK}(h:eF d=true){i j:Nat}(hi:i<d.length)(hj:j<d.length)(e:nameOf d i=nameOf d j):i=j:=by
 rcases anU i j with h1|h1|h1
 .exact(KX (ZM h j i h1 hj) e).elim
 .exact h1
 .exact(KX (ZM h i j h1 hi) e.symm).elim
theorem NV{d:List aK}(h:eF d=true){i:Nat}(hi:i<d.length):aF d (nameOf d i)=i:=by
 rcases zU d (nameOf d i)with⟨_,h2⟩|⟨n,h1,h2,h3,_⟩
 .refine(h2 (bW d i) ?_ rfl).elim;unfold bW;rw[alM,alO hi];exact am0 hi
 .rw[h2,WE h h1 hi h3]
theorem uj{d:List aK}(h:eF d=true){ak:List (Int×Unit)}{i:Nat}(hi:i<d.length):EW d ak (nameOf d i)=(lv ak i).toNat:=by unfold EW;rw[NV h hi];rfl
theorem WG{fs:List aH}{d:List aK}(h:eF d=true){ak:List (Int×Unit)}(hl:jI d ak)(nm:Bytes->Bool):abm (Ja fs d) (due d nm) (EW d ak):=by
 intro s t _ ht;obtain⟨_,j,hj,rfl⟩:=ht;have edge:∀i,i<d.length->∀m b,(m=0/\b=false\/m=1/\b=true)->nameOf d j∈dF (eP d i) b->(lv ak j).toNat+m<=(lv ak i).toNat:=λi hi m b hm hd=>by
  refine hl.2.2.1 (i,j,m) (wJ.2 ⟨hi,nameOf d j,?_,by rw[NV h hj];omega,by rw[NV h hj];rfl⟩);rcases hm with⟨a,b⟩|⟨a,b⟩
  .subst a b;exact .inl ⟨rfl,hd⟩
  .subst a b;exact .inr ⟨rfl,hd⟩
 refine⟨?_,?_⟩
 .rintro⟨i,hi,rfl,hd⟩;rw[show(bW d i).1=nameOf d i from rfl,uj h hi,uj h hj];exact edge i hi 0 false (.inl ⟨rfl,rfl⟩) hd
 .rintro⟨i,hi,rfl,hd⟩;rw[show(bW d i).1=nameOf d i from rfl,uj h hi,uj h hj];exact edge i hi 1 true (.inr ⟨rfl,rfl⟩) hd
def qh(d:List aK)(out:List bP):Prop:=out.length=d.length/\∀i,i<d.length->(nT out i).1=nameOf d i
theorem Eh:∀{r:List bP}{s:Bytes},(∀i,i<r.length->(nT r i).1≠s)->dn r s=[]
 |[],_,_=>rfl
 |x::r,s,h=>by have h0:x.1≠s:=h 0 (by simp);rw[dn,alN.2 h0];exact Eh λi hi=>h (i+1) (by simpa using hi)
theorem QU:∀{r:List bP}{i:Nat},i<r.length->(∀j,j<i->(nT r j).1≠(nT r i).1)->dn r (nT r i).1=fQ r i
 |[],i,h,_=>by simp at h
 |x::r,0,_,_=>by
  show dn (x::r) x.1=x.2.1;rw[dn,alT.2 rfl];rfl
 |x::r,i+1,h,hn=>by have h0:x.1≠(nT r i).1:=hn 0 (by omega);show dn (x::r) (nT r i).1=fQ r i;rw[dn,alN.2 h0];exact QU (by simpa using h) λj hj=>hn (j+1) (by omega)
theorem xI{d:List aK}(h:eF d=true){out:List bP}(ho:qh d out){i:Nat}(hi:i<d.length):dn out (nameOf d i)=fQ out i:=by rw[← ho.2 i hi];refine QU (by rw[ho.1];exact hi) λj hj e=>?_;rw[ho.2 j (by omega),ho.2 i hi]at e;have:=WE h (by omega) hi e;omega
theorem Jb{d:List aK}{out:List bP}(ho:qh d out){s:Bytes}(hs:∀i,i<d.length->nameOf d i≠s):dn out s=[]:=
 Eh λi hi=>by rw[ho.1]at hi;rw[ho.2 i hi];exact hs i hi
structure fK(fs:List aH)(d:List aK)(r:List bP)(nm:Bytes->Bool)(out:List bP):Prop where
 order:qh d out
 kept:∀i,i<d.length->nm (nameOf d i)=false->fQ out i=dn r (nameOf d i)
 fix:∀i,i<d.length->nm (nameOf d i)=true->fQ out i=sel fs (eP d i) (aT out)
 ak:∃ak,jI d ak/\Eval (Ja fs d) (due d nm) (EW d ak) (aT out)
theorem SS{a b:List (Int×Unit)}(h:a=b)(x:Int):fF a x=fF b x:=by rw[h]
theorem aix{d:List aK}{a b:List bP}(ha:qh d a)(hb:qh d b)(h:∀i,i<d.length->fQ a i=fQ b i):a=b:=by
 refine anZ (ha.1.trans hb.1.symm) λi h1 h2=>?_;have hi:i<d.length:=by rw[← ha.1];exact h1
 have e1:=ha.2 i hi;have e2:=hb.2 i hi;have e3:=h i hi;unfold fQ at e3;unfold nT at e1 e2 e3;rw[alM,alO h1]at e1 e3;rw[alM,alO h2]at e2 e3;simp only[aog]at e1 e2 e3;exact aow (e1.trans e2.symm) (aow e3 rfl)
theorem Dj{fs:List aH}{d:List aK}{r:List bP}{nm:Bytes->Bool}{a b:List bP}(h:eF d=true)(ha:fK fs d r nm a)(hb:fK fs d r nm b):a=b:=by
 obtain⟨l1,hl1,e1⟩:=ha.ak;obtain⟨l2,hl2,e2⟩:=hb.ak;have off:∀s,¬due d nm s->∀x,aT a s x=aT b s x:=λs hs x=>by
  by_cases hd:∃i,i<d.length/\nameOf d i=s
  .obtain⟨i,hi,rfl⟩:=hd;have hn:nm (nameOf d i)=false:=by rw[anA];exactλhn=>hs ⟨hn,i,hi,rfl⟩
   exact SS (by rw[xI h ha.order hi,xI h hb.order hi,ha.kept i hi hn,hb.kept i hi hn]) x
  .have hd':∀i,i<d.length->nameOf d i≠s:=λi hi e=>hd ⟨i,hi,e⟩;exact SS (by rw[Jb ha.order hd',Jb hb.order hd']) x
 have key:=adJ (U:=due d nm) e1 e2 (WG h hl1 nm) (WG h hl2 nm) (λ_ h=>h) (λ_ h=>h) (λ_ _ _ _=>Iff.rfl) (λ_ _ _ h=>h) (λ_ _ _ h=>h)
  λi _ j _=>Classical.or_iff_not_imp_left.2 (off j)
 have all:aT a=aT b:=by
  funext s x
  by_cases hs:due d nm s
  .exact key s hs x
  .exact off s hs x
 refine aix ha.order hb.order λi hi=>?_;cases hn:nm (nameOf d i)with
 |false=>rw[ha.kept i hi hn,hb.kept i hi hn]
 |true=>rw[ha.fix i hi hn,hb.fix i hi hn,all]
def SX{ι α:Type}(S:Sys ι α)(N:ι->Prop)(ak:ι->Nat)(k:Nat)(X:Ext ι α):Prop:=
 ∀Y:Ext ι α,(∀i,¬(N i/\ak i=k)->∀x,Y i x=X i x)->(∀i,N i->ak i=k->∀x,S.T i Y x->Y i x=true)->∀i,N i->ak i=k->∀x,X i x=true->Y i x=true
open Classical in
theorem ZN{ι α:Type}{S:Sys ι α}{N:ι->Prop}{ak:ι->Nat}(hs:abm S N ak){m:Nat}{X X':Ext ι α}(h:∀i,¬(N i/\m<ak i)->∀x,X i x=X' i x)(hX:SX S N ak m X):SX S N ak m X':=by
 intro Y hY hp i hi hl x hx;have key:=hX (λi x=>if N i/\m<ak i then X i x else Y i x) (λj hj y=>?_) (λj hj hlj y hy=>?_) i hi hl x (by rw[h i (by omega)];exact hx)
 .rw[if_neg (by omega)]at key;exact key
 .by_cases hc:N j/\m<ak j
  .rw[if_pos hc]
  .rw[if_neg hc,hY j hj,h j hc]
 .rw[if_neg (by omega)];have same:∀t,(S.pos j t\/S.neg j t)->¬(N t/\m<ak t):=λt ht hc=>by
   rcases ht with ht|ht
   .have:=(hs j t hj hc.1).1 ht;omega
   .have:=(hs j t hj hc.1).2 ht;omega
  refine hp j hj hlj y (S.mono j _ Y (λt ht z hz=>?_) (λt ht z=>?_) y hy)
  .rw[if_neg (same t (.inl ht))]at hz;exact hz
  .rw[if_neg (same t (.inr ht))]
def canon(fs:List aH)(l:List (Int×Unit)):Prop:=l=(fs.filter λf=>fF l f.1).map λf=>(f.1,())
def distinct(fs:List aH):Prop:=∀f∈fs,∀g∈fs,f.1=g.1->f=g
theorem agN{fs:List aH}(hd:distinct fs)(q:List aY)(X:BX):canon fs (sel fs q X):=by
 show _=List.map _ (List.filter _ _)
 conv=>lhs;unfold sel
 congr 1;apply aoI;intro f hf;rw[amc,BN,ZK];exact⟨λh=>⟨f,hf,rfl,h⟩,λ⟨g,hg,e,hm⟩=>by rw[hd f hf g hg e.symm];exact hm⟩
theorem aaH{fs:List aH}{l:List (Int×Unit)}(h:canon fs l):l.length<=fs.length:=by rw[h,alV];exact amO _ _
theorem filter_lt{α:Type}{p q:α->Bool}(h:∀x,p x=true->q x=true):∀{l:List α},(∃x∈l,q x=true/\p x=false)->(l.filter p).length<(l.filter q).length
 |[],h'=>by obtain⟨x,hx,_⟩:=h';cases hx
 |y::r,h'=>by
  have le:(r.filter p).length<=(r.filter q).length:=by
   clear h'
   induction r with
   |nil=>exact alY _
   |cons z t ih=>
    cases hp:p z with
    |true=>rw[amJ hp,amJ (h z hp)];simpa using ih
    |false=>
     rw[amK (by simp[hp])];cases hq:q z with
     |true=>rw[amJ hq];exact Nat.le_succ_of_le ih
     |false=>rw[amK (by simp[hq])];exact ih
  obtain⟨x,hx,hq,hp⟩:=h';rcases ame.1 hx with rfl|hx
  .rw[amJ hq,amK (by simp[hp])];exact Nat.lt_succ_of_le le
  .have ih:=filter_lt h ⟨x,hx,hq,hp⟩;cases hp':p y with
   |true=>rw[amJ hp',amJ (h y hp')];simpa using ih
   |false=>
    rw[amK (by simp[hp'])];cases hq':q y with
    |true=>rw[amJ hq'];exact anB ih
    |false=>rw[amK (by simp[hq'])];exact ih
theorem afy{fs:List aH}{a b:List (Int×Unit)}(ha:canon fs a)(hb:canon fs b)(h:∀x,fF a x=true->fF b x=true)(hne:b≠a):a.length<b.length:=by
 rw[ha,hb,alV,alV];refine filter_lt (p:=λf:aH=>fF a f.1) (q:=λf:aH=>fF b f.1) (λf=>h f.1) (amo λhno=>hne ?_);rw[ha,hb];congr 1;apply aoI;intro f hf;cases hb':fF b f.1 with
 |false=>
  cases ha':fF a f.1 with
  |false=>rfl
  |true=>rw[h _ ha']at hb';cases hb'
 |true=>
  cases ha':fF a f.1 with
  |true=>rfl
  |false=>exact(hno ⟨f,hf,hb',ha'⟩).elim
structure mO(fs:List aH)(d:List aK)(r:List bP)(nm:Bytes->Bool)(ak:List (Int×Unit))(k:Nat)(out:List bP):Prop where
 order:qh d out
 kept:∀i,i<d.length->nm (nameOf d i)=false->fQ out i=dn r (nameOf d i)
 later:∀i,i<d.length->nm (nameOf d i)=true->(k:Int)<lv ak i->fQ out i=[]
 done:∀i,i<d.length->nm (nameOf d i)=true->lv ak i<k->fQ out i=sel fs (eP d i) (aT out)
 RX:∀m,m<k->SX (Ja fs d) (due d nm) (EW d ak) m (aT out)
 ac2:∀i,i<d.length->nm (nameOf d i)=true->lv ak i=k->∀x,fF (fQ out i) x=true->(x,())∈sel fs (eP d i) (aT out)
 least:SX (Ja fs d) (due d nm) (EW d ak) k (aT out)
 canon:∀i,i<d.length->nm (nameOf d i)=true->canon fs (fQ out i)
theorem ahv{fs:List aH}{d:List aK}{r:List bP}{nm:Bytes->Bool}{ak:List (Int×Unit)}(h:eF d=true)(hl:jI d ak){out:List bP}(ho:qh d out)
 (h1:∀i,i<d.length->nm (nameOf d i)=false->fQ out i=dn r (nameOf d i)) (h2:∀i,i<d.length->nm (nameOf d i)=true->fQ out i=[]):mO fs d r nm ak 0 out where
 order:=ho
 kept:=h1
 later:=λi hi hn _=>h2 i hi hn
 done:=λi hi _ hlt=>by have:=(hl.2.1 i hi).1;omega
 RX:=λm hm=>by omega
 ac2:=λi hi hn _ x hx=>by rw[h2 i hi hn]at hx;cases hx
 least:=λY _ _ s hs _ x hx=>by obtain⟨hn,i,hi,rfl⟩:=hs;have hx:fF (dn out (nameOf d i)) x=true:=hx;rw[xI h ho hi,h2 i hi hn]at hx;cases hx
 canon:=λi hi hn=>by rw[h2 i hi hn];show[]=List.map _ (List.filter _ _);rw[List.filter_eq_nil_iff.2 (λf _=>by simp[fF])];rfl
theorem Jc{out:List bP}{i j:Nat}{x:bP}(hi:i<out.length):nT (out.set i x) j=if j=i then x else nT out j:=by
 unfold nT;rw[alM,anT];by_cases h:j=i
 .subst h;rw[if_pos rfl,if_pos hi,if_pos rfl];rfl
 .rw[if_neg (λe=>h e.symm),if_neg h,← alM]
theorem aaI{d:List aK}{out:List bP}(ho:qh d out){i:Nat}(hi:i<d.length)(l:List (Int×Unit)):qh d (out.set i (nameOf d i,l,())):=by
 refine⟨by rw[amX];exact ho.1,λj hj=>?_⟩;rw[Jc (by rw[ho.1];exact hi)];split
 .next e=>rw[e]
 .exact ho.2 j hj
theorem agO{d:List aK}(h:eF d=true){out:List bP}(ho:qh d out){i:Nat}(hi:i<d.length)(l:List (Int×Unit)):
 (∀x,aT (out.set i (nameOf d i,l,())) (nameOf d i) x=fF l x)/\∀s,s≠nameOf d i->∀x,aT (out.set i (nameOf d i,l,())) s x=aT out s x:=by
 have ho':=aaI ho hi l;refine⟨λx=>?_,λs hs x=>?_⟩
 .refine SS ?_ x;rw[xI h ho' hi];unfold fQ;rw[Jc (by rw[ho.1];exact hi),if_pos rfl]
 .refine SS ?_ x;by_cases hd:∃j,j<d.length/\nameOf d j=s
  .obtain⟨j,hj,rfl⟩:=hd;rw[xI h ho' hj,xI h ho hj];unfold fQ;rw[Jc (by rw[ho.1];exact hi),if_neg (λe=>hs (by rw[e]))]
  .have hd':∀i,i<d.length->nameOf d i≠s:=λi hi e=>hd ⟨i,hi,e⟩;rw[Jb ho' hd',Jb ho hd']
theorem abn{fs:List aH}{d:List aK}(h:eF d=true){i:Nat}(hi:i<d.length){X:BX}{x:Int}:(Ja fs d).T (nameOf d i) X x↔(x,())∈sel fs (eP d i) X:=by
 constructor
 .rintro⟨j,hj,e,hx⟩;have:=WE h hj hi e;subst this;exact hx
 .exactλhx=>⟨i,hi,rfl,hx⟩
theorem at_set{fs:List aH}{d:List aK}{r:List bP}{nm:Bytes->Bool}{ak:List (Int×Unit)}{k:Nat}{out:List bP}(h:eF d=true)(hl:jI d ak)(hf:distinct fs)(A:mO fs d r nm ak k out){i:Nat}(hi:i<d.length)(hn:nm (nameOf d i)=true)(hk:lv ak i=k):
 mO fs d r nm ak k (out.set i (nameOf d i,sel fs (eP d i) (aT out),()))/\(sel fs (eP d i) (aT out)≠fQ out i->(fQ out i).length<(sel fs (eP d i) (aT out)).length)/\(sel fs (eP d i) (aT out)).length<=fs.length:=by
 have hc:=agN hf (eP d i) (aT out);have hol:i<out.length:=by rw[A.order.1];exact hi
 have hs:=WG (fs:=fs) h hl nm;have hd:due d nm (nameOf d i):=⟨hn,i,hi,rfl⟩;have hlv:EW d ak (nameOf d i)=k:=by rw[uj h hi,hk];rfl
 obtain⟨g1,g2⟩:=agO h A.order hi (sel fs (eP d i) (aT out));have up:∀s x,aT out s x=true->aT (out.set i (nameOf d i,sel fs (eP d i) (aT out),())) s x=true:=λs x hx=>by
  by_cases e:s=nameOf d i
  .subst e;rw[g1,BN];refine A.ac2 i hi hn hk x ?_;have hx:fF (dn out (nameOf d i)) x=true:=hx;rw[xI h A.order hi]at hx;exact hx
  .rw[g2 s e];exact hx
 have off:∀s,¬(due d nm s/\EW d ak s=k)->∀x,aT out s x=aT (out.set i (nameOf d i,sel fs (eP d i) (aT out),())) s x:=λs hs' x=>(g2 s (λe=>hs' (by rw[e];exact⟨hd,hlv⟩)) x).symm;have ids:∀j,fQ (out.set i (nameOf d i,sel fs (eP d i) (aT out),())) j=if j=i then sel fs (eP d i) (aT out)else fQ out j:=λj=>by unfold fQ;rw[Jc hol];split<;>rfl
 refine⟨⟨aaI A.order hi _,λj hj Lp=>?_,λj hj Lp hlj=>?_,λj hj Lp hlj=>?_,λm hm=>?_,λj hj Lp hlj x hx=>?_,?_,λj hj Lp=>?_⟩,λhne=>?_,aaH hc⟩
 .rw[ids,if_neg (λe=>by rw[e,hn]at Lp;cases Lp)];exact A.kept j hj Lp
 .rw[ids,if_neg (λe=>by rw[e,hk]at hlj;omega)];exact A.later j hj Lp hlj
 .rw[ids,if_neg (λe=>by rw[e,hk]at hlj;omega),A.done j hj Lp hlj];refine agJ λb s hsd x=>off s (λhc=>?_) x;have hdj:due d nm (nameOf d j):=⟨Lp,j,hj,rfl⟩;have:=hs (nameOf d j) s hdj hc.1;have akX:EW d ak (nameOf d j)<k:=by rw[uj h hj];have:=(hl.2.1 j hj).1;omega
  cases b with
  |false=>have:=this.1 ⟨j,hj,rfl,hsd⟩;omega
  |true=>have:=this.2 ⟨j,hj,rfl,hsd⟩;omega
 .exact ZN hs (λs hs'=>off s λhc=>hs' ⟨hc.1,by omega⟩) (A.RX m hm)
 .have hT:(Ja fs d).T (nameOf d j) (aT out) x:=by
   rw[abn h hj];rw[ids]at hx;by_cases e:j=i
   .rw[if_pos e,BN]at hx;rw[e];exact hx
   .rw[if_neg e]at hx;exact A.ac2 j hj Lp hlj x hx
  rw[← abn h hj];refine(Ja fs d).mono _ _ _ (λs _=>up s) (λs hsd=>off s λhc=>?_) x hT;have:=(hs (nameOf d j) s ⟨Lp,j,hj,rfl⟩ hc.1).2 hsd;have akX:EW d ak (nameOf d j)=k:=by rw[uj h hj,hlj];rfl
  omega
 .intro Y hY hp s hsd hls x hx;have Qa:∀t,¬(due d nm t/\EW d ak t=k)->∀x,Y t x=aT out t x:=λt ht x=>(hY t ht x).trans (off t ht x).symm;have base:=A.least Y Qa hp;by_cases e:s=nameOf d i
  .subst e;rw[g1,BN,← abn h hi]at hx;refine hp _ hsd hls x ((Ja fs d).mono _ _ _ (λt _ y hy=>?_) (λt ht y=>?_) x hx)
   .by_cases ht:due d nm t/\EW d ak t=k
    .exact base t ht.1 ht.2 y hy
    .rw[Qa t ht];exact hy
   .refine(Qa t (λhc=>?_) y).symm;have:=(hs (nameOf d i) t hd hc.1).2 ht;omega
  .rw[g2 s e]at hx;exact base s hsd hls x hx
 .rw[ids];split
  .exact hc
  .exact A.canon j hj Lp
 .refine afy (A.canon i hi hn) hc (λx hx=>?_) hne;rw[BN];exact A.ac2 i hi hn hk x hx
theorem at_next{fs:List aH}{d:List aK}{r:List bP}{nm:Bytes->Bool}{ak:List (Int×Unit)}{k:Nat}{out:List bP}(h:eF d=true)(A:mO fs d r nm ak k out)(hstill:∀i,i<d.length->nm (nameOf d i)=true->lv ak i=k->sel fs (eP d i) (aT out)=fQ out i):mO fs d r nm ak (k+1) out where
 order:=A.order
 kept:=A.kept
 later:=λi hi hn hlt=>A.later i hi hn (by omega)
 done:=λi hi hn hlt=>by
  by_cases e:lv ak i=k
  .exact(hstill i hi hn e).symm
  .exact A.done i hi hn (by omega)
 RX:=λm hm=>by
  by_cases e:m=k
  .subst e;exact A.least
  .exact A.RX m (by omega)
 ac2:=λi hi hn hl x hx=>by rw[A.later i hi hn (by omega)]at hx;cases hx
 least:=λY _ _ s hs hls x hx=>by obtain⟨hn,i,hi,rfl⟩:=hs;rw[uj h hi]at hls;have hx:fF (dn out (nameOf d i)) x=true:=hx;rw[xI h A.order hi,A.later i hi hn (by omega)]at hx;cases hx
 canon:=A.canon
theorem at_end{fs:List aH}{d:List aK}{r:List bP}{nm:Bytes->Bool}{ak:List (Int×Unit)}{k:Nat}{out:List bP}(h:eF d=true)(hl:jI d ak)(A:mO fs d r nm ak k out)(hk:∀i,i<d.length->lv ak i<k):fK fs d r nm out where
 order:=A.order
 kept:=A.kept
 fix:=λi hi hn=>A.done i hi hn (hk i hi)
 ak:=⟨ak,hl,{
  fix:=λs hs x=>by obtain⟨hn,i,hi,rfl⟩:=hs;rw[abn h hi,← A.done i hi hn (hk i hi),← BN,← xI h A.order hi];rfl
  least:=λm Y hY hp s hs hls=>by
   have hm:m<k:=by obtain⟨hn,i,hi,rfl⟩:=hs;rw[uj h hi]at hls;have:=hk i hi;have:=(hl.2.1 i hi).1;omega
   exact A.RX m hm Y hY hp s hs hls}⟩
def room(n:Nat)(out:List bP):Nat:=(out.map λx=>n-x.2.1.length).sum
theorem WH{n:Nat}:∀{out:List bP}{i:Nat}{x:bP},i<out.length->(fQ out i).length<x.2.1.length->x.2.1.length<=n->room n (out.set i x)<room n out
 |[],i,x,h,_,_=>by simp at h
 |y::r,0,x,_,h1,h2=>by
  have h1:y.2.1.length<x.2.1.length:=h1;show((x::r).map λx=>n-x.2.1.length).sum<((y::r).map λx=>n-x.2.1.length).sum;rw[al8,anM,al8,anM];omega
 |y::r,i+1,x,h,h1,h2=>by have ih:=WH (out:=r) (i:=i) (x:=x) (by simpa using h) h1 h2;show((y::r.set i x).map λx=>n-x.2.1.length).sum<((y::r).map λx=>n-x.2.1.length).sum;rw[al8,anM,al8,anM];unfold room at ih;omega
end Sp
namespace Sp
open Go
abbrev I5:=Bytes×List (Int×Unit)×List (Int×Unit)×Unit
abbrev jV:=List bV×List aH×Int×List aK×List bP×Unit
instance:DecidableEq (List (Int×Unit)):=inferInstance
instance:DecidableEq bP:=inferInstance
instance:DecidableEq (List bP):=inferInstance
instance:DecidableEq (List bP×Unit):=inferInstance
instance:DecidableEq (List aK×List bP×Unit):=inferInstance
instance:DecidableEq (Int×List aK×List bP×Unit):=inferInstance
instance:DecidableEq (List aH×Int×List aK×List bP×Unit):=inferInstance
instance alG:DecidableEq jV:=(inferInstance:DecidableEq (List bV×List aH×Int×List aK×List bP×Unit))
def jv(l:LS)(s:Bytes):Bool:=l.any λx=>x.1==s
theorem V3{l:LS}{s:Bytes}:jv l s=true↔(s,())∈l:=by unfold jv;rw[anH];exact⟨λ⟨y,hy,h⟩=>by rw[← alT.1 h];exact hy,λh=>⟨_,h,alT.2 rfl⟩⟩
def aZ(r:List bP):Prop:=r.length<=1000/\∀x∈r,x.2.1.length<=1000
def dI(c:jV):bF:=(c.1,c.2.1,c.2.2.1,())
def gQ(c:jV):List aK:=c.2.2.2.1
def xG(c:jV):List bP:=c.2.2.2.2.1
def qC(c:jV):Prop:=dH (dI c)/\bI (gQ c)/\aZ (xG c)
def ajR(f:aH):Prop:=f.2.2.2.2.1.length<=500
def ajN(c:jV):Prop:=∀f∈c.2.1,ajR f
def iJ(d:List aK):LS:=d.map λx=>(x.1,())
def WL(d:List aK)(m:Int):Prop:=m<=1000/\∀ak,ax d=true->jI d ak->∀i,i<d.length->lv ak i<=m
open Classical in
noncomputable def jg (c:jV):Bool:=ax (gQ c)&&aB (dI c)&&decide (fK c.2.1 (gQ c) [] (λ_=>true) (xG c))
def Ye(q:List aY):List Bytes:=(q.filter wz).map λn=>n.2.2.2.1
inductive Reach(d:List aK)(P:Bytes->Prop):Bytes->Prop where
 |base {s}:P s->Reach d P s
 |step {s i}:Reach d P s->i<d.length->s∈Ye (eP d i)->Reach d P (nameOf d i)
open Classical in
def without(a b:List (Int×Unit)):List (Int×Unit):=a.filter λx=>!fF b x.1
def zo(a:List bP)(x:bP):I5:=(x.1,without x.2.1 (dn a x.1),without (dn a x.1) x.2.1,())
def Dk(y:I5):Bool:=decide (0<y.2.1.length+y.2.2.1.length)
def LH(a b:List bP):List I5:=(b.map (zo a)).filter Dk
def turned(c:jV)(s:bF)(d:List aK)(nm:Bytes->Bool)(c':jV)(df:List I5)(ok:Bool):Prop:=
 ok=(ax d&&aB s)/\(ok=true->dI c'=s/\gQ c'=d/\fK s.2.1 d (xG c) nm (xG c')/\df=LH (xG c) (xG c'))/\(ok=false->c'=c/\df=[])
def Gi(fs:List aH)(d:List aK)(r:List bP)(nm:Bytes->Bool)(ak:List (Int×Unit))(k:Nat)(RY:List bP)(i:Nat)(c:Bool)(out:List bP):Prop:=
 mO fs d r nm ak k out/\(c=true->room fs.length out<room fs.length RY)/\
  (c=false->out=RY/\∀j,j<i->j<d.length->nm (nameOf d j)=true->lv ak j=k->sel fs (eP d j) (aT out)=fQ out j)
theorem EJ{fs:List aH}{d:List aK}{r:List bP}{nm:Bytes->Bool}{ak:List (Int×Unit)}{k i:Nat}{RY out:List bP}{c:Bool}(h:Gi fs d r nm ak k RY i c out)(hs:nm (nameOf d i)=true->lv ak i=k->sel fs (eP d i) (aT out)=fQ out i):Gi fs d r nm ak k RY (i+1) c out:=
 ⟨h.1,h.2.1,λhc=>⟨(h.2.2 hc).1,λj hj hd hn hl=>by
   rcases al4 j i with h'|h'
   .exact(h.2.2 hc).2 j h' hd hn hl
   .have:j=i:=by omega
    subst this;exact hs hn hl⟩⟩
theorem acN{fs:List aH}{d:List aK}{r:List bP}{nm:Bytes->Bool}{ak:List (Int×Unit)}{k i:Nat}{RY out:List bP}{c:Bool}(hd:eF d=true)(hl:jI d ak)(hf:distinct fs)(h:Gi fs d r nm ak k RY i c out)(hi:i<d.length)(hn:nm (nameOf d i)=true)(hk:lv ak i=k)(hne:sel fs (eP d i) (aT out)≠fQ out i):
 Gi fs d r nm ak k RY (i+1) true (out.set i ((nT out i).1,sel fs (eP d i) (aT out),())):=by
 obtain⟨A,h1,h2⟩:=h;rw[A.order.2 i hi];obtain⟨g1,g2,g3⟩:=at_set hd hl hf A hi hn hk;refine⟨g1,λ_=>?_,λh=>by cases h⟩;have hr:room fs.length (out.set i (nameOf d i,sel fs (eP d i) (aT out),()))<room fs.length out:=WH (by rw[A.order.1];exact hi) (g2 hne) g3;cases c with
 |true=>have:=h1 rfl;omega
 |false=>rw[(h2 rfl).1]at hr ⊢;exact hr
theorem UI{fs:List aH}{d:List aK}{r:List bP}{nm:Bytes->Bool}{ak:List (Int×Unit)}{k:Nat}{out:List bP}(A:mO fs d r nm ak k out)(hd:d.length<=1000)(hf:fs.length<=1000)(hr:aZ r):aZ out:=by
 refine⟨by rw[A.order.1];exact hd,λx hx=>?_⟩;obtain⟨i,hi,rfl⟩:=amx hx;have hi':i<d.length:=by rw[← A.order.1];exact hi
 have e:(out[i]).2.1=fQ out i:=by unfold fQ nT;rw[alM,alO hi];rfl
 rw[e];cases hn:nm (nameOf d i)with
 |true=>exact amk (aaH (A.canon i hi' hn)) hf
 |false=>
  rw[A.kept i hi' hn];have:∀l:List bP,(∀x∈l,x.2.1.length<=1000)->(dn l (nameOf d i)).length<=1000:=by
   intro l
   induction l with
   |nil=>exactλ_=>amm _
   |cons x t ih=>
    intro hl;rw[dn];cases x.1==nameOf d i with
    |true=>exact hl x alW
    |false=>exact ih λy hy=>hl y (alU _ hy)
  exact this r hr.2
def vZ(r:List bP)(nm:Bytes->Bool)(x:aK):bP:=(x.1,bif nm x.1 then[]else dn r x.1,())
theorem WI{d:List aK}{r:List bP}{nm:Bytes->Bool}{i:Nat}(hi:i<d.length):nT (d.map (vZ r nm)) i=vZ r nm (bW d i):=by unfold nT bW;rw[alM,alM,amR,alO hi];rfl
theorem JC{fs:List aH}{d:List aK}{r:List bP}{nm:Bytes->Bool}{ak:List (Int×Unit)}(hd:eF d=true)(hl:jI d ak):mO fs d r nm ak 0 (d.map (vZ r nm)):=by
 refine ahv hd hl ⟨by simp,λi hi=>?_⟩ (λi hi hn=>?_) λi hi hn=>?_
 .rw[WI hi];rfl
 .unfold fQ;rw[WI hi];show(bif nm (nameOf d i)then[]else dn r (nameOf d i))=_;rw[hn];rfl
 .unfold fQ;rw[WI hi];show(bif nm (nameOf d i)then[]else dn r (nameOf d i))=_;rw[hn];rfl
theorem Nl{s:bF}(h:aB s=true):∀(j i:Nat),i<j->j<s.2.1.length->(fileAt s.2.1 i).1<(fileAt s.2.1 j).1:=by
 intro j
 induction j with
 |zero=>intro i hi;omega
 |succ j ih=>
  intro i hi hj;have h1:ja s (j+1)=true:=by unfold aB at h;rw[alK,alK,alK]at h;have:=h.1.1.1;unfold gu at this;exact al0.1 this (j+1) (amB.2 hj)
  have h2:(fileAt s.2.1 j).1<(fileAt s.2.1 (j+1)).1:=by unfold ja at h1;rw[alK]at h1;have:=h1.2;rw[alP (Nat.succ_pos j)]at this;simpa using this
  rcases al4 i j with h3|h3
  .exact Int.lt_trans (ih i h3 (by omega)) h2
  .have:i=j:=by omega
   subst this;exact h2
theorem vY{s:bF}(h:aB s=true):distinct s.2.1:=by
 intro f hf g hg e;obtain⟨i,hi,rfl⟩:=amx hf;obtain⟨j,hj,rfl⟩:=amx hg;have at_:∀k(hk:k<s.2.1.length),fileAt s.2.1 k=s.2.1[k]:=λk hk=>by unfold fileAt;rw[alM,alO hk];rfl
 rcases anU i j with h1|h1|h1
 .have:=Nl h j i h1 hj;rw[at_ i hi,at_ j hj]at this;omega
 .subst h1;rfl
 .have:=Nl h i j h1 hi;rw[at_ i hi,at_ j hj]at this;omega
theorem UJ{fs:List aH}{d:List aK}{r r':List bP}{nm nm':Bytes->Bool}{out:List bP}(h:fK fs d r nm out)(hn:∀i,i<d.length->nm (nameOf d i)=nm' (nameOf d i))(hr:∀i,i<d.length->nm (nameOf d i)=false->dn r (nameOf d i)=dn r' (nameOf d i)):fK fs d r' nm' out:=by
 have hd:∀s,due d nm s↔due d nm' s:=λs=>by
  constructor
  .rintro⟨a,i,hi,rfl⟩;exact⟨by rw[← hn i hi];exact a,i,hi,rfl⟩
  .rintro⟨a,i,hi,rfl⟩;exact⟨by rw[hn i hi];exact a,i,hi,rfl⟩
 obtain⟨ak,h1,h2⟩:=h.ak;exact⟨h.order,λi hi h'=>by rw[← hn i hi]at h';rw[h.kept i hi h',hr i hi h'],λi hi h'=>h.fix i hi (by rw[hn i hi];exact h'),ak,h1,
  λs hs=>h2.fix s ((hd s).2 hs),λk Y hY hp s hs=>h2.least k Y (λt ht=>hY t λh'=>ht ⟨(hd t).2 h'.1,h'.2⟩) (λt ht=>hp t ((hd t).1 ht)) s ((hd s).2 hs)⟩
theorem afz{fs:List aH}{d:List aK}{r:List bP}{nm:Bytes->Bool}{ak:List (Int×Unit)}{k:Nat}(hd:eF d=true)(hl:jI d ak)(hf:distinct fs):∀(n:Nat)(out:List bP),room fs.length out<=n->mO fs d r nm ak k out->∃out',mO fs d r nm ak (k+1) out':=by
 intro n
 induction n using Nat.strongRecOn with
 |_ n ih=>
  intro out hn A;by_cases hs:∀i,i<d.length->nm (nameOf d i)=true->lv ak i=k->sel fs (eP d i) (aT out)=fQ out i
  .exact⟨out,at_next hd A hs⟩
  .obtain⟨i,hi⟩:=Classical.not_forall.1 hs;have h1:i<d.length:=amo λh=>hi λh'=>(h h').elim;have h2:nm (nameOf d i)=true:=amo λh=>hi λ_ h'=>(h h').elim;have h3:lv ak i=k:=amo λh=>hi λ_ _ h'=>(h h').elim;have h4:sel fs (eP d i) (aT out)≠fQ out i:=λh=>hi λ_ _ _=>h;obtain⟨g1,g2,g3⟩:=at_set hd hl hf A h1 h2 h3;have hr:room fs.length (out.set i (nameOf d i,sel fs (eP d i) (aT out),()))<room fs.length out:=WH (by rw[A.order.1];exact h1) (g2 h4) g3;exact ih _ (by omega) _ (alY _) g1
theorem Nh{fs:List aH}{d:List aK}(r:List bP)(nm:Bytes->Bool){ak:List (Int×Unit)}(hd:eF d=true)(hl:jI d ak)(hf:distinct fs):∃out,fK fs d r nm out:=by
 have:∀k,∃out,mO fs d r nm ak k out:=λk=>by
  induction k with
  |zero=>exact⟨_,JC hd hl⟩
  |succ k ih=>obtain⟨out,A⟩:=ih;exact afz hd hl hf _ out (alY _) A
 obtain⟨out,A⟩:=this (d.length+1);exact⟨out,at_end hd hl A λi hi=>by have:=(hl.2.1 i hi).2;omega⟩
end Sp
namespace Sp
open Go
end Sp
namespace Sp
open Go
def RZ(as:List aW):Prop:=as.Pairwise λx y=>Op.bytesLess x.1 y.1=true
theorem ac3{α:Type}{R:α->α->Prop}(ht:∀a b c,R a b->R b c->R a c)(d:α):∀(l:List α),(∀i,i+1<l.length->R (l.getD i d) (l.getD (i+1) d))->l.Pairwise R
 |[],_=>List.Pairwise.nil
 |[x],_=>aod _ _
 |x::y::r,h=>by
  have ih:=ac3 ht d (y::r) λi hi=>h (i+1) (by simpa using hi);have h0:R x y:=h 0 (by simp);refine amM.2 ⟨λz hz=>?_,ih⟩;rcases ame.1 hz with rfl|hz
  .exact h0
  .exact ht _ _ _ h0 ((amM.1 ih).1 z hz)
theorem uG{fs:List bV}{as:List aW}:kJ fs as=true↔(∀a∈as,dY fs a.1 a.2.1 a.2.2.1 a.2.2.2.1=true)/\RZ as:=by
 have at_:∀i(hi:i<as.length),bf as i=as[i]:=λi hi=>by unfold bf;rw[alM,alO hi];rfl
 unfold kJ;rw[show(gu as.length (iM fs as)=true)↔∀i,i<as.length->iM fs as i=true from by unfold gu;rw[al0];exact⟨λh i hi=>h i (amB.2 hi),λh i hi=>h i (amB.1 hi)⟩];have one:∀i,iM fs as i=true↔dY fs (bf as i).1 (bf as i).2.1 (bf as i).2.2.1 (bf as i).2.2.2.1=true/\(0<i->Op.bytesLess (bf as (i-1)).1 (bf as i).1=true):=λi=>by
  unfold iM;rw[alK];refine anx λ_=>?_;by_cases h0:0<i
  .rw[alP h0];simp[h0]
  .rw[alR h0];simp[h0]
 constructor
 .intro h;refine⟨λa ha=>?_,?_⟩
  .obtain⟨i,hi,rfl⟩:=amx ha;have:=((one i).1 (h i hi)).1;rw[at_ i hi]at this;exact this
  .refine ac3 (R:=λx y:aW=>Op.bytesLess x.1 y.1=true) (λa b c h1 h2=>zT _ _ _ h1 h2) ([],0,0,[],()) as λi hi=>?_;exact((one (i+1)).1 (h (i+1) hi)).2 (by omega)
 .rintro⟨h1,h2⟩ i hi;refine(one i).2 ⟨?_,λh0=>?_⟩
  .rw[at_ i hi];exact h1 _ (am0 hi)
  .rw[at_ i hi,at_ (i-1) (by omega)];exact an8.1 h2 (i-1) i (by omega) hi (by omega)
theorem Jd{α:Type}{p:α->Bool}:∀{l:List α}{x:α},x∈l.takeWhile p->p x=true/\x∈l
 |[],_,h=>by cases h
 |y::r,x,h=>by
  rw[anf]at h;split at h
  .next hp=>
   rcases ame.1 h with rfl|h
   .exact⟨hp,alW⟩
   .exact⟨(Jd h).1,alU _ (Jd h).2⟩
  .cases h
theorem ac4{α:Type}[BEq α][LawfulBEq α]:∀(a b:List α),a.Nodup->(∀x∈a,x∈b)->a.length<=b.length
 |[],_,_,_=>amm _
 |x::r,b,hn,h=>by
  rw[aoQ]at hn;have hx:=h x alW;have ih:=ac4 r (b.erase x) hn.2 λy hy=>by
   have hne:y≠x:=λe=>by subst e;exact hn.1 hy
   rw[List.mem_erase_of_ne hne];exact h y (alU _ hy)
  rw[List.length_erase_of_mem hx]at ih;have:0<b.length:=List.length_pos_of_mem hx;rw[al2];omega
theorem YK:∀{fs:List bV}{s:Bytes},kindOf fs s≠0->s∈fs.map λf=>f.1
 |[],_,h=>(h rfl).elim
 |f::r,s,h=>by
  rw[kindOf]at h;by_cases e:f.1=s
  .rw[al8,e];exact alW
  .rw[alR e]at h;rw[al8];exact alU _ (YK h)
theorem acQ{fs:List bV}{as:List aW}(h:kJ fs as=true):as.length<=fs.length:=by
 obtain⟨h1,h2⟩:=uG.1 h;have:=ac4 (as.map λa=>a.1) (fs.map λf=>f.1) ?_ λs hs=>?_
 .rw[alV,alV]at this;exact this
 .unfold List.Nodup;rw[aoH];exact h2.imp λ{a b} hab=>KX hab
 .obtain⟨a,ha,rfl⟩:=am6.1 hs;have hm:=h1 a ha;unfold dY at hm;simp only[alK,alX,anS,amy]at hm;exact YK (by rw[← hm.2];exact hm.1.2)
end Sp
namespace Sp
open Go
theorem ah2{α:Type}(p:α->Bool):∀l:List α,l.dropWhile p=l.drop (l.takeWhile p).length
 |[]=>rfl
 |x::r=>by
  rw[aot,anf];cases p x with
  |true=>simp only[if_true,al2,List.drop_succ_cons];exact ah2 p r
  |false=>rfl
theorem ah1{α:Type}(p:α->Bool):∀l:List α,l.takeWhile p=l.take (l.takeWhile p).length
 |[]=>rfl
 |x::r=>by
  rw[anf];cases p x with
  |true=>simp only[if_true,al2,an6];exact congrArg (x::·) (ah1 p r)
  |false=>rfl
theorem aay{α:Type}(p:α->Bool)(d:α):∀(l:List α)(k:Nat),k<=l.length->(∀i,i<k->p (l.getD i d)=true)->(k<l.length->p (l.getD k d)=false)->(l.takeWhile p).length=k
 |[],0,_,_,_=>rfl
 |[],_+1,h,_,_=>by simp at h
 |x::r,0,_,_,h=>by
  have:p x=false:=h (by simp);rw[anf,this];rfl
 |x::r,k+1,hk,h1,h2=>by have:p x=true:=h1 0 (by omega);rw[anf,this];simp only[if_true,al2];rw[aay p d r k (by simpa using hk) (λi hi=>h1 (i+1) (by omega)) λh=>h2 (by simpa using h)]
theorem ahp{fs:List aH}{d:List aK}{r out:List bP}(h:fK fs d r (jv (iJ d)) out):fK fs d [] (λ_=>true) out:=by
 have e:∀i,i<d.length->jv (iJ d) (nameOf d i)=true:=λi hi=>by rw[V3];unfold iJ;exact am6.2 ⟨bW d i,by unfold bW;rw[alM,alO hi];exact am0 hi,rfl⟩
 exact UJ h (λi hi=>e i hi) λi hi h'=>by rw[e i hi]at h';cases h'
def became(c:jV)(s:bF)(d:List aK)(ok0:Bool)(c':jV)(df:List I5)(ok:Bool):Prop:=
 ok=ok0/\(ok=true->dI c'=s/\gQ c'=d/\jg c'=true/\df=LH (xG c) (xG c'))/\(ok=false->c'=c/\df=[])
def named(f:aH)(w:Bytes):aH:=(f.1,f.2.1,f.2.2.1,f.2.2.2.1,eH f.2.2.2.2.1 [110] 2 0 w,())
def ahw(c:jV)(u id:Int):Bool:=(lD (dI c) id).2&&ahs (lD (dI c) id).1 u
end Sp
namespace Sp
open Go
def yc(s:Bytes):Int:=s.foldl (λn b=>10*n+((b.toNat:Int)-48)) 0
def iG(s:Bytes):Bool:=xW (yc s)&&(Lib.itoa (yc s)==s)
def parseNum(s:Bytes):Int:=bif iG s then yc s else 0
end Sp
namespace Sp
open Go
theorem MI(u:Nat):Lib.itoa (u:Int)=Lib.decDigits u:=by unfold Lib.itoa;rw[if_neg (by omega)];simp
theorem Oq(s:Bytes)(d:UInt8):yc (s++[d])=10*yc s+((d.toNat:Int)-48):=by simp[yc,List.foldl_append]
theorem byte_of(d:Nat)(h:d<10):(UInt8.ofNat (48+d)).toNat=48+d:=by rw[anO];omega
theorem Lr(s:List UInt8):∀(acc:Nat)(n:Nat),Lib.decFrom acc s=some n->∀d,d<10->Lib.decFrom acc (s++[UInt8.ofNat (48+d)])=some (n*10+d):=by
 intro acc n h d hd
 induction s generalizing acc with
 |nil=>
  simp only[Lib.decFrom,Option.some.injEq]at h;subst h;have:∀d:Fin 10,Lib.digitVal (UInt8.ofNat (48+d.val))=some d.val:=by decide
  have h2:=this ⟨d,hd⟩;simp only[amU,Lib.decFrom];rw[h2]
 |cons a r ih=>
  simp only[anh,Lib.decFrom]at h ⊢;cases hv:Lib.digitVal a with
  |none=>rw[hv]at h;simp at h
  |some x=>rw[hv]at h;simp only at h ⊢;exact ih _ h
theorem rM:∀(k u:Nat),u<10 ^ (k+1)->yc (Lib.decDigits u)=u/\Lib.decFrom 0 (Lib.decDigits u)=some u/\(∀b∈Lib.decDigits u,48<=b.toNat/\b.toNat<=57)/\Lib.decDigits u≠[]/\(Lib.decDigits u).length<=k+1
 |0,u,h=>by
  have h:u<10:=by simpa using h
  rw[Lib.decDigits_one h];have hb:=byte_of u h;have:=Lr [] 0 0 rfl u h;refine⟨?_,?_,λb hm=>?_,List.cons_ne_nil _ _,alY _⟩
  .have:=Oq [] (UInt8.ofNat (48+u));rw[amU]at this;rw[this,hb];show 10*0+_=_;omega
  .rw[amU,ant,al9]at this;exact this
  .rw[amA]at hm;subst hm;omega
 |k+1,u,h=>by
  by_cases h1:u<10
  .have:=rM 0 u (by simpa using h1);exact⟨this.1,this.2.1,this.2.2.1,this.2.2.2.1,by omega⟩
  .have hd:u / 10<10 ^ (k+1):=by rw[Nat.pow_succ]at h;omega
   obtain⟨i1,i2,i3,i4,i5⟩:=rM k (u / 10) hd;have e:Lib.decDigits u=Lib.decDigits (u / 10)++[UInt8.ofNat (48+u%10)]:=by
    conv=>lhs;rw[Lib.decDigits,dif_neg h1]
   have hm:u%10<10:=aon _ (by decide);have hb:=byte_of (u%10) hm;rw[e];refine⟨by rw[Oq,i1,hb];omega,?_,λb hb2=>?_,by simp,by simp;omega⟩
   .rw[Lr _ _ _ i2 _ hm];congr 1;omega
   .rcases amg.1 hb2 with h2|h2
    .exact i3 b h2
    .rw[amA]at h2;subst h2;omega
theorem CY{n:Int}:xW n=true↔0<=n/\n<=1000000000:=by unfold xW;rw[alK,alX,alX]
theorem zn{n:Int}(h:xW n=true):yc (Lib.itoa n)=n/\Lib.atoi (Lib.itoa n)=some n/\(∀b∈Lib.itoa n,48<=b.toNat/\b.toNat<=57)/\Lib.itoa n≠[]/\(Lib.itoa n).length<=10:=by
 obtain⟨h0,h1⟩:=CY.1 h;obtain⟨u,rfl⟩:=anJ h0;have hu:u<10 ^ (9+1):=by omega
 rw[MI];obtain⟨i1,i2,i3,i4,i5⟩:=rM 9 u hu;refine⟨i1,?_,i3,i4,i5⟩;cases hd:Lib.decDigits u with
 |nil=>exact absurd hd i4
 |cons b r=>
  have hb:=i3 b (by rw[hd];simp);rw[hd]at i2;have n45:(b==45)=false:=by rw[alN];intro e;subst e;revert hb;decide
  have n43:(b==43)=false:=by rw[alN];intro e;subst e;revert hb;decide
  simp only[Lib.atoi,n45,n43,Lib.decNat,ana,anX,List.isEmpty_cons,i2,amD]
theorem JM{s:Bytes}:iG s=true↔xW (yc s)=true/\Lib.itoa (yc s)=s:=by unfold iG;rw[alK,alT]
theorem XD{s:Bytes}{n:Int}(h:xW n=true)(e:Lib.itoa n=s):iG s=true/\parseNum s=n:=by
 have hv:yc s=n:=by rw[← e];exact(zn h).1
 have:iG s=true:=JM.2 ⟨by rw[hv];exact h,by rw[hv];exact e⟩;exact⟨this,by unfold parseNum;rw[this];exact hv⟩
theorem afA{n:Int}(h:xW n=true):iG (Lib.itoa n)=true/\parseNum (Lib.itoa n)=n:=XD h rfl
theorem oZ{s:Bytes}(h:iG s=true):Lib.itoa (parseNum s)=s/\xW (parseNum s)=true:=by
 have e:parseNum s=yc s:=by unfold parseNum;rw[h];rfl
 rw[e];exact⟨(JM.1 h).2,(JM.1 h).1⟩
theorem Ef{s:Bytes}(h:iG s=false):parseNum s=0:=by unfold parseNum;rw[h];rfl
theorem aa8{s:Bytes}(h:iG s=true):s.length<=10:=by
 have:=(zn (oZ h).2).2.2.2.2
 rwa [(oZ h).1]at this
theorem acA{s:Bytes}(h:10<s.length):iG s=false:=by
 cases hp:iG s with
 |false=>rfl
 |true=>have:=aa8 hp;omega
end Sp
namespace Sp
open Go
def fJ(n:Int):Bytes:=bif decide (0<=n)&&decide (n<=999)then(Lib.itoa n).map λb=>UInt8.ofNat (b.toNat+49)else[]
def isLet(b:UInt8):Bool:=decide (97<=b.toNat)&&decide (b.toNat<=106)
def iL(s:Bytes):Bytes:=s.map λb=>UInt8.ofNat (b.toNat-49)
def eG(s:Bytes):Int×Bool:=bif s.all isLet&&(iG (iL s)&&decide (parseNum (iL s)<=999))then(parseNum (iL s),true)else(0,false)
def dJ(v:pq)(to:Int):pq×Bool:=
 bif bQ v.1 v.2.1 v.2.2.1&&(!(v.1==0)&&(to==1||to==2))then
  (bif v.1==to then(v,true)else bif to==2 then((2,0,fJ v.2.1,()),true)else bif (eG v.2.2.1).2 then((1,(eG v.2.2.1).1,[],()),true)else((0,0,[],()),false))
 else((0,0,[],()),false)
def fD(name:Bytes)(kind:Int)(f:bV):bV:=bif f.1==name then(f.1,kind,())else f
def dQ(name:Bytes)(kind:Int)(f:aH):aH:=
 bif (aG f.2.2.2.2.1 name).1==0 then f else
  (f.1,f.2.1,f.2.2.1,f.2.2.2.1,eH f.2.2.2.2.1 name (dJ (aG f.2.2.2.2.1 name) kind).1.1 (dJ (aG f.2.2.2.2.1 name) kind).1.2.1 (dJ (aG f.2.2.2.2.1 name) kind).1.2.2.1,())
def bZ(name:Bytes)(kind:Int)(f:aH):Bool:=!((aG f.2.2.2.2.1 name).1==0)&&!(dJ (aG f.2.2.2.2.1 name) kind).2
def bM(s:bF)(name:Bytes)(kind:Int):bF×List (Int×Unit)×Bool:=
 bif aB s&&(!decide (fieldPlace s.1 name<0)&&(kind==1||kind==2))then
  ((s.1.map (fD name kind),s.2.1.map (dQ name kind),s.2.2.1,()),(s.2.1.filter (bZ name kind)).map (λf=>(f.1,())),true)
 else(s,[],false)
theorem aaJ{b:UInt8}(h:48<=b.toNat/\b.toNat<=57):(UInt8.ofNat (b.toNat+49)).toNat=b.toNat+49:=by rw[anO];exact anF (by omega)
theorem aei{n:Int}(h0:0<=n)(h1:n<=999):eG (fJ n)=(n,true)/\dX (fJ n)=true:=by
 have hu:xW n=true:=CY.2 ⟨h0,by omega⟩;obtain⟨_,_,hd,hne,_⟩:=zn hu;have he:fJ n=(Lib.itoa n).map λb=>UInt8.ofNat (b.toNat+49):=by unfold fJ;rw[alP h0,alP h1];rfl
 have hback:iL (fJ n)=Lib.itoa n:=by unfold iL;rw[he,anb];refine(am8 λb hb=>?_).trans (anQ _);show UInt8.ofNat ((UInt8.ofNat (b.toNat+49)).toNat-49)=b;rw[aaJ (hd b hb),aoy];exact UInt8.ofNat_toNat
 have hlet:(fJ n).all isLet=true:=by rw[al0,he];intro x hx;obtain⟨b,hb,rfl⟩:=am6.1 hx;have:=hd b hb;unfold isLet;rw[aaJ this,alP (by omega),alP (by omega)];rfl
 obtain⟨p1,p2⟩:=afA hu;refine⟨?_,?_⟩
 .unfold eG;rw[hlet,hback,p1,p2,alP h1];rfl
 .have hlen:(Lib.itoa n).length<=3:=by obtain⟨u,rfl⟩:=anJ h0;rw[MI];exact(rM 2 u (by omega)).2.2.2.2
  have hpos:0<(Lib.itoa n).length:=List.length_pos_iff.2 hne;have hl:(fJ n).length=(Lib.itoa n).length:=by rw[he,alV]
  unfold dX;rw[hl];have hlow:lower (fJ n)=true:=by unfold lower;rw[al0];intro x hx;have:=al0.1 hlet x hx;unfold isLet at this;simp only[alK,alX]at this;simp only[alK,alX];omega
  rw[hlow,alP (show(1:Int)<=((Lib.itoa n).length:Int) by omega),alP (by omega)];rfl
end Sp
namespace Sp
open Go
def agP:List bV:=[([97],2,()),([98],1,()),([110],2,()),([116],2,())]
def F7(n:Int):aH:=(1,0,false,0,[([97],1,n,[],())],())
def Je(n:Int):aH:=(1,0,false,0,[([97],2,0,fJ n,())],())
def AU(n:Int):bF:=(usual,[F7 n],2,())
def storeT(n:Int):bF:=(agP,[Je n],2,())
def D8(n:Int):List aY:=[(3,0,0,[97],1,n,[],())]
def Nw(n:Int):List aK:=[([100,97],D8 n,())]
theorem afB{n:Int}(h0:0<=n)(h1:n<=999):bQ 1 n []=true:=by unfold bQ;rw[alR (show ¬(1:Int)=0 by decide),alP (show(1:Int)=1 from rfl),alP h0,alP h1];rfl
theorem ahx{n:Int}(h0:0<=n)(h1:n<=999):bQ 2 0 (fJ n)=true:=by unfold bQ;rw[alR (show ¬(2:Int)=0 by decide),alR (show ¬(2:Int)=1 by decide),alP (show(2:Int)=2 from rfl),(aei h0 h1).2];rfl
theorem ok_one{sch:List bV}{k n:Int}{s:Bytes}(hs:bK sch=true)(hk:kindOf sch [97]=k)(h0:k≠0)(hv:bQ k n s=true):aB (sch,[(1,0,false,0,[([97],k,n,s,())],())],2,())=true:=by
 have hf:bU sch (1,0,false,0,[([97],k,n,s,())],())=true:=by
  unfold bU;rw[hs,uG.2 ⟨λa ha=>?_,aod _ _⟩]
  .rfl
  .rw[amA.1 ha];unfold dY;rw[hv,hk,alR h0,alP rfl];rfl
 refine lW.2 ⟨λi hi=>?_,hs,by simp,(show(1:Int)<=2 by decide),(show(2:Int)<=61 by decide)⟩;have:i=0:=by simp at hi;omega
 subst this;exact wu.2 ⟨hf,(show(1:Int)<2 by decide),λh=>by omega⟩
theorem okI{n:Int}(h0:0<=n)(h1:n<=999):aB (AU n)=true:=ok_one (by decide) (by decide) (by decide) (afB h0 h1)
theorem okT{n:Int}(h0:0<=n)(h1:n<=999):aB (storeT n)=true:=ok_one (by decide) (by decide) (by decide) (ahx h0 h1)
theorem ah3{n:Int}(h0:0<=n)(h1:n<=999):dJ (1,n,[],()) 2=((2,0,fJ n,()),true):=by unfold dJ;rw[afB h0 h1];rfl
theorem ah4{n:Int}(h0:0<=n)(h1:n<=999):dJ (2,0,fJ n,()) 1=((1,n,[],()),true):=by unfold dJ;rw[ahx h0 h1,(aei h0 h1).1];rfl
theorem ai6{n:Int}(h0:0<=n)(h1:n<=999):bM (AU n) [97] 2=(storeT n,[],true):=by
 have e:dQ [97] 2 (F7 n)=Je n:=by show(1,0,false,0,eH [([97],1,n,[],())] [97] (dJ (1,n,[],()) 2).1.1 (dJ (1,n,[],()) 2).1.2.1 (dJ (1,n,[],()) 2).1.2.2.1,())=_;rw[ah3 h0 h1];rfl
 have l:bZ [97] 2 (F7 n)=false:=by show(true&&!(dJ (1,n,[],()) 2).2)=false;rw[ah3 h0 h1];rfl
 unfold bM;rw[okI h0 h1];show((usual.map (fD [97] 2),[dQ [97] 2 (F7 n)],2,()),(List.filter (bZ [97] 2) [F7 n]).map _,true)=_;rw[e,amK (by rw[l];exact aoB)];rfl
theorem akT{n:Int}(h0:0<=n)(h1:n<=999):bM (storeT n) [97] 1=(AU n,[],true):=by
 have e:dQ [97] 1 (Je n)=F7 n:=by show(1,0,false,0,eH [([97],2,0,fJ n,())] [97] (dJ (2,0,fJ n,()) 1).1.1 (dJ (2,0,fJ n,()) 1).1.2.1 (dJ (2,0,fJ n,()) 1).1.2.2.1,())=_;rw[ah4 h0 h1];rfl
 have l:bZ [97] 1 (Je n)=false:=by show(true&&!(dJ (2,0,fJ n,()) 1).2)=false;rw[ah4 h0 h1];rfl
 unfold bM;rw[okT h0 h1];show((agP.map (fD [97] 1),[dQ [97] 1 (Je n)],2,()),(List.filter (bZ [97] 1) [Je n]).map _,true)=_;rw[e,amK (by rw[l];exact aoB)];rfl
theorem ahq{n:Int}(h0:0<=n)(h1:n<=999):sample n=AU n:=by
 unfold sample;rcases qM (usual,[],1,()) (0,0,false,0,eH [] [97] 1 n [],())with⟨_,h⟩|⟨_,_,_,e⟩
 .refine(h ⟨by decide,by decide,?_⟩).elim;exact(wu.1 ((lW.1 (okI h0 h1)).1 0 aor)).1
 .rw[e];rfl
theorem afC{n:Int}(h0:0<=n)(h1:n<=999):aU (D8 n)=true:=by
 unfold aU;rw[alK];refine⟨?_,rfl⟩;unfold gu;rw[al0];intro i hi;have:i=0:=by have:=amB.1 hi;unfold D8 at this;simp at this;exact this
 subst this;show((true&&true&&bQ 1 n []&&true)&&true)=true;rw[afB h0 h1];rfl
theorem afp{n:Int}(h0:0<=n)(h1:n<=999):ax (Nw n)=true:=by
 refine jO.2 ⟨?_,λ_=>0,λe he=>?_⟩
 .unfold eF;rw[alK];refine⟨?_,rfl⟩;unfold gu;rw[al0];intro i hi;have:i=0:=by have:=amB.1 hi;unfold Nw at this;simp at this;exact this
  subst this;show((true&&aU (D8 n))&&true)=true;rw[afC h0 h1];rfl
 .obtain⟨i,j,m⟩:=e;obtain⟨hi,s,h2,h3,_⟩:=wJ.1 he;have:i=0:=by unfold Nw at hi;simp at hi;exact hi
  subst this;have hs:∀b,dF (D8 n) b=[]:=λb=>by unfold dF;refine List.filterMap_eq_nil_iff.2 λk hk=>?_;cases k<;>rfl
  have hd:(bW (Nw n) 0).2.1=D8 n:=rfl;rw[hd]at h2;rcases h2 with⟨_,h2⟩|⟨_,h2⟩<;>rw[hs]at h2<;>cases h2
theorem akU{n:Int}(h0:0<=n)(h1:n<=999)(X:BX):sel [F7 n] (D8 n) X=[(1,())]:=by
 have:gZ (D8 n) (F7 n) X=true:=by unfold gZ;rw[afC h0 h1,anL,EI];show decide (((1,n,[],()):pq)=(1,n,[],()))=true;exact alP rfl
 unfold sel;rw[amJ (p:=λf=>gZ (D8 n) f X) this];rfl
theorem akV{n:Int}(h0:0<=n)(h1:n<=999)(X:BX):sel [Je n] (D8 n) X=[]:=by
 have:gZ (D8 n) (Je n) X=false:=by unfold gZ;rw[afC h0 h1,anL,EI];show decide (((2,0,fJ n,()):pq)=(1,n,[],()))=false;exact alR λh=>by cases h
 unfold sel;rw[amK (p:=λf=>gZ (D8 n) f X) (by rw[this];exact aoB)];rfl
end Sp
namespace Sp
open Go
end Sp
namespace Sp
open Go
abbrev Em:=Bool×List aW×Unit
def Hz:Em:=(false,[],())
def ac5(l:List aW)(x:aW):Bool:=l.any λy=>y.1==x.1
def ajb(l:List aW)(x:aW):Bool:=l.any λy=>y.1==x.1&&!decide (y.2=x.2)
def um(name:Bytes)(y:aW):Bool:=Op.bytesLess y.1 name
def Si(l:List aW)(x:aW):List aW:=l.takeWhile (um x.1)++x::l.dropWhile (um x.1)
def ac6(a:List aW):List aW->List aW->Option (List aW)
 |acc,[]=>some acc
 |acc,x::r=>bif ajb a x then none else bif ac5 a x then ac6 a acc r else ac6 a (Si acc x) r
def ajS:Option (List aW)->Em
 |some l=>(true,l,())
 |none=>Hz
def ajc(a b:Em):Em:=bif a.1&&b.1 then ajS (ac6 a.2.1 a.2.1 b.2.1)else Hz
def akY(a b:Em):Em:=bif a.1==b.1 then Hz else bif a.1 then a else b
def Ls(q:List aY)(f:aH)(X:BX)(a:Nat)(m:Bool):Em:=
 if val q f X a=m then(true,[],())
 else if(nodeAt q a).1=5 then(if h:(nodeAt q a).2.1.toNat<a then Ls q f X (nodeAt q a).2.1.toNat (!m)else Hz)
 else if iC (nodeAt q a)=true then(if h:(nodeAt q a).2.1.toNat<a/\(nodeAt q a).2.2.1.toNat<a then
  (bif ((nodeAt q a).1==6)==m then ajc (Ls q f X (nodeAt q a).2.1.toNat m) (Ls q f X (nodeAt q a).2.2.1.toNat m)
   else akY (Ls q f X (nodeAt q a).2.1.toNat m) (Ls q f X (nodeAt q a).2.2.1.toNat m))else Hz)
 else if(nodeAt q a).1=3/\m=true then(true,[((nodeAt q a).2.2.2.1,(nodeAt q a).2.2.2.2.1,(nodeAt q a).2.2.2.2.2.1,(nodeAt q a).2.2.2.2.2.2.1,())],())
 else if(nodeAt q a).1=2/\m=false then(true,[((nodeAt q a).2.2.2.1,0,0,[],())],())
 else Hz
termination_by a
decreasing_by all_goals omega
theorem agQ(l:List aW)(x:aW):(Si l x).Perm (x::l):=by
 unfold Si;have h:=List.perm_middle (a:=x) (l₁:=l.takeWhile (um x.1)) (l₂:=l.dropWhile (um x.1))
 rwa [ank]at h
theorem ahy{l:List aW}{x:aW}(h:RZ l)(hx:ac5 l x=false):RZ (Si l x):=by
 unfold Si;have g:=h;unfold RZ at g;have e:=ank (p:=um x.1) (l:=l);rw[← e,ann]at g;have ne:∀y∈l,y.1≠x.1:=λy hy he=>by unfold ac5 at hx;rw[anA]at hx;exact hx (anH.2 ⟨y,hy,alT.2 he⟩)
 have lo:∀a∈l.takeWhile (um x.1),Op.bytesLess a.1 x.1=true:=λa ha=>(Jd ha).1;have hi:∀a∈l.dropWhile (um x.1),Op.bytesLess x.1 a.1=true:=by
  have hd:=g.2.1;cases hl:l.dropWhile (um x.1)with
  |nil=>exactλa ha=>by cases ha
  |cons y r=>
   have hy:um x.1 y=false:=by have:=List.head_dropWhile_not (um x.1) (l:=l) (by rw[hl];simp);simp only[hl,List.head_cons]at this;exact this
   have hym:y∈l:=(List.dropWhile_sublist _).subset (by rw[hl];exact alW);have hy:Op.bytesLess x.1 y.1=true:=by have:=Wh y.1 x.1;rw[show Op.bytesLess y.1 x.1=false from hy,alN.2 (ne y hym)]at this;exact this.symm
   rw[hl]at hd;intro a ha;rcases ame.1 ha with rfl|ha
   .exact hy
   .exact zT _ _ _ hy ((amM.1 hd).1 a ha)
 unfold RZ;rw[ann];refine⟨g.1,amM.2 ⟨hi,g.2.1⟩,λa ha b hb=>?_⟩;rcases ame.1 hb with rfl|hb
 .exact lo a ha
 .exact g.2.2 a ha b hb
end Sp
namespace Sp
open Go
def afD(x:aW):pq:=bif x.2.1==0 then(0,0,[],())else x.2
def ajd(a l:List aW):List aW:=l.foldl (λa x=>eH a x.1 x.2.1 x.2.2.1 x.2.2.2.1) a
def YL(a:List aW):Prop:=RZ a/\∀x∈a,x.2.1≠0
theorem UZ{x:aW}{t:Bytes}(h:x.1≠t):∀(p:List aW){q:List aW},aG (p++x::q) t=aG (p++q) t
 |[],q=>by show aG (x::q) t=aG q t;rw[aG,alN.2 h];rfl
 |y::p,q=>by show aG (y::(p++x::q)) t=aG (y::(p++q)) t;rw[aG,aG,UZ h p]
theorem HY{x:aW}:∀(p:List aW){q:List aW},(∀y∈p,y.1≠x.1)->aG (p++x::q) x.1=x.2
 |[],q,_=>by show aG (x::q) x.1=x.2;rw[aG,beq_self_eq_true];rfl
 |y::p,q,h=>by show aG (y::(p++x::q)) x.1=_;rw[aG,alN.2 (h y alW)];exact HY p λz hz=>h z (alU _ hz)
theorem JO(name t:Bytes):∀(a:List aW),aG (a.filter (gJ name)) t=if t=name then(0,0,[],())else aG a t
 |[]=>by split<;>rfl
 |x::r=>by
  have ih:=JO name t r;by_cases hx:x.1=name
  .rw[amK (by unfold gJ;simp[hx]),ih];split
   .rfl
   .next hne=>rw[aG,alN.2 (show x.1≠t fromλe=>hne (e.symm.trans hx))];rfl
  .rw[amJ (by unfold gJ;simp[hx]),aG,aG,ih];by_cases e:x.1=t
   .rw[alT.2 e];exact(if_neg λe2=>hx (e.trans e2)).symm
   .rw[alN.2 e];rfl
theorem ac7{l:List aW}{x:aW}(h:∀y∈l,y.1≠x.1):vW l x=Si l x:=by
 have e:∀(l:List aW),(∀y∈l,y.1≠x.1)->l.takeWhile (iO x.1)=l.takeWhile (um x.1)/\l.dropWhile (iO x.1)=l.dropWhile (um x.1):=by
  intro l
  induction l with
  |nil=>exactλ_=>⟨rfl,rfl⟩
  |cons y r ih=>
   intro h;obtain⟨i1,i2⟩:=ih λz hz=>h z (alU _ hz);have hy:iO x.1 y=um x.1 y:=by unfold iO um;rw[alN.2 (h y alW),aoF]
   rw[anf,anf,aot,aot,hy,i1,i2];exact⟨rfl,rfl⟩
 unfold vW Si;rw[(e l h).1,(e l h).2]
theorem Jf{a:List aW}{name:Bytes}:∀y∈a.filter (gJ name),y.1≠name:=λy hy=>by have:=(ane.1 hy).2;unfold gJ at this;simpa using this
theorem U0(a:List aW)(x:aW)(t:Bytes):aG (eH a x.1 x.2.1 x.2.2.1 x.2.2.2.1) t=if t=x.1 then afD x else aG a t:=by
 unfold eH afD;by_cases hk:x.2.1=0
 .rw[alP hk,alT.2 hk];exact JO x.1 t a
 .rw[alR hk,alN.2 hk];show aG (vW (a.filter (gJ x.1)) x) t=_;rw[ac7 Jf];unfold Si;split
  .next e=>rw[e];exact HY _ λy hy=>Jf y (Jd hy).2
  .next e=>rw[UZ λh=>e h.symm,ank,JO,if_neg e]
theorem ac8{a:List aW}(h:YL a)(x:aW):YL (eH a x.1 x.2.1 x.2.2.1 x.2.2.2.1):=by
 unfold eH;have g:RZ (a.filter (gJ x.1)):=List.Pairwise.filter _ h.1;by_cases hk:x.2.1=0
 .rw[alP hk];exact⟨g,λy hy=>h.2 y (ane.1 hy).1⟩
 .rw[alR hk];show YL (vW (a.filter (gJ x.1)) x);rw[ac7 Jf];refine⟨ahy g ?_,λy hy=>?_⟩
  .rw[anA];intro hx;obtain⟨y,my,he⟩:=anH.1 hx;exact Jf y my (alT.1 he)
  .rcases ame.1 ((agQ _ x).mem_iff.1 hy)with rfl|hy
   .exact hk
   .exact h.2 y (ane.1 hy).1
theorem Sj{a:List aW}(h:YL a)(x:aW):x∈a↔x.2.1≠0/\aG a x.1=x.2:=by
 constructor
 .intro hx;refine⟨h.2 x hx,?_⟩;obtain⟨p,q,rfl⟩:=List.append_of_mem hx;have:=h.1;unfold RZ at this;rw[ann]at this;exact HY p λy hy=>KX (this.2.2 y hy x alW)
 .rintro⟨h0,he⟩;have:∀(l:List aW),aG l x.1=x.2->x∈l:=by
   intro l
   induction l with
   |nil=>
    intro e;have e:((0,0,[],()):pq)=x.2:=e;exact(h0 (by rw[← e])).elim
   |cons y r ih=>
    intro e;rw[aG]at e;by_cases hy:y.1=x.1
    .rw[alT.2 hy]at e;have e:y.2=x.2:=e;rw[show x=y from aow hy.symm e.symm];exact alW
    .rw[alN.2 hy]at e;exact alU _ (ih e)
  exact this a he
theorem ac9{fs:List bV}{a:List aW}(h:kJ fs a=true):YL a:=by obtain⟨h1,h2⟩:=uG.1 h;refine⟨h2,λx hx e=>?_⟩;have:=h1 x hx;unfold dY at this;rw[alP e]at this;simp at this
def agR(l:List aW)(i:Nat):List aW:=l.take i++l.drop (i+1)
def edited(f:aH)(l:List aW):aH:=(f.1,f.2.1,f.2.2.1,f.2.2.2.1,ajd f.2.2.2.2.1 l,())
theorem RG{fs:List bV}{f:aH}(h:bU fs f=true):kJ fs f.2.2.2.2.1=true:=by unfold bU at h;simp only[alK]at h;exact h.1.1.1.1
end Sp
namespace Sp
open Go
theorem zu{s:bF}:aB s=true↔(∀f∈s.2.1,bU s.1 f=true/\f.1<s.2.2.1)/\(s.2.1.Pairwise λf g=>f.1<g.1)/\bK s.1=true/\s.2.1.length<=12/\1<=s.2.2.1/\s.2.2.1<=61:=by
 have at_:∀i(hi:i<s.2.1.length),fileAt s.2.1 i=s.2.1[i]:=λi hi=>by unfold fileAt;rw[alM,alO hi];rfl
 constructor
 .intro h;obtain⟨h1,h2,h3,h4,h5⟩:=lW.1 h;refine⟨λf hf=>?_,?_,h2,h3,h4,h5⟩
  .obtain⟨i,hi,rfl⟩:=Gf hf;obtain⟨k1,k2,_⟩:=wu.1 (h1 i hi);exact⟨k1,k2⟩
  .refine an8.2 λi j hi hj hij=>?_;have:=YJ h j i hij hj
   rwa [at_ i hi,at_ j hj]at this
 .rintro⟨h1,h2,h3⟩;refine lW.2 ⟨λi hi=>wu.2 ⟨(h1 _ (Dt hi)).1,(h1 _ (Dt hi)).2,λh0=>?_⟩,h3⟩;rw[at_ i hi,at_ (i-1) (by omega)];exact an8.1 h2 (i-1) i (by omega) hi (by omega)
open Classical in
noncomputable def Ep (fs:List aH) (d:List aK):List bP:=if h:∃out,fK fs d [] (λ_=>true) out then h.choose else[]
theorem aaC{fs:List aH}{d:List aK}{out:List bP}(hd:eF d=true)(h:fK fs d [] (λ_=>true) out):Ep fs d=out:=by unfold Ep;have hx:∃out,fK fs d [] (λ_=>true) out:=⟨out,h⟩;rw[dif_pos hx];exact Dj hd hx.choose_spec h
theorem Nu{d:List aK}(h:ax d=true):eF d=true:=by unfold ax at h;rw[alK]at h;exact h.1
noncomputable def aiy (s:bF) (d:List aK) (u:Int) (name:Bytes):List (Int×Unit):=dn (Ep (visible s u).2.1 d) name
noncomputable def listed (s:bF) (d:List aK) (u:Int) (name:Bytes) (id:Int):Bool:=fF (aiy s d u name) id
def aej(d:List aK)(name:Bytes):aK×Bool:=bif decide (aF d name<0)then(([],[],()),false)else(bW d (aF d name).toNat,true)
def aje(s:bF)(u id:Int):aH:=(lD (visible s u) id).1
def ajT(q:List aY)(f:aH)(X:BX)(m:Bool):Em:=bif aU q then Ls q f X (q.length-1) m else Hz
noncomputable def afE (c:jV) (u:Int) (name:Bytes) (id:Int) (b:Bool):Em:=
 ajT (aej (gQ c) name).1.2.1 (aje (dI c) u id) (aT (Ep (visible (dI c) u).2.1 (gQ c))) b
def ada(c:jV)(id:Int)(l:List aW):bF×Bool:=adI (dI c) (edited (lD (dI c) id).1 l)
noncomputable def needed (c:jV) (u:Int) (name:Bytes) (id:Int) (b:Bool) (l:List aW) (i:Nat):Bool:=
 (ada c id (agR l i)).2&&!(listed (ada c id (agR l i)).1 (gQ c) u name id==b)
noncomputable def ajf (c:jV) (u:Int) (name:Bytes) (id:Int) (b:Bool) (w:Em):Bool:=
 w.1&&((ada c id w.2.1).2&&((listed (ada c id w.2.1).1 (gQ c) u name id==b)&&gu w.2.1.length (needed c u name id b w.2.1)))
noncomputable def akZ (c:jV) (u:Int) (name:Bytes) (id:Int) (b:Bool):Bool:=
 (jg c&&(ahw c u id&&(aej (gQ c) name).2))&&ajf c u name id b (afE c u name id b)
def written(c:jV)(u:Int)(name:Bytes)(id:Int)(b:Bool)(c':jV)(set:List aW)(ok:Bool):Prop:=
 ok=akZ c u name id b/\(ok=true->dI c'=(ada c id (afE c u name id b).2.1).1/\gQ c'=gQ c/\jg c'=true/\set=(afE c u name id b).2.1)/\(ok=false->c'=c/\set=[])
end Sp
namespace Sp
open Go
theorem Zi{s:Bytes}(h:(eG s).2=true):fJ (eG s).1=s/\0<=(eG s).1/\(eG s).1<=999/\s.length<=3:=by
 have hc:(s.all isLet&&(iG (iL s)&&decide (parseNum (iL s)<=999)))=true:=by
  cases hx:(s.all isLet&&(iG (iL s)&&decide (parseNum (iL s)<=999)))with
  |true=>rfl
  |false=>unfold eG at h;rw[hx]at h;cases h
 have e:(eG s).1=parseNum (iL s):=by unfold eG;rw[hc];rfl
 rw[alK,alK,alX,al0]at hc;obtain⟨h1,h2,h3⟩:=hc;obtain⟨g1,g2⟩:=oZ h2;have g3:=(CY.1 g2).1;rw[e];have eb:fJ (parseNum (iL s))=s:=by unfold fJ;rw[alP g3,alP h3,g1];show(iL s).map _=s;unfold iL;rw[anb];refine(am8 λb hb=>?_).trans (anQ _);have:=h1 b hb;unfold isLet at this;simp only[alK,alX]at this;show UInt8.ofNat ((UInt8.ofNat (b.toNat-49)).toNat+49)=b;rw[anO,anF (by omega),show b.toNat-49+49=b.toNat by omega];exact UInt8.ofNat_toNat
 refine⟨eb,g3,h3,?_⟩;have hl:(iL s).length=s.length:=by unfold iL;rw[alV]
 rw[← hl,← g1];obtain⟨u,hu⟩:=anJ g3;rw[hu,MI];exact(rM 2 u (by omega)).2.2.2.2
theorem aiz{v:pq}{to:Int}(h:(dJ v to).2=true):bQ v.1 v.2.1 v.2.2.1=true/\v.1≠0/\(to=1\/to=2)/\(v.1=to/\(dJ v to).1=v\/v.1≠to/\to=2/\(dJ v to).1=(2,0,fJ v.2.1,())\/v.1≠to/\to=1/\(eG v.2.2.1).2=true/\(dJ v to).1=(1,(eG v.2.2.1).1,[],())):=by
 unfold dJ at h ⊢;cases hx:(bQ v.1 v.2.1 v.2.2.1&&(!(v.1==0)&&(to==1||to==2)))with
 |false=>rw[hx]at h;cases h
 |true=>
  rw[hx]at h;have hh:=hx;rw[alK,alK,amN,alT,alT]at hh;refine⟨hh.1,by simpa using hh.2.1,hh.2.2,?_⟩;dsimp only[cond_true]at h ⊢;cases h1:v.1==to with
  |true=>exact .inl ⟨alT.1 h1,rfl⟩
  |false=>
   rw[h1]at h;have n1:=alN.1 h1;cases h2:to==2 with
   |true=>exact .inr (.inl ⟨n1,alT.1 h2,rfl⟩)
   |false=>
    rw[h2]at h;cases h3:(eG v.2.2.1).2 with
    |false=>rw[h3]at h;cases h
    |true=>exact .inr (.inr ⟨n1,hh.2.2.resolve_right (alN.1 h2),rfl,rfl⟩)
theorem aaK{v:pq}{to:Int}(h:(dJ v to).2=false):(dJ v to).1=(0,0,[],()):=by
 unfold dJ at h ⊢;cases hx:(bQ v.1 v.2.1 v.2.2.1&&(!(v.1==0)&&(to==1||to==2)))with
 |false=>rfl
 |true=>
  rw[hx]at h;dsimp only[cond_true]at h ⊢;cases h1:v.1==to with
  |true=>rw[h1]at h;cases h
  |false=>
   rw[h1]at h;cases h2:to==2 with
   |true=>rw[h2]at h;cases h
   |false=>
    rw[h2]at h;cases h3:(eG v.2.2.1).2 with
    |true=>rw[h3]at h;cases h
    |false=>rfl
theorem ahn{n:Int}{s:Bytes}(h:bQ 1 n s=true):0<=n/\n<=999/\s=[]:=by unfold bQ at h;simp at h;exact⟨h.1.1,h.1.2,h.2⟩
theorem akR{n:Int}{s:Bytes}(h:bQ 2 n s=true):dX s=true/\n=0:=by unfold bQ at h;simp at h;exact h
theorem acS{k n:Int}{s:Bytes}(h:bQ k n s=true):k=0\/k=1\/k=2:=by
 unfold bQ at h;by_cases h0:k=0
 .exact .inl h0
 by_cases h1:k=1
 .exact .inr (.inl h1)
 by_cases h2:k=2
 .exact .inr (.inr h2)
 rw[alR h0,alR h1,alR h2]at h;cases h
theorem aiA{v:pq}{to:Int}(h:(dJ v to).2=true):(dJ v to).1.1=to/\bQ (dJ v to).1.1 (dJ v to).1.2.1 (dJ v to).1.2.2.1=true:=by
 obtain⟨h1,h2,h3,⟨a,e⟩|⟨a,b,e⟩|⟨a,b,c,e⟩⟩:=aiz h
 .rw[e];exact⟨a,h1⟩
 .rw[e,b];have:v.1=1:=by rcases acS h1 with x|x|x<;>omega
  rw[this]at h1;exact⟨rfl,ahx (ahn h1).1 (ahn h1).2.1⟩
 .rw[e,b];obtain⟨_,g1,g2,_⟩:=Zi c;exact⟨rfl,afB g1 g2⟩
theorem NW(name:Bytes)(kind:Int)(f:bV):(fD name kind f).1=f.1:=by unfold fD;cases f.1==name<;>rfl
theorem Sl{name s:Bytes}{kind:Int}(h:s≠name):∀(fs:List bV),kindOf (fs.map (fD name kind)) s=kindOf fs s
 |[]=>rfl
 |f::r=>by
  rw[al8,kindOf,kindOf,NW,Sl h r];by_cases e:f.1=s
  .rw[alP e];unfold fD;rw[alN.2 (λe2=>h (e.symm.trans e2))];rfl
  .rw[alR e];rfl
theorem JQ{name:Bytes}{kind:Int}:∀(fs:List bV),kindOf fs name≠0->kindOf (fs.map (fD name kind)) name=kind
 |[],h=>(h rfl).elim
 |f::r,h=>by
  rw[al8,kindOf,NW];rw[kindOf]at h;by_cases e:f.1=name
  .rw[alP e];unfold fD;rw[alT.2 e];rfl
  .rw[alR e]at h ⊢;exact JQ r h
theorem Sm{fs:List bV}{name:Bytes}{kind:Int}(h:bK fs=true)(hk:kind=1\/kind=2):bK (fs.map (fD name kind))=true:=by
 obtain⟨h1,h2⟩:=Hy.1 h;have at_:∀i,i<fs.length->fieldAt (fs.map (fD name kind)) i=fD name kind (fieldAt fs i):=λi hi=>by unfold fieldAt;rw[alM,alO (by rw[alV];exact hi),alM,alO hi];simp
 refine Hy.2 ⟨λi hi=>?_,by rw[alV];exact h2⟩;rw[alV]at hi;obtain⟨g1,g2,g3⟩:=EU.1 (h1 i hi);refine EU.2 ?_;rw[at_ i hi,NW];refine⟨g1,?_,λh0=>?_⟩
 .unfold fD;cases (fieldAt fs i).1==name with
  |false=>exact g2
  |true=>show 1<=kind/\kind<=2;omega
 .rw[at_ (i-1) (by omega),NW];exact g3 h0
theorem Ot{fs:List bV}{name:Bytes}{kind:Int}{x:aW}(h:x.1≠name):dY (fs.map (fD name kind)) x.1 x.2.1 x.2.2.1 x.2.2.2.1=dY fs x.1 x.2.1 x.2.2.1 x.2.2.2.1:=by unfold dY;rw[Sl h]
theorem YM(name:Bytes)(kind:Int)(f:aH):(dQ name kind f).1=f.1:=by unfold dQ;cases (aG f.2.2.2.2.1 name).1==0<;>rfl
theorem afF{fs:List bV}{name:Bytes}{kind:Int}{f:aH}(h:bU fs f=true)(hs:bK fs=true)(hk:kind=1\/kind=2)(hn:kindOf fs name≠0):bU (fs.map (fD name kind)) (dQ name kind f)=true:=by
 have ha:=RG h;have afG:=ac9 ha;obtain⟨a1,a2⟩:=uG.1 ha;have key:kJ (fs.map (fD name kind)) (dQ name kind f).2.2.2.2.1=true:=by
  unfold dQ;by_cases h0:(aG f.2.2.2.2.1 name).1=0
  .rw[alT.2 h0];refine uG.2 ⟨λx hx=>?_,a2⟩;rw[Ot]
   .exact a1 x hx
   .intro e;have:=(Sj afG x).1 hx;rw[e]at this;rw[this.2]at h0;exact this.1 h0
  .rw[alN.2 h0];dsimp only[cond_false];have n2:=ac8 afG (name,(dJ (aG f.2.2.2.2.1 name) kind).1.1,(dJ (aG f.2.2.2.2.1 name) kind).1.2.1,(dJ (aG f.2.2.2.2.1 name) kind).1.2.2.1,());refine uG.2 ⟨λx hx=>?_,n2.1⟩;obtain⟨x1,x2⟩:=(Sj n2 x).1 hx;rw[U0]at x2;by_cases e:x.1=name
   .rw[if_pos e]at x2;have hc:(dJ (aG f.2.2.2.2.1 name) kind).2=true:=by
     cases hc:(dJ (aG f.2.2.2.2.1 name) kind).2 with
     |true=>rfl
     |false=>unfold afD at x2;rw[aaK hc]at x2;exact(x1 (by rw[← x2];rfl)).elim
    obtain⟨k1,k2⟩:=aiA hc;have:x.2=(dJ (aG f.2.2.2.2.1 name) kind).1:=by rw[← x2];unfold afD;dsimp only;rw[k1,alN.2 (by omega)];exact aow k1.symm rfl
    unfold dY;rw[e,JQ fs hn,this,k2,k1,alR (show ¬kind=0 by omega),alP rfl];rfl
   .rw[if_neg e]at x2;rw[Ot e];exact a1 x ((Sj afG x).2 ⟨x1,x2⟩)
 have hp:=h;unfold bU at h ⊢;rw[ha,hs]at h;rw[key,Sm hs hk];unfold dQ;cases (aG f.2.2.2.2.1 name).1==0<;>exact h
theorem agS{s:bF}{name:Bytes}{kind:Int}(h:(bM s name kind).2.2=true):aB s=true/\kindOf s.1 name≠0/\(kind=1\/kind=2)/\bM s name kind=((s.1.map (fD name kind),s.2.1.map (dQ name kind),s.2.2.1,()),(s.2.1.filter (bZ name kind)).map (λf=>(f.1,())),true):=by
 unfold bM at h ⊢;cases hx:(aB s&&(!decide (fieldPlace s.1 name<0)&&(kind==1||kind==2)))with
 |false=>rw[hx]at h;cases h
 |true=>rw[alK,alK,amN,alT,alT]at hx;obtain⟨h1,h2,h3⟩:=hx;refine⟨h1,?_,h3,rfl⟩;have:=ahu (name:=name) (zu.1 h1).2.2.1;intro e;rw[alP e]at this;rw[← this]at h2;cases h2
theorem aaB{s:bF}{name:Bytes}{kind:Int}(h:(bM s name kind).2.2=true):aB (bM s name kind).1=true/\kindOf (bM s name kind).1.1 name=kind/\
 ∀x∈(bM s name kind).2.1,aG (lD (bM s name kind).1 x.1).1.2.2.2.2.1 name=(0,0,[],()):=by
 obtain⟨h1,h2,h3,e⟩:=agS h;obtain⟨k1,k2,k3,k4,k5⟩:=zu.1 h1;rw[e];have hok:aB (s.1.map (fD name kind),s.2.1.map (dQ name kind),s.2.2.1,())=true:=by
  refine zu.2 ⟨λf hf=>?_,?_,Sm k3 h3,by show(s.2.1.map (dQ name kind)).length<=12;rw[alV];exact k4,k5⟩
  .obtain⟨g,hg,rfl⟩:=am6.1 hf;rw[YM];exact⟨afF (k1 g hg).1 k3 h3 h2,(k1 g hg).2⟩
  .show List.Pairwise _ (s.2.1.map (dQ name kind));rw[aoH];exact k2.imp λ{a b} hab=>by rw[YM,YM];exact hab
 refine⟨hok,JQ s.1 h2,λx hx=>?_⟩;obtain⟨f,hf,rfl⟩:=am6.1 hx;obtain⟨f1,f2⟩:=ane.1 hf;have hm:dQ name kind f∈(s.1.map (fD name kind),s.2.1.map (dQ name kind),s.2.2.1,()).2.1:=am6.2 ⟨f,f1,rfl⟩;have ef:=ac1 hok hm;rw[YM]at ef;dsimp only;rw[ef];unfold bZ at f2;rw[alK]at f2;have g1:(aG f.2.2.2.2.1 name).1≠0:=by simpa using f2.1
 have g2:(dJ (aG f.2.2.2.2.1 name) kind).2=false:=by simpa using f2.2
 unfold dQ;rw[alN.2 g1];dsimp only[cond_false];rw[aaK g2];exact(U0 f.2.2.2.2.1 (name,0,0,[],()) name).trans (if_pos rfl)
end Sp
namespace Go.Fw
open Go
theorem acE{α:Type}{l:List α}{lo:Nat}{news:List α}(h:lo+news.length<=l.length):(dG l lo news).length=l.length:=by unfold dG;simp only[al7,alQ,amh];omega
theorem aat{α:Type}{l:List α}{lo k:Nat}{news:List α}(hk:k<=lo)(h:lo<=l.length):(dG l lo news).take k=l.take k:=by unfold dG;rw[amn,amS (by rw[alQ];omega),anp,am9 hk]
theorem eqL{α β:Type}(e:α->α->Bool)(he:∀x y,e x y=false↔x=y)(d:α)(a b:List α)[Decidable (a=b)](t:β)(hlen:a.length<=maxLen){K:Bool×Unit->Prop}(hK:K (decide (a=b),())):
 bif ((a.length:Int)) !=(b.length:Int)then K (false,())else
 ∃(I:(Int×Unit)×Unit->Prop),∃(μ:(Int×Unit)×Unit->Nat),I (((0:Int),()),())/\∀(y:(Int×Unit)×Unit),I y->
  bif decide (y.fst.fst<(a.length:Int))then
   ((0:Int)<=y.fst.fst/\y.fst.fst<(a.length:Int))/\((0:Int)<=y.fst.fst/\y.fst.fst<(b.length:Int))/\
     (bif e (a.getD (Int.toNat y.fst.fst) d) (b.getD (Int.toNat y.fst.fst) d)then K (false,())
     else t=t/\I ((IntKind.i64.wrap (y.fst.fst+(1:Int)),()),())/\μ ((IntKind.i64.wrap (y.fst.fst+(1:Int)),()),())<μ y)
  else K (true,()):=by
 rw[maxLen_eq]at hlen;refine af (λh=>?_) λh=>?_
 .have h:(a.length:Int)≠b.length:=by simpa using h
  rw[alR λe=>h (by rw[e])]at hK;exact hK
 .have h:(a.length:Int)=b.length:=by simpa using h
  exact KI e he d a b t hlen (by omega) (λe=>by rw[alR e]at hK;exact hK) λe=>by rw[alP e]at hK;exact hK
theorem ai2{α β:Type}(e:α->α->Bool)(he:∀x y,e x y=false↔x=y)(d:α)(a b:List α)[Decidable (a=b)](t:β)(hlen:a.length<=maxLen){K:Bool×Unit->Prop}(hK:K (decide (a=b),())):
 bif ((a.length:Int)) !=(b.length:Int)then K (false,())else
 ∃(I:(Int×Unit)×Unit->Prop),∃(μ:(Int×Unit)×Unit->Nat),I (((0:Int),()),())/\∀(y:(Int×Unit)×Unit),I y->
  bif decide (y.fst.fst<(a.length:Int))then
   ((0:Int)<=y.fst.fst/\y.fst.fst<(a.length:Int))/\((0:Int)<=y.fst.fst/\y.fst.fst<(b.length:Int))/\True/\
     (bif e (a.getD (Int.toNat y.fst.fst) d) (b.getD (Int.toNat y.fst.fst) d)then K (false,())
     else t=t/\I ((IntKind.i64.wrap (y.fst.fst+(1:Int)),()),())/\μ ((IntKind.i64.wrap (y.fst.fst+(1:Int)),()),())<μ y)
  else K (true,()):=by
 rw[maxLen_eq]at hlen;refine af (λh=>?_) λh=>?_
 .have h:(a.length:Int)≠b.length:=by simpa using h
  rw[alR λe=>h (by rw[e])]at hK;exact hK
 .have h:(a.length:Int)=b.length:=by simpa using h
  exact VG e he d a b t hlen (by omega) (λe=>by rw[alR e]at hK;exact hK) λe=>by rw[alP e]at hK;exact hK
theorem Rl{α β:Type}(p:α->Bool)(d:α)(a:List α)(t:β)(hlen:a.length<=maxLen){K:Int×Unit->Prop}(hK:K (Sp.findAt p a,())):
 ∃(I:(Int×Unit)×Unit->Prop),∃(μ:(Int×Unit)×Unit->Nat),I (((0:Int),()),())/\∀(y:(Int×Unit)×Unit),I y->
  bif decide (y.fst.fst<(a.length:Int))then
   ((0:Int)<=y.fst.fst/\y.fst.fst<(a.length:Int))/\True/\
     (bif p (a.getD (Int.toNat y.fst.fst) d)then K (y.fst.fst,())
     else t=t/\I ((IntKind.i64.wrap (y.fst.fst+(1:Int)),()),())/\μ ((IntKind.i64.wrap (y.fst.fst+(1:Int)),()),())<μ y)
  else K ((-1:Int),()):=by
 rw[maxLen_eq]at hlen;refine iH a.length hlen (λn=>∀i,i<n->p (a.getD i d)=false) (λi hi=>by omega) (λI μ n hn hJ next=>?_) λI μ hJ=>?_
 .dsimp only;refine dR (by omega) ⟨⟨by omega,by omega⟩,trivial,af (λh=>?_) λh=>⟨rfl,next λi hi=>?_⟩⟩
  .rw[Sp.aaG hn hJ h]at hK;exact hK
  .rcases al4 i n with h'|h'
   .exact hJ i h'
   .have:i=n:=by omega
    rw[this];exact h
 .dsimp only;refine dS (by omega) ?_;rw[Sp.UY hJ]at hK;exact hK
theorem agz{α β:Type}(p:α->Bool)(d:α)(a:List α)(t:β)(hlen:a.length<=maxLen){K:Int×Unit->Prop}(hK:K (Sp.findAt p a,())):
 ∃(I:(Int×Unit)×Unit->Prop),∃(μ:(Int×Unit)×Unit->Nat),I (((0:Int),()),())/\∀(y:(Int×Unit)×Unit),I y->
  bif decide (y.fst.fst<(a.length:Int))then
   ((0:Int)<=y.fst.fst/\y.fst.fst<(a.length:Int))/\
     (bif p (a.getD (Int.toNat y.fst.fst) d)then K (y.fst.fst,())
     else t=t/\I ((IntKind.i64.wrap (y.fst.fst+(1:Int)),()),())/\μ ((IntKind.i64.wrap (y.fst.fst+(1:Int)),()),())<μ y)
  else K ((-1:Int),()):=by
 obtain⟨I,μ,h0,h1⟩:=Rl p d a t hlen hK;refine⟨I,μ,h0,λy hy=>?_⟩;have:=h1 y hy;revert this;cases decide (y.fst.fst<(a.length:Int))with
 |true=>exactλh=>⟨h.1,h.2.2⟩
 |false=>exact id
theorem aed{α β:Type}(p:α->Bool)(d:α)(s:List α)(t:β)(hlen:s.length<=4611686018427387903){K:(List α×Unit)×Unit->Prop}(hK:K ((s.filter λx=>!p x,()),())):
 bif Sp.findAt p s==(-1:Int)then K ((s,()),())else
 ∃(I:(Int×Int×Unit)×List α×Unit->Prop),∃(μ:(Int×Int×Unit)×List α×Unit->Nat),
  I ((Sp.findAt p s,IntKind.i64.wrap (Sp.findAt p s+(1:Int)),()),s,())/\∀(y:(Int×Int×Unit)×List α×Unit),I y->
    bif decide (y.fst.snd.fst<(↑(List.length y.snd.fst):Int))then
     ((0:Int)<=y.fst.snd.fst/\y.fst.snd.fst<(↑(List.length y.snd.fst):Int))/\Int.toNat y.fst.snd.fst<List.length y.snd.fst/\True/\
       (bif !p (List.getD y.snd.fst (Int.toNat y.fst.snd.fst) d)then
         ((0:Int)<=y.fst.fst/\y.fst.fst<(↑(List.length y.snd.fst):Int))/\Int.toNat y.fst.fst<List.length y.snd.fst/\t=t/\
           I ((IntKind.i64.wrap (y.fst.fst+(1:Int)),IntKind.i64.wrap (y.fst.snd.fst+(1:Int)),()),List.set y.snd.fst (Int.toNat y.fst.fst) (List.getD y.snd.fst (Int.toNat y.fst.snd.fst) d),())/\
           μ ((IntKind.i64.wrap (y.fst.fst+(1:Int)),IntKind.i64.wrap (y.fst.snd.fst+(1:Int)),()),List.set y.snd.fst (Int.toNat y.fst.fst) (List.getD y.snd.fst (Int.toNat y.fst.snd.fst) d),())<μ y
       else t=t/\I ((y.fst.fst,IntKind.i64.wrap (y.fst.snd.fst+(1:Int)),()),y.snd.fst,())/\μ ((y.fst.fst,IntKind.i64.wrap (y.fst.snd.fst+(1:Int)),()),y.snd.fst,())<μ y)
    else
     (0:Nat)<List.length y.snd.fst/\((0:Int)<=y.fst.fst/\y.fst.fst<=(↑(List.length y.snd.fst):Int))/\
       (0:Nat)+Int.toNat y.fst.fst+(List.length y.snd.fst-Int.toNat y.fst.fst)<=List.length y.snd.fst/\
         ((0:Nat)<(dG y.snd.fst ((0:Nat)+Int.toNat y.fst.fst) (List.replicate (List.length y.snd.fst-Int.toNat y.fst.fst) d)).length/\
           List.length y.snd.fst<=(dG y.snd.fst ((0:Nat)+Int.toNat y.fst.fst) (List.replicate (List.length y.snd.fst-Int.toNat y.fst.fst) d)).length)/\
           ((0:Int)<=y.fst.fst/\y.fst.fst<=(↑(List.take (List.length y.snd.fst) (dG y.snd.fst ((0:Nat)+Int.toNat y.fst.fst) (List.replicate (List.length y.snd.fst-Int.toNat y.fst.fst) d))).length:Int))/\
             K ((List.take (Int.toNat y.fst.fst) (List.take (List.length y.snd.fst) (dG y.snd.fst ((0:Nat)+Int.toNat y.fst.fst) (List.replicate (List.length y.snd.fst-Int.toNat y.fst.fst) d))),()),()):=by
 rcases Sp.Dp p d s with⟨e,hno⟩|⟨n,hn,e,he,hne⟩
 .rw[e];have:s.filter (λx=>!p x)=s:=aou.2 λx hx=>by obtain⟨i,hi,rfl⟩:=amx hx;have:=hno i hi;rw[alM,alO hi]at this;exact congrArg Bool.not this
  rw[this]at hK;exact hK
 .rw[e];have e1:(((n:Nat):Int)==-1)=false:=by rw[alN];omega
  rw[e1];have w1:∀k:Nat,k<=4611686018427387903->IntKind.i64.wrap ((k:Int)+1)=((k+1:Nat):Int):=λk hk=>fU _ (by omega);rw[w1 n (by omega)];refine⟨λy=>∃(i j:Nat)(l:List α),y=(((i:Int),(j:Int),()),l,())/\i<j/\j<=s.length/\l.length=s.length/\l.take i=(s.take j).filter (λx=>!p x)/\∀t,j<=t->l.getD t d=s.getD t d,
   λy=>((s.length:Int)-y.1.2.1).toNat,⟨n,n+1,s,rfl,by omega,by omega,rfl,?_,λ_ _=>rfl⟩,?_⟩
  .rw[Sp.take_succ' s n d hn,anj,an3];have h1:(!p (s.getD n d))=false:=congrArg Bool.not he;rw[h1];have h2:(s.take n).filter (λx=>!p x)=s.take n:=aou.2 λx hx=>by
    obtain⟨i,hi,rfl⟩:=amx hx;have hi':i<n:=by rw[alQ]at hi;omega
    have:=hne i hi';rw[alM,alO (by omega)]at this;rw[List.getElem_take];exact congrArg Bool.not this
   rw[h2];simp
  .rintro y ⟨i,j,l,rfl,hij,hj,hl,ht,hs⟩;dsimp only;refine af (λh=>?_) λh=>?_
   .have h:j<s.length:=by have h:=am2 h;omega
    have hsj:=hs j (alY _);rw[amd,amd,hsj,w1 i (by omega),w1 j (by omega)];refine⟨⟨by omega,by omega⟩,by omega,trivial,af (λh2=>⟨⟨by omega,by omega⟩,by omega,rfl,⟨i+1,j+1,_,rfl,by omega,by omega,by rw[amX];exact hl,?_,λt ht=>?_⟩,by omega⟩) λh2=>⟨rfl,⟨i,j+1,l,rfl,by omega,by omega,hl,?_,λt ht=>hs t (by omega)⟩,by omega⟩⟩
    .rw[Sp.take_succ' _ i d (by rw[amX];omega),Sp.take_succ' s j d h,anj,an3,List.take_set_of_le (alY _),ht];have h3:(!p (s.getD j d))=true:=h2;rw[h3,alM,anT,if_pos rfl,if_pos (by omega)];rfl
    .rw[alM,anT,if_neg (by omega),← alM];exact hs t (by omega)
    .rw[Sp.take_succ' s j d h,anj,an3,ht];have h3:(!p (s.getD j d))=false:=h2;rw[h3];simp
   .have h:j=s.length:=by have h:=of_decide_eq_false h;omega
    rw[amd,al9];have l1:(dG l i (List.replicate (l.length-i) d)).length=l.length:=acE (by rw[aoi];omega);refine⟨by omega,⟨by omega,by omega⟩,by omega,⟨by rw[l1];omega,by rw[l1];omega⟩,⟨by omega,by rw[alQ,l1];omega⟩,?_⟩;rw[anp,am9 (by omega),aat (alY _) (by omega),ht,h,amu];exact hK
end Go.Fw
namespace Go.Fw
open Go
theorem akO{α β:Type}(p:α->Bool)(d:α)(a:List α)(t:β)(hlen:a.length<=maxLen){K:Bool×Unit->Prop}(hK:K (a.any p,())):
 ∃(I:(Int×Unit)×Unit->Prop),∃(μ:(Int×Unit)×Unit->Nat),I (((0:Int),()),())/\∀(y:(Int×Unit)×Unit),I y->
  bif decide (y.fst.fst<(a.length:Int))then
   ((0:Int)<=y.fst.fst/\y.fst.fst<(a.length:Int))/\
     (bif p (a.getD (Int.toNat y.fst.fst) d)then K (true,())
     else t=t/\I ((IntKind.i64.wrap (y.fst.fst+(1:Int)),()),())/\μ ((IntKind.i64.wrap (y.fst.fst+(1:Int)),()),())<μ y)
  else K (false,()):=by
 rw[maxLen_eq]at hlen;refine iH a.length hlen (λn=>∀i,i<n->p (a.getD i d)=false) (λi hi=>by omega) (λI μ n hn hJ next=>?_) λI μ hJ=>?_
 .dsimp only;refine dR (by omega) ⟨⟨by omega,by omega⟩,af (λh=>?_) λh=>⟨rfl,next λi hi=>?_⟩⟩
  .have:a.any p=true:=anH.2 ⟨a.getD n d,by rw[alM,alO hn];exact am0 hn,h⟩;rw[this]at hK;exact hK
  .rcases al4 i n with h'|h'
   .exact hJ i h'
   .have:i=n:=by omega
    rw[this];exact h
 .dsimp only;refine dS (by omega) ?_;have:a.any p=false:=by rw[anR];intro x hx;obtain⟨i,hi,rfl⟩:=amx hx;have:=hJ i hi;rw[alM,alO hi]at this;simpa using this
  rw[this]at hK;exact hK
theorem acJ{α:Type}(p:α->Bool)(s:List α):decide (Sp.findAt p s>=0)=s.any p:=by
 cases hs:s with
 |nil=>rfl
 |cons d r=>
  rw[← hs];rcases Sp.Dp p d s with⟨e,h⟩|⟨n,hn,e,h1,h2⟩
  .rw[e,alR (by omega)]
   symm
   rw[anR];intro x hx;obtain⟨i,hi,rfl⟩:=amx hx;have:=h i hi;rw[alM,alO hi]at this;simpa using this
  .rw[e,alP (by omega)]
   symm
   exact anH.2 ⟨s.getD n d,by rw[alM,alO hn];exact am0 hn,h1⟩
theorem UN{α:Type}(p:α->Bool)(d:α)(l:List α){n:Nat}(h:n<l.length):(l.take (n+1)).filter p=(l.take n).filter p++(bif p (l.getD n d)then[l.getD n d]else[]):=by rw[Sp.take_succ' l n d h,anj,an3];cases p (l.getD n d)<;>rfl
theorem VW{α β δ:Type}(p:α->Bool)(g:α->β)(d:α)(a:List α)(t:δ){A:Int->Prop}(hA:∀n:Nat,n<a.length->A n)(hlen:a.length<=4000000){K:List β×Unit->Prop}(hK:K ((a.filter p).map g,())):
 ∃(I:(Unit×Int×Unit)×List β×Unit->Prop),∃(μ:(Unit×Int×Unit)×List β×Unit->Nat),I (((),(0:Int),()),[],())/\∀(y:(Unit×Int×Unit)×List β×Unit),I y->
  bif decide (y.1.2.1<(a.length:Int))then
   ((0:Int)<=y.1.2.1/\y.1.2.1<(a.length:Int))/\A y.1.2.1/\
     (bif p (a.getD (Int.toNat y.1.2.1) d)then List.length y.2.1+1<=big/\t=t/\I (((),IntKind.i64.wrap (y.1.2.1+(1:Int)),()),y.2.1++[g (a.getD (Int.toNat y.1.2.1) d)],())/\μ (((),IntKind.i64.wrap (y.1.2.1+(1:Int)),()),y.2.1++[g (a.getD (Int.toNat y.1.2.1) d)],())<μ y
     else t=t/\I (((),IntKind.i64.wrap (y.1.2.1+(1:Int)),()),y.2)/\μ (((),IntKind.i64.wrap (y.1.2.1+(1:Int)),()),y.2)<μ y)
  else K y.2:=by
 refine fZ (λi(x:List β)=>(((),i,()),x,())) (λy=>y.1.2.1) (λ_ _=>rfl) a.length (by omega) (λn l=>l=((a.take n).filter p).map g) (by simp) (λI μ n l hn hJ next=>?_) λI μ l hJ=>?_
 .subst hJ;have hl:(((a.take n).filter p).map g).length<=n:=by have:=amO p (a.take n);rw[alV];rw[alQ]at this;omega
  have step:=UN p d a hn;dsimp only;refine dR (by omega) ⟨⟨by omega,by omega⟩,hA n hn,af (λh=>⟨by rw[eY];omega,rfl,next _ ?_⟩) λh=>⟨rfl,next _ ?_⟩⟩
  .have h:p (a.getD n d)=true:=h;rw[step,h,amY];rfl
  .have h:p (a.getD n d)=false:=h;rw[step,h,amY];simp
 .subst hJ;dsimp only;refine dS (by omega) ?_;rw[amu];exact hK
theorem akP{α β δ:Type}(g:α->β)(d:α)(a:List α)(t:δ)(hlen:a.length<=4000000){K:List β×Unit->Prop}(hK:K (a.map g,())):
 ∃(I:(Unit×Int×Unit)×List β×Unit->Prop),∃(μ:(Unit×Int×Unit)×List β×Unit->Nat),I (((),(0:Int),()),[],())/\∀(y:(Unit×Int×Unit)×List β×Unit),I y->
  bif decide (y.1.2.1<(a.length:Int))then
   ((0:Int)<=y.1.2.1/\y.1.2.1<(a.length:Int))/\
     List.length y.2.1+1<=big/\t=t/\I (((),IntKind.i64.wrap (y.1.2.1+(1:Int)),()),y.2.1++[g (a.getD (Int.toNat y.1.2.1) d)],())/\μ (((),IntKind.i64.wrap (y.1.2.1+(1:Int)),()),y.2.1++[g (a.getD (Int.toNat y.1.2.1) d)],())<μ y
  else K y.2:=by
 obtain⟨I,μ,h0,h1⟩:=VW (λ_=>true) g d a t (A:=λ_=>True) (λ_ _=>trivial) hlen (K:=K) (by rw[aou.2 λ_ _=>rfl];exact hK);refine⟨I,μ,h0,λy hy=>?_⟩;have:=h1 y hy;revert this;cases decide (y.1.2.1<(a.length:Int))with
 |true=>exactλh=>⟨h.1,h.2.2⟩
 |false=>exact id
end Go.Fw
