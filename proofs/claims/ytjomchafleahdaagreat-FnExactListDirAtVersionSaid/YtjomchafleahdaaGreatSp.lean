import Derived.Test.YtjomchafleahdaaGreatFwA
import Derived.Lib.ItoaNum
import Derived.Lib.ItoaLen
import Derived.Lib.Join
import Derived.Test.YtjomchafleahdaaGreatFwC
import Derived.Lib.Fields
import Derived.Lib.Atoi
import Derived.Lib.SplitLaws
namespace Sp
open Go
abbrev Bytes:=List UInt8
abbrev LI:=List (Int×Unit)
abbrev LS:=List (Bytes×Unit)
def aH(n:Nat)(left:Int):Int:=if left-n<0 then -1 else left-n
theorem take_succ'{α:Type}(a:List α)(n:Nat)(d:α)(h:n<a.length):a.take (n+1)=a.take n++[a.getD n d]:=by rw[arW h,arp,aq8 h];rfl
def aa0(l:LI):Prop:=∀x∈l,-9223372036854775808<=x.1/\x.1<=9223372036854775807
theorem aa0.take{a:LI}(h:aa0 a)(n:Nat):aa0 (a.take n):=λx hx=>h x (List.mem_of_mem_take hx)
theorem aa0.get{a:LI}(h:aa0 a){n:Nat}(hn:n<a.length)(d:Int×Unit):(Lib.itoa (a.getD n d).1).length<=21:=by
 have:a.getD n d∈a:=by rw[arp,aq8 hn,Option.getD_some];exact List.getElem_mem hn
 exact Lib.itoa_length_le _ (h _ this).1 (h _ this).2
theorem acG(c:Nat):Lib.decDigits c=(if c / 10=0 then[]else Lib.decDigits (c / 10))++[UInt8.ofNat (48+c%10)]:=by
 conv=>lhs;rw[Lib.decDigits]
 by_cases h:c<10
 .rw[dif_pos h,if_pos (by omega),Nat.mod_eq_of_lt h];rfl
 .rw[dif_neg h,if_neg (by omega)]
end Sp
namespace Sp
open Go
set_option synthInstance.maxSize 100000
set_option synthInstance.maxHeartbeats 1000000
abbrev SG:=Int×Int×Bytes×Unit
abbrev dK:=Bytes×Int×Int×Bytes×Unit
abbrev aT:=Int×Int×Int×Bytes×Int×Int×Bytes×Unit
abbrev ay:=Int×Int×Bool×Int×List dK×Unit
abbrev aC:=Bytes×List aT×Unit
abbrev jo:=Int×Int×Int×Bool×Int×List dK×Int×Bytes×List aT×Unit
def Nq:dK->Nat|(n,_,_,s,_)=>n.length+s.length
def Nr:aT->Nat|(_,_,_,n,_,_,s,_)=>n.length+s.length
def iw{α:Type}(f:α->Nat):List α->Nat
 |[]=>0
 |x::r=>1+f x+iw f r
def zq(a:List dK):Nat:=iw Nq a
def Bz(a:List aT):Nat:=iw Nr a
def Fq:ay->Nat|(_,_,_,_,a,_)=>zq a
def Kw:aC->Nat|(n,q,_)=>n.length+Bz q
instance:DecidableEq SG:=inferInstance
instance:DecidableEq dK:=inferInstance
instance:DecidableEq aT:=inferInstance
instance:DecidableEq ay:=inferInstance
instance:DecidableEq aC:=inferInstance
instance:DecidableEq (Int×aC):=inferInstance
instance:DecidableEq (List dK×Int×aC):=inferInstance
instance:DecidableEq (Bool×Int×List dK×Int×aC):=inferInstance
instance apZ:DecidableEq jo:=(inferInstance:DecidableEq (Int×Int×Int×Bool×Int×List dK×Int×aC))
instance:DecidableEq (List jo):=inferInstance
instance:DecidableEq (List jo×Bytes×Int×Unit):=inferInstance
def lower(s:Bytes):Bool:=s.all λc=>decide (97<=c.toNat)&&decide (c.toNat<=122)
def dX(s:Bytes):Bool:=lower s&&decide (1<=(s.length:Int))&&decide ((s.length:Int)<=6)
def ny(n:Int):Bool:=decide (0<=n)&&decide (n<=1000000000)
def idxFrom:Int->LI->Int
 |_,[]=>-1
 |k,x::r=>if ny x.1 then idxFrom (k+1) r else k
def idxOf(l:LI):Int:=idxFrom 0 l
end Sp
namespace Sp
open Go
abbrev dH:=Bytes×Int×Unit
abbrev cu:=List dH×List ay×Int×Unit
instance:DecidableEq dH:=inferInstance
instance:DecidableEq (List dH):=inferInstance
instance:DecidableEq (List ay):=inferInstance
instance:DecidableEq (List ay×Int×Unit):=inferInstance
instance aqr:DecidableEq cu:=(inferInstance:DecidableEq (List dH×List ay×Int×Unit))
def usual:List dH:=[([97],1,()),([98],1,()),([110],2,()),([116],2,())]
def aaM(f:ay):Prop:=f.2.2.2.2.1.length<=1000
def iK(s:cu):Prop:=s.1.length<=1000/\s.2.1.length<=1000/\∀f∈s.2.1,aaM f
def fF(n:Nat)(f:Nat->Bool):Bool:=(List.range n).all f
def fM(s:Bytes):Bool:=lower s&&decide (1<=(s.length:Int))&&decide ((s.length:Int)<=1)
def gJ(k n:Int)(s:Bytes):Bool:=
 bif decide (k=0)then decide (n=0)&&decide (s=[])
 else bif decide (k=1)then decide (0<=n)&&decide (n<=999)&&decide (s=[])
 else bif decide (k=2)then dX s&&decide (n=0)
 else false
def kindOf:List dH->Bytes->Int
 |[],_=>0
 |f::r,s=>bif decide (f.1=s)then f.2.1 else kindOf r s
def fieldAt(fs:List dH)(i:Nat):dH:=fs.getD i ([],0,())
def iH(fs:List dH)(i:Nat):Bool:=
 fM (fieldAt fs i).1&&(decide (1<=(fieldAt fs i).2.1)&&decide ((fieldAt fs i).2.1<=2))&&!(decide (0<i)&&!Op.bytesLess (fieldAt fs (i-1)).1 (fieldAt fs i).1)
def dL(fs:List dH):Bool:=fF fs.length (iH fs)&&decide ((fs.length:Int)<=5)
def gB(fs:List dH)(name:Bytes)(k n:Int)(s:Bytes):Bool:=gJ k n s&&!decide (k=0)&&decide (k=kindOf fs name)
def bV(as:List dK)(i:Nat):dK:=as.getD i ([],0,0,[],())
def iO(fs:List dH)(as:List dK)(i:Nat):Bool:=
 gB fs (bV as i).1 (bV as i).2.1 (bV as i).2.2.1 (bV as i).2.2.2.1&&!(decide (0<i)&&!Op.bytesLess (bV as (i-1)).1 (bV as i).1)
def nH(fs:List dH)(as:List dK):Bool:=fF as.length (iO fs as)
def dP(fs:List dH)(f:ay):Bool:=
 nH fs f.2.2.2.2.1&&dL fs&&(decide (1<=f.1)&&decide (f.1<=60))&&(decide (0<=f.2.1)&&decide (f.2.1<=2))&&(decide (0<=f.2.2.2.1)&&decide (f.2.2.2.1<=60))
def fileAt(fs:List ay)(i:Nat):ay:=fs.getD i (0,0,false,0,[],())
def jc(s:cu)(i:Nat):Bool:=
 dP s.1 (fileAt s.2.1 i)&&decide ((fileAt s.2.1 i).1<s.2.2.1)&&!(decide (0<i)&&!decide ((fileAt s.2.1 (i-1)).1<(fileAt s.2.1 i).1))
def bf(s:cu):Bool:=
 fF s.2.1.length (jc s)&&dL s.1&&decide ((s.2.1.length:Int)<=12)&&(decide (1<=s.2.2.1)&&decide (s.2.2.1<=61))
def mQ:Int->List ay->Int->Int
 |_,[],_=>-1
 |k,f::r,id=>bif decide (f.1=id)then k else mQ (k+1) r id
def place(fs:List ay)(id:Int):Int:=mQ 0 fs id
def iF(f:ay)(u:Int):Bool:=(decide (0<=u)&&decide (u<=2))&&(decide (f.2.1=u)||f.2.2.1)
def akL(f:ay)(u:Int):Bool:=(decide (0<=u)&&decide (u<=2))&&decide (f.2.1=u)
def unlink(fs:List ay)(f:ay):ay:=(f.1,f.2.1,f.2.2.1,(bif decide (place fs f.2.2.2.1<0)then 0 else f.2.2.2.1),f.2.2.2.2.1,())
def visible(s:cu)(u:Int):cu:=
 let fs:=s.2.1.filter (iF · u)
 (s.1,fs.map (unlink fs),s.2.2.1,())
def am9:ay:=(0,0,false,0,[],())
def OV(s:cu)(id:Int):ay×Bool:=
 bif decide (place s.2.1 id<0)then(am9,false)else(fileAt s.2.1 (place s.2.1 id).toNat,true)
def af7(name:Bytes)(b:dK):Bool:=!(b.1==name)
def af8(name:Bytes)(b:dK):Bool:=Op.bytesLess b.1 name||b.1==name
def ame(as:List dK)(a:dK):List dK:=as.takeWhile (af8 a.1)++a::as.dropWhile (af8 a.1)
def ahv(as:List dK)(name:Bytes)(k n:Int)(s:Bytes):List dK:=
 bif decide (k=0)then as.filter (af7 name)else ame (as.filter (af7 name)) (name,k,n,s,())
def wV(s:cu)(f:ay):cu×Int×Bool:=
 let g:ay:=(s.2.2.1,f.2)
 bif bf s&&decide ((s.2.1.length:Int)<12)&&dP s.1 g then((s.1,s.2.1++[g],s.2.2.1+1,()),s.2.2.1,true)else(s,0,false)
def Lh(s:cu)(f:ay):cu×Bool:=
 bif bf s&&!decide (place s.2.1 f.1<0)&&dP s.1 f then((s.1,s.2.1.set (place s.2.1 f.1).toNat f,s.2.2.1,()),true)else(s,false)
def aa1(s:cu)(id:Int):cu×Bool:=
 bif bf s&&!decide (place s.2.1 id<0)then((s.1,s.2.1.eraseIdx (place s.2.1 id).toNat,s.2.2.1,()),true)else(s,false)
def zN{α:Type}(p:α->Bool):Int->List α->Int
 |_,[]=>-1
 |k,f::r=>bif p f then k else zN p (k+1) r
def findAt{α:Type}(p:α->Bool)(l:List α):Int:=zN p 0 l
def fieldPlace(l:List dH)(name:Bytes):Int:=findAt (λf=>f.1==name) l
end Sp
namespace Sp
theorem af9:∀(n m:Nat)(L:Nat->Nat),(∀k,k<m->∃j,j<n/\L j=k)->m<=n
 |0,m,L,h=>by
  simp_all
 |n+1,m,L,h=>by
  by_cases hv:L n<m
  .have:=af9 n (m-1) (λj=>if L n<L j then L j-1 else L j) λk hk=>by
    by_cases h1:k<L n
    .obtain⟨j,hj,e⟩:=h k (by omega)
     grind
    .obtain⟨j,hj,e⟩:=h (k+1) (by omega)
     grind
   omega
  .have:=af9 n m L λk hk=>by
    grind
   omega
abbrev OW:=List (Nat×Nat×Nat)
def gq(E:OW)(L:Nat->Nat):Prop:=∀e∈E,L e.2.1+e.2.2<=L e.1
def acW(E:OW)(n:Nat):Prop:=∀e∈E,e.1<n/\e.2.1<n/\e.2.2<=1
def sumTo(n:Nat)(L:Nat->Nat):Nat:=match n with|0=>0|n+1=>sumTo n L+L n
theorem sumTo_le{L M:Nat->Nat}:∀n,(∀i,i<n->L i<=M i)->sumTo n L<=sumTo n M
 |0,_=>ara _
 |n+1,h=>Nat.add_le_add (sumTo_le n λi hi=>h i (by omega)) (h n (by omega))
theorem aga{L M:Nat->Nat}:∀n,(∀i,i<n->L i<=M i)->(∃i,i<n/\L i<M i)->sumTo n L<sumTo n M
 |0,_,⟨i,hi,_⟩=>by omega
 |n+1,h,⟨i,hi,hl⟩=>by
  have h1:=sumTo_le n λj hj=>h j (asr hj);show sumTo n L+L n<sumTo n M+M n;by_cases e:i=n
  .subst e;omega
  .have:=aga n (λj hj=>h j (asr hj)) ⟨i,by omega,hl⟩
   grind
theorem Nb{E:OW}{n:Nat}(hE:acW E n):∀(s:Nat)(L:Nat->Nat),sumTo n L<=s->gq E L->∃M,gq E M/\∀i,i<n->M i<n
 |s,L,hs,hL=>by
  by_cases hall:∀i,i<n->L i<n
  .exact⟨L,hL,hall⟩
  .obtain⟨i,hi⟩:=Classical.not_forall.1 hall;have hi1:i<n/\n<=L i:=by
    by_cases h1:i<n
    .exact⟨h1,Nat.le_of_not_lt λh2=>hi λ_=>h2⟩
    .exact(hi λh2=>(h1 h2).elim).elim
   have apR:∃k,k<n/\∀j,j<n->L j≠k:=by
    refine arK λhno=>?_;have:=af9 n (n+1) (λj=>min (L j) n) λk hk=>by
     by_cases h1:k<n
     .refine arK λh2=>hno ⟨k,h1,λj hj e=>h2 ⟨j,hj,?_⟩⟩;omega
     .exact⟨i,hi1.1,by omega⟩
    omega
   obtain⟨k,hk,hno⟩:=apR;have hlt:sumTo n (λj=>if k<L j then L j-1 else L j)<sumTo n L:=by
    refine aga n (λj _=>?_) ⟨i,hi1.1,?_⟩
    .split
     .exact Nat.sub_le _ _
     .exact ara _
    .rw[if_pos (by omega)];omega
   match s,hs with
   |0,hs=>omega
   |s+1,hs=>refine Nb hE s (λj=>if k<L j then L j-1 else L j) (by omega) λe he=>?_;have h1:=hL e he;obtain⟨h2,h3,h4⟩:=hE e he;have n2:=hno e.2.1 h3;show(if k<L e.2.1 then L e.2.1-1 else L e.2.1)+e.2.2<=(if k<L e.1 then L e.1-1 else L e.1);split<;>split<;>omega
theorem Ey{E:OW}{n:Nat}(hE:acW E n)(h:∃L,gq E L):∃M,gq E M/\∀i,i<n->M i<n:=by obtain⟨L,hL⟩:=h;exact Nb hE (sumTo n L) L (ara _) hL
structure Raises(E:OW)(n:Nat)(R:(Nat->Nat)->Nat->Nat):Prop where
 up:∀L i,L i<=R L i
 fix:∀L,(∀i,i<n->R L i=L i)->gq E L
 below:∀L M,gq E M->(∀i,i<n->L i<=M i)->∀i,i<n->R L i<=M i
 same:∀L L',(∀i,i<n->L i=L' i)->∀i,i<n->R L i=R L' i
end Sp
namespace Sp
open Go
abbrev ji:=List dH×List ay×Int×List aC×Unit
abbrev fH:=Int×List dH×List ay×Int×List aC×Int×Unit
instance:DecidableEq (List aT):=inferInstance
instance:DecidableEq aC:=inferInstance
instance:DecidableEq (List aC):=inferInstance
instance:DecidableEq (List aC×Unit):=inferInstance
instance:DecidableEq (Int×List aC×Unit):=inferInstance
instance:DecidableEq (List ay×Int×List aC×Unit):=inferInstance
instance aqC:DecidableEq ji:=(inferInstance:DecidableEq (List dH×List ay×Int×List aC×Unit))
instance:DecidableEq (List aC×Int×Unit):=inferInstance
instance:DecidableEq (Int×List aC×Int×Unit):=inferInstance
instance:DecidableEq (List ay×Int×List aC×Int×Unit):=inferInstance
instance:DecidableEq (List dH×List ay×Int×List aC×Int×Unit):=inferInstance
instance aqQ:DecidableEq fH:=(inferInstance:DecidableEq (Int×List dH×List ay×Int×List aC×Int×Unit))
instance:DecidableEq (List fH):=inferInstance
def nodeAt(q:List aT)(i:Nat):aT:=q.getD i (0,0,0,[],0,0,[],())
def kK(n:aT):Bool:=n.1==6||n.1==7
def xM(n:aT):Bool:=n.1==8||n.1==9
def iR(n:aT)(a:Int):Bool:=
 let kids:=decide (0<=n.2.1)&&decide (n.2.1<=a-1)&&decide (0<a)
 let two:=decide (0<=n.2.2.1)&&decide (n.2.2.1<=a-1)
 let bare:=n.2.2.2.1==[]&&(n.2.2.2.2.1==0&&(n.2.2.2.2.2.1==0&&n.2.2.2.2.2.2.1==[]))
 let flat:=n.2.1==0&&n.2.2.1==0
 let valued:=gJ n.2.2.2.2.1 n.2.2.2.2.2.1 n.2.2.2.2.2.2.1
 let void:=n.2.2.2.2.1==0&&(n.2.2.2.2.2.1==0&&n.2.2.2.2.2.2.1==[])
 bif n.1==1 then flat&&bare else bif n.1==2 then flat&&void&&fM n.2.2.2.1 else
 bif n.1==3 then flat&&fM n.2.2.2.1&&valued&&!(n.2.2.2.2.1==0)else bif n.1==4 then flat&&fM n.2.2.2.1&&valued&&n.2.2.2.2.1==1 else
 bif n.1==5 then kids&&n.2.2.1==0&&bare else bif n.1==6||n.1==7 then kids&&two&&bare else
 bif n.1==8||n.1==9 then flat&&void&&dX n.2.2.2.1 else false
def refsOf(a:Int)(n:aT):Nat:=(bif (kK n||n.1==5)&&n.2.1==a then 1 else 0)+(bif kK n&&n.2.2.1==a then 1 else 0)
def kC(q:List aT)(a:Int):Nat:=(q.map (refsOf a)).sum
def jJ(q:List aT)(i:Nat):Bool:=iR (nodeAt q i) i&&!(decide ((i:Int)<(q.length:Int)-1)&&!(kC q i==1))
def aU(q:List aT):Bool:=fF q.length (jJ q)&&(decide (1<=(q.length:Int))&&decide ((q.length:Int)<=9))
def bT(d:List aC)(i:Nat):aC:=d.getD i ([],[],())
def iP(d:List aC)(i:Nat):Bool:=dX (bT d i).1&&aU (bT d i).2.1&&!(decide (0<i)&&!Op.bytesLess (bT d (i-1)).1 (bT d i).1)
def dR(d:List aC):Bool:=fF d.length (iP d)&&decide ((d.length:Int)<=5)
def iY(q:List aT)(i:Nat)(out:List (Bool×Unit)):List (Bool×Unit):=
 let n:=nodeAt q i
 bif n.1==5 then out.set n.2.1.toNat (true,())else bif kK n then(out.set n.2.1.toNat ((out.getD i (false,())).1,())).set n.2.2.1.toNat ((out.getD i (false,())).1,())else out
def gQ(q:List aT):Nat->List (Bool×Unit)->List (Bool×Unit)
 |0,out=>out
 |n+1,out=>gQ q n (iY q n out)
def negated(q:List aT):List (Bool×Unit):=bif aU q then gQ q q.length (List.replicate q.length (false,()))else[]
def dM(q:List aT)(neg:Bool):List Bytes:=(List.range (negated q).length).filterMap λi=>bif xM (nodeAt q i)&&((negated q).getD i (false,())).1==neg then some (nodeAt q i).2.2.2.1 else none
def A7:Int->List aC->Bytes->Int
 |_,[],_=>-1
 |k,x::r,s=>bif x.1==s then k else A7 (k+1) r s
def aG(d:List aC)(s:Bytes):Int:=A7 0 d s
def bW(d:List aC):OW:=
 (List.range d.length).flatMap λi=>
   ((dM (bT d i).2.1 false).filterMap λs=>bif decide (0<=aG d s)then some (i,(aG d s).toNat,0)else none)++
   ((dM (bT d i).2.1 true).filterMap λs=>bif decide (0<=aG d s)then some (i,(aG d s).toNat,1)else none)
open Classical in
noncomputable def aK (d:List aC):Bool:=dR d&&decide (∃L,gq (bW d) L)
def DC(x:ji):cu:=(x.1,x.2.1,x.2.2.1,())
noncomputable def EI (x:ji):Bool:=bf (DC x)&&aK x.2.2.2.1
def kW(v:List fH)(i:Nat):fH:=v.getD i (0,[],[],0,[],0,())
def H6(x:fH):ji:=(x.2.1,x.2.2.1,x.2.2.2.1,x.2.2.2.2.1,())
noncomputable def amf (v:List fH) (i:Nat):Bool:=
 (decide (1<=(kW v i).1)&&decide ((kW v i).1<=1000000000))&&(!(decide (0<i)&&decide ((kW v (i-1)).1>=(kW v i).1))&&(EI (H6 (kW v i))&&(decide (0<=(kW v i).2.2.2.2.2.1)&&decide ((kW v i).2.2.2.2.2.1<=99))))
noncomputable def agb (v:List fH):Bool:=fF v.length (amf v)&&decide ((v.length:Int)<=6)
def AQ:Int->List fH->Int->Int
 |_,[],_=>-1
 |k,x::r,n=>bif x.1==n then k else AQ (k+1) r n
def bF(v:List fH)(n:Int):Int:=AQ 0 v n
def dI(v:List fH)(n:Int):ji×Bool:=bif decide (0<=bF v n)then(H6 (kW v (bF v n).toNat),true)else(([],[],0,[],()),false)
def gK(r:LS)(l:List Bytes):Prop:=r.length<=1000/\∀s,(s,())∈r↔s∈l
def rZ(d:List aC)(ax:List (Int×Unit))(more:Int):LS->Int
 |[]=>0
 |x::r=>max (bif decide (0<=aG d x.1)then(ax.getD (aG d x.1).toNat (0,())).1+more else 0) (rZ d ax more r)
def Di(l:LS)(s:Bytes):LS:=
 let n:=(l.takeWhile λx=>Op.bytesLess x.1 s).length
 bif decide (n<l.length)&&(l.getD n ([],())).1==s then l else l.take n++[(s,())]++l.drop n
def raised(d:List aC)(ax r:List (Int×Unit)):Prop:=
 r.length=d.length/\(∀i,i<d.length->(ax.getD i (0,())).1<=(r.getD i (0,())).1)/\(∀B:Int,(∀i,i<d.length->(ax.getD i (0,())).1<=B)->∀i,i<d.length->(r.getD i (0,())).1<=B+5000)/\
 ((∀i,i<d.length->(r.getD i (0,())).1=(ax.getD i (0,())).1)->gq (bW d) λi=>(ax.getD i (0,())).1.toNat)/\
 ∀M,gq (bW d) M->(∀i,i<d.length->(ax.getD i (0,())).1<=M i)->∀i,i<d.length->(r.getD i (0,())).1<=M i
def qC(d:List aC):Prop:=d.length<=1000/\∀x∈d,x.2.1.length<=1000
def ana(x:ji):Prop:=iK (DC x)/\qC x.2.2.2.1
end Sp
namespace Sp
open Go
def aa2(x:fH):Int:=x.2.2.2.2.2.1
def akM(x:fH)(p:Int):fH:=(x.1,x.2.1,x.2.2.1,x.2.2.2.1,x.2.2.2.2.1,p,())
def anb(v:List fH)(n more:Int):Bool:=
 decide (0<=bF v n)&&(decide (0<=aa2 (kW v (bF v n).toNat)+more)&&decide (aa2 (kW v (bF v n).toNat)+more<=99))
noncomputable def aa3 (v:List fH) (n more:Int):List fH×Bool:=
 bif agb v&&anb v n more then(v.set (bF v n).toNat (akM (kW v (bF v n).toNat) (aa2 (kW v (bF v n).toNat)+more)),true)else(v,false)
def unpinned(x:fH):Bool:=aa2 x==0
def akN(v:List fH)(n:Nat):List fH:=(v.take n).filter (λx=>!unpinned x)
noncomputable def collect (v:List fH):List fH:=bif agb v then akN v (v.length-1)++v.drop (v.length-1)else v
end Sp
namespace Sp
open Go
theorem Tz(s:Bytes):∀(d:List aC)(k:Int),(A7 k d s=-1/\∀x∈d,x.1≠s)\/∃n,n<d.length/\A7 k d s=k+n/\(bT d n).1=s/\∀i,i<n->(bT d i).1≠s
 |[],k=>.inl ⟨rfl,λx hx=>by cases hx⟩
 |x::r,k=>by
  by_cases h:x.1=s
  .right;refine⟨0,by simp,?_,h,λi hi=>by omega⟩;rw[A7,aq9.2 h];simp
  .rcases Tz s r (k+1)with⟨h1,h2⟩|⟨n,h1,h2,h3,h4⟩
   .left;refine⟨by rw[A7,aq4.2 h];exact h1,λy hy=>?_⟩;rcases arD.1 hy with rfl|hy
    .exact h
    .exact h2 y hy
   .right;refine⟨n+1,by simp;omega,by rw[A7,aq4.2 h];show A7 (k+1) r s=_;omega,h3,λi hi=>?_⟩;cases i with
    |zero=>exact h
    |succ i=>exact h4 i (by omega)
theorem AZ(d:List aC)(s:Bytes):(aG d s=-1/\∀x∈d,x.1≠s)\/∃n,n<d.length/\aG d s=n/\(bT d n).1=s/\∀i,i<n->(bT d i).1≠s:=by
 rcases Tz s d 0 with h|⟨n,h1,h2,h3⟩
 .exact .inl h
 .exact .inr ⟨n,h1,by show A7 0 d s=_;omega,h3⟩
theorem FQ{d:List aC}{s:Bytes}(h:0<=aG d s):aG d s<d.length:=by rcases AZ d s with⟨h1,_⟩|⟨n,h1,h2,_⟩<;>omega
theorem zI{d:List aC}{i j m:Nat}:(i,j,m)∈bW d↔i<d.length/\∃s,((m=0/\s∈dM (bT d i).2.1 false)\/(m=1/\s∈dM (bT d i).2.1 true))/\0<=aG d s/\j=(aG d s).toNat:=by
 grind [bW]
theorem jv(d:List aC):acW (bW d) d.length:=by
 rintro⟨i,j,m⟩ he;obtain⟨h1,s,h2,h3,h4⟩:=zI.1 he;have:=FQ h3
 grind
def lv(l:List (Int×Unit))(i:Nat):Int:=(l.getD i (0,())).1
theorem afQ{l:List (Int×Unit)}{i:Nat}(hi:i<l.length)(x:Int)(k:Nat):lv (l.set i (x,())) k=if k=i then x else lv l k:=by
 grind [lv]
theorem SL{l:List (Int×Unit)}{i:Nat}(hi:i<l.length):(lv l i,())∈l:=by
 grind [lv]
theorem afP{l:List (Int×Unit)}{p:Int->Prop}(h:∀i,i<l.length->p (lv l i)):∀x∈l,p x.1:=by
 grind [List.getElem_of_mem,lv]
theorem ajF{a b:List (Int×Unit)}(hl:a.length=b.length)(h:∀i,i<a.length->lv a i=lv b i):a=b:=by
 grind [List.ext_getElem,lv]
structure EW(d:List aC)(ax cur:List (Int×Unit))(g:Int)(P:Nat×Nat×Nat->Prop):Prop where
 len:cur.length=d.length
 up:∀i,i<d.length->lv ax i<=lv cur i
 grow:∀B,(∀i,i<d.length->lv ax i<=B)->∀i,i<d.length->lv cur i<=B+g
 fix:(∀i,i<d.length->lv cur i=lv ax i)->∀e,P e->lv ax e.2.1+e.2.2<=lv ax e.1
 below:∀M,gq (bW d) M->(∀i,i<d.length->lv ax i<=M i)->∀i,i<d.length->lv cur i<=M i
theorem EW.start{d:List aC}{ax:List (Int×Unit)}(h:ax.length=d.length):EW d ax ax 0 λ_=>False:=
 ⟨h,λ_ _=>arM _,λB hB i hi=>by grind,λ_ e he=>he.elim,λ_ _ h=>h⟩
theorem EW.weaken{d:List aC}{ax cur:List (Int×Unit)}{g g':Int}{P P':Nat×Nat×Nat->Prop}(h:EW d ax cur g P)(hg:g<=g')(hP:∀e,P' e->P e):EW d ax cur g' P':=
 ⟨h.len,h.up,λB hB i hi=>by have:=h.grow B hB i hi;omega,λhx e he=>h.fix hx e (hP e he),h.below⟩
theorem EW.still{d:List aC}{ax cur:List (Int×Unit)}{g:Int}{P:Nat×Nat×Nat->Prop}(h:EW d ax cur g P){i j m:Nat}(he:(i,j,m)∈bW d)(hle:lv cur j+m<=lv cur i):EW d ax cur g λe=>P e\/e=(i,j,m):=by
 obtain⟨h1,h2,_⟩:=jv d _ he;refine⟨h.len,h.up,h.grow,λhx e hp=>?_,h.below⟩;rcases hp with hp|rfl
 .exact h.fix hx e hp
 grind
theorem EW.set{d:List aC}{ax cur:List (Int×Unit)}{g:Int}{P:Nat×Nat×Nat->Prop}(h:EW d ax cur g P){i j m:Nat}(he:(i,j,m)∈bW d)(hlt:lv cur i<lv cur j+m):EW d ax (cur.set i (lv cur j+m,())) (g+m) λe=>P e\/e=(i,j,m):=by
 obtain⟨h1,h2,_⟩:=jv d _ he;have hl:=h.len;have hs:=λk=>afQ (l:=cur) (i:=i) (by omega) (lv cur j+m) k;refine⟨by simp;omega,λk hk=>?_,λB hB k hk=>?_,λhx e hp=>?_,λM hM hb k hk=>?_⟩
 .have a:=h.up k hk;grind
 .rw[hs];have a:=h.grow B hB k hk;have b:=h.grow B hB j h2;split<;>omega
 .have:=hx i h1;rw[hs,if_pos rfl]at this;have:=h.up i h1;omega
 .rw[hs];split
  .next e=>
   have a:=h.below M hM hb j h2;have b:=hM _ he
   grind
  .exact h.below M hM hb k hk
theorem EW.raised{d:List aC}{ax cur:List (Int×Unit)}{g:Int}{P:Nat×Nat×Nat->Prop}(h:EW d ax cur g P)(hg:g<=5000)(hP:∀e∈bW d,P e)(h0:∀i,i<d.length->0<=lv ax i):raised d ax cur:=by
 refine⟨h.len,h.up,λB hB i hi=>by have:=h.grow B hB i hi;grind [lv],λhx e he=>?_,h.below⟩;have a:=h.fix hx e (hP e he);obtain⟨h1,h2,_⟩:=jv d _ he
 grind [lv]
theorem aa4(d:List aC)(ax:List (Int×Unit))(hl:ax.length=d.length):∀(E:OW),(∀e∈E,e∈bW d)->∃cur:List (Int×Unit),cur.length=d.length/\(∀i,i<d.length->lv ax i<=lv cur i/\(lv cur i=lv ax i\/∃e∈E,e.1=i/\lv cur i=lv ax e.2.1+e.2.2))/\∀e∈E,lv ax e.2.1+e.2.2<=lv cur e.1
 |[],_=>⟨ax,hl,λi hi=>⟨arM _,.inl rfl⟩,λe he=>by cases he⟩
 |e::E,hE=>by
  obtain⟨cur,h1,h2,h3⟩:=aa4 d ax hl E λx hx=>hE x (ard _ hx);obtain⟨g1,g2,_⟩:=jv d e (hE e arj);by_cases h:lv cur e.1<lv ax e.2.1+e.2.2
  .have hs:=λk=>afQ (l:=cur) (i:=e.1) (by omega) (lv ax e.2.1+e.2.2) k;refine⟨cur.set e.1 (lv ax e.2.1+e.2.2,()),by simp;omega,λi hi=>?_,λx hx=>?_⟩
   · grind
   grind
  grind
theorem agW(d:List aC)(ax:List (Int×Unit))(hl:ax.length=d.length)(h0:∀i,i<d.length->0<=lv ax i):∃cur,raised d ax cur:=by
 obtain⟨cur,h1,h2,h3⟩:=aa4 d ax hl (bW d) λ_ h=>h;refine⟨cur,h1,λi hi=>(h2 i hi).1,λB hB i hi=>?_,λhx e he=>?_,λM hM hb i hi=>?_⟩
 .show lv cur i<=_;rcases(h2 i hi).2 with h|⟨e,he,rfl,h⟩
  .rw[h];have:=hB i hi;show(ax.getD i (0,())).1<=_;omega
  .obtain⟨_,g2,g3⟩:=jv d e he
   grind [lv]
 · grind [lv]
 .show lv cur i<=_;rcases(h2 i hi).2 with h|⟨e,he,rfl,h⟩
  .rw[h];exact hb i hi
  .obtain⟨_,g2,_⟩:=jv d e he;have a:lv ax e.2.1<=M e.2.1:=hb _ g2;have b:=hM e he;omega
theorem Dz{d:List aC}{ax:List (Int×Unit)}{more:Int}:∀(r:LS)(B:Int),rZ d ax more r<=B↔0<=B/\∀x∈r,0<=aG d x.1->lv ax (aG d x.1).toNat+more<=B
 |[],B=>by simp[rZ]
 |x::r,B=>by
  have ih:=Dz (d:=d) (ax:=ax) (more:=more) r B;rw[rZ];have e:∀a b:Int,max a b<=B↔a<=B/\b<=B:=λa b=>by omega
  rw[e,ih];simp only[arD,forall_eq_or_imp];by_cases h:0<=aG d x.1
  .rw[arh h];constructor
   .exactλ⟨a,b,c⟩=>⟨b,λ_=>a,c⟩
   .exactλ⟨a,b,c⟩=>⟨b h,a,c⟩
  .rw[ars h];constructor
   .exactλ⟨a,b,c⟩=>⟨b,λh'=>(h h').elim,c⟩
   .exactλ⟨a,b,c⟩=>⟨a,a,c⟩
def sZ(l:List (Int×Unit)):Nat->Int
 |0=>0
 |n+1=>sZ l n+lv l n
theorem WO{a b:List (Int×Unit)}:∀n,(∀i,i<n->lv a i<=lv b i)->sZ a n<=sZ b n
 |0,_=>arM _
 |n+1,h=>Int.add_le_add (WO n λi hi=>h i (by omega)) (h n (by omega))
theorem WN{a b:List (Int×Unit)}:∀n,(∀i,i<n->lv a i<=lv b i)->(∃i,i<n/\lv a i<lv b i)->sZ a n<sZ b n
 |0,_,⟨i,hi,_⟩=>by omega
 |n+1,h,⟨i,hi,hl⟩=>by
  have h1:=WO n λj hj=>h j (asr hj);show sZ a n+lv a n<sZ b n+lv b n;by_cases e:i=n
  .subst e;omega
  .have:=WN n (λj hj=>h j (asr hj)) ⟨i,by omega,hl⟩
   grind
theorem KN{a:List (Int×Unit)}{b:Nat}:∀n:Nat,(∀i,i<n->lv a i<=b)->sZ a n<=(n*b:Nat)
 |0,_=>by simp[sZ]
 |n+1,h=>by
  have h1:=KN n λi hi=>h i (asr hi)
  grind [sZ]
theorem RG{a:List (Int×Unit)}:∀n:Nat,(∀i,i<n->0<=lv a i)->0<=sZ a n
 |0,_=>arM _
 |n+1,h=>Int.add_nonneg (RG n λi hi=>h i (by omega)) (h n (by omega))
theorem jm{d:List aC}:aK d=true↔dR d=true/\∃L,gq (bW d) L:=by unfold aK;simp
theorem Oc{d:List aC}(h:dR d=true):d.length<=5:=by
 grind [dR]
end Sp
namespace Sp
abbrev Ext(ι α:Type):=ι->α->Bool
structure Sys(ι α:Type) where
 T:ι->Ext ι α->α->Prop
 pos:ι->ι->Prop
 neg:ι->ι->Prop
 mono:∀i X Y,(∀j,pos i j->∀x,X j x=true->Y j x=true)->(∀j,neg i j->∀x,X j x=Y j x)->∀x,T i X x->T i Y x
def aeH{ι α:Type}(S:Sys ι α)(N:ι->Prop)(ax:ι->Nat):Prop:=∀i j,N i->N j->(S.pos i j->ax j<=ax i)/\(S.neg i j->ax j<ax i)
structure Eval{ι α:Type}(S:Sys ι α)(N:ι->Prop)(ax:ι->Nat)(X:Ext ι α):Prop where
 fix:∀i,N i->∀x,X i x=true↔S.T i X x
 least:∀k(Y:Ext ι α),(∀i,¬(N i/\ax i=k)->∀x,Y i x=X i x)->(∀i,N i->ax i=k->∀x,S.T i Y x->Y i x=true)->∀i,N i->ax i=k->∀x,X i x=true->Y i x=true
open Classical in
theorem ahw{ι α:Type}{P:ι->Prop}{A B:Ext ι α}:∃Y:Ext ι α,(∀i x,Y i x=true↔A i x=true/\(P i->B i x=true))/\∀i,¬P i->∀x,Y i x=A i x:=by
 have h:∀i x,decide (A i x=true/\(P i->B i x=true))=true↔A i x=true/\(P i->B i x=true):=λi x=>decide_eq_true_iff;refine⟨λi x=>decide (A i x=true/\(P i->B i x=true)),h,λi hi x=>?_⟩
 simp_all
theorem agX{ι α:Type}{S1 S2:Sys ι α}{N1 N2 U:ι->Prop}{l1 l2:ι->Nat}{X1 X2:Ext ι α}
 (h1:Eval S1 N1 l1 X1) (h2:Eval S2 N2 l2 X2) (s1:aeH S1 N1 l1) (s2:aeH S2 N2 l2) (u1:∀i,U i->N1 i) (u2:∀i,U i->N2 i)
 (hT:∀i,U i->∀X x,S1.T i X x↔S2.T i X x) (hp:∀i,U i->∀j,S2.pos i j->S1.pos i j) (hn:∀i,U i->∀j,S2.neg i j->S1.neg i j)
 (hc:∀i,U i->∀j,S1.pos i j\/S1.neg i j->U j\/∀x,X1 j x=X2 j x):∀i,U i->∀x,X1 i x=X2 i x:=by
 have key:∀k,∀i,U i->l1 i=k->∀x,X1 i x=X2 i x:=by
  intro k
  induction k using Nat.strongRecOn with
  |_ k ih=>
   have below:∀j,U j->l1 j<k->∀x,X1 j x=X2 j x:=λj hj hl=>ih (l1 j) hl j hj rfl;have aoo:∀i,U i->l1 i=k->∀x,X1 i x=true->X2 i x=true:=by
    obtain⟨Y,hY,Vg⟩:=ahw (P:=λi=>U i/\l1 i=k) (A:=X1) (B:=X2);have:=h1.least k Y (λi hi=>Vg i λh=>hi ⟨u1 i h.1,h.2⟩) λi hN hl x hx=>by
     have agc:∀j,S1.neg i j->∀x,Y j x=X1 j x:=λj hj=>Vg j λh=>by have:=(s1 i j hN (u1 j h.1)).2 hj;omega
     refine(hY i x).2 ⟨(h1.fix i hN x).2 (S1.mono i Y X1 (λj _ y hy=>((hY j y).1 hy).1) agc x hx),λhU=>?_⟩;refine(h2.fix i (u2 i hU.1) x).2 ((hT i hU.1 X2 x).1 (S1.mono i Y X2 (λj hj y hy=>?_) (λj hj y=>?_) x hx))
     .rcases hc i hU.1 j (.inl hj)with h|h
      .have hl2:=(s1 i j hN (u1 j h)).1 hj
       grind
      grind
     .rw[agc j hj];rcases hc i hU.1 j (.inr hj)with h|h
      .exact below j h (by have:=(s1 i j hN (u1 j h)).2 hj;omega) y
      .exact h y
    grind
   have aop:∀m,∀i,U i->l1 i=k->l2 i=m->∀x,X2 i x=true->X1 i x=true:=by
    intro m
    induction m using Nat.strongRecOn with
    |_ m ih2=>
     obtain⟨Y,hY,Vg⟩:=ahw (P:=λi=>U i/\l1 i=k/\l2 i=m) (A:=X2) (B:=X1);have:=h2.least m Y (λi hi=>Vg i λh=>hi ⟨u2 i h.1,h.2.2⟩) λi hN hl x hx=>by
      have agc:∀j,S2.neg i j->∀x,Y j x=X2 j x:=λj hj=>Vg j λh=>by have:=(s2 i j hN (u2 j h.1)).2 hj;omega
      refine(hY i x).2 ⟨(h2.fix i hN x).2 (S2.mono i Y X2 (λj _ y hy=>((hY j y).1 hy).1) agc x hx),λhU=>?_⟩;refine(h1.fix i (u1 i hU.1) x).2 ((hT i hU.1 X1 x).2 (S2.mono i Y X1 (λj hj y hy=>?_) (λj hj y=>?_) x hx))
      .have hj1:=hp i hU.1 j hj;rcases hc i hU.1 j (.inl hj1)with h|h
       .have g1:=(s1 i j (u1 i hU.1) (u1 j h)).1 hj1;have g2:=(s2 i j hN (u2 j h)).1 hj
        grind
       grind
      .rw[agc j hj];have hj1:=hn i hU.1 j hj;rcases hc i hU.1 j (.inr hj1)with h|h
       .exact(below j h (by have:=(s1 i j (u1 i hU.1) (u1 j h)).2 hj1;omega) y).symm
       grind
     grind
   exactλi hU hl x=>arz.2 ⟨aoo i hU hl x,aop (l2 i) i hU hl rfl x⟩
 grind
end Sp
namespace Sp
open Go
abbrev bM:=Bytes×List (Int×Unit)×Unit
abbrev BX:=Ext Bytes Int
def eH:List dK->Bytes->SG
 |[],_=>(0,0,[],())
 |a::r,s=>bif a.1==s then(a.2.1,a.2.2.1,a.2.2.2.1,())else eH r s
def dY:List bM->Bytes->List (Int×Unit)
 |[],_=>[]
 |x::r,s=>bif x.1==s then x.2.1 else dY r s
def jh(l:List (Int×Unit))(x:Int):Bool:=l.any λy=>y.1==x
def aW(r:List bM):BX:=λs x=>jh (dY r s) x
theorem DJ{l:List (Int×Unit)}{x:Int}:jh l x=true↔(x,())∈l:=by
 grind [jh]
def jw(n:aT)(f:ay)(X:BX):Bool:=
 bif n.1==2 then !((eH f.2.2.2.2.1 n.2.2.2.1).1==0)else
 bif n.1==3 then decide (eH f.2.2.2.2.1 n.2.2.2.1=(n.2.2.2.2.1,n.2.2.2.2.2.1,n.2.2.2.2.2.2.1,()))else
 bif n.1==4 then(eH f.2.2.2.2.1 n.2.2.2.1).1==1&&decide ((eH f.2.2.2.2.1 n.2.2.2.1).2.1<n.2.2.2.2.2.1)else
 bif n.1==8 then X n.2.2.2.1 f.1 else
 bif n.1==9 then !(f.2.2.2.1==0)&&X n.2.2.2.1 f.2.2.2.1 else true
def val(q:List aT)(f:ay)(X:BX)(a:Nat):Bool:=
 if(nodeAt q a).1=5 then(if h:(nodeAt q a).2.1.toNat<a then !val q f X (nodeAt q a).2.1.toNat else true)
 else if(nodeAt q a).1=6 then(if h:(nodeAt q a).2.1.toNat<a/\(nodeAt q a).2.2.1.toNat<a then val q f X (nodeAt q a).2.1.toNat&&val q f X (nodeAt q a).2.2.1.toNat else true)
 else if(nodeAt q a).1=7 then(if h:(nodeAt q a).2.1.toNat<a/\(nodeAt q a).2.2.1.toNat<a then val q f X (nodeAt q a).2.1.toNat||val q f X (nodeAt q a).2.2.1.toNat else true)
 else jw (nodeAt q a) f X
termination_by a
decreasing_by all_goals omega
theorem MV(q:List aT)(f:ay)(X:BX)(a:Nat):val q f X a=
 if(nodeAt q a).1=5 then(if h:(nodeAt q a).2.1.toNat<a then !val q f X (nodeAt q a).2.1.toNat else true)
 else if(nodeAt q a).1=6 then(if h:(nodeAt q a).2.1.toNat<a/\(nodeAt q a).2.2.1.toNat<a then val q f X (nodeAt q a).2.1.toNat&&val q f X (nodeAt q a).2.2.1.toNat else true)
 else if(nodeAt q a).1=7 then(if h:(nodeAt q a).2.1.toNat<a/\(nodeAt q a).2.2.1.toNat<a then val q f X (nodeAt q a).2.1.toNat||val q f X (nodeAt q a).2.2.1.toNat else true)
 else jw (nodeAt q a) f X:=by rw[val]
def ku(q:List aT)(f:ay)(X:BX):Bool:=aU q&&val q f X (q.length-1)
def sel(fs:List ay)(q:List aT)(X:BX):List (Int×Unit):=(fs.filter λf=>ku q f X).map λf=>(f.1,())
def wY(q:List aT)(i:Nat):Bool:=((negated q).getD i (false,())).1
theorem IZ{q:List aT}(h:aU q=true){i:Nat}(hi:i<q.length):iR (nodeAt q i) i=true/\((i:Int)<(q.length:Int)-1->kC q i=1):=by
 unfold aU at h;have h1:jJ q i=true:=by
  grind [fF]
 grind [jJ]
theorem yg{q:List aT}(h:aU q=true):1<=q.length/\q.length<=9:=by
 grind [aU]
theorem VL{n:aT}{a:Nat}(h:iR n a=true)(hn:n.1=5\/n.1=6\/n.1=7):0<=n.2.1/\n.2.1.toNat<a:=by
 grind [iR]
theorem Hy{n:aT}{a:Nat}(h:iR n a=true)(hn:n.1=6\/n.1=7):0<=n.2.2.1/\n.2.2.1.toNat<a:=by
 grind [iR]
theorem ahx{α:Type}(g:α->Nat):∀(l:List α),(l.map g).sum=1->∀i j,i<l.length->j<l.length->i≠j->∀d,1<=g (l.getD i d)->g (l.getD j d)=0
 |[],_,i,_,hi,_,_,_,_=>by simp at hi
 |x::r,h,i,j,hi,hj,hne,d,hg=>by
  rw[arB,List.sum_cons]at h;have mem:∀(l:List α) k,k<l.length->g (l.getD k d)<=(l.map g).sum:=by
   intro l
   induction l with
   |nil=>grind
   |cons y t ih=>
    grind
  cases i with
  |zero=>
   cases j with
   |zero=>exact(hne rfl).elim
   |succ j=>
    have h1:1<=g x:=hg;have:=mem r j (by simpa using hj);show g (r.getD j d)=0;omega
  |succ i=>
   have h1:1<=g (r.getD i d):=hg;have h2:=mem r i (by simpa using hi);cases j with
   |zero=>show g x=0;omega
   |succ j=>exact ahx g r (by omega) i j (by simpa using hi) (by simpa using hj) (by omega) d hg
theorem EJ{q:List aT}{p:Nat}:∀(n:Nat)(out:List (Bool×Unit)),(∀i,i<n->((nodeAt q i).1=5\/kK (nodeAt q i)=true->(nodeAt q i).2.1.toNat≠p)/\(kK (nodeAt q i)=true->(nodeAt q i).2.2.1.toNat≠p))->
 (gQ q n out).getD p (false,())=out.getD p (false,())
 |0,_,_=>rfl
 |n+1,out,h=>by
  have ih:=EJ n (iY q n out) λi hi=>h i (by omega);show(gQ q n (iY q n out)).getD p (false,())=_;rw[ih];have hs:∀(l:List (Bool×Unit)) k x,k≠p->(l.set k x).getD p (false,())=l.getD p (false,()):=λl k x hk=>by rw[arp,ash hk,← arp]
  obtain⟨h1,h2⟩:=h n (by omega);unfold iY;dsimp only;cases e5:((nodeAt q n).1==5)with
  |true=>exact hs _ _ _ (h1 (.inl (aq9.1 e5)))
  |false=>
   cases e2:kK (nodeAt q n)with
   |true=>exact(hs _ _ _ (h2 e2)).trans (hs _ _ _ (h1 (.inr e2)))
   |false=>rfl
theorem BP(q:List aT):∀(n:Nat)(out:List (Bool×Unit)),(gQ q n out).length=out.length
 |0,_=>rfl
 |n+1,out=>by show(gQ q n (iY q n out)).length=_;rw[BP q n];unfold iY;dsimp only;cases (nodeAt q n).1==5<;>cases kK (nodeAt q n)<;>simp
theorem vV{n:aT}:kK n=true↔n.1=6\/n.1=7:=by
 grind [kK]
theorem Pv(q:List aT):∀(k m:Nat)(out:List (Bool×Unit)),∃mid:List (Bool×Unit),mid.length=out.length/\gQ q (m+k) out=gQ q m mid
 |0,_,out=>⟨out,rfl,rfl⟩
 |k+1,m,out=>by
  obtain⟨mid,h1,h2⟩:=Pv q k m (iY q (m+k) out);have hl:(iY q (m+k) out).length=out.length:=by
   grind [iY]
  exact⟨mid,h1.trans hl,h2⟩
theorem MW{q:List aT}(h:aU q=true){i:Nat}(hi:i<q.length):((nodeAt q i).1=5\/kK (nodeAt q i)=true->0<=(nodeAt q i).2.1/\(nodeAt q i).2.1.toNat<i)/\(kK (nodeAt q i)=true->0<=(nodeAt q i).2.2.1/\(nodeAt q i).2.2.1.toNat<i):=by
 have h1:=(IZ h hi).1;refine⟨λh2=>?_,λh2=>Hy h1 (vV.1 h2)⟩;rcases h2 with h2|h2
 .exact VL h1 (.inl h2)
 .exact VL h1 (.inr (vV.1 h2))
theorem aiJ{q:List aT}(h:aU q=true){i j p:Nat}(hi:i<q.length)(hj:j<q.length)(hne:i≠j)(hp:p<i)(hr:1<=refsOf p (nodeAt q i)):refsOf p (nodeAt q j)=0:=
 ahx (refsOf p) q ((IZ h (by omega)).2 (by omega)) i j hi hj hne _ hr
theorem agY{p:Nat}{n:aT}(h:refsOf p n=0)(h0:((n.1=5\/kK n=true)->0<=n.2.1)/\(kK n=true->0<=n.2.2.1)):(n.1=5\/kK n=true->n.2.1.toNat≠p)/\(kK n=true->n.2.2.1.toNat≠p):=by
 grind [refsOf]
theorem VN{p:Nat}{n:aT}(h:n.1=5\/kK n=true)(h0:0<=n.2.1)(e:n.2.1.toNat=p):1<=refsOf p n:=by
 grind [refsOf]
theorem agd{p:Nat}{n:aT}(h:kK n=true)(h0:0<=n.2.2.1)(e:n.2.2.1.toNat=p):1<=refsOf p n:=by
 grind [refsOf]
theorem Yd{l:List (Bool×Unit)}{k p:Nat}{x:Bool×Unit}(hk:k<l.length):(l.set k x).getD p (false,())=if k=p then x else l.getD p (false,()):=by
 grind
theorem aiK{q:List aT}(h:aU q=true){i:Nat}(hi:i<q.length):
 ((nodeAt q i).1=5->wY q (nodeAt q i).2.1.toNat=true)/\(kK (nodeAt q i)=true->wY q (nodeAt q i).2.1.toNat=wY q i/\wY q (nodeAt q i).2.2.1.toNat=wY q i):=by
 have hn:negated q=gQ q q.length (List.replicate q.length (false,())):=by grind [negated]
 obtain⟨mid,hm1,hm2⟩:=Pv q (q.length-(i+1)) (i+1) (List.replicate q.length (false,()));rw[show i+1+(q.length-(i+1))=q.length by omega,← hn]at hm2;have hml:mid.length=q.length:=by rw[hm1];simp
 have hm3:negated q=gQ q i (iY q i mid):=hm2;obtain⟨k1,k2⟩:=MW h hi;have keep:∀p,p<i->1<=refsOf p (nodeAt q i)->wY q p=((iY q i mid).getD p (false,())).1:=λp hp hr=>by
  unfold wY;rw[hm3,EJ i];intro j hj;have hjl:j<q.length:=by omega
  obtain⟨g1,g2⟩:=MW h hjl
  grind [agY,aiJ]
 have self:wY q i=(mid.getD i (false,())).1:=by
  unfold wY;rw[hm2,EJ (i+1)];intro j hj;obtain⟨g1,g2⟩:=MW h (show j<q.length by omega)
  grind
 refine⟨λh5=>?_,λh2=>?_⟩
 · grind [VN,iY]
 .obtain⟨a,b⟩:=k1 (.inr h2);obtain⟨a',b'⟩:=k2 h2;have h5:((nodeAt q i).1==5)=false:=by rcases vV.1 h2 with e|e<;>rw[e]<;>rfl
  rw[keep _ b (VN (.inr h2) a rfl),keep _ b' (agd h2 a' rfl),self];unfold iY;dsimp only;rw[h5,h2];show(((mid.set _ ((mid.getD i (false,())).1,())).set _ ((mid.getD i (false,())).1,())).getD _ (false,())).1=_/\(((mid.set _ ((mid.getD i (false,())).1,())).set _ ((mid.getD i (false,())).1,())).getD _ (false,())).1=_;rw[Yd (by grind),Yd (by omega),Yd (by grind),if_pos rfl,if_pos rfl]
  grind
theorem aiL{q:List aT}(h:aU q=true):wY q (q.length-1)=false:=by
 have hn:negated q=gQ q q.length (List.replicate q.length (false,())):=by grind [negated]
 unfold wY;rw[hn,EJ q.length]
 · grind
 grind [MW]
theorem akO{q:List aT}(h:aU q=true){i:Nat}(hi:i<q.length)(hd:xM (nodeAt q i)=true):(nodeAt q i).2.2.2.1∈dM q (wY q i):=by
 grind [negated,BP,dM,wY]
theorem akP{q:List aT}{f:ay}{X Y:BX}(h:aU q=true)(hp:∀s∈dM q false,∀x,X s x=true->Y s x=true)(hn:∀s∈dM q true,∀x,X s x=Y s x):
 ∀a,a<q.length->(wY q a=false->val q f X a=true->val q f Y a=true)/\(wY q a=true->val q f X a=val q f Y a):=by
 intro a
 induction a using Nat.strongRecOn with
 |_ a ih=>
  intro ha;obtain⟨n1,n2⟩:=aiK h ha;rw[MV q f X a,MV q f Y a]
  grind [vV,akO,xM,jw]
theorem TA{q:List aT}{f:ay}{X Y:BX}(hp:∀s∈dM q false,∀x,X s x=true->Y s x=true)(hn:∀s∈dM q true,∀x,X s x=Y s x)(hm:ku q f X=true):ku q f Y=true:=by unfold ku at hm ⊢;rw[aq5]at hm ⊢;have hl:=yg hm.1;exact⟨hm.1,(akP hm.1 hp hn _ (by omega)).1 (aiL hm.1) hm.2⟩
theorem acX{fs:List ay}{q:List aT}{X:BX}{x:Int}:(x,())∈sel fs q X↔∃f∈fs,f.1=x/\ku q f X=true:=by
 unfold sel;constructor
 · grind
 .rintro⟨f,hf,rfl,hm⟩
  grind
theorem ajU{fs:List ay}{q:List aT}{X Y:BX}(h:∀b,∀s∈dM q b,∀x,X s x=Y s x):sel fs q X=sel fs q Y:=by
 unfold sel;congr 1;apply List.filter_congr;intro f _;rw[arz]
 grind [TA]
def Kt(fs:List ay)(d:List aC):Sys Bytes Int where
 T:=λs X x=>∃i,i<d.length/\(bT d i).1=s/\(x,())∈sel fs (bT d i).2.1 X
 pos:=λs t=>∃i,i<d.length/\(bT d i).1=s/\t∈dM (bT d i).2.1 false
 neg:=λs t=>∃i,i<d.length/\(bT d i).1=s/\t∈dM (bT d i).2.1 true
 mono:=λs X Y hp hn x⟨i,hi,e,hx⟩=>⟨i,hi,e,by obtain⟨f,hf,e2,hm⟩:=acX.1 hx;exact acX.2 ⟨f,hf,e2,TA (λt ht=>hp t ⟨i,hi,e,ht⟩) (λt ht=>hn t ⟨i,hi,e,ht⟩) hm⟩⟩
end Sp
namespace Go.Fw
open Go
theorem RJ{n m:Nat}{left:Int}(h:0<=Sp.aH n left):Sp.aH m (Sp.aH n left)=Sp.aH (n+m) left:=by
 grind [Sp.aH]
theorem Oi{n m:Nat}{left:Int}(h:Sp.aH n left<0):Sp.aH (n+m) left=-1:=by
 grind [Sp.aH]
theorem adG{n:Nat}{left:Int}(h:0<=left):Sp.aH n left<=left:=by grind [Sp.aH]
theorem RI{n:Nat}{left:Int}(h:¬left-(n:Int)<0):Sp.aH n left=left-n:=by grind [Sp.aH]
def EK{α:Type}(f:α->Nat):List α->Nat
 |[]=>0
 |x::r=>f x+EK f r
theorem jd{α:Type}(f:α->Nat):∀a:List α,Sp.iw f a=a.length+EK f a
 |[]=>rfl
 |x::r=>by simp only[Sp.iw,EK,jd f r,arl];omega
theorem adQ{α:Type}(f:α->Nat)(d:α):∀(a:List α)(n:Nat),n<a.length->EK f (a.take (n+1))=EK f (a.take n)+f (a.getD n d)
 |[],n,h=>by simp at h
 |x::r,0,_=>by simp[EK]
 |x::r,n+1,h=>by have:=adQ f d r n (by simpa using h);simp only[as2,EK,as3]at this ⊢;omega
theorem ahy{α:Type}(f:α->Nat):∀(a:List α)(n:Nat),EK f (a.take n)<=EK f a
 |[],n=>by simp
 |x::r,0=>by simp[EK]
 |x::r,n+1=>by simp only[as2,EK];have:=ahy f r n;omega
theorem qj{α:Type}(f:α->Nat):∀(a:List α)(x:α),x∈a->f x<=Sp.iw f a
 |y::r,x,h=>by
  rw[Sp.iw];rcases arD.1 h with rfl|h
  .omega
  .have:=qj f r x h;omega
 |[],x,h=>by cases h
theorem Ez{α β:Type}(f:α->Nat)(d:α)(a:List α)(left:Int)(t:β)(hlen:a.length<=9223372036854775807)(h0:0<=left)(h1:left<=1048576){K:Int×Unit->Prop}(hK:K (Sp.aH (Sp.iw f a) left,())):
 bif decide (IntKind.i64.wrap (left-(a.length:Int))<(0:Int))then K ((-1:Int),())
 else∃(I:(Int×Int×Unit)×Unit->Prop),∃(μ:(Int×Int×Unit)×Unit->Nat),I ((IntKind.i64.wrap (left-(a.length:Int)),(0:Int),()),())/\∀(y:(Int×Int×Unit)×Unit),I y->
  bif decide (y.fst.snd.fst<(a.length:Int))then
   ((0:Int)<=y.fst.snd.fst/\y.fst.snd.fst<(a.length:Int))/\((0:Int)<=y.fst.fst/\y.fst.fst<=(1048576:Int))/\
     (bif decide (Sp.aH (f (a.getD (Int.toNat y.fst.snd.fst) d)) y.fst.fst<(0:Int))then K ((-1:Int),())
     else t=t/\I ((Sp.aH (f (a.getD (Int.toNat y.fst.snd.fst) d)) y.fst.fst,IntKind.i64.wrap (y.fst.snd.fst+(1:Int)),()),())/\
      μ ((Sp.aH (f (a.getD (Int.toNat y.fst.snd.fst) d)) y.fst.fst,IntKind.i64.wrap (y.fst.snd.fst+(1:Int)),()),())<μ y)
  else K (y.fst.fst,()):=by
 rw[gm _ (by omega)];refine af (λh=>?_) λh=>?_<;>simp only[arx,arC]at h
 · grind [jd,Sp.aH]
 .refine⟨λy=>∃n:Nat,y.1.2.1=n/\n<=a.length/\0<=y.1.1/\y.1.1=Sp.aH (a.length+EK f (a.take n)) left,λy=>((a.length:Int)-y.1.2.1).toNat,⟨0,rfl,by omega,by grind,?_⟩,?_⟩
  · grind [EK,RI]
  rintro⟨⟨l,_,⟨⟩⟩,⟨⟩⟩ ⟨n,rfl,hn,hl,hJ⟩;dsimp only at hl hJ ⊢;have hle:l<=left:=by simp_all [adG]
  refine af (λh=>?_) λh=>?_<;>simp only[arx,arC]at h
  .have key:Sp.aH (f (a.getD n d)) l=Sp.aH (a.length+EK f (a.take (n+1))) left:=by
    grind [RJ,adQ]
   rw[arn,gm _ (by omega)];refine⟨⟨by omega,by omega⟩,⟨hl,by omega⟩,af (λh2=>?_) λh2=>?_⟩<;>simp only[arx,arC]at h2
   · grind [ahy,Sp.aH,jd]
   grind
  grind [jd]
theorem toS_vc{α β:Type}(pre:α->Prop)(d:α)(a:List α)(t:β)(hbig:a.length<=4294967296)(hpre:∀x∈a,pre x){K:List α×Unit->Prop}(hK:K (a,())):
 ((0:Int)<=(a.length:Int)/\(a.length:Int)<=(a.length:Int)/\(a.length:Int)<=(big:Int))/\
 ∃(I:(Int×Unit)×List α×Unit->Prop),∃(μ:(Int×Unit)×List α×Unit->Nat),I (((0:Int),()),List.replicate (a.length:Int).toNat d,())/\∀(y:(Int×Unit)×List α×Unit),I y->
  bif decide (y.fst.fst<(a.length:Int))then
   ((0:Int)<=y.fst.fst/\y.fst.fst<(a.length:Int))/\pre (a.getD (Int.toNat y.fst.fst) d)/\((0:Int)<=y.fst.fst/\y.fst.fst<(List.length y.snd.fst:Int))/\Int.toNat y.fst.fst<List.length y.snd.fst/\
     t=t/\I ((IntKind.i64.wrap (y.fst.fst+(1:Int)),()),List.set y.snd.fst (Int.toNat y.fst.fst) (a.getD (Int.toNat y.fst.fst) d),())/\
      μ ((IntKind.i64.wrap (y.fst.fst+(1:Int)),()),List.set y.snd.fst (Int.toNat y.fst.fst) (a.getD (Int.toNat y.fst.fst) d),())<μ y
  else K (y.snd.fst,()):=by
 refine⟨⟨by omega,by omega,by rw[dw];omega⟩,λy=>∃n:Nat,y.1.1=n/\n<=a.length/\y.2.1=a.take n++List.replicate (a.length-n) d,λy=>((a.length:Int)-y.1.1).toNat,⟨0,rfl,by omega,by simp⟩,?_⟩;rintro⟨⟨_,⟨⟩⟩,l,⟨⟩⟩ ⟨n,rfl,hn,rfl⟩;dsimp only;refine af (λh=>?_) λh=>?_<;>simp only[arx,arC]at h
 .have hlt:n<a.length:=by omega
  have hl:(a.take n++List.replicate (a.length-n) d).length=a.length:=by grind
  rw[gm _ (by omega),arn,hl];refine⟨⟨by omega,by omega⟩,hpre _ (getD_mem hlt),⟨by omega,by omega⟩,hlt,rfl,⟨n+1,by simp,by omega,?_⟩,by omega⟩;rw[show a.length-n=a.length-(n+1)+1 by omega,List.replicate_succ,ast _ _ (by grind),arF,asF hn,asW,as9,
     arW hlt,ar9,arp,aq8 hlt]
  rfl
 .have hge:n=a.length:=by omega
  simp_all
end Go.Fw
namespace Go.Fw
open Go
theorem dB{p:Prop}[Decidable p]{A B:Prop}(h:p)(a:A):cond (decide p) A B:=by grind
theorem dm{p:Prop}[Decidable p]{A B:Prop}(h:¬p)(b:B):cond (decide p) A B:=by grind
theorem dW{B:((Int×Unit)×Unit->Prop)->((Int×Unit)×Unit->Nat)->(Int×Unit)×Unit->Prop}(len:Nat)(hlen:len<=9223372036854775807)(J:Nat->Prop)(h0:J 0)
 (hstep:∀I μ(n:Nat),n<len->J n->(J (n+1)->I ((IntKind.i64.wrap ((n:Int)+1),()),())/\μ ((IntKind.i64.wrap ((n:Int)+1),()),())<μ (((n:Int),()),()))->B I μ (((n:Int),()),()))
 (hend:∀I μ,J len->B I μ (((len:Int),()),())):∃I,∃μ,I (((0:Int),()),())/\∀y,I y->B I μ y:=by
 refine⟨λy=>∃n:Nat,y.1.1=n/\n<=len/\J n,λy=>((len:Int)-y.1.1).toNat,⟨0,rfl,arw _,h0⟩,?_⟩
 grind [gm]
theorem fZ{Y S:Type}(mk:Int->S->Y)(idx:Y->Int)(hidx:∀i s,idx (mk i s)=i){B:(Y->Prop)->(Y->Nat)->Y->Prop}(len:Nat)(hlen:len<=9223372036854775807)(J:Nat->S->Prop){s0:S}(h0:J 0 s0)
 (hstep:∀I μ(n:Nat)(s:S),n<len->J n s->(∀s',J (n+1) s'->I (mk (IntKind.i64.wrap ((n:Int)+1)) s')/\μ (mk (IntKind.i64.wrap ((n:Int)+1)) s')<μ (mk n s))->B I μ (mk n s))
 (hend:∀I μ s,J len s->B I μ (mk len s)):∃I,∃μ,I (mk 0 s0)/\∀y,I y->B I μ y:=by
 refine⟨λy=>∃(n:Nat)(s:S),y=mk n s/\n<=len/\J n s,λy=>((len:Int)-idx y).toNat,⟨0,s0,rfl,arw _,h0⟩,?_⟩
 grind [gm]
theorem xK{len:Nat}{f:Nat->Bool}{n:Nat}(hn:n<len)(h:f n=false):Sp.fF len f=false:=by
 grind [Sp.fF]
theorem kT{len:Nat}{f:Nat->Bool}(h:∀i,i<len->f i=true):Sp.fF len f=true:=by
 grind [Sp.fF]
theorem Le{len:Nat}{f:Nat->Bool}:Sp.fF len f=true↔∀i,i<len->f i=true:=by
 grind [Sp.fF]
theorem dJ{n:Nat}{f:Nat->Bool}(h:∀i,i<n->f i=true)(hn:f n=true):∀i,i<n+1->f i=true:=λi hi=>by
 grind
theorem jb{b:Bool}(h:(!b)=true):b=false:=by cases b<;>first|rfl|cases h
theorem dZ{b:Bool}(h:(!b)=false):b=true:=by cases b<;>first|rfl|cases h
theorem iq{p:Prop}[Decidable p](h:decide p=true):p:=ar7 h
theorem iG{p:Prop}[Decidable p](h:decide p=false):¬p:=of_decide_eq_false h
theorem rJ{n:Nat}(h:0<n)(hn:n<=9223372036854775807):IntKind.i64.wrap ((n:Int)-1)=((n-1:Nat):Int):=by grind [gm]
theorem agf{α:Type}{d:α}{a b:List α}(hl:a.length=b.length)(h:∀i,i<a.length->a.getD i d=b.getD i d):a=b:=by
 grind [List.ext_getElem]
theorem ahs{α β:Type}(e:α->α->Bool)(he:∀x y,e x y=false↔x=y)(d:α)(a b:List α)(t:β)(hlen:a.length<=9223372036854775807)(hl:a.length=b.length){K:Bool×Unit->Prop}(hF:a≠b->K (false,()))(hT:a=b->K (true,())):
 ∃(I:(Int×Unit)×Unit->Prop),∃(μ:(Int×Unit)×Unit->Nat),I (((0:Int),()),())/\∀(y:(Int×Unit)×Unit),I y->
  bif decide (y.fst.fst<(a.length:Int))then
   ((0:Int)<=y.fst.fst/\y.fst.fst<(a.length:Int))/\((0:Int)<=y.fst.fst/\y.fst.fst<(b.length:Int))/\
     (bif e (a.getD (Int.toNat y.fst.fst) d) (b.getD (Int.toNat y.fst.fst) d)then K (false,())
     else t=t/\I ((IntKind.i64.wrap (y.fst.fst+(1:Int)),()),())/\μ ((IntKind.i64.wrap (y.fst.fst+(1:Int)),()),())<μ y)
  else K (true,()):=by
 refine dW a.length hlen (λn=>∀i,i<n->a.getD i d=b.getD i d) (λi hi=>by omega) (λI μ n hn hJ next=>?_) λI μ hJ=>(by dsimp only;exact dm (by omega) (hT (agf hl hJ)))
 grind
end Go.Fw
namespace Sp
open Go Go.Fw
theorem Rw{name:Bytes}:∀(s:List dH)(n:Nat),n<s.length->(∀i,i<n->(s.getD i ([],0,())).1≠name)->(s.getD n ([],0,())).1=name->kindOf s name=(s.getD n ([],0,())).2.1
 |[],n,h,_,_=>by simp at h
 |f::r,0,_,_,he=>by
  grind [kindOf]
 |f::r,n+1,h,hne,he=>by have h0:f.1≠name:=hne 0 (by omega);show(bif decide (f.1=name)then f.2.1 else kindOf r name)=_;rw[ars h0];exact Rw r n (by simpa using h) (λi hi=>hne (i+1) (by omega)) he
theorem KJ{name:Bytes}:∀(s:List dH),(∀i,i<s.length->(s.getD i ([],0,())).1≠name)->kindOf s name=0
 |[],_=>rfl
 |f::r,hne=>by have h0:f.1≠name:=hne 0 (by simp);show(bif decide (f.1=name)then f.2.1 else kindOf r name)=_;rw[ars h0];exact KJ r λi hi=>hne (i+1) (by simp;omega)
theorem TB{id:Int}:∀(s:List ay)(k:Int)(n:Nat),n<s.length->(∀i,i<n->(fileAt s i).1≠id)->(fileAt s n).1=id->mQ k s id=k+n
 |[],_,n,h,_,_=>by simp at h
 |f::r,k,0,_,_,he=>by
  have he:f.1=id:=he
  grind [mQ]
 |f::r,k,n+1,h,hne,he=>by have h0:f.1≠id:=hne 0 (by omega);show(bif decide (f.1=id)then k else mQ (k+1) r id)=_;rw[ars h0];show mQ (k+1) r id=_;rw[TB r (k+1) n (by simpa using h) (λi hi=>hne (i+1) (by omega)) he];omega
theorem Nc{id:Int}:∀(s:List ay)(k:Int),(∀i,i<s.length->(fileAt s i).1≠id)->mQ k s id=-1
 |[],_,_=>rfl
 |f::r,k,hne=>by have h0:f.1≠id:=hne 0 (by simp);show(bif decide (f.1=id)then k else mQ (k+1) r id)=_;rw[ars h0];exact Nc r (k+1) λi hi=>hne (i+1) (by simp;omega)
theorem IG{id:Int}{s:List ay}{n:Nat}(h:n<s.length)(hne:∀i,i<n->(fileAt s i).1≠id)(he:(fileAt s n).1=id):place s id=n:=by
 grind [place,TB]
theorem Y9{id:Int}{s:List ay}(hne:∀i,i<s.length->(fileAt s i).1≠id):place s id=-1:=Nc s 0 hne
theorem Px:∀(a b:List ay)(k:Int)(id:Int),a.map (·.1)=b.map (·.1)->mQ k a id=mQ k b id
 |[],[],_,_,_=>rfl
 |[],_::_,_,_,h=>by simp at h
 |_::_,[],_,_,h=>by simp at h
 |f::a,g::b,k,id,h=>by
  simp only[arB,List.cons.injEq]at h;show(bif decide (f.1=id)then k else mQ (k+1) a id)=bif decide (g.1=id)then k else mQ (k+1) b id
  rw[h.1,Px a b (k+1) id h.2]
theorem ajD{a b:List ay}(id:Int)(h:a.map (·.1)=b.map (·.1)):place a id=place b id:=Px a b 0 id h
theorem VD{s:List dH}{n:Nat}(h:n<s.length)(hn:iH s n=false):dL s=false:=by
 grind [dL,xK]
theorem aiM{fs:List dH}{s:List dK}{n:Nat}(h:n<s.length)(hn:iO fs s n=false):nH fs s=false:=xK h hn
theorem adD{fs:List dH}{f:ay}{n:Nat}(h:n<f.2.2.2.2.1.length)(hn:iO fs f.2.2.2.2.1 n=false):dP fs f=false:=by
 grind [dP,aiM]
theorem Y5{s:cu}{n:Nat}(h:n<s.2.1.length)(hn:jc s n=false):bf s=false:=by
 grind [bf,xK]
theorem I9{s:cu}{i:Nat}:jc s i=true↔dP s.1 (fileAt s.2.1 i)=true/\(fileAt s.2.1 i).1<s.2.2.1/\(0<i->(fileAt s.2.1 (i-1)).1<(fileAt s.2.1 i).1):=by
 grind [jc]
theorem FN{s:cu}:bf s=true↔(∀i,i<s.2.1.length->jc s i=true)/\dL s.1=true/\s.2.1.length<=12/\1<=s.2.2.1/\s.2.2.1<=61:=by
 grind [bf,Le]
theorem II(s:cu)(f:ay):(wV s f=(s,0,false)/\¬(bf s=true/\s.2.1.length<12/\dP s.1 (s.2.2.1,f.2)=true))\/
 (bf s=true/\s.2.1.length<12/\dP s.1 (s.2.2.1,f.2)=true/\wV s f=((s.1,s.2.1++[(s.2.2.1,f.2)],s.2.2.1+1,()),s.2.2.1,true)):=by
 grind [wV]
theorem anc{fs:List ay}{n i:Nat}:fileAt (fs.eraseIdx n) i=if i<n then fileAt fs i else fileAt fs (i+1):=by
 grind [fileAt]
theorem aiN{s:List ay}{f:ay}(h:f∈s):∃i,i<s.length/\fileAt s i=f:=by
 obtain⟨i,hi,rfl⟩:=arN h;refine⟨i,hi,?_⟩
 grind [fileAt]
theorem ajV{s:cu}(h:bf s=true):∀(j i:Nat),i<j->j<s.2.1.length->(fileAt s.2.1 i).1<(fileAt s.2.1 j).1
 |0,i,hi,_=>by omega
 |j+1,i,hi,hj=>by
  have h1:=(I9.1 ((FN.1 h).1 (j+1) hj)).2.2 (by omega);rw[Nat.add_sub_cancel]at h1;rcases ark i j with h2|h2
  .have:=ajV h j i h2 (by omega);omega
  .have:i=j:=by omega
   rw[this];exact h1
theorem Gt{s:cu}(u:Int)(h:iK s):iK (visible s u):=by
 obtain⟨h0,h1,h2⟩:=h;refine⟨h0,?_,λf hf=>?_⟩
 .show((s.2.1.filter (iF · u)).map _).length<=1000
  grind
 .obtain⟨g,hg,rfl⟩:=asb.1 hf;exact h2 g (asH.1 hg).1
theorem Tt{α:Type}{p:α->Bool}{d:α}:∀(l:List α)(n:Nat),n<=l.length->(∀i,i<n->p (l.getD i d)=true)->(n<l.length->p (l.getD n d)=false)->l.takeWhile p=l.take n/\l.dropWhile p=l.drop n
 |[],n,h,_,_=>by simp
 |x::r,0,_,_,h=>by
  simp_all
 |x::r,n+1,hn,h1,h2=>by have h0:p x=true:=h1 0 (by omega);have:=Tt r n (by simpa using hn) (λi hi=>h1 (i+1) (by omega)) λhlt=>h2 (by simpa using hlt);constructor<;>simp[h0,this.1,this.2]
end Sp
namespace Sp
open Go Go.Fw
theorem VO{α:Type}{p:α->Bool}{d:α}:∀(s:List α)(k:Int)(n:Nat),n<s.length->(∀i,i<n->p (s.getD i d)=false)->p (s.getD n d)=true->zN p k s=k+n
 |[],_,n,h,_,_=>by simp at h
 |f::r,k,0,_,_,he=>by
  grind [zN]
 |f::r,k,n+1,h,hne,he=>by have h0:p f=false:=hne 0 (by omega);show(bif p f then k else zN p (k+1) r)=_;rw[h0];show zN p (k+1) r=_;rw[VO r (k+1) n (by simpa using h) (λi hi=>hne (i+1) (by omega)) he];omega
theorem Py{α:Type}{p:α->Bool}{d:α}:∀(s:List α)(k:Int),(∀i,i<s.length->p (s.getD i d)=false)->zN p k s=-1
 |[],_,_=>rfl
 |f::r,k,hne=>by have h0:p f=false:=hne 0 (by simp);show(bif p f then k else zN p (k+1) r)=_;rw[h0];exact Py r (k+1) λi hi=>hne (i+1) (by simp;omega)
theorem adR{α:Type}{p:α->Bool}{d:α}{s:List α}{n:Nat}(h:n<s.length)(hne:∀i,i<n->p (s.getD i d)=false)(he:p (s.getD n d)=true):findAt p s=n:=by
 grind [findAt,VO]
theorem VP{α:Type}{p:α->Bool}{d:α}{s:List α}(hne:∀i,i<s.length->p (s.getD i d)=false):findAt p s=-1:=Py s 0 hne
theorem agh{α:Type}(p:α->Bool)(d:α)(s:List α):(findAt p s=-1/\∀i,i<s.length->p (s.getD i d)=false)\/∃n,n<s.length/\findAt p s=n/\p (s.getD n d)=true/\∀i,i<n->p (s.getD i d)=false:=by
 by_cases h:∃n,n<s.length/\p (s.getD n d)=true
 .obtain⟨n,h1,h2,h3⟩:=least s.length (p:=λn=>p (s.getD n d)=true) h
  grind [adR]
 .have hne:∀i,i<s.length->p (s.getD i d)=false:=λi hi=>by
   grind
  exact .inl ⟨VP hne,hne⟩
theorem VQ:∀a:Bytes,Op.bytesLess a a=false
 |[]=>rfl
 |x::a=>by show(decide (x<x)||(x==x&&Op.bytesLess a a))=false;rw[VQ a,ars (UInt8.lt_irrefl x),asj];rfl
theorem aaH:∀a b:Bytes,Op.bytesLess a b=false->a≠b->Op.bytesLess b a=true
 |[],[],_,h=>(h rfl).elim
 |x::a,[],_,_=>rfl
 |[],y::b,h,_=>by cases h
 |x::a,y::b,h,hne=>by
  have h:(decide (x<y)||(x==y&&Op.bytesLess a b))=false:=h;show(decide (y<x)||(y==x&&Op.bytesLess b a))=true;rw[asB,arC]at h;by_cases e:x=y
  .subst e;have h2:Op.bytesLess a b=false:=by simpa using h.2
   rw[aaH a b h2 (λe=>hne (by rw[e]))];simp
  .have:y<x:=by have h1:¬x.toNat<y.toNat:=λhh=>h.1 (UInt8.lt_iff_toNat_lt.2 hh);have h2:x.toNat≠y.toNat:=λhh=>e (UInt8.toNat_inj.1 hh);exact UInt8.lt_iff_toNat_lt.2 (by omega)
   rw[arh this];rfl
theorem ajW{x y:UInt8}{a b:Bytes}:Op.bytesLess (x::a) (y::b)=true↔x.toNat<y.toNat\/(x=y/\Op.bytesLess a b=true):=by
 grind [Op.bytesLess,UInt8.lt_iff_toNat_lt]
theorem EH:∀a b c:Bytes,Op.bytesLess a b=true->Op.bytesLess b c=true->Op.bytesLess a c=true
 |_,[],_,h,_=>by cases h':(‹Bytes›:Bytes)<;>simp_all [Op.bytesLess]
 |_,_::_,[],_,h=>by cases h
 |[],_::_,_::_,_,_=>rfl
 |x::a,y::b,z::c,h1,h2=>by
  rw[ajW]at h1 h2 ⊢;rcases h1 with h1|⟨rfl,h1⟩
  .rcases h2 with h2|⟨rfl,h2⟩
   .exact .inl (by omega)
   .exact .inl h1
  .rcases h2 with h2|⟨rfl,h2⟩
   .exact .inl h2
   .exact .inr ⟨rfl,EH a b c h1 h2⟩
theorem Uj{a b:Bytes}(h:Op.bytesLess a b=true):a≠b:=λe=>by grind [VQ]
theorem agi{s:List dH}:dL s=true↔(∀i,i<s.length->iH s i=true)/\s.length<=5:=by
 grind [dL,Le]
end Sp
namespace Sp
open Go
def nameOf(d:List aC)(i:Nat):Bytes:=(bT d i).1
def eU(d:List aC)(i:Nat):List aT:=(bT d i).2.1
def nT(r:List bM)(i:Nat):bM:=r.getD i ([],[],())
def fK(r:List bM)(i:Nat):List (Int×Unit):=(nT r i).2.1
def jS(d:List aC)(ax:List (Int×Unit)):Prop:=
 ax.length=d.length/\(∀i,i<d.length->0<=lv ax i/\lv ax i<=d.length)/\(gq (bW d) λi=>(lv ax i).toNat)/\∀M,gq (bW d) M->∀i,i<d.length->lv ax i<=M i
theorem SS{d:List aC}{a b:List (Int×Unit)}(h1:jS d a)(h2:jS d b):a=b:=by
 refine ajF (h1.1.trans h2.1.symm) λi hi=>?_;have hi:i<d.length:=by rw[← h1.1];exact hi
 have a1:=h1.2.2.2 _ h2.2.2.1 i hi;have a2:=h2.2.2.2 _ h1.2.2.1 i hi;have:=(h1.2.1 i hi).1;have:=(h2.2.1 i hi).1;omega
theorem Za{d:List aC}(h:∃M,gq (bW d) M/\∀i,i<d.length->M i<d.length):∃s,jS d s:=by
 have hE:=jv d;have hmin:∀i,∃m,(∃M,gq (bW d) M/\M i=m)/\∀M,gq (bW d) M->m<=M i:=λi=>by
  obtain⟨M0,h0,_⟩:=h;have:∀n,(∃M,gq (bW d) M/\M i=n)->∃m,(∃M,gq (bW d) M/\M i=m)/\∀M,gq (bW d) M->m<=M i:=by
   intro n
   induction n using Nat.strongRecOn with
   |_ n ih=>
    intro hn;by_cases hl:∃M,gq (bW d) M/\M i<n
    .obtain⟨M,h1,h2⟩:=hl;exact ih _ h2 ⟨M,h1,rfl⟩
    grind
  exact this (M0 i) ⟨M0,h0,rfl⟩
 obtain⟨L,hL⟩:=Classical.axiomOfChoice hmin;have hfix:gq (bW d) L:=λe he=>by obtain⟨⟨M,h1,h2⟩,_⟩:=hL e.1;have a:=(hL e.2.1).2 M h1;have b:=h1 e he;omega
 have hlv:∀i,i<d.length->lv ((List.range d.length).map λi=>((L i:Int),())) i=L i:=λi hi=>by
  grind [lv]
 refine⟨(List.range d.length).map λi=>((L i:Int),()),by simp,λi hi=>?_,λe he=>?_,λM hM i hi=>?_⟩
 · grind
 .obtain⟨h1,h2,_⟩:=hE e he;have:=hfix e he
  grind
 grind
def Lj(d:List aC)(ax:List (Int×Unit))(s:Bytes):Nat:=(lv ax (aG d s).toNat).toNat
def due(d:List aC)(nm:Bytes->Bool)(s:Bytes):Prop:=nm s=true/\∃i,i<d.length/\nameOf d i=s
theorem ajX{d:List aC}(h:dR d=true){i:Nat}(hi:i<d.length):aU (eU d i)=true/\(0<i->Op.bytesLess (nameOf d (i-1)) (nameOf d i)=true):=by
 unfold dR at h;have h1:iP d i=true:=by
  grind [fF]
 unfold iP at h1;rw[aq5,aq5]at h1;refine⟨h1.1.2,λh0=>?_⟩
 grind [nameOf]
theorem acY{d:List aC}(h:dR d=true):∀(j i:Nat),i<j->j<d.length->Op.bytesLess (nameOf d i) (nameOf d j)=true
 |0,i,hi,_=>by omega
 |j+1,i,hi,hj=>by
  have h1:=(ajX h hj).2 (by omega);rcases ark i j with h2|h2
  .exact EH _ _ _ (acY h j i h2 (by omega)) h1
  .have:i=j:=by omega
   subst this;exact h1
theorem Ye{d:List aC}(h:dR d=true){i j:Nat}(hi:i<d.length)(hj:j<d.length)(e:nameOf d i=nameOf d j):i=j:=by
 rcases asM i j with h1|h1|h1
 · simp_all [Uj,acY]
 .exact h1
 .exact(Uj (acY h i j h1 hi) e.symm).elim
theorem OX{d:List aC}(h:dR d=true){i:Nat}(hi:i<d.length):aG d (nameOf d i)=i:=by
 rcases AZ d (nameOf d i)with⟨_,h2⟩|⟨n,h1,h2,h3,_⟩
 .refine(h2 (bT d i) ?_ rfl).elim
  grind [bT]
 .rw[h2,Ye h h1 hi h3]
theorem tJ{d:List aC}(h:dR d=true){ax:List (Int×Unit)}{i:Nat}(hi:i<d.length):Lj d ax (nameOf d i)=(lv ax i).toNat:=by
 grind [Lj,OX]
theorem Yf{fs:List ay}{d:List aC}(h:dR d=true){ax:List (Int×Unit)}(hl:jS d ax)(nm:Bytes->Bool):aeH (Kt fs d) (due d nm) (Lj d ax):=by
 intro s t _ ht;obtain⟨_,j,hj,rfl⟩:=ht;have edge:∀i,i<d.length->∀m b,(m=0/\b=false\/m=1/\b=true)->nameOf d j∈dM (eU d i) b->(lv ax j).toNat+m<=(lv ax i).toNat:=λi hi m b hm hd=>by
  refine hl.2.2.1 (i,j,m) (zI.2 ⟨hi,nameOf d j,?_,by grind [OX],by grind [OX]⟩);rcases hm with⟨a,b⟩|⟨a,b⟩
  .subst a b;exact .inl ⟨rfl,hd⟩
  .subst a b;exact .inr ⟨rfl,hd⟩
 refine⟨?_,?_⟩
 .rintro⟨i,hi,rfl,hd⟩;rw[show(bT d i).1=nameOf d i from rfl,tJ h hi,tJ h hj];exact edge i hi 0 false (.inl ⟨rfl,rfl⟩) hd
 .rintro⟨i,hi,rfl,hd⟩;rw[show(bT d i).1=nameOf d i from rfl,tJ h hi,tJ h hj];exact edge i hi 1 true (.inr ⟨rfl,rfl⟩) hd
def qm(d:List aC)(out:List bM):Prop:=out.length=d.length/\∀i,i<d.length->(nT out i).1=nameOf d i
theorem FP:∀{r:List bM}{s:Bytes},(∀i,i<r.length->(nT r i).1≠s)->dY r s=[]
 |[],_,_=>rfl
 |x::r,s,h=>by have h0:x.1≠s:=h 0 (by simp);rw[dY,aq4.2 h0];exact FP λi hi=>h (i+1) (by simpa using hi)
theorem SE:∀{r:List bM}{i:Nat},i<r.length->(∀j,j<i->(nT r j).1≠(nT r i).1)->dY r (nT r i).1=fK r i
 |[],i,h,_=>by simp at h
 |x::r,0,_,_=>by
  show dY (x::r) x.1=x.2.1
  grind [dY]
 |x::r,i+1,h,hn=>by have h0:x.1≠(nT r i).1:=hn 0 (by omega);show dY (x::r) (nT r i).1=fK r i;rw[dY,aq4.2 h0];exact SE (by simpa using h) λj hj=>hn (j+1) (by omega)
theorem wZ{d:List aC}(h:dR d=true){out:List bM}(ho:qm d out){i:Nat}(hi:i<d.length):dY out (nameOf d i)=fK out i:=by rw[← ho.2 i hi];refine SE (by rw[ho.1];exact hi) λj hj e=>?_;rw[ho.2 j (by omega),ho.2 i hi]at e;have:=Ye h (by omega) hi e;omega
theorem TD{d:List aC}{out:List bM}(ho:qm d out){s:Bytes}(hs:∀i,i<d.length->nameOf d i≠s):dY out s=[]:=
 FP λi hi=>by rw[ho.1]at hi;rw[ho.2 i hi];exact hs i hi
structure kE(fs:List ay)(d:List aC)(r:List bM)(nm:Bytes->Bool)(out:List bM):Prop where
 order:qm d out
 kept:∀i,i<d.length->nm (nameOf d i)=false->fK out i=dY r (nameOf d i)
 fix:∀i,i<d.length->nm (nameOf d i)=true->fK out i=sel fs (eU d i) (aW out)
 ax:∃ax,jS d ax/\Eval (Kt fs d) (due d nm) (Lj d ax) (aW out)
theorem Uk{a b:List (Int×Unit)}(h:a=b)(x:Int):jh a x=jh b x:=by rw[h]
theorem amg{d:List aC}{a b:List bM}(ha:qm d a)(hb:qm d b)(h:∀i,i<d.length->fK a i=fK b i):a=b:=by
 refine List.ext_getElem (ha.1.trans hb.1.symm) λi h1 h2=>?_;have hi:i<d.length:=by rw[← ha.1];exact h1
 have e1:=ha.2 i hi;have e2:=hb.2 i hi
 grind [fK,nT]
theorem agj{fs:List ay}{d:List aC}{r:List bM}{nm:Bytes->Bool}{a b:List bM}(h:dR d=true)(ha:kE fs d r nm a)(hb:kE fs d r nm b):a=b:=by
 obtain⟨l1,hl1,e1⟩:=ha.ax;obtain⟨l2,hl2,e2⟩:=hb.ax;have off:∀s,¬due d nm s->∀x,aW a s x=aW b s x:=λs hs x=>by
  by_cases hd:∃i,i<d.length/\nameOf d i=s
  .obtain⟨i,hi,rfl⟩:=hd;have hn:nm (nameOf d i)=false:=by rw[asL];exactλhn=>hs ⟨hn,i,hi,rfl⟩
   exact Uk (by rw[wZ h ha.order hi,wZ h hb.order hi,ha.kept i hi hn,hb.kept i hi hn]) x
  .have hd':∀i,i<d.length->nameOf d i≠s:=λi hi e=>hd ⟨i,hi,e⟩;exact Uk (by rw[TD ha.order hd',TD hb.order hd']) x
 have key:=agX (U:=due d nm) e1 e2 (Yf h hl1 nm) (Yf h hl2 nm) (λ_ h=>h) (λ_ h=>h) (λ_ _ _ _=>Iff.rfl) (λ_ _ _ h=>h) (λ_ _ _ h=>h)
  λi _ j _=>Classical.or_iff_not_imp_left.2 (off j)
 have all:aW a=aW b:=by
  grind
 refine amg ha.order hb.order λi hi=>?_;cases hn:nm (nameOf d i)with
 |false=>rw[ha.kept i hi hn,hb.kept i hi hn]
 |true=>rw[ha.fix i hi hn,hb.fix i hi hn,all]
def Ul{ι α:Type}(S:Sys ι α)(N:ι->Prop)(ax:ι->Nat)(k:Nat)(X:Ext ι α):Prop:=
 ∀Y:Ext ι α,(∀i,¬(N i/\ax i=k)->∀x,Y i x=X i x)->(∀i,N i->ax i=k->∀x,S.T i Y x->Y i x=true)->∀i,N i->ax i=k->∀x,X i x=true->Y i x=true
open Classical in
theorem acZ{ι α:Type}{S:Sys ι α}{N:ι->Prop}{ax:ι->Nat}(hs:aeH S N ax){m:Nat}{X X':Ext ι α}(h:∀i,¬(N i/\m<ax i)->∀x,X i x=X' i x)(hX:Ul S N ax m X):Ul S N ax m X':=by
 intro Y hY hp i hi hl x hx;have key:=hX (λi x=>if N i/\m<ax i then X i x else Y i x) (λj hj y=>?_) (λj hj hlj y hy=>?_) i hi hl x (by grind)
 · grind
 · grind
 .rw[if_neg (by omega)];have same:∀t,(S.pos j t\/S.neg j t)->¬(N t/\m<ax t):=λt ht hc=>by
   rcases ht with ht|ht
   .have:=(hs j t hj hc.1).1 ht;omega
   .have:=(hs j t hj hc.1).2 ht;omega
  refine hp j hj hlj y (S.mono j _ Y (λt ht z hz=>?_) (λt ht z=>?_) y hy)
  · grind
  grind
def canon(fs:List ay)(l:List (Int×Unit)):Prop:=l=(fs.filter λf=>jh l f.1).map λf=>(f.1,())
def distinct(fs:List ay):Prop:=∀f∈fs,∀g∈fs,f.1=g.1->f=g
theorem ajY{fs:List ay}(hd:distinct fs)(q:List aT)(X:BX):canon fs (sel fs q X):=by
 show _=List.map _ (List.filter _ _)
 conv=>lhs;unfold sel
 congr 1;apply List.filter_congr;intro f hf;rw[arz,DJ,acX];exact⟨λh=>⟨f,hf,rfl,h⟩,λ⟨g,hg,e,hm⟩=>by rw[hd f hf g hg e.symm];exact hm⟩
theorem adS{fs:List ay}{l:List (Int×Unit)}(h:canon fs l):l.length<=fs.length:=by rw[h,arq];grind
theorem filter_lt{α:Type}{p q:α->Bool}(h:∀x,p x=true->q x=true):∀{l:List α},(∃x∈l,q x=true/\p x=false)->(l.filter p).length<(l.filter q).length
 |[],h'=>by grind
 |y::r,h'=>by
  have le:(r.filter p).length<=(r.filter q).length:=by
   clear h'
   induction r with
   |nil=>grind
   |cons z t ih=>
    grind
  grind [filter_lt,Nat.lt_succ_of_lt]
theorem aiO{fs:List ay}{a b:List (Int×Unit)}(ha:canon fs a)(hb:canon fs b)(h:∀x,jh a x=true->jh b x=true)(hne:b≠a):a.length<b.length:=by
 rw[ha,hb,arq,arq];refine filter_lt (p:=λf:ay=>jh a f.1) (q:=λf:ay=>jh b f.1) (λf=>h f.1) (arK λhno=>hne ?_);rw[ha,hb]
 grind [List.filter_congr]
structure mG(fs:List ay)(d:List aC)(r:List bM)(nm:Bytes->Bool)(ax:List (Int×Unit))(k:Nat)(out:List bM):Prop where
 order:qm d out
 kept:∀i,i<d.length->nm (nameOf d i)=false->fK out i=dY r (nameOf d i)
 later:∀i,i<d.length->nm (nameOf d i)=true->(k:Int)<lv ax i->fK out i=[]
 done:∀i,i<d.length->nm (nameOf d i)=true->lv ax i<k->fK out i=sel fs (eU d i) (aW out)
 TF:∀m,m<k->Ul (Kt fs d) (due d nm) (Lj d ax) m (aW out)
 agk:∀i,i<d.length->nm (nameOf d i)=true->lv ax i=k->∀x,jh (fK out i) x=true->(x,())∈sel fs (eU d i) (aW out)
 least:Ul (Kt fs d) (due d nm) (Lj d ax) k (aW out)
 canon:∀i,i<d.length->nm (nameOf d i)=true->canon fs (fK out i)
theorem akQ{fs:List ay}{d:List aC}{r:List bM}{nm:Bytes->Bool}{ax:List (Int×Unit)}(h:dR d=true)(hl:jS d ax){out:List bM}(ho:qm d out)
 (h1:∀i,i<d.length->nm (nameOf d i)=false->fK out i=dY r (nameOf d i)) (h2:∀i,i<d.length->nm (nameOf d i)=true->fK out i=[]):mG fs d r nm ax 0 out where
 order:=ho
 kept:=h1
 later:=λi hi hn _=>h2 i hi hn
 done:=λi hi _ hlt=>by have:=(hl.2.1 i hi).1;omega
 TF:=λm hm=>by omega
 agk:=λi hi hn _ x hx=>by rw[h2 i hi hn]at hx;cases hx
 least:=λY _ _ s hs _ x hx=>by obtain⟨hn,i,hi,rfl⟩:=hs;have hx:jh (dY out (nameOf d i)) x=true:=hx;rw[wZ h ho hi,h2 i hi hn]at hx;cases hx
 canon:=λi hi hn=>by rw[h2 i hi hn];show[]=List.map _ (List.filter _ _);grind [List.filter_eq_nil_iff,jh]
theorem Ku{out:List bM}{i j:Nat}{x:bM}(hi:i<out.length):nT (out.set i x) j=if j=i then x else nT out j:=by
 grind [nT]
theorem adT{d:List aC}{out:List bM}(ho:qm d out){i:Nat}(hi:i<d.length)(l:List (Int×Unit)):qm d (out.set i (nameOf d i,l,())):=by
 refine⟨by rw[ato];exact ho.1,λj hj=>?_⟩;rw[Ku (by rw[ho.1];exact hi)];split
 · grind
 .exact ho.2 j hj
theorem ajZ{d:List aC}(h:dR d=true){out:List bM}(ho:qm d out){i:Nat}(hi:i<d.length)(l:List (Int×Unit)):
 (∀x,aW (out.set i (nameOf d i,l,())) (nameOf d i) x=jh l x)/\∀s,s≠nameOf d i->∀x,aW (out.set i (nameOf d i,l,())) s x=aW out s x:=by
 have ho':=adT ho hi l;refine⟨λx=>?_,λs hs x=>?_⟩
 .refine Uk ?_ x;rw[wZ h ho' hi];unfold fK;rw[Ku (by rw[ho.1];exact hi),if_pos rfl]
 .refine Uk ?_ x;by_cases hd:∃j,j<d.length/\nameOf d j=s
  .obtain⟨j,hj,rfl⟩:=hd;rw[wZ h ho' hj,wZ h ho hj];unfold fK;rw[Ku (by rw[ho.1];exact hi),if_neg (λe=>hs (by rw[e]))]
  grind [TD]
theorem aeI{fs:List ay}{d:List aC}(h:dR d=true){i:Nat}(hi:i<d.length){X:BX}{x:Int}:(Kt fs d).T (nameOf d i) X x↔(x,())∈sel fs (eU d i) X:=by
 constructor
 .rintro⟨j,hj,e,hx⟩;have:=Ye h hj hi e;subst this;exact hx
 .exactλhx=>⟨i,hi,rfl,hx⟩
theorem at_set{fs:List ay}{d:List aC}{r:List bM}{nm:Bytes->Bool}{ax:List (Int×Unit)}{k:Nat}{out:List bM}(h:dR d=true)(hl:jS d ax)(hf:distinct fs)(A:mG fs d r nm ax k out){i:Nat}(hi:i<d.length)(hn:nm (nameOf d i)=true)(hk:lv ax i=k):
 mG fs d r nm ax k (out.set i (nameOf d i,sel fs (eU d i) (aW out),()))/\(sel fs (eU d i) (aW out)≠fK out i->(fK out i).length<(sel fs (eU d i) (aW out)).length)/\(sel fs (eU d i) (aW out)).length<=fs.length:=by
 have hc:=ajY hf (eU d i) (aW out);have hol:i<out.length:=by rw[A.order.1];exact hi
 have hs:=Yf (fs:=fs) h hl nm;have hd:due d nm (nameOf d i):=⟨hn,i,hi,rfl⟩;have hlv:Lj d ax (nameOf d i)=k:=by grind [tJ]
 obtain⟨g1,g2⟩:=ajZ h A.order hi (sel fs (eU d i) (aW out));have up:∀s x,aW out s x=true->aW (out.set i (nameOf d i,sel fs (eU d i) (aW out),())) s x=true:=λs x hx=>by
  by_cases e:s=nameOf d i
  .subst e;rw[g1,DJ];refine A.agk i hi hn hk x ?_;have hx:jh (dY out (nameOf d i)) x=true:=hx;rw[wZ h A.order hi]at hx;exact hx
  grind
 have off:∀s,¬(due d nm s/\Lj d ax s=k)->∀x,aW out s x=aW (out.set i (nameOf d i,sel fs (eU d i) (aW out),())) s x:=λs hs' x=>(g2 s (λe=>hs' (by grind)) x).symm;have ids:∀j,fK (out.set i (nameOf d i,sel fs (eU d i) (aW out),())) j=if j=i then sel fs (eU d i) (aW out)else fK out j:=λj=>by
  grind [fK,Ku]
 refine⟨⟨adT A.order hi _,λj hj TG=>?_,λj hj TG hlj=>?_,λj hj TG hlj=>?_,λm hm=>?_,λj hj TG hlj x hx=>?_,?_,λj hj TG=>?_⟩,λhne=>?_,adS hc⟩
 .rw[ids,if_neg (λe=>by grind)];exact A.kept j hj TG
 .rw[ids,if_neg (λe=>by grind)];exact A.later j hj TG hlj
 .rw[ids,if_neg (λe=>by grind),A.done j hj TG hlj];refine ajU λb s hsd x=>off s (λhc=>?_) x;have hdj:due d nm (nameOf d j):=⟨TG,j,hj,rfl⟩;have:=hs (nameOf d j) s hdj hc.1;have aqR:Lj d ax (nameOf d j)<k:=by rw[tJ h hj];have:=(hl.2.1 j hj).1;omega
  cases b with
  |false=>have:=this.1 ⟨j,hj,rfl,hsd⟩;omega
  |true=>have:=this.2 ⟨j,hj,rfl,hsd⟩;omega
 .exact acZ hs (λs hs'=>off s λhc=>hs' ⟨hc.1,by omega⟩) (A.TF m hm)
 .have hT:(Kt fs d).T (nameOf d j) (aW out) x:=by
   rw[aeI h hj];rw[ids]at hx;by_cases e:j=i
   · grind [DJ]
   .rw[if_neg e]at hx;exact A.agk j hj TG hlj x hx
  rw[← aeI h hj];refine(Kt fs d).mono _ _ _ (λs _=>up s) (λs hsd=>off s λhc=>?_) x hT;have:=(hs (nameOf d j) s ⟨TG,j,hj,rfl⟩ hc.1).2 hsd
  grind [tJ]
 .intro Y hY hp s hsd hls x hx;have Vg:∀t,¬(due d nm t/\Lj d ax t=k)->∀x,Y t x=aW out t x:=λt ht x=>(hY t ht x).trans (off t ht x).symm;have base:=A.least Y Vg hp;by_cases e:s=nameOf d i
  .subst e;rw[g1,DJ,← aeI h hi]at hx;refine hp _ hsd hls x ((Kt fs d).mono _ _ _ (λt _ y hy=>?_) (λt ht y=>?_) x hx)
   · grind
   .refine(Vg t (λhc=>?_) y).symm;have:=(hs (nameOf d i) t hd hc.1).2 ht;omega
  grind
 .rw[ids];split
  .exact hc
  .exact A.canon j hj TG
 .refine aiO (A.canon i hi hn) hc (λx hx=>?_) hne;rw[DJ];exact A.agk i hi hn hk x hx
theorem at_next{fs:List ay}{d:List aC}{r:List bM}{nm:Bytes->Bool}{ax:List (Int×Unit)}{k:Nat}{out:List bM}(h:dR d=true)(A:mG fs d r nm ax k out)(hstill:∀i,i<d.length->nm (nameOf d i)=true->lv ax i=k->sel fs (eU d i) (aW out)=fK out i):mG fs d r nm ax (k+1) out where
 order:=A.order
 kept:=A.kept
 later:=λi hi hn hlt=>A.later i hi hn (by omega)
 done:=λi hi hn hlt=>by
  by_cases e:lv ax i=k
  · grind
  .exact A.done i hi hn (by omega)
 TF:=λm hm=>by
  by_cases e:m=k
  .subst e;exact A.least
  .exact A.TF m (by omega)
 agk:=λi hi hn hl x hx=>by rw[A.later i hi hn (by omega)]at hx;cases hx
 least:=λY _ _ s hs hls x hx=>by obtain⟨hn,i,hi,rfl⟩:=hs;rw[tJ h hi]at hls;have hx:jh (dY out (nameOf d i)) x=true:=hx;rw[wZ h A.order hi,A.later i hi hn (by omega)]at hx;cases hx
 canon:=A.canon
theorem at_end{fs:List ay}{d:List aC}{r:List bM}{nm:Bytes->Bool}{ax:List (Int×Unit)}{k:Nat}{out:List bM}(h:dR d=true)(hl:jS d ax)(A:mG fs d r nm ax k out)(hk:∀i,i<d.length->lv ax i<k):kE fs d r nm out where
 order:=A.order
 kept:=A.kept
 fix:=λi hi hn=>A.done i hi hn (hk i hi)
 ax:=⟨ax,hl,{
  fix:=λs hs x=>by obtain⟨hn,i,hi,rfl⟩:=hs;rw[aeI h hi,← A.done i hi hn (hk i hi),← DJ,← wZ h A.order hi];rfl
  least:=λm Y hY hp s hs hls=>by
   have hm:m<k:=by obtain⟨hn,i,hi,rfl⟩:=hs;rw[tJ h hi]at hls;have:=hk i hi;have:=(hl.2.1 i hi).1;omega
   exact A.TF m hm Y hY hp s hs hls}⟩
def room(n:Nat)(out:List bM):Nat:=(out.map λx=>n-x.2.1.length).sum
theorem Yg{n:Nat}:∀{out:List bM}{i:Nat}{x:bM},i<out.length->(fK out i).length<x.2.1.length->x.2.1.length<=n->room n (out.set i x)<room n out
 |[],i,x,h,_,_=>by simp at h
 |y::r,0,x,_,h1,h2=>by
  have h1:y.2.1.length<x.2.1.length:=h1;show((x::r).map λx=>n-x.2.1.length).sum<((y::r).map λx=>n-x.2.1.length).sum
  grind
 |y::r,i+1,x,h,h1,h2=>by
  have ih:=Yg (out:=r) (i:=i) (x:=x) (by simpa using h) h1 h2
  grind [room]
end Sp
namespace Sp
open Go
abbrev Ov:=Bytes×List (Int×Unit)×List (Int×Unit)×Unit
abbrev jX:=List dH×List ay×Int×List aC×List bM×Unit
instance:DecidableEq (List (Int×Unit)):=inferInstance
instance:DecidableEq bM:=inferInstance
instance:DecidableEq (List bM):=inferInstance
instance:DecidableEq (List bM×Unit):=inferInstance
instance:DecidableEq (List aC×List bM×Unit):=inferInstance
instance:DecidableEq (Int×List aC×List bM×Unit):=inferInstance
instance:DecidableEq (List ay×Int×List aC×List bM×Unit):=inferInstance
instance aqS:DecidableEq jX:=(inferInstance:DecidableEq (List dH×List ay×Int×List aC×List bM×Unit))
def qE(l:LS)(s:Bytes):Bool:=l.any λx=>x.1==s
theorem af2{l:LS}{s:Bytes}:qE l s=true↔(s,())∈l:=by
 grind [qE]
def bU(r:List bM):Prop:=r.length<=1000/\∀x∈r,x.2.1.length<=1000
def mD(c:jX):cu:=(c.1,c.2.1,c.2.2.1,())
def qc(c:jX):List aC:=c.2.2.2.1
def agl(c:jX):List bM:=c.2.2.2.2.1
def lU(d:List aC):LS:=d.map λx=>(x.1,())
def Yn(d:List aC)(m:Int):Prop:=m<=1000/\∀ax,aK d=true->jS d ax->∀i,i<d.length->lv ax i<=m
open Classical in
noncomputable def Ko (c:jX):Bool:=aK (qc c)&&bf (mD c)&&decide (kE c.2.1 (qc c) [] (λ_=>true) (agl c))
def akR(f g:ay):List Bytes:=((f.2.2.2.2.1++g.2.2.2.2.1).map λa=>a.1).filter λs=>!decide (eH f.2.2.2.2.1 s=eH g.2.2.2.2.1 s)
def amh(q:List aT):List Bytes:=(q.filter λn=>n.1==2||(n.1==3||n.1==4)).map λn=>n.2.2.2.1
def aaG(q:List aT):List Bytes:=(q.filter xM).map λn=>n.2.2.2.1
def linked(q:List aT):Bool:=q.any λn=>n.1==9
inductive Reach(d:List aC)(P:Bytes->Prop):Bytes->Prop where
 |base {s}:P s->Reach d P s
 |step {s i}:Reach d P s->i<d.length->s∈aaG (eU d i)->Reach d P (nameOf d i)
def akS(d:List aC)(f g:ay)(s:Bytes):Prop:=
 ∃i,i<d.length/\nameOf d i=s/\(f.1≠g.1\/(∃t,t∈amh (eU d i)/\t∈akR f g)\/(linked (eU d i)=true/\f.2.2.2.1≠g.2.2.2.1))
def Aff(d:List aC)(f g:ay):Bytes->Prop:=Reach d (akS d f g)
open Classical in
noncomputable def aqT (d:List aC) (f g:ay) (s:Bytes):Bool:=decide (Aff d f g s)
def without(a b:List (Int×Unit)):List (Int×Unit):=a.filter λx=>!jh b x.1
def ane(a:List bM)(x:bM):Ov:=(x.1,without x.2.1 (dY a x.1),without (dY a x.1) x.2.1,())
def anf(y:Ov):Bool:=decide (0<y.2.1.length+y.2.2.1.length)
def alL(a b:List bM):List Ov:=(b.map (ane a)).filter anf
def apS(l:List (Int×Unit))(n:Int):List (Int×Unit):=
 let k:=(l.takeWhile λx=>decide (x.1<n)).length
 bif decide (k<l.length)&&(l.getD k (0,())).1==n then l else l.take k++[(n,())]++l.drop k
def aj0(l:List (Int×Unit))(xs:List (Int×Unit)):List (Int×Unit):=xs.foldl (λl x=>apS l x.1) l
def akT(l x y:List (Int×Unit)):List (Int×Unit):=aj0 (aj0 [] (l.filter λz=>!jh y z.1)) x
def H8(fs:List ay)(d:List aC)(r:List bM)(nm:Bytes->Bool)(ax:List (Int×Unit))(k:Nat)(TJ:List bM)(i:Nat)(c:Bool)(out:List bM):Prop:=
 mG fs d r nm ax k out/\(c=true->room fs.length out<room fs.length TJ)/\
  (c=false->out=TJ/\∀j,j<i->j<d.length->nm (nameOf d j)=true->lv ax j=k->sel fs (eU d j) (aW out)=fK out j)
theorem Gj{fs:List ay}{d:List aC}{r:List bM}{nm:Bytes->Bool}{ax:List (Int×Unit)}{k i:Nat}{TJ out:List bM}{c:Bool}(h:H8 fs d r nm ax k TJ i c out)(hs:nm (nameOf d i)=true->lv ax i=k->sel fs (eU d i) (aW out)=fK out i):H8 fs d r nm ax k TJ (i+1) c out:=
 ⟨h.1,h.2.1,λhc=>⟨(h.2.2 hc).1,λj hj hd hn hl=>by
   rcases ark j i with h'|h'
   .exact(h.2.2 hc).2 j h' hd hn hl
   grind⟩⟩
theorem af0{fs:List ay}{d:List aC}{r:List bM}{nm:Bytes->Bool}{ax:List (Int×Unit)}{k i:Nat}{TJ out:List bM}{c:Bool}(hd:dR d=true)(hl:jS d ax)(hf:distinct fs)(h:H8 fs d r nm ax k TJ i c out)(hi:i<d.length)(hn:nm (nameOf d i)=true)(hk:lv ax i=k)(hne:sel fs (eU d i) (aW out)≠fK out i):
 H8 fs d r nm ax k TJ (i+1) true (out.set i ((nT out i).1,sel fs (eU d i) (aW out),())):=by
 obtain⟨A,h1,h2⟩:=h;rw[A.order.2 i hi];obtain⟨g1,g2,g3⟩:=at_set hd hl hf A hi hn hk;refine⟨g1,λ_=>?_,λh=>by cases h⟩;have hr:room fs.length (out.set i (nameOf d i,sel fs (eU d i) (aW out),()))<room fs.length out:=Yg (by rw[A.order.1];exact hi) (g2 hne) g3
 grind
theorem VI{fs:List ay}{d:List aC}{r:List bM}{nm:Bytes->Bool}{ax:List (Int×Unit)}{k:Nat}{out:List bM}(A:mG fs d r nm ax k out)(hd:d.length<=1000)(hf:fs.length<=1000)(hr:bU r):bU out:=by
 refine⟨by rw[A.order.1];exact hd,λx hx=>?_⟩;obtain⟨i,hi,rfl⟩:=arN hx;have hi':i<d.length:=by rw[← A.order.1];exact hi
 have e:(out[i]).2.1=fK out i:=by
  grind [fK,nT]
 rw[e];cases hn:nm (nameOf d i)with
 |true=>exact aq7 (adS (A.canon i hi' hn)) hf
 |false=>
  rw[A.kept i hi' hn];have:∀l:List bM,(∀x∈l,x.2.1.length<=1000)->(dY l (nameOf d i)).length<=1000:=by
   intro l
   induction l with
   |nil=>exactλ_=>arw _
   |cons x t ih=>
    grind [dY]
  exact this r hr.2
def vP(r:List bM)(nm:Bytes->Bool)(x:aC):bM:=(x.1,bif nm x.1 then[]else dY r x.1,())
theorem Yh{d:List aC}{r:List bM}{nm:Bytes->Bool}{i:Nat}(hi:i<d.length):nT (d.map (vP r nm)) i=vP r nm (bT d i):=by
 grind [nT,bT]
theorem KY{fs:List ay}{d:List aC}{r:List bM}{nm:Bytes->Bool}{ax:List (Int×Unit)}(hd:dR d=true)(hl:jS d ax):mG fs d r nm ax 0 (d.map (vP r nm)):=by
 refine akQ hd hl ⟨by simp,λi hi=>?_⟩ (λi hi hn=>?_) λi hi hn=>?_
 .rw[Yh hi];rfl
 .unfold fK;rw[Yh hi];show(bif nm (nameOf d i)then[]else dY r (nameOf d i))=_;rw[hn];rfl
 .unfold fK;rw[Yh hi];show(bif nm (nameOf d i)then[]else dY r (nameOf d i))=_;rw[hn];rfl
theorem agm{s:cu}(h:bf s=true):∀(j i:Nat),i<j->j<s.2.1.length->(fileAt s.2.1 i).1<(fileAt s.2.1 j).1:=by
 intro j
 induction j with
 |zero=>omega
 |succ j ih=>
  intro i hi hj;have h1:jc s (j+1)=true:=by
   grind [bf,fF]
  grind [jc]
theorem AY{s:cu}(h:bf s=true):distinct s.2.1:=by
 intro f hf g hg e;obtain⟨i,hi,rfl⟩:=arN hf;obtain⟨j,hj,rfl⟩:=arN hg;have at_:∀k(hk:k<s.2.1.length),fileAt s.2.1 k=s.2.1[k]:=λk hk=>by
  grind [fileAt]
 rcases asM i j with h1|h1|h1
 .have:=agm h j i h1 hj
  grind
 .subst h1;rfl
 .have:=agm h i j h1 hi
  grind
theorem agT{fs:List ay}{d:List aC}{r r':List bM}{nm nm':Bytes->Bool}{out:List bM}(h:kE fs d r nm out)(hn:∀i,i<d.length->nm (nameOf d i)=nm' (nameOf d i))(hr:∀i,i<d.length->nm (nameOf d i)=false->dY r (nameOf d i)=dY r' (nameOf d i)):kE fs d r' nm' out:=by
 have hd:∀s,due d nm s↔due d nm' s:=λs=>by
  constructor
  .rintro⟨a,i,hi,rfl⟩;exact⟨by grind,i,hi,rfl⟩
  .rintro⟨a,i,hi,rfl⟩;exact⟨by grind,i,hi,rfl⟩
 obtain⟨ax,h1,h2⟩:=h.ax;exact⟨h.order,λi hi h'=>by rw[← hn i hi]at h';rw[h.kept i hi h',hr i hi h'],λi hi h'=>h.fix i hi (by grind),ax,h1,
  λs hs=>h2.fix s ((hd s).2 hs),λk Y hY hp s hs=>h2.least k Y (λt ht=>hY t λh'=>ht ⟨(hd t).2 h'.1,h'.2⟩) (λt ht=>hp t ((hd t).1 ht)) s ((hd s).2 hs)⟩
theorem aiP{fs:List ay}{d:List aC}{r:List bM}{nm:Bytes->Bool}{ax:List (Int×Unit)}{k:Nat}(hd:dR d=true)(hl:jS d ax)(hf:distinct fs):∀(n:Nat)(out:List bM),room fs.length out<=n->mG fs d r nm ax k out->∃out',mG fs d r nm ax (k+1) out':=by
 intro n
 induction n using Nat.strongRecOn with
 |_ n ih=>
  intro out hn A;by_cases hs:∀i,i<d.length->nm (nameOf d i)=true->lv ax i=k->sel fs (eU d i) (aW out)=fK out i
  .exact⟨out,at_next hd A hs⟩
  .obtain⟨i,hi⟩:=Classical.not_forall.1 hs;have h1:i<d.length:=arK λh=>hi λh'=>(h h').elim;have h2:nm (nameOf d i)=true:=arK λh=>hi λ_ h'=>(h h').elim;have h3:lv ax i=k:=arK λh=>hi λ_ _ h'=>(h h').elim;have h4:sel fs (eU d i) (aW out)≠fK out i:=λh=>hi λ_ _ _=>h;obtain⟨g1,g2,g3⟩:=at_set hd hl hf A h1 h2 h3;have hr:room fs.length (out.set i (nameOf d i,sel fs (eU d i) (aW out),()))<room fs.length out:=Yg (by rw[A.order.1];exact h1) (g2 h4) g3;exact ih _ (by omega) _ (ara _) g1
theorem aaD{fs:List ay}{d:List aC}(r:List bM)(nm:Bytes->Bool){ax:List (Int×Unit)}(hd:dR d=true)(hl:jS d ax)(hf:distinct fs):∃out,kE fs d r nm out:=by
 have:∀k,∃out,mG fs d r nm ax k out:=λk=>by
  induction k with
  |zero=>exact⟨_,KY hd hl⟩
  |succ k ih=>obtain⟨out,A⟩:=ih;exact aiP hd hl hf _ out (ara _) A
 obtain⟨out,A⟩:=this (d.length+1);exact⟨out,at_end hd hl A λi hi=>by have:=(hl.2.1 i hi).2;omega⟩
end Sp
namespace Sp
open Go
end Sp
namespace Sp
open Go
def apT(as:List dK):Prop:=as.Pairwise λx y=>Op.bytesLess x.1 y.1=true
theorem Yi{α:Type}{R:α->α->Prop}(ht:∀a b c,R a b->R b c->R a c)(d:α):∀(l:List α),(∀i,i+1<l.length->R (l.getD i d) (l.getD (i+1) d))->l.Pairwise R
 |[],_=>List.Pairwise.nil
 |[x],_=>List.pairwise_singleton _ _
 |x::y::r,h=>by
  have ih:=Yi ht d (y::r) λi hi=>h (i+1) (by simpa using hi);have h0:R x y:=h 0 (by simp)
  grind [List.pairwise_cons]
theorem VR{fs:List dH}{as:List dK}:nH fs as=true↔(∀a∈as,gB fs a.1 a.2.1 a.2.2.1 a.2.2.2.1=true)/\apT as:=by
 have at_:∀i(hi:i<as.length),bV as i=as[i]:=λi hi=>by grind [bV]
 unfold nH;rw[show(fF as.length (iO fs as)=true)↔∀i,i<as.length->iO fs as i=true from by
  grind [fF]]
 have one:∀i,iO fs as i=true↔gB fs (bV as i).1 (bV as i).2.1 (bV as i).2.2.1 (bV as i).2.2.2.1=true/\(0<i->Op.bytesLess (bV as (i-1)).1 (bV as i).1=true):=λi=>by
  grind [iO]
 constructor
 .intro h;refine⟨λa ha=>?_,?_⟩
  · grind [List.getElem_of_mem]
  .refine Yi (R:=λx y:dK=>Op.bytesLess x.1 y.1=true) (λa b c h1 h2=>EH _ _ _ h1 h2) ([],0,0,[],()) as λi hi=>?_
   grind
 .rintro⟨h1,h2⟩ i hi;refine(one i).2 ⟨?_,λh0=>?_⟩
  · grind
  .rw[at_ i hi,at_ (i-1) (by omega)];exact atg.1 h2 (i-1) i (by omega) hi (by omega)
theorem agn{α:Type}[BEq α][LawfulBEq α]:∀(a b:List α),a.Nodup->(∀x∈a,x∈b)->a.length<=b.length
 |[],_,_,_=>arw _
 |x::r,b,hn,h=>by
  rw[atn]at hn;have ih:=agn r (b.erase x) hn.2 λy hy=>by
   grind
  grind
theorem OY:∀{fs:List dH}{s:Bytes},kindOf fs s≠0->s∈fs.map λf=>f.1
 |[],_,h=>(h rfl).elim
 |f::r,s,h=>by
  rw[kindOf]at h;by_cases e:f.1=s
  .rw[arB,e];exact arj
  .rw[ars e]at h;exact ard _ (OY h)
theorem akU{fs:List dH}{as:List dK}(h:nH fs as=true):as.length<=fs.length:=by
 obtain⟨h1,h2⟩:=VR.1 h;have:=agn (as.map λa=>a.1) (fs.map λf=>f.1) ?_ λs hs=>?_
 · grind
 .unfold List.Nodup;rw[atc];exact h2.imp λ{a b} hab=>Uj hab
 grind [gB,OY]
end Sp
namespace Sp
open Go
def belowD(name:Bytes)(x:aC):Bool:=Op.bytesLess x.1 name
def aj1(name:Bytes)(x:aC):Bool:=!(x.1==name)
def aj2(d:List aC)(x:aC):List aC:=d.takeWhile (belowD x.1)++x::(d.dropWhile (belowD x.1)).filter (aj1 x.1)
def agp(d:List aC)(x:aC):List aC×Bool:=bif dR d&&dR (aj2 d x)then(aj2 d x,true)else(d,false)
def became(c:jX)(s:cu)(d:List aC)(ok0:Bool)(c':jX)(df:List Ov)(ok:Bool):Prop:=
 ok=ok0/\(ok=true->mD c'=s/\qc c'=d/\Ko c'=true/\df=alL (agl c) (agl c'))/\(ok=false->c'=c/\df=[])
def named(f:ay)(w:Bytes):ay:=(f.1,f.2.1,f.2.2.1,f.2.2.2.1,ahv f.2.2.2.2.1 [110] 2 0 w,())
def Yj(c:jX)(u id:Int):Bool:=(OV (mD c) id).2&&akL (OV (mD c) id).1 u
end Sp
namespace Sp
open Go
def anh(b:UInt8):Bool:=decide (32<=b.toNat)&&decide (b.toNat<=126)
def wordsOf(s:Bytes):LS:=(Lib.fields s).map (·,())
def ahz(s:Bytes):Bool:=decide ((s.length:Int)<=600)&&s.all anh&&decide (((Lib.fields s).length:Int)<=24)
def ani(s:Bytes):LS:=bif ahz s then wordsOf s else[]
def BQ(s:Bytes):Int:=s.foldl (λn b=>10*n+((b.toNat:Int)-48)) 0
def A8(s:Bytes):Bool:=ny (BQ s)&&(Lib.itoa (BQ s)==s)
def parseNum(s:Bytes):Int:=bif A8 s then BQ s else 0
def wordAt(w:LS)(i:Int):Bytes:=bif decide (i>=(w.length:Int))then[]else(w.getD i.toNat ([],())).1
def alM(w:LS):Bytes:=Lib.join (w.map (·.1)) [32]
def numAt(w:LS)(i:Int):Int:=parseNum (wordAt w i)
end Sp
namespace Sp
open Go
theorem akV(u:Nat):Lib.itoa (u:Int)=Lib.decDigits u:=by grind [Lib.itoa]
theorem aes(s:Bytes)(d:UInt8):BQ (s++[d])=10*BQ s+((d.toNat:Int)-48):=by grind [BQ]
theorem byte_of(d:Nat)(h:d<10):(UInt8.ofNat (48+d)).toNat=48+d:=by rw[UInt8.toNat_ofNat'];omega
theorem Nh(s:List UInt8):∀(acc:Nat)(n:Nat),Lib.decFrom acc s=some n->∀d,d<10->Lib.decFrom acc (s++[UInt8.ofNat (48+d)])=some (n*10+d):=by
 intro acc n h d hd
 induction s generalizing acc with
 |nil=>
  have:∀d:Fin 10,Lib.digitVal (UInt8.ofNat (48+d.val))=some d.val:=by decide
  have h2:=this ⟨d,hd⟩
  grind [Lib.decFrom]
 |cons a r ih=>
  grind [Lib.decFrom]
theorem Gu:∀(k u:Nat),u<10 ^ (k+1)->BQ (Lib.decDigits u)=u/\Lib.decFrom 0 (Lib.decDigits u)=some u/\(∀b∈Lib.decDigits u,48<=b.toNat/\b.toNat<=57)/\Lib.decDigits u≠[]/\(Lib.decDigits u).length<=k+1
 |0,u,h=>by
  rw[Lib.decDigits_one h];have hb:=byte_of u h;have:=Nh [] 0 0 rfl u h;refine⟨?_,?_,λb hm=>?_,List.cons_ne_nil _ _,ara _⟩
  .show 10*0+_=_;omega
  · grind
  grind
 |k+1,u,h=>by
  by_cases h1:u<10
  .have:=Gu 0 u (by simpa using h1)
   grind
  .have hd:u / 10<10 ^ (k+1):=by omega
   obtain⟨i1,i2,i3,i4,i5⟩:=Gu k (u / 10) hd;have e:Lib.decDigits u=Lib.decDigits (u / 10)++[UInt8.ofNat (48+u%10)]:=by
    grind [Lib.decDigits]
   have hm:u%10<10:=Nat.mod_lt _ (by decide);have hb:=byte_of (u%10) hm;rw[e];refine⟨by grind [aes],?_,λb hb2=>?_,by simp,by simp;omega⟩
   .rw[Nh _ _ _ i2 _ hm];congr 1;omega
   grind
theorem OZ{n:Int}:ny n=true↔0<=n/\n<=1000000000:=by
 grind [ny]
theorem aj3{n:Int}(h:ny n=true):BQ (Lib.itoa n)=n/\Lib.atoi (Lib.itoa n)=some n/\(∀b∈Lib.itoa n,48<=b.toNat/\b.toNat<=57)/\Lib.itoa n≠[]/\(Lib.itoa n).length<=10:=by
 obtain⟨h0,h1⟩:=OZ.1 h;obtain⟨u,rfl⟩:=Int.eq_ofNat_of_zero_le h0;have hu:u<10 ^ (9+1):=by omega
 rw[akV];obtain⟨i1,i2,i3,i4,i5⟩:=Gu 9 u hu;cases hd:Lib.decDigits u with
 |nil=>grind
 |cons b r=>
  have n45:(b==45)=false:=by rw[aq4];intro e;simp_all
  have n43:(b==43)=false:=by rw[aq4];intro e;simp_all
  grind [Lib.atoi,Lib.decNat]
theorem VS{s:Bytes}:A8 s=true↔ny (BQ s)=true/\Lib.itoa (BQ s)=s:=by
 grind [A8]
theorem aiQ{s:Bytes}{n:Int}(h:ny n=true)(e:Lib.itoa n=s):A8 s=true/\parseNum s=n:=by
 grind [aj3,VS,parseNum]
theorem aiR{n:Int}(h:ny n=true):A8 (Lib.itoa n)=true/\parseNum (Lib.itoa n)=n:=aiQ h rfl
theorem aeu{s:Bytes}(h:A8 s=true):Lib.itoa (parseNum s)=s/\ny (parseNum s)=true:=by
 grind [parseNum,VS]
theorem aev(s:Bytes):ny (parseNum s)=true:=by
 cases h:A8 s with
 |true=>exact(aeu h).2
 |false=>unfold parseNum;rw[h];rfl
end Sp
namespace Sp
open Go
end Sp
namespace Sp
open Go
theorem Sl(w:LS)(i:Int)(h:wordAt w i=Lib.itoa (numAt w i)):A8 (wordAt w i)=true:=by rw[h];exact(aiR (aev _)).1
end Sp
namespace Sp
open Go
end Sp
namespace Sp
open Go
inductive QT where
 |leaf (n:aT)
 |neg (t:QT)
 |two (op:Int) (a b:QT)
def kwQ(op:Int):Bytes:=
 bif op==1 then[97,108,108]else bif op==2 then[104,97,115]else bif op==3 then[101,113]else bif op==4 then[108,116]else
 bif op==5 then[110,111,116]else bif op==6 then[97,110,100]else bif op==7 then[111,114]else bif op==8 then[105,110]else
 bif op==9 then[108,105,110,107,101,100]else[63]
def mW(w:Bytes):Int:=
 bif w==[97,108,108]then 1 else bif w==[104,97,115]then 2 else bif w==[101,113]then 3 else bif w==[108,116]then 4 else
 bif w==[110,111,116]then 5 else bif w==[97,110,100]then 6 else bif w==[111,114]then 7 else bif w==[105,110]then 8 else
 bif w==[108,105,110,107,101,100]then 9 else 0
def TL(s:Bytes):SG×Bool:=
 bif A8 s then(bif decide (parseNum s<=999)then((1,parseNum s,[],()),true)else((0,0,[],()),false))
 else bif s==[45]then((0,0,[],()),true)else bif dX s then((2,0,s,()),true)else((0,0,[],()),false)
def ahA(v:SG):Bytes:=
 bif !gJ v.1 v.2.1 v.2.2.1 then[63]else bif v.1==1 then Lib.itoa v.2.1 else bif v.1==2 then v.2.2.1 else[45]
def QT.size:QT->Nat
 |.leaf _=>1
 |.neg t=>t.size+1
 |.two _ a b=>a.size+b.size+1
def post:QT->Nat->List aT
 |.leaf n,_=>[n]
 |.neg t,b=>post t b++[(5,((b+t.size:Nat):Int)-1,0,[],0,0,[],())]
 |.two op x y,b=>post x b++(post y (b+x.size)++[(op,((b+x.size:Nat):Int)-1,((b+x.size+y.size:Nat):Int)-1,[],0,0,[],())])
def ank(n:aT):List Bytes:=
 kwQ n.1::(bif n.1==2||(n.1==8||n.1==9)then[n.2.2.2.1]else bif n.1==3||n.1==4 then[n.2.2.2.1,ahA n.2.2.2.2]else[])
def ls(w:List Bytes):LS:=w.map (·,())
def rd:Nat->LS->List aT->Bool×LS×List aT
 |0,w,q=>(false,w,q)
 |k+1,w,q=>
  bif mW (wordAt w 0)==2||(mW (wordAt w 0)==8||mW (wordAt w 0)==9)then(true,(w.drop 1).drop 1,q++[(mW (wordAt w 0),0,0,wordAt (w.drop 1) 0,0,0,[],())])
  else bif mW (wordAt w 0)==3||mW (wordAt w 0)==4 then
   ((TL (wordAt ((w.drop 1).drop 1) 0)).2,((w.drop 1).drop 1).drop 1,q++[(mW (wordAt w 0),0,0,wordAt (w.drop 1) 0,(TL (wordAt ((w.drop 1).drop 1) 0)).1)])
  else bif mW (wordAt w 0)==5 then
   ((rd k (w.drop 1) q).1,(rd k (w.drop 1) q).2.1,(rd k (w.drop 1) q).2.2++[(5,((rd k (w.drop 1) q).2.2.length:Int)-1,0,[],0,0,[],())])
  else bif mW (wordAt w 0)==6||mW (wordAt w 0)==7 then
   (bif (rd k (w.drop 1) q).1 then
     ((rd k (rd k (w.drop 1) q).2.1 (rd k (w.drop 1) q).2.2).1,(rd k (rd k (w.drop 1) q).2.1 (rd k (w.drop 1) q).2.2).2.1,
       (rd k (rd k (w.drop 1) q).2.1 (rd k (w.drop 1) q).2.2).2.2++[(mW (wordAt w 0),((rd k (w.drop 1) q).2.2.length:Int)-1,((rd k (rd k (w.drop 1) q).2.1 (rd k (w.drop 1) q).2.2).2.2.length:Int)-1,[],0,0,[],())])
   else(false,(rd k (w.drop 1) q).2.1,(rd k (w.drop 1) q).2.2++[(mW (wordAt w 0),((rd k (w.drop 1) q).2.2.length:Int)-1,((rd k (w.drop 1) q).2.2.length:Int)-1,[],0,0,[],())]))
  else(!(mW (wordAt w 0)==0),w.drop 1,q++[(mW (wordAt w 0),0,0,[],0,0,[],())])
end Sp
namespace Sp
open Go
end Sp
namespace Sp
open Go
def rs:Nat->LS->List aT->List aT×Int
 |0,_,q=>(q,0)
 |d+1,w,q=>
  bif mW (wordAt w 0)==0||decide ((q.length:Int)>9)then(q,0)
  else bif mW (wordAt w 0)==2||(mW (wordAt w 0)==8||mW (wordAt w 0)==9)then(q++[(mW (wordAt w 0),0,0,wordAt w 1,0,0,[],())],2)
  else bif mW (wordAt w 0)==3||mW (wordAt w 0)==4 then(q++[(mW (wordAt w 0),0,0,wordAt w 1,(TL (wordAt w 2)).1)],3)
  else bif mW (wordAt w 0)==5||(mW (wordAt w 0)==6||mW (wordAt w 0)==7)then
   (bif (rs d (w.drop 1) q).2==0 then((rs d (w.drop 1) q).1,0)
   else bif mW (wordAt w 0)==5 then((rs d (w.drop 1) q).1++[(5,((rs d (w.drop 1) q).1.length:Int)-1,0,[],0,0,[],())],1+(rs d (w.drop 1) q).2)
   else bif (rs d (w.drop (1+(rs d (w.drop 1) q).2).toNat) (rs d (w.drop 1) q).1).2==0 then((rs d (w.drop (1+(rs d (w.drop 1) q).2).toNat) (rs d (w.drop 1) q).1).1,0)
   else((rs d (w.drop (1+(rs d (w.drop 1) q).2).toNat) (rs d (w.drop 1) q).1).1++[(mW (wordAt w 0),((rs d (w.drop 1) q).1.length:Int)-1,((rs d (w.drop (1+(rs d (w.drop 1) q).2).toNat) (rs d (w.drop 1) q).1).1.length:Int)-1,[],0,0,[],())],
    1+(rs d (w.drop 1) q).2+(rs d (w.drop (1+(rs d (w.drop 1) q).2).toNat) (rs d (w.drop 1) q).1).2))
  else(q++[(mW (wordAt w 0),0,0,[],0,0,[],())],1)
end Sp
namespace Sp
open Go
end Sp
namespace Sp
open Go
def aa5:Nat->List aT->Int->List Bytes
 |0,_,_=>[]
 |k+1,q,i=>
  bif (nodeAt q i.toNat).1==5 then kwQ (nodeAt q i.toNat).1::aa5 k q (nodeAt q i.toNat).2.1
  else bif (nodeAt q i.toNat).1==6||(nodeAt q i.toNat).1==7 then kwQ (nodeAt q i.toNat).1::(aa5 k q (nodeAt q i.toNat).2.1++aa5 k q (nodeAt q i.toNat).2.2.1)
  else ank (nodeAt q i.toNat)
def textOf(q:List aT):Bytes:=bif aU q then Lib.join (aa5 9 q ((q.length:Int)-1)) [32]else[]
def aeJ(w:LS):Bool×LS×List aT:=rd (w.length+1) w []
def ami(s:Bytes):Bool:=ahz s&&((aeJ (wordsOf s)).1&&(!decide (((aeJ (wordsOf s)).2.1.length:Int)>0)&&aU (aeJ (wordsOf s)).2.2))
def aj6(s:Bytes):List aT:=bif ami s then(aeJ (wordsOf s)).2.2 else[]
end Sp
namespace Sp
open Go
def akW:Bytes:=[99,114,101,97,116,101]
def akX:Bytes:=[117,112,100,97,116,101]
def akY:Bytes:=[100,101,108,101,116,101]
def akZ:Bytes:=[100,101,102,105,110,101]
def aiS:Bytes:=[117,110,100,101,102,105,110,101]
end Sp
namespace Sp
open Go
end Sp
namespace Sp
open Go
theorem aht{l:List aC}{i:Nat}(hi:i<l.length):bT l i∈l:=by
 grind [bT]
theorem amj{l:List aC}{y:aC}(hy:y∈l):∃i,i<l.length/\bT l i=y:=by obtain⟨i,hi,e⟩:=arN hy;exact⟨i,hi,by grind [bT]⟩
theorem aa6{d:List aC}:dR d=true↔(∀x∈d,dX x.1=true/\aU x.2.1=true)/\(d.Pairwise λx y=>Op.bytesLess x.1 y.1=true)/\d.length<=5:=by
 have one:∀i,iP d i=true↔(dX (bT d i).1=true/\aU (bT d i).2.1=true)/\(0<i->Op.bytesLess (bT d (i-1)).1 (bT d i).1=true):=λi=>by
  grind [iP]
 unfold dR;rw[aq5,show(fF d.length (iP d)=true)↔∀i,i<d.length->iP d i=true from by
  grind [fF],arx]
 constructor
 .rintro⟨h,hl⟩;refine⟨λx hx=>?_,?_,by omega⟩
  · grind [amj]
  .exact Yi (R:=λx y:aC=>Op.bytesLess x.1 y.1=true) (λa b c h1 h2=>EH _ _ _ h1 h2) ([],[],()) d λi hi=>((one (i+1)).1 (h (i+1) hi)).2 (by omega)
 grind [bT,List.pairwise_iff_getElem]
def amk(d:List aC)(name:Bytes):List aC:=d.filter (aj1 name)
def removeDir(d:List aC)(name:Bytes):List aC×Bool:=bif dR d&&decide (0<=aG d name)then(amk d name,true)else(d,false)
def zL(u:Int):Bool:=decide (0<=u)&&decide (u<=2)
def pF(x:jo):ay:=(x.2.1,x.2.2.1,x.2.2.2.1,x.2.2.2.2.1,x.2.2.2.2.2.1,())
def O0(x:jo):Int:=x.2.2.2.2.2.2.1
def xg(x:jo):aC:=(x.2.2.2.2.2.2.2.1,x.2.2.2.2.2.2.2.2.1,())
def ahq(c:jX)(x:jo):cu:=
 bif x.1==1 then(wV (mD c) (pF x)).1 else bif x.1==2 then(Lh (mD c) (pF x)).1 else bif x.1==3 then(aa1 (mD c) (O0 x)).1 else mD c
def ajP(c:jX)(x:jo):List aC:=bif x.1==4 then(agp (qc c) (xg x)).1 else bif x.1==5 then(removeDir (qc c) (xg x).1).1 else qc c
noncomputable def alK (c:jX) (u:Int) (x:jo):Bool:=
 bif x.1==1 then decide ((pF x).2.1=u)&&(wV (mD c) (pF x)).2.2 else
 bif x.1==2 then(Yj c u (pF x).1&&decide ((pF x).2.1=u))&&(Lh (mD c) (pF x)).2 else
 bif x.1==3 then Yj c u (O0 x)&&(aa1 (mD c) (O0 x)).2 else
 bif x.1==4 then(agp (qc c) (xg x)).2&&aK (agp (qc c) (xg x)).1 else
 bif x.1==5 then(removeDir (qc c) (xg x).1).2 else false
noncomputable def am8 (c:jX) (u:Int) (x:jo):Bool:=(zL u&&Ko c)&&alK c u x
def applied(c:jX)(u:Int)(x:jo)(c':jX)(df:List Ov)(ok:Bool):Prop:=became c (ahq c x) (ajP c x) (am8 c u x) c' df ok
def ak0(f:ay):Int:=1+f.2.2.2.2.1.length
def TM(fs:List ay)(u:Int):Int:=((fs.filter λf=>decide (f.2.1=u)).map ak0).sum
def ac0(q:List (Int×Unit))(u:Int):Int:=bif decide (0<=u)&&decide (u<=(q.length:Int)-1)then(q.getD u.toNat (0,())).1 else 0
def ahB(fs:List ay)(q:List (Int×Unit)):Bool:=decide (TM fs 0<=ac0 q 0)&&(decide (TM fs 1<=ac0 q 1)&&decide (TM fs 2<=ac0 q 2))
def agq(u:Int):jX->List jo->jX->Prop
 |c,[],c'=>c'=c
 |c,x::r,c'=>∃c1 df,applied c u x c1 df true/\agq u c1 r c'
def aa7(c:jX)(u:Int)(l:List jo)(q:List (Int×Unit))(c':jX)(df:List Ov)(ok:Bool):Prop:=
 (ok=true↔Ko c=true/\l.length<=6/\∃c2,agq u c l c2/\ahB c2.2.1 q=true)/\(ok=true->agq u c l c'/\df=alL (agl c) (agl c'))/\(ok=false->c'=c/\df=[])
end Sp
namespace Sp
open Go
def aa8(a:dK):Bool:=fM a.1&&(gJ a.2.1 a.2.2.1 a.2.2.2.1&&!(a.2.1==0))
def TN(f:ay):Bool:=f.2.2.2.2.1.all aa8&&(ny f.1&&(ny f.2.1&&ny f.2.2.2.1))
def aa9:List dK->List Bytes
 |[]=>[]
 |a::r=>a.1::ahA a.2::aa9 r
def aiT(f:ay):List Bytes:=Lib.itoa f.2.1::(bif f.2.2.1 then[115]else[111])::Lib.itoa f.2.2.2.1::aa9 f.2.2.2.2.1
def noF:ay:=(0,0,false,0,[],())
def aj7(q:List aT):Bool:=aU q&&decide (aj6 (textOf q)=q)
def aiU(x:jo):Bool:=(xg x).1==[]&&(xg x).2.1.isEmpty
def ak1(x:jo):List Bytes:=
 bif x.1==1&&(TN (pF x)&&((pF x).1==0&&(O0 x==0&&aiU x)))then akW::aiT (pF x)
 else bif x.1==2&&(TN (pF x)&&(O0 x==0&&aiU x))then akX::Lib.itoa (pF x).1::aiT (pF x)
 else bif x.1==3&&(decide (pF x=noF)&&(ny (O0 x)&&aiU x))then[akY,Lib.itoa (O0 x)]
 else bif x.1==4&&(decide (pF x=noF)&&(O0 x==0&&(dX (xg x).1&&aj7 (xg x).2.1)))then akZ::(xg x).1::aa5 9 (xg x).2.1 (((xg x).2.1.length:Int)-1)
 else bif x.1==5&&(decide (pF x=noF)&&(O0 x==0&&(dX (xg x).1&&(xg x).2.1.isEmpty)))then[aiS,(xg x).1]
 else[]
def adU(x:jo):Bytes:=Lib.join (ak1 x) [32]
theorem aiV{a:dK}:aa8 a=true↔fM a.1=true/\gJ a.2.1 a.2.2.1 a.2.2.2.1=true/\a.2.1≠0:=by
 grind [aa8]
theorem aiW{f:ay}:TN f=true↔(∀a∈f.2.2.2.2.1,aa8 a=true)/\ny f.1=true/\ny f.2.1=true/\ny f.2.2.2.1=true:=by
 grind [TN]
end Sp
namespace Sp
open Go
def agr:LS->List dK
 |[]=>[]
 |[x]=>[(x.1,(TL []).1)]
 |x::y::r=>(x.1,(TL y.1).1)::agr r
def aoq(id:Int)(r:LS):ay:=(id,numAt r 0,wordAt r 1==[115],numAt r 2,agr (r.drop 3),())
def passes(x:jo)(w:LS):Prop:=adU x≠[]/\adU x=alM w
end Sp
namespace Sp
open Go
def Yk(b:UInt8):Bytes->Bytes->LS
 |cur,[]=>[(cur,())]
 |cur,x::l=>bif x==b then(cur,())::Yk b [] l else Yk b (cur++[x]) l
def pieces(b:UInt8)(s:Bytes):LS:=Yk b [] s
def aj8:Bytes:=[102,105,108,101]
def ak2(f:ay):Bytes:=Lib.join (aj8::Lib.itoa f.1::aiT f) [32]
end Sp
namespace Sp
open Go
end Sp
namespace Sp
open Go
end Sp
namespace Sp
open Go
end Sp
namespace Sp
open Go
end Sp
namespace Sp
open Go
end Sp
namespace Sp
open Go
end Sp
namespace Sp
open Go
end Sp
namespace Sp
open Go
end Sp
namespace Sp
open Go
end Sp
namespace Sp
open Go
end Sp
namespace Sp
open Go
abbrev FT:=Bool×List dK×Unit
def Ja:FT:=(false,[],())
def anm(l:List dK)(x:dK):Bool:=l.any λy=>y.1==x.1
def ann(l:List dK)(x:dK):Bool:=l.any λy=>y.1==x.1&&!decide (y.2=x.2)
def aj9(name:Bytes)(y:dK):Bool:=Op.bytesLess y.1 name
def apU(l:List dK)(x:dK):List dK:=l.takeWhile (aj9 x.1)++x::l.dropWhile (aj9 x.1)
def ags(a:List dK):List dK->List dK->Option (List dK)
 |acc,[]=>some acc
 |acc,x::r=>bif ann a x then none else bif anm a x then ags a acc r else ags a (apU acc x) r
def aor:Option (List dK)->FT
 |some l=>(true,l,())
 |none=>Ja
def ano(a b:FT):FT:=bif a.1&&b.1 then aor (ags a.2.1 a.2.1 b.2.1)else Ja
def apV(a b:FT):FT:=bif a.1==b.1 then Ja else bif a.1 then a else b
def Nj(q:List aT)(f:ay)(X:BX)(a:Nat)(m:Bool):FT:=
 if val q f X a=m then(true,[],())
 else if(nodeAt q a).1=5 then(if h:(nodeAt q a).2.1.toNat<a then Nj q f X (nodeAt q a).2.1.toNat (!m)else Ja)
 else if kK (nodeAt q a)=true then(if h:(nodeAt q a).2.1.toNat<a/\(nodeAt q a).2.2.1.toNat<a then
  (bif ((nodeAt q a).1==6)==m then ano (Nj q f X (nodeAt q a).2.1.toNat m) (Nj q f X (nodeAt q a).2.2.1.toNat m)
   else apV (Nj q f X (nodeAt q a).2.1.toNat m) (Nj q f X (nodeAt q a).2.2.1.toNat m))else Ja)
 else if(nodeAt q a).1=3/\m=true then(true,[((nodeAt q a).2.2.2.1,(nodeAt q a).2.2.2.2.1,(nodeAt q a).2.2.2.2.2.1,(nodeAt q a).2.2.2.2.2.2.1,())],())
 else if(nodeAt q a).1=2/\m=false then(true,[((nodeAt q a).2.2.2.1,0,0,[],())],())
 else Ja
termination_by a
decreasing_by all_goals omega
end Sp
namespace Sp
open Go
def anp(a l:List dK):List dK:=l.foldl (λa x=>ahv a x.1 x.2.1 x.2.2.1 x.2.2.2.1) a
def akb(l:List dK)(i:Nat):List dK:=l.take i++l.drop (i+1)
def edited(f:ay)(l:List dK):ay:=(f.1,f.2.1,f.2.2.1,f.2.2.2.1,anp f.2.2.2.2.1 l,())
theorem agt{fs:List dH}{f:ay}(h:dP fs f=true):nH fs f.2.2.2.2.1=true:=by
 grind [dP]
end Sp
namespace Sp
open Go
theorem Jb{s:cu}:bf s=true↔(∀f∈s.2.1,dP s.1 f=true/\f.1<s.2.2.1)/\(s.2.1.Pairwise λf g=>f.1<g.1)/\dL s.1=true/\s.2.1.length<=12/\1<=s.2.2.1/\s.2.2.1<=61:=by
 have at_:∀i(hi:i<s.2.1.length),fileAt s.2.1 i=s.2.1[i]:=λi hi=>by grind [fileAt]
 constructor
 .intro h;obtain⟨h1,h2,h3,h4,h5⟩:=FN.1 h;refine⟨λf hf=>?_,?_,h2,h3,h4,h5⟩
  · grind [aiN,I9]
  .refine atg.2 λi j hi hj hij=>?_;have:=ajV h j i hij hj
   grind
 grind [FN,I9,List.pairwise_iff_getElem]
theorem aew{fs:List dH}{gs:List ay}{f:ay}(h:dP fs f=true):dP fs (unlink gs f)=true:=by
 grind [dP,unlink]
theorem aaO{s:cu}(u:Int)(h:bf s=true):bf (visible s u)=true:=by
 obtain⟨h1,h2,h3,h4,h5⟩:=Jb.1 h;refine Jb.2 ⟨λf hf=>?_,?_,h3,?_,h5⟩
 .obtain⟨g,hg,rfl⟩:=asb.1 hf;obtain⟨g1,_⟩:=asH.1 hg;exact⟨aew (h1 g g1).1,(h1 g g1).2⟩
 .show List.Pairwise _ ((s.2.1.filter (iF · u)).map (unlink (s.2.1.filter (iF · u))));rw[atc];exact List.Pairwise.filter _ h2
 .show((s.2.1.filter (iF · u)).map (unlink (s.2.1.filter (iF · u)))).length<=12
  grind
open Classical in
noncomputable def BO (fs:List ay) (d:List aC):List bM:=if h:∃out,kE fs d [] (λ_=>true) out then h.choose else[]
theorem ajQ{fs:List ay}{d:List aC}{out:List bM}(hd:dR d=true)(h:kE fs d [] (λ_=>true) out):BO fs d=out:=by
 unfold BO;have hx:∃out,kE fs d [] (λ_=>true) out:=⟨out,h⟩
 grind [agj]
theorem OB{d:List aC}(h:aK d=true):dR d=true:=by
 grind [aK]
theorem ajR{s:cu}{d:List aC}(h:bf s=true)(hd:aK d=true):kE s.2.1 d [] (λ_=>true) (BO s.2.1 d):=by
 have:∃out,kE s.2.1 d [] (λ_=>true) out:=by obtain⟨ax,hl⟩:=Za (Ey (jv d) (jm.1 hd).2);exact aaD [] (λ_=>true) (OB hd) hl (AY h)
 grind [BO]
noncomputable def aml (s:cu) (d:List aC) (u:Int) (name:Bytes):List (Int×Unit):=dY (BO (visible s u).2.1 d) name
noncomputable def listed (s:cu) (d:List aC) (u:Int) (name:Bytes) (id:Int):Bool:=jh (aml s d u name) id
def ahr(s:cu)(d:List aC)(u:Int):Prop:=bf s=true/\aK d=true/\zL u=true
def ahC(d:List aC)(name:Bytes):aC×Bool:=bif decide (aG d name<0)then(([],[],()),false)else(bT d (aG d name).toNat,true)
def anq(s:cu)(u id:Int):ay:=(OV (visible s u) id).1
def aos(q:List aT)(f:ay)(X:BX)(m:Bool):FT:=bif aU q then Nj q f X (q.length-1) m else Ja
noncomputable def aiX (c:jX) (u:Int) (name:Bytes) (id:Int) (b:Bool):FT:=
 aos (ahC (qc c) name).1.2.1 (anq (mD c) u id) (aW (BO (visible (mD c) u).2.1 (qc c))) b
def agu(c:jX)(id:Int)(l:List dK):cu×Bool:=Lh (mD c) (edited (OV (mD c) id).1 l)
noncomputable def needed (c:jX) (u:Int) (name:Bytes) (id:Int) (b:Bool) (l:List dK) (i:Nat):Bool:=
 (agu c id (akb l i)).2&&!(listed (agu c id (akb l i)).1 (qc c) u name id==b)
noncomputable def anr (c:jX) (u:Int) (name:Bytes) (id:Int) (b:Bool) (w:FT):Bool:=
 w.1&&((agu c id w.2.1).2&&((listed (agu c id w.2.1).1 (qc c) u name id==b)&&fF w.2.1.length (needed c u name id b w.2.1)))
noncomputable def apW (c:jX) (u:Int) (name:Bytes) (id:Int) (b:Bool):Bool:=
 (Ko c&&(Yj c u id&&(ahC (qc c) name).2))&&anr c u name id b (aiX c u name id b)
def written(c:jX)(u:Int)(name:Bytes)(id:Int)(b:Bool)(c':jX)(set:List dK)(ok:Bool):Prop:=
 ok=apW c u name id b/\(ok=true->mD c'=(agu c id (aiX c u name id b).2.1).1/\qc c'=qc c/\Ko c'=true/\set=(aiX c u name id b).2.1)/\(ok=false->c'=c/\set=[])
end Sp
namespace Sp
open Go
def ac1:Bytes:=[102,105,101,108,100]
def akc:Bytes:=[110,101,120,116]
def alN:Bytes:=[100,105,114]
def alO:Bytes:=[105,110,116]
def ak3:Bytes:=[115,116,114,105,110,103]
def akd(f:dH):Bytes:=bif !fM f.1 then[]else bif f.2.1==1 then ac1++32::(f.1++32::alO)else bif f.2.1==2 then ac1++32::(f.1++32::ak3)else[]
def ak4(n:Int):Bytes:=akc++32::Lib.itoa n
def amm(d:aC):Bytes:=alN++32::(d.1++32::textOf d.2.1)
def ant(x:ji):List Bytes:=x.1.map akd++(ak4 x.2.2.1::(x.2.1.map ak2++x.2.2.2.1.map amm))
noncomputable def enc (x:ji):LS:=bif EI x then ls (ant x)else[]
def abb:ji:=([],[],0,[],())
def aot(x:ji)(w:LS):ji:=
 bif wordAt w 0==ac1 then(x.1++[(wordAt w 1,(bif wordAt w 2==alO then 1 else 2),())],x.2.1,x.2.2.1,x.2.2.2.1,())
 else bif wordAt w 0==akc then(x.1,x.2.1,numAt w 1,x.2.2.2.1,())
 else bif wordAt w 0==aj8 then(x.1,x.2.1++[aoq (numAt w 1) (w.drop 2)],x.2.2.1,x.2.2.2.1,())
 else bif wordAt w 0==alN then(x.1,x.2.1,x.2.2.1,x.2.2.2.1++[(wordAt w 1,(bif decide (2<(w.length:Int))then aj6 (alM (w.drop 2))else[]),())],())
 else x
def aiY:ji->LS->ji
 |x,[]=>x
 |x,l::r=>aiY (aot x (ani l.1)) r
noncomputable def dec (l:LS):ji×Bool:=bif EI (aiY abb l)&&decide (enc (aiY abb l)=l)then(aiY abb l,true)else(abb,false)
theorem aiZ{x:ji}(h:EI x=true):(∀f∈x.1,fM f.1=true/\(f.2.1=1\/f.2.1=2))/\(∀f∈x.2.1,TN f=true/\f.2.2.2.2.1.length<=5)/\ny x.2.2.1=true/\(∀d∈x.2.2.2.1,dX d.1=true/\aU d.2.1=true)/\x.1.length<=5/\x.2.1.length<=12/\x.2.2.2.1.length<=5:=by
 unfold EI at h;rw[aq5]at h;obtain⟨hs,hd⟩:=h;obtain⟨s1,_,s3,s4,s5,s6⟩:=Jb.1 hs;have s1:∀f∈x.2.1,dP x.1 f=true/\f.1<x.2.2.1:=s1;have s3:dL x.1=true:=s3;have s5:1<=x.2.2.1:=s5;have s6:x.2.2.1<=61:=s6;obtain⟨d1,_,d3⟩:=aa6.1 (jm.1 hd).1;obtain⟨k1,k2⟩:=agi.1 s3;have kf:∀f∈x.1,fM f.1=true/\(f.2.1=1\/f.2.1=2):=λf hf=>by
  grind [List.getElem_of_mem,iH,fieldAt]
 refine⟨kf,λf hf=>?_,OZ.2 (by omega),d1,k2,s4,d3⟩;obtain⟨f1,_⟩:=s1 f hf;have fa:=agt f1;have hl:=akU fa;refine⟨aiW.2 ⟨λa ha=>?_,?_⟩,by omega⟩
 .have hm:=(VR.1 fa).1 a ha;unfold gB at hm;simp only[aq5,Bool.not_eq_true',arx,arC]at hm;have hk:=OY (fs:=x.1) (s:=a.1) (by omega)
  grind [aiV]
 grind [dP,OZ]
end Sp
namespace Sp
open Go
def sumOf(s:Bytes):Int:=s.foldl (λn b=>(33*n+(b.toNat:Int)).tmod 65521) 3
def linesT(ws:List Bytes):Bytes:=(ws.map (· ++[10])).flatten
def agv(n:Int)(x:ji):Bytes:=linesT (Lib.itoa n::ant x)
noncomputable def slot (n:Int) (x:ji):Bytes:=bif EI x&&(decide (1<=n)&&decide (n<=1000000000))then agv n x++(Lib.itoa (sumOf (agv n x))++[46])else[]
def inner(l:LS):LS:=(l.take (l.length-1)).drop 1
noncomputable def yh (s:Bytes):Int×ji×Bool:=
 bif decide (2<=(pieces 10 s).length)&&((dec (inner (pieces 10 s))).2&&decide (slot (parseNum ((pieces 10 s).getD 0 ([],())).1) (dec (inner (pieces 10 s))).1=s))then(parseNum ((pieces 10 s).getD 0 ([],())).1,(dec (inner (pieces 10 s))).1,true)else(0,abb,false)
noncomputable def latest (a b:Bytes):Int×ji×Bool×Bool:=
 bif (yh b).2.2&&(!(yh a).2.2||decide ((yh a).1<(yh b).1))then((yh b).1,(yh b).2.1,true,false)else((yh a).1,(yh a).2.1,(yh a).2.2,(yh a).2.2)
def kept(keep:Int)(n:Nat):Nat:=(max 0 (min keep (n:Int))).toNat
noncomputable def ou (a b:Bytes) (x:ji):Bytes:=slot ((latest a b).1+1) x
noncomputable def adV (a b:Bytes) (x:ji) (keep:Int):(Bytes×Bytes×Unit)×Bool×Unit:=
 bif ou a b x==[]then((a,b,()),false,())else
 bif (latest a b).2.2.2 then((a,(ou a b x).take (kept keep (ou a b x).length),()),(ou a b x).take (kept keep (ou a b x).length)==ou a b x,())else
 (((ou a b x).take (kept keep (ou a b x).length),b,()),(ou a b x).take (kept keep (ou a b x).length)==ou a b x,())
end Sp
namespace Sp
open Go
abbrev zK:=Int×List (Int×Unit)×List (Int×Unit)×Unit
abbrev jZ:=Int×Bytes×List (Int×Unit)×List zK×Unit
abbrev iD:=List dH×List ay×Int×List aC×List bM×Bytes×Bytes×Int×List fH×List jZ×List (Int×Unit)×Unit
def Jc(x:iD):jX:=(x.1,x.2.1,x.2.2.1,x.2.2.2.1,x.2.2.2.2.1,())
def aeK(x:iD):ji:=(x.1,x.2.1,x.2.2.1,x.2.2.2.1,())
def Um(c:jX):ji:=(c.1,c.2.1,c.2.2.1,c.2.2.2.1,())
def tK(x:iD):Bytes:=x.2.2.2.2.2.1
def tN(x:iD):Bytes:=x.2.2.2.2.2.2.1
def Jd(x:iD):Int:=x.2.2.2.2.2.2.2.1
def xk(x:iD):List fH:=x.2.2.2.2.2.2.2.2.1
def TP(x:iD):List jZ:=x.2.2.2.2.2.2.2.2.2.1
def O1(x:iD):List (Int×Unit):=x.2.2.2.2.2.2.2.2.2.2.1
def mkS(c:jX)(a b:Bytes)(n:Int)(vs:List fH)(ws:List jZ)(q:List (Int×Unit)):iD:=
 (c.1,c.2.1,c.2.2.1,c.2.2.2.1,c.2.2.2.2.1,a,b,n,vs,ws,q,())
def aou(l:List (Int×Unit))(e:zK):List (Int×Unit):=akT l e.2.1 e.2.2.1
def replay(l:List (Int×Unit))(es:List zK):List (Int×Unit):=es.foldl aou l
def listing(w:jZ):List (Int×Unit):=replay w.2.2.1 w.2.2.2.1
noncomputable def iU (s:cu) (d:List aC) (u:Int):List bM×Bool:=bif bf s&&(aK d&&zL u)then(BO (visible s u).2.1 d,true)else([],false)
noncomputable def xO (s:cu) (d:List aC) (u:Int) (name:Bytes):List (Int×Unit):=dY (iU s d u).1 name
def told(w:jZ)(n:Int)(l:List (Int×Unit)):jZ:=
 bif decide (0<(without l (listing w)).length+(without (listing w) l).length)then(w.1,w.2.1,w.2.2.1,w.2.2.2.1++[(n,without l (listing w),without (listing w) l,())],())else w
def rise(l:List (Int×Unit)):Bool:=fF (l.length-1) λi=>decide ((l.getD i (0,())).1<(l.getD (i+1) (0,())).1)
def O3(es:List zK)(i:Nat):zK:=es.getD i (0,[],[],())
def anu(l:List (Int×Unit))(es:List zK)(i:Nat):Bool:=
 !decide ((O3 es i).2.1.length+(O3 es i).2.2.1.length=0)&&(rise (O3 es i).2.1&&(rise (O3 es i).2.2.1&&(!(decide (0<i)&&decide ((O3 es (i-1)).1>=(O3 es i).1))&&
   (((O3 es i).2.1.all λx=>!jh (replay l (es.take i)) x.1)&&(O3 es i).2.2.1.all λx=>jh (replay l (es.take i)) x.1))))
def amn(w:jZ):Bool:=(zL w.1&&rise w.2.2.1)&&fF w.2.2.2.1.length (anu w.2.2.1 w.2.2.2.1)
def alP(w:jZ):Int:=bif decide (w.2.2.2.1.length=0)then 0 else(O3 w.2.2.2.1 (w.2.2.2.1.length-1)).1
noncomputable def Un (a b:ji):Bool:=decide (enc a=enc b)
def amo(q:List (Int×Unit)):Bool:=decide (q.length=3)&&q.all λx=>decide (0<=x.1)&&decide (x.1<=999)
noncomputable def ake (s:cu) (d:List aC) (n:Int) (w:jZ):Bool:=decide (alP w<=n)&&(amn w&&decide (listing w=xO s d w.1 w.2.1))
noncomputable def ai0 (x:iD):Bool:=
 Ko (Jc x)&&((latest (tK x) (tN x)).2.2.1&&(decide ((latest (tK x) (tN x)).1=Jd x)&&(Un (latest (tK x) (tN x)).2.1 (aeK x)&&
  (agb (xk x)&&(decide (xk x≠[])&&(decide ((TP x).length<=4)&&(amo (O1 x)&&
    ((decide ((kW (xk x) ((xk x).length-1)).1=Jd x)&&Un (H6 (kW (xk x) ((xk x).length-1))) (aeK x))&&
      (TP x).all (ake (mD (Jc x)) (qc (Jc x)) (Jd x))))))))))
def alQ(n:Int)(s:ji):fH:=(n,s.1,s.2.1,s.2.2.1,s.2.2.2.1,0,())
noncomputable def toldAll (s:cu) (d:List aC) (n:Int) (ws:List jZ):List jZ:=ws.map λw=>told w n (xO s d w.1 w.2.1)
noncomputable def alR (vs:List fH):List fH:=bif decide (6<=vs.length)then collect vs else vs
noncomputable def agw (a b:Bytes) (s:ji):Bytes×Bytes×Unit:=(adV a b s 1000000).1
noncomputable def commit (x:iD) (c:jX):iD×Bool:=
 bif !(ai0 x&&Ko c)then(x,false)else
 bif Un (Um c) (aeK x)then(x,true)else
 bif decide (1000000000<=Jd x)||decide (6<=(alR (xk x)).length)then(x,false)else
 (mkS c (agw (tK x) (tN x) (Um c)).1 (agw (tK x) (tN x) (Um c)).2.1 (Jd x+1) (alR (xk x)++[alQ (Jd x+1) (Um c)]) (toldAll (mD c) (qc c) (Jd x+1) (TP x)) (O1 x),true)
noncomputable def aov (s:ji):jX:=(s.1,s.2.1,s.2.2.1,s.2.2.2.1,BO s.2.1 s.2.2.2.1,())
noncomputable def ak5 (s:cu) (d:List aC) (n:Int) (w:jZ):jZ:=bif decide (alP w<n)then told w n (xO s d w.1 w.2.1)else w
noncomputable def recover (x:iD):iD×Bool:=
 bif (latest (tK x) (tN x)).2.2.1 then
  (mkS (aov (latest (tK x) (tN x)).2.1) (tK x) (tN x) (latest (tK x) (tN x)).1 [alQ (latest (tK x) (tN x)).1 (latest (tK x) (tN x)).2.1]
    ((TP x).map (ak5 (DC (latest (tK x) (tN x)).2.1) (latest (tK x) (tN x)).2.1.2.2.2.1 (latest (tK x) (tN x)).1)) (O1 x),true)
 else(x,false)
def ak6(x:iD)(d:Bytes×Bytes×Unit):iD:=mkS (Jc x) d.1 d.2.1 (Jd x) (xk x) (TP x) (O1 x)
def Yl(x:iD)(v:List fH):iD:=mkS (Jc x) (tK x) (tN x) (Jd x) v (TP x) (O1 x)
def ak7(x:iD)(w:List jZ):iD:=mkS (Jc x) (tK x) (tN x) (Jd x) (xk x) w (O1 x)
def aow(x:iD)(u:Int)(ops:List jo)(y:iD)(ok:Bool):Prop:=
 ∃c df o,aa7 (Jc x) u ops (O1 x) c df o/\(y,ok)=bif o then commit x c else(x,false)
def crashed(x:iD)(u:Int)(ops:List jo)(keep:Int)(y:iD)(ok:Bool):Prop:=
 bif ai0 x then∃c df o,aa7 (Jc x) u ops (O1 x) c df o/\(y,ok)=recover (bif o&&!Un (Um c) (aeK x)then ak6 x (adV (tK x) (tN x) (Um c) keep).1 else x)else y=x/\ok=false
def ak8(x:iD)(u:Int)(name:Bytes)(id:Int)(b:Bool)(y:iD)(ok:Bool):Prop:=
 ∃c set o,written (Jc x) u name id b c set o/\(y,ok)=bif o&&ahB c.2.1 (O1 x)then commit x c else(x,false)
abbrev ak9:=Int×Int×List jo×Bytes×Int×Unit
def aox(a:ak9):Bool:=(decide (1<=a.1)&&decide (a.1<=8))&&decide (a.2.2.1.length<=6)
noncomputable def watched (x:iD) (u:Int) (name:Bytes):iD×Bool:=
 bif decide (4<=(TP x).length)||!zL u then(x,false)else(ak7 x (TP x++[(u,name,xO (mD (Jc x)) (qc (Jc x)) u name,[],())]),true)
def aoy(x:iD)(a:ak9)(y:iD)(ok:Bool):Prop:=
 bif !(aox a&&ai0 x)then y=x/\ok=false else
 bif a.1==1 then aow x a.2.1 a.2.2.1 y ok else
 bif a.1==2 then crashed x a.2.1 a.2.2.1 a.2.2.2.2.1 y ok else
 bif a.1==3 then(y,ok)=watched x a.2.1 a.2.2.2.1 else
 bif a.1==4 then y=Yl x (aa3 (xk x) a.2.2.2.2.1 1).1/\ok=(aa3 (xk x) a.2.2.2.2.1 1).2 else
 bif a.1==5 then y=Yl x (aa3 (xk x) a.2.2.2.2.1 (-1)).1/\ok=(aa3 (xk x) a.2.2.2.2.1 (-1)).2 else
 bif a.1==6 then y=Yl x (collect (xk x))/\ok=true else
 ak8 x a.2.1 a.2.2.2.1 a.2.2.2.2.1 (a.1==7) y ok
def runs:iD->List ak9->iD->List (Bool×Unit)->List (Int×Unit)->Prop
 |x,[],y,t,l=>y=x/\t=[]/\l=[]
 |x,a::r,y,t,l=>∃x1 ok t' l',aoy x a x1 ok/\runs x1 r y t' l'/\t=(ok,())::t'/\l=(Jd x1,())::l'
end Sp
namespace Sp
open Go
end Sp
namespace Sp
open Go
theorem ala{x:ji}(h:EI x=true):ana x:=by obtain⟨p1,p2,p3,p4,p5,p6,p7⟩:=aiZ h;refine⟨⟨aq7 p5 (by decide),aq7 p6 (by decide),λf hf=>aq7 (p2 f hf).2 (by decide)⟩,aq7 p7 (by decide),λd hd=>aq7 (yg (p4 d hd).2).2 (by decide)⟩
end Sp
namespace Sp
open Go
def Ic:dH->Nat|(n,_,_)=>n.length
def qp(a:List dH):Nat:=iw Ic a
def BA(a:List ay):Nat:=iw Fq a
def zu:cu->Nat|(a,l,_,_)=>qp a+BA l
def pK(a:List aC):Nat:=iw Kw a
def abk:bM->Nat|(n,l,_)=>n.length+l.length
def Fv(a:List bM):Nat:=iw abk a
def Qu:jX->Nat|(a,l,n,d,r,_)=>zu (a,l,n,())+(pK d+Fv r)
def Ju:ji->Nat|(a,l,n,d,_)=>zu (a,l,n,())+pK d
def Ky:fH->Nat|(_,a,l,n,d,_,_)=>Ju (a,l,n,d,())
def sQ(a:List fH):Nat:=iw Ky a
def wEv:zK->Nat|(_,a,b,_)=>a.length+b.length
def EY(a:List zK):Nat:=iw wEv a
def VZ:jZ->Nat|(_,n,l,e,_)=>n.length+(l.length+EY e)
def Ci(a:List jZ):Nat:=iw VZ a
def Ns:iD->Nat|(a,l,n,d,r,da,db,_,v,w,q,_)=>Qu (a,l,n,d,r,())+((da.length+db.length)+(sQ v+(Ci w+q.length)))
def fO(d:List aC):Prop:=d.length<=2000000/\∀x∈d,x.2.1.length<=2000000
theorem zH{d:List aC}(h:dR d=true):qC d:=by obtain⟨h1,_,h3⟩:=aa6.1 h;exact⟨aq7 h3 (by decide),λx hx=>aq7 (yg (h1 x hx).2).2 (by decide)⟩
theorem adM{d:List aC}(h:qC d):fO d:=⟨aq7 h.1 (by decide),λx hx=>aq7 (h.2 x hx) (by decide)⟩
theorem Gs{s:cu}(h:bf s=true):iK s:=by
 have hp:EI (s.1,s.2.1,s.2.2.1,[],())=true:=by unfold EI;rw[aq5];refine⟨h,?_⟩;rw[jm];exact⟨rfl,λ_=>0,λe he=>by cases he⟩
 exact(ala hp).1
def EX(f:ay):Prop:=f.2.2.2.2.1.length<=2000000
def bigS(s:cu):Prop:=s.1.length<=2000000/\s.2.1.length<=2000000/\∀f∈s.2.1,EX f
def abj(x:ji):Prop:=bigS (DC x)/\fO x.2.2.2.1
def yx(v:List fH):Prop:=v.length<=2000000/\∀x∈v,abj (H6 x)
theorem aaN{f:ay}(h:aaM f):EX f:=aq7 h (by decide)
noncomputable def zo (v:List fH) (n u:Int) (name:Bytes):List (Int×Unit):=bif (dI v n).2 then xO (DC (dI v n).1) (dI v n).1.2.2.2.1 u name else[]
def GK:List (Int×Unit)->Int->Int
 |[],k=>k
 |s::r,k=>if s.1=k then GK r (k+1)else -1
end Sp
namespace Sp
open Go
def markT(k:Int):Bytes:=109::Lib.itoa k
end Sp
namespace Go.Fw
open Go
theorem eqL{α β:Type}(e:α->α->Bool)(he:∀x y,e x y=false↔x=y)(d:α)(a b:List α)[Decidable (a=b)](t:β)(hlen:a.length<=maxLen){K:Bool×Unit->Prop}(hK:K (decide (a=b),())):
 bif ((a.length:Int)) !=(b.length:Int)then K (false,())else
 ∃(I:(Int×Unit)×Unit->Prop),∃(μ:(Int×Unit)×Unit->Nat),I (((0:Int),()),())/\∀(y:(Int×Unit)×Unit),I y->
  bif decide (y.fst.fst<(a.length:Int))then
   ((0:Int)<=y.fst.fst/\y.fst.fst<(a.length:Int))/\((0:Int)<=y.fst.fst/\y.fst.fst<(b.length:Int))/\
     (bif e (a.getD (Int.toNat y.fst.fst) d) (b.getD (Int.toNat y.fst.fst) d)then K (false,())
     else t=t/\I ((IntKind.i64.wrap (y.fst.fst+(1:Int)),()),())/\μ ((IntKind.i64.wrap (y.fst.fst+(1:Int)),()),())<μ y)
  else K (true,()):=by
 refine af (λh=>?_) λh=>?_
 .have h:(a.length:Int)≠b.length:=by simpa using h
  rw[ars λe=>h (by rw[e])]at hK;exact hK
 .have h:(a.length:Int)=b.length:=by simpa using h
  exact ahs e he d a b t hlen (by omega) (λe=>by grind) λe=>by grind
theorem anv{α β:Type}(p:α->Bool)(d:α)(a:List α)(t:β)(hlen:a.length<=maxLen){K:Int×Unit->Prop}(hK:K (Sp.findAt p a,())):
 ∃(I:(Int×Unit)×Unit->Prop),∃(μ:(Int×Unit)×Unit->Nat),I (((0:Int),()),())/\∀(y:(Int×Unit)×Unit),I y->
  bif decide (y.fst.fst<(a.length:Int))then
   ((0:Int)<=y.fst.fst/\y.fst.fst<(a.length:Int))/\True/\
     (bif p (a.getD (Int.toNat y.fst.fst) d)then K (y.fst.fst,())
     else t=t/\I ((IntKind.i64.wrap (y.fst.fst+(1:Int)),()),())/\μ ((IntKind.i64.wrap (y.fst.fst+(1:Int)),()),())<μ y)
  else K ((-1:Int),()):=by
 refine dW a.length hlen (λn=>∀i,i<n->p (a.getD i d)=false) (λi hi=>by omega) (λI μ n hn hJ next=>?_) λI μ hJ=>?_
 · grind [Sp.adR]
 .dsimp only;refine dm (by omega) ?_;rw[Sp.VP hJ]at hK;exact hK
theorem ajL{α β:Type}(p:α->Bool)(d:α)(a:List α)(t:β)(hlen:a.length<=maxLen){K:Int×Unit->Prop}(hK:K (Sp.findAt p a,())):
 ∃(I:(Int×Unit)×Unit->Prop),∃(μ:(Int×Unit)×Unit->Nat),I (((0:Int),()),())/\∀(y:(Int×Unit)×Unit),I y->
  bif decide (y.fst.fst<(a.length:Int))then
   ((0:Int)<=y.fst.fst/\y.fst.fst<(a.length:Int))/\
     (bif p (a.getD (Int.toNat y.fst.fst) d)then K (y.fst.fst,())
     else t=t/\I ((IntKind.i64.wrap (y.fst.fst+(1:Int)),()),())/\μ ((IntKind.i64.wrap (y.fst.fst+(1:Int)),()),())<μ y)
  else K ((-1:Int),()):=by
 obtain⟨I,μ,h0,h1⟩:=anv p d a t hlen hK;refine⟨I,μ,h0,λy hy=>?_⟩
 grind
end Go.Fw
namespace Go.Fw
open Go
theorem apP{α β:Type}(p:α->Bool)(d:α)(a:List α)(t:β)(hlen:a.length<=maxLen){K:Bool×Unit->Prop}(hK:K (a.any p,())):
 ∃(I:(Int×Unit)×Unit->Prop),∃(μ:(Int×Unit)×Unit->Nat),I (((0:Int),()),())/\∀(y:(Int×Unit)×Unit),I y->
  bif decide (y.fst.fst<(a.length:Int))then
   ((0:Int)<=y.fst.fst/\y.fst.fst<(a.length:Int))/\
     (bif p (a.getD (Int.toNat y.fst.fst) d)then K (true,())
     else t=t/\I ((IntKind.i64.wrap (y.fst.fst+(1:Int)),()),())/\μ ((IntKind.i64.wrap (y.fst.fst+(1:Int)),()),())<μ y)
  else K (false,()):=by
 refine dW a.length hlen (λn=>∀i,i<n->p (a.getD i d)=false) (λi hi=>by omega) (λI μ n hn hJ next=>?_) λI μ hJ=>?_
 · grind
 grind [List.getElem_of_mem]
theorem afW{α:Type}(p:α->Bool)(s:List α):decide (Sp.findAt p s>=0)=s.any p:=by
 cases hs:s with
 |nil=>rfl
 |cons d r=>
  rcases Sp.agh p d s with⟨e,h⟩|⟨n,hn,e,h1,h2⟩
  · grind [List.getElem_of_mem]
  grind
theorem agZ{α:Type}(p:α->Bool)(d:α)(l:List α){n:Nat}(h:n<l.length):(l.take (n+1)).filter p=(l.take n).filter p++(bif p (l.getD n d)then[l.getD n d]else[]):=by
 grind [Sp.take_succ']
theorem XT{α β δ:Type}(p:α->Bool)(g:α->β)(d:α)(a:List α)(t:δ){A:Int->Prop}(hA:∀n:Nat,n<a.length->A n)(hlen:a.length<=4000000){K:List β×Unit->Prop}(hK:K ((a.filter p).map g,())):
 ∃(I:(Unit×Int×Unit)×List β×Unit->Prop),∃(μ:(Unit×Int×Unit)×List β×Unit->Nat),I (((),(0:Int),()),[],())/\∀(y:(Unit×Int×Unit)×List β×Unit),I y->
  bif decide (y.1.2.1<(a.length:Int))then
   ((0:Int)<=y.1.2.1/\y.1.2.1<(a.length:Int))/\A y.1.2.1/\
     (bif p (a.getD (Int.toNat y.1.2.1) d)then List.length y.2.1+1<=big/\t=t/\I (((),IntKind.i64.wrap (y.1.2.1+(1:Int)),()),y.2.1++[g (a.getD (Int.toNat y.1.2.1) d)],())/\μ (((),IntKind.i64.wrap (y.1.2.1+(1:Int)),()),y.2.1++[g (a.getD (Int.toNat y.1.2.1) d)],())<μ y
     else t=t/\I (((),IntKind.i64.wrap (y.1.2.1+(1:Int)),()),y.2)/\μ (((),IntKind.i64.wrap (y.1.2.1+(1:Int)),()),y.2)<μ y)
  else K y.2:=by
 refine fZ (λi(x:List β)=>(((),i,()),x,())) (λy=>y.1.2.1) (λ_ _=>rfl) a.length (by omega) (λn l=>l=((a.take n).filter p).map g) (by simp) (λI μ n l hn hJ next=>?_) λI μ l hJ=>?_
 .subst hJ;have hl:(((a.take n).filter p).map g).length<=n:=by
   grind
  have step:=agZ p d a hn;dsimp only;refine dB (by omega) ⟨⟨by omega,by omega⟩,hA n hn,af (λh=>⟨by rw[dw];omega,rfl,next _ ?_⟩) λh=>⟨rfl,next _ ?_⟩⟩
  · simp_all
  grind
 grind
theorem apQ{α β δ:Type}(g:α->β)(d:α)(a:List α)(t:δ)(hlen:a.length<=4000000){K:List β×Unit->Prop}(hK:K (a.map g,())):
 ∃(I:(Unit×Int×Unit)×List β×Unit->Prop),∃(μ:(Unit×Int×Unit)×List β×Unit->Nat),I (((),(0:Int),()),[],())/\∀(y:(Unit×Int×Unit)×List β×Unit),I y->
  bif decide (y.1.2.1<(a.length:Int))then
   ((0:Int)<=y.1.2.1/\y.1.2.1<(a.length:Int))/\
     List.length y.2.1+1<=big/\t=t/\I (((),IntKind.i64.wrap (y.1.2.1+(1:Int)),()),y.2.1++[g (a.getD (Int.toNat y.1.2.1) d)],())/\μ (((),IntKind.i64.wrap (y.1.2.1+(1:Int)),()),y.2.1++[g (a.getD (Int.toNat y.1.2.1) d)],())<μ y
  else K y.2:=by
 obtain⟨I,μ,h0,h1⟩:=XT (λ_=>true) g d a t (A:=λ_=>True) (λ_ _=>trivial) hlen (K:=K) (by grind [List.filter_eq_self]);refine⟨I,μ,h0,λy hy=>?_⟩
 grind
end Go.Fw
