import Derived.Test.YtkgkfdphbkfjnaaGreatFwA
import Derived.Lib.ItoaNum
import Derived.Lib.ItoaLen
import Derived.Lib.Join
import Derived.Test.YtkgkfdphbkfjnaaGreatFwC
namespace Sp
open Go
abbrev Bytes:=List UInt8
abbrev LI:=List (Int×Unit)
abbrev LS:=List (Bytes×Unit)
theorem take_succ'{α:Type}(a:List α)(n:Nat)(d:α)(h:n<a.length):a.take (n+1)=a.take n++[a.getD n d]:=by rw[aw2 h,aur,auw h];rfl
def af8(l:LI):Prop:=∀x∈l,-9223372036854775808<=x.1/\x.1<=9223372036854775807
theorem af8.take{a:LI}(h:af8 a)(n:Nat):af8 (a.take n):=λx hx=>h x (avV hx)
theorem af8.get{a:LI}(h:af8 a){n:Nat}(hn:n<a.length)(d:Int×Unit):(Lib.itoa (a.getD n d).1).length<=21:=by
 have:a.getD n d∈a:=by rw[aur,auw hn,axw];exact avA hn
 exact Lib.itoa_length_le _ (h _ this).1 (h _ this).2
end Sp
namespace Sp
open Go
set_option synthInstance.maxSize 100000
set_option synthInstance.maxHeartbeats 1000000
abbrev akp:=Int×Int×Bytes×Unit
abbrev dL:=Bytes×Int×Int×Bytes×Unit
abbrev bK:=Int×Int×Int×Bytes×Int×Int×Bytes×Unit
abbrev aK:=Int×Int×Bool×Int×List dL×Unit
abbrev aF:=Bytes×List bK×Unit
abbrev gq:=Int×Int×Int×Bool×Int×List dL×Int×Bytes×List bK×Unit
instance:DecidableEq akp:=inferInstance
instance:DecidableEq dL:=inferInstance
instance:DecidableEq bK:=inferInstance
instance:DecidableEq aK:=inferInstance
instance:DecidableEq aF:=inferInstance
instance:DecidableEq (Int×aF):=inferInstance
instance:DecidableEq (List dL×Int×aF):=inferInstance
instance:DecidableEq (Bool×Int×List dL×Int×aF):=inferInstance
instance atr:DecidableEq gq:=(inferInstance:DecidableEq (Int×Int×Int×Bool×Int×List dL×Int×aF))
instance:DecidableEq (List gq):=inferInstance
instance:DecidableEq (List gq×Bytes×Int×Unit):=inferInstance
def lower(s:Bytes):Bool:=s.all λc=>decide (97<=c.toNat)&&decide (c.toNat<=122)
def iD(s:Bytes):Bool:=lower s&&decide (1<=(s.length:Int))&&decide ((s.length:Int)<=6)
def arl(n:Int):Bool:=decide (0<=n)&&decide (n<=1000000000)
def idxFrom:Int->LI->Int
 |_,[]=>-1
 |k,x::r=>if arl x.1 then idxFrom (k+1) r else k
def idxOf(l:LI):Int:=idxFrom 0 l
end Sp
namespace Sp
open Go
abbrev ig:=Bytes×Int×Unit
abbrev bU:=List ig×List aK×Int×Unit
instance:DecidableEq ig:=inferInstance
instance:DecidableEq (List ig):=inferInstance
instance:DecidableEq (List aK):=inferInstance
instance:DecidableEq (List aK×Int×Unit):=inferInstance
instance atU:DecidableEq bU:=(inferInstance:DecidableEq (List ig×List aK×Int×Unit))
def usual:List ig:=[([97],1,()),([98],1,()),([110],2,()),([116],2,())]
def bV(f:aK):Prop:=f.2.2.2.2.1.length<=1000
def bg(s:bU):Prop:=s.1.length<=1000/\s.2.1.length<=1000/\∀f∈s.2.1,bV f
def jd(n:Nat)(f:Nat->Bool):Bool:=(List.range n).all f
def jQ(s:Bytes):Bool:=lower s&&decide (1<=(s.length:Int))&&decide ((s.length:Int)<=1)
def jX(k n:Int)(s:Bytes):Bool:=
 bif decide (k=0)then decide (n=0)&&decide (s=[])
 else bif decide (k=1)then decide (0<=n)&&decide (n<=999)&&decide (s=[])
 else bif decide (k=2)then iD s&&decide (n=0)
 else false
def kindOf:List ig->Bytes->Int
 |[],_=>0
 |f::r,s=>bif decide (f.1=s)then f.2.1 else kindOf r s
def fieldAt(fs:List ig)(i:Nat):ig:=fs.getD i ([],0,())
def kY(fs:List ig)(i:Nat):Bool:=
 jQ (fieldAt fs i).1&&(decide (1<=(fieldAt fs i).2.1)&&decide ((fieldAt fs i).2.1<=2))&&!(decide (0<i)&&!Op.bytesLess (fieldAt fs (i-1)).1 (fieldAt fs i).1)
def gy(fs:List ig):Bool:=jd fs.length (kY fs)&&decide ((fs.length:Int)<=5)
def jy(fs:List ig)(name:Bytes)(k n:Int)(s:Bytes):Bool:=jX k n s&&!decide (k=0)&&decide (k=kindOf fs name)
def dG(as:List dL)(i:Nat):dL:=as.getD i ([],0,0,[],())
def kz(fs:List ig)(as:List dL)(i:Nat):Bool:=
 jy fs (dG as i).1 (dG as i).2.1 (dG as i).2.2.1 (dG as i).2.2.2.1&&!(decide (0<i)&&!Op.bytesLess (dG as (i-1)).1 (dG as i).1)
def jY(fs:List ig)(as:List dL):Bool:=jd as.length (kz fs as)
def dD(fs:List ig)(f:aK):Bool:=
 jY fs f.2.2.2.2.1&&gy fs&&(decide (1<=f.1)&&decide (f.1<=60))&&(decide (0<=f.2.1)&&decide (f.2.1<=2))&&(decide (0<=f.2.2.2.1)&&decide (f.2.2.2.1<=60))
def fileAt(fs:List aK)(i:Nat):aK:=fs.getD i (0,0,false,0,[],())
def kR(s:bU)(i:Nat):Bool:=
 dD s.1 (fileAt s.2.1 i)&&decide ((fileAt s.2.1 i).1<s.2.2.1)&&!(decide (0<i)&&!decide ((fileAt s.2.1 (i-1)).1<(fileAt s.2.1 i).1))
def aB(s:bU):Bool:=
 jd s.2.1.length (kR s)&&gy s.1&&decide ((s.2.1.length:Int)<=12)&&(decide (1<=s.2.2.1)&&decide (s.2.2.1<=61))
def BU:Int->List aK->Int->Int
 |_,[],_=>-1
 |k,f::r,id=>bif decide (f.1=id)then k else BU (k+1) r id
def place(fs:List aK)(id:Int):Int:=BU 0 fs id
def alz(f:aK)(u:Int):Bool:=(decide (0<=u)&&decide (u<=2))&&(decide (f.2.1=u)||f.2.2.1)
def lW(f:aK)(u:Int):Bool:=(decide (0<=u)&&decide (u<=2))&&decide (f.2.1=u)
def unlink(fs:List aK)(f:aK):aK:=(f.1,f.2.1,f.2.2.1,(bif decide (place fs f.2.2.2.1<0)then 0 else f.2.2.2.1),f.2.2.2.2.1,())
def visible(s:bU)(u:Int):bU:=
 let fs:=s.2.1.filter (alz · u)
 (s.1,fs.map (unlink fs),s.2.2.1,())
def wO(fs:List aK)(u:Int):List (Int×Unit):=(fs.filter λf=>decide (f.2.1=u)).map λf=>(f.1,())
def Yz:aK:=(0,0,false,0,[],())
def bf(s:bU)(id:Int):aK×Bool:=
 bif decide (place s.2.1 id<0)then(Yz,false)else(fileAt s.2.1 (place s.2.1 id).toNat,true)
def qL(name:Bytes)(b:dL):Bool:=!(b.1==name)
def sH(name:Bytes)(b:dL):Bool:=Op.bytesLess b.1 name||b.1==name
def ZU(as:List dL)(a:dL):List dL:=as.takeWhile (sH a.1)++a::as.dropWhile (sH a.1)
def kN(as:List dL)(name:Bytes)(k n:Int)(s:Bytes):List dL:=
 bif decide (k=0)then as.filter (qL name)else ZU (as.filter (qL name)) (name,k,n,s,())
def aI(s:bU)(f:aK):bU×Int×Bool:=
 let g:aK:=(s.2.2.1,f.2)
 bif aB s&&decide ((s.2.1.length:Int)<12)&&dD s.1 g then((s.1,s.2.1++[g],s.2.2.1+1,()),s.2.2.1,true)else(s,0,false)
def aT(s:bU)(f:aK):bU×Bool:=
 bif aB s&&!decide (place s.2.1 f.1<0)&&dD s.1 f then((s.1,s.2.1.set (place s.2.1 f.1).toNat f,s.2.2.1,()),true)else(s,false)
def aV(s:bU)(id:Int):bU×Bool:=
 bif aB s&&!decide (place s.2.1 id<0)then((s.1,s.2.1.eraseIdx (place s.2.1 id).toNat,s.2.2.1,()),true)else(s,false)
def Fe{α:Type}(p:α->Bool):Int->List α->Int
 |_,[]=>-1
 |k,f::r=>bif p f then k else Fe p (k+1) r
def findAt{α:Type}(p:α->Bool)(l:List α):Int:=Fe p 0 l
def fieldPlace(l:List ig)(name:Bytes):Int:=findAt (λf=>f.1==name) l
end Sp
namespace Sp
theorem akI:∀(n m:Nat)(L:Nat->Nat),(∀k,k<m->∃j,j<n/\L j=k)->m<=n
 |0,m,L,h=>by
  rcases awh m with h0|h0
  .omega
  .obtain⟨j,hj,_⟩:=h 0 h0;omega
 |n+1,m,L,h=>by
  by_cases hv:L n<m
  .have:=akI n (m-1) (λj=>if L n<L j then L j-1 else L j) λk hk=>by
    by_cases h1:k<L n
    .obtain⟨j,hj,e⟩:=h k (by omega);have:j≠n:=λe2=>by subst e2;omega
     exact⟨j,by omega,by show(if _ then _ else _)=_;rw[if_neg (by omega)];exact e⟩
    .obtain⟨j,hj,e⟩:=h (k+1) (by omega);have:j≠n:=λe2=>by subst e2;omega
     exact⟨j,by omega,by show(if _ then _ else _)=_;rw[if_pos (by omega)];omega⟩
   omega
  .have:=akI n m L λk hk=>by
    obtain⟨j,hj,e⟩:=h k hk;have:j≠n:=λe2=>by subst e2;omega
    exact⟨j,by omega,e⟩
   omega
abbrev VD:=List (Nat×Nat×Nat)
def jc(E:VD)(L:Nat->Nat):Prop:=∀e∈E,L e.2.1+e.2.2<=L e.1
def ahA(E:VD)(n:Nat):Prop:=∀e∈E,e.1<n/\e.2.1<n/\e.2.2<=1
def sumTo(n:Nat)(L:Nat->Nat):Nat:=match n with|0=>0|n+1=>sumTo n L+L n
theorem sumTo_le{L M:Nat->Nat}:∀n,(∀i,i<n->L i<=M i)->sumTo n L<=sumTo n M
 |0,_=>auI _
 |n+1,h=>Nat.add_le_add (sumTo_le n λi hi=>h i (by omega)) (h n (by omega))
theorem akJ{L M:Nat->Nat}:∀n,(∀i,i<n->L i<=M i)->(∃i,i<n/\L i<M i)->sumTo n L<sumTo n M
 |0,_,⟨i,hi,_⟩=>by omega
 |n+1,h,⟨i,hi,hl⟩=>by
  have h1:=sumTo_le n λj hj=>h j (awq hj);show sumTo n L+L n<sumTo n M+M n;by_cases e:i=n
  .subst e;omega
  .have:=akJ n (λj hj=>h j (awq hj)) ⟨i,by omega,hl⟩;have:=h n (by omega);omega
theorem TJ{E:VD}{n:Nat}(hE:ahA E n):∀(s:Nat)(L:Nat->Nat),sumTo n L<=s->jc E L->∃M,jc E M/\∀i,i<n->M i<n
 |s,L,hs,hL=>by
  by_cases hall:∀i,i<n->L i<n
  .exact⟨L,hL,hall⟩
  .obtain⟨i,hi⟩:=awP.1 hall;have hi1:i<n/\n<=L i:=by
    by_cases h1:i<n
    .exact⟨h1,Nat.le_of_not_lt λh2=>hi λ_=>h2⟩
    .exact(hi λh2=>(h1 h2).elim).elim
   have ath:∃k,k<n/\∀j,j<n->L j≠k:=by
    refine au8 λhno=>?_;have:=akI n (n+1) (λj=>min (L j) n) λk hk=>by
     by_cases h1:k<n
     .refine au8 λh2=>hno ⟨k,h1,λj hj e=>h2 ⟨j,hj,?_⟩⟩;show min (L j) n=k;omega
     .exact⟨i,hi1.1,by show min (L i) n=k;omega⟩
    omega
   obtain⟨k,hk,hno⟩:=ath;have hlt:sumTo n (λj=>if k<L j then L j-1 else L j)<sumTo n L:=by
    refine akJ n (λj _=>?_) ⟨i,hi1.1,?_⟩
    .show(if _ then _ else _)<=_;split
     .exact Nat.sub_le _ _
     .exact auI _
    .show(if _ then _ else _)<_;rw[if_pos (by omega)];omega
   match s,hs with
   |0,hs=>omega
   |s+1,hs=>refine TJ hE s (λj=>if k<L j then L j-1 else L j) (by omega) λe he=>?_;have h1:=hL e he;obtain⟨h2,h3,h4⟩:=hE e he;have n1:=hno e.1 h2;have n2:=hno e.2.1 h3;show(if k<L e.2.1 then L e.2.1-1 else L e.2.1)+e.2.2<=(if k<L e.1 then L e.1-1 else L e.1);split<;>split<;>omega
theorem OL{E:VD}{n:Nat}(hE:ahA E n)(h:∃L,jc E L):∃M,jc E M/\∀i,i<n->M i<n:=by obtain⟨L,hL⟩:=h;exact TJ hE (sumTo n L) L (auI _) hL
structure Raises(E:VD)(n:Nat)(R:(Nat->Nat)->Nat->Nat):Prop where
 up:∀L i,L i<=R L i
 fix:∀L,(∀i,i<n->R L i=L i)->jc E L
 below:∀L M,jc E M->(∀i,i<n->L i<=M i)->∀i,i<n->R L i<=M i
 same:∀L L',(∀i,i<n->L i=L' i)->∀i,i<n->R L i=R L' i
end Sp
namespace Sp
open Go
abbrev ase:=List ig×List aK×Int×List aF×Unit
abbrev arn:=Int×List ig×List aK×Int×List aF×Int×Unit
instance:DecidableEq (List bK):=inferInstance
instance:DecidableEq aF:=inferInstance
instance:DecidableEq (List aF):=inferInstance
instance:DecidableEq (List aF×Unit):=inferInstance
instance:DecidableEq (Int×List aF×Unit):=inferInstance
instance:DecidableEq (List aK×Int×List aF×Unit):=inferInstance
instance atY:DecidableEq ase:=(inferInstance:DecidableEq (List ig×List aK×Int×List aF×Unit))
instance:DecidableEq (List aF×Int×Unit):=inferInstance
instance:DecidableEq (Int×List aF×Int×Unit):=inferInstance
instance:DecidableEq (List aK×Int×List aF×Int×Unit):=inferInstance
instance:DecidableEq (List ig×List aK×Int×List aF×Int×Unit):=inferInstance
instance auf:DecidableEq arn:=(inferInstance:DecidableEq (Int×List ig×List aK×Int×List aF×Int×Unit))
instance:DecidableEq (List arn):=inferInstance
def nodeAt(q:List bK)(i:Nat):bK:=q.getD i (0,0,0,[],0,0,[],())
def jG(n:bK):Bool:=n.1==6||n.1==7
def jH(n:bK):Bool:=n.1==8||n.1==9
def kK(n:bK)(a:Int):Bool:=
 let kids:=decide (0<=n.2.1)&&decide (n.2.1<=a-1)&&decide (0<a)
 let two:=decide (0<=n.2.2.1)&&decide (n.2.2.1<=a-1)
 let bare:=n.2.2.2.1==[]&&(n.2.2.2.2.1==0&&(n.2.2.2.2.2.1==0&&n.2.2.2.2.2.2.1==[]))
 let flat:=n.2.1==0&&n.2.2.1==0
 let valued:=jX n.2.2.2.2.1 n.2.2.2.2.2.1 n.2.2.2.2.2.2.1
 let void:=n.2.2.2.2.1==0&&(n.2.2.2.2.2.1==0&&n.2.2.2.2.2.2.1==[])
 bif n.1==1 then flat&&bare else bif n.1==2 then flat&&void&&jQ n.2.2.2.1 else
 bif n.1==3 then flat&&jQ n.2.2.2.1&&valued&&!(n.2.2.2.2.1==0)else bif n.1==4 then flat&&jQ n.2.2.2.1&&valued&&n.2.2.2.2.1==1 else
 bif n.1==5 then kids&&n.2.2.1==0&&bare else bif n.1==6||n.1==7 then kids&&two&&bare else
 bif n.1==8||n.1==9 then flat&&void&&iD n.2.2.2.1 else false
def refsOf(a:Int)(n:bK):Nat:=(bif (jG n||n.1==5)&&n.2.1==a then 1 else 0)+(bif jG n&&n.2.2.1==a then 1 else 0)
def nC(q:List bK)(a:Int):Nat:=(q.map (refsOf a)).sum
def l9(q:List bK)(i:Nat):Bool:=kK (nodeAt q i) i&&!(decide ((i:Int)<(q.length:Int)-1)&&!(nC q i==1))
def bQ(q:List bK):Bool:=jd q.length (l9 q)&&(decide (1<=(q.length:Int))&&decide ((q.length:Int)<=9))
def bH(d:List aF)(i:Nat):aF:=d.getD i ([],[],())
def kE(d:List aF)(i:Nat):Bool:=iD (bH d i).1&&bQ (bH d i).2.1&&!(decide (0<i)&&!Op.bytesLess (bH d (i-1)).1 (bH d i).1)
def bI(d:List aF):Bool:=jd d.length (kE d)&&decide ((d.length:Int)<=5)
def kP(q:List bK)(i:Nat)(out:List (Bool×Unit)):List (Bool×Unit):=
 let n:=nodeAt q i
 bif n.1==5 then out.set n.2.1.toNat (true,())else bif jG n then(out.set n.2.1.toNat ((out.getD i (false,())).1,())).set n.2.2.1.toNat ((out.getD i (false,())).1,())else out
def je(q:List bK):Nat->List (Bool×Unit)->List (Bool×Unit)
 |0,out=>out
 |n+1,out=>je q n (kP q n out)
def negated(q:List bK):List (Bool×Unit):=bif bQ q then je q q.length (List.replicate q.length (false,()))else[]
def fK(q:List bK)(neg:Bool):List Bytes:=(List.range (negated q).length).filterMap λi=>bif jH (nodeAt q i)&&((negated q).getD i (false,())).1==neg then some (nodeAt q i).2.2.2.1 else none
def F6:Int->List aF->Bytes->Int
 |_,[],_=>-1
 |k,x::r,s=>bif x.1==s then k else F6 (k+1) r s
def aJ(d:List aF)(s:Bytes):Int:=F6 0 d s
def eH(d:List aF):VD:=
 (List.range d.length).flatMap λi=>
   ((fK (bH d i).2.1 false).filterMap λs=>bif decide (0<=aJ d s)then some (i,(aJ d s).toNat,0)else none)++
   ((fK (bH d i).2.1 true).filterMap λs=>bif decide (0<=aJ d s)then some (i,(aJ d s).toNat,1)else none)
open Classical in
noncomputable def aj (d:List aF):Bool:=bI d&&decide (∃L,jc (eH d) L)
def dP(r:LS)(l:List Bytes):Prop:=r.length<=1000/\∀s,(s,())∈r↔s∈l
def yQ(d:List aF)(aH:List (Int×Unit))(more:Int):LS->Int
 |[]=>0
 |x::r=>max (bif decide (0<=aJ d x.1)then(aH.getD (aJ d x.1).toNat (0,())).1+more else 0) (yQ d aH more r)
def AY(l:LS)(s:Bytes):LS:=
 let n:=(l.takeWhile λx=>Op.bytesLess x.1 s).length
 bif decide (n<l.length)&&(l.getD n ([],())).1==s then l else l.take n++[(s,())]++l.drop n
def raised(d:List aF)(aH r:List (Int×Unit)):Prop:=
 r.length=d.length/\(∀i,i<d.length->(aH.getD i (0,())).1<=(r.getD i (0,())).1)/\(∀B:Int,(∀i,i<d.length->(aH.getD i (0,())).1<=B)->∀i,i<d.length->(r.getD i (0,())).1<=B+5000)/\
 ((∀i,i<d.length->(r.getD i (0,())).1=(aH.getD i (0,())).1)->jc (eH d) λi=>(aH.getD i (0,())).1.toNat)/\
 ∀M,jc (eH d) M->(∀i,i<d.length->(aH.getD i (0,())).1<=M i)->∀i,i<d.length->(r.getD i (0,())).1<=M i
def aC(d:List aF):Prop:=d.length<=1000/\∀x∈d,x.2.1.length<=1000
end Sp
namespace Sp
open Go
end Sp
namespace Sp
open Go
theorem Zt(s:Bytes):∀(d:List aF)(k:Int),(F6 k d s=-1/\∀x∈d,x.1≠s)\/∃n,n<d.length/\F6 k d s=k+n/\(bH d n).1=s/\∀i,i<n->(bH d i).1≠s
 |[],k=>.inl ⟨rfl,λx hx=>by cases hx⟩
 |x::r,k=>by
  by_cases h:x.1=s
  .right;refine⟨0,by simp,?_,h,λi hi=>by omega⟩;rw[F6,auE.2 h];simp
  .rcases Zt s r (k+1)with⟨h1,h2⟩|⟨n,h1,h2,h3,h4⟩
   .left;refine⟨by rw[F6,auu.2 h];exact h1,λy hy=>?_⟩;rcases au1.1 hy with rfl|hy
    .exact h
    .exact h2 y hy
   .right;refine⟨n+1,by simp;omega,by rw[F6,auu.2 h];show F6 (k+1) r s=_;omega,h3,λi hi=>?_⟩;cases i with
    |zero=>exact h
    |succ i=>exact h4 i (by omega)
theorem pX(d:List aF)(s:Bytes):(aJ d s=-1/\∀x∈d,x.1≠s)\/∃n,n<d.length/\aJ d s=n/\(bH d n).1=s/\∀i,i<n->(bH d i).1≠s:=by
 rcases Zt s d 0 with h|⟨n,h1,h2,h3⟩
 .exact .inl h
 .exact .inr ⟨n,h1,by show F6 0 d s=_;omega,h3⟩
theorem G5{d:List aF}{s:Bytes}(h:0<=aJ d s):aJ d s<d.length:=by rcases pX d s with⟨h1,_⟩|⟨n,h1,h2,_⟩<;>omega
theorem zC{d:List aF}{i j m:Nat}:(i,j,m)∈eH d↔i<d.length/\∃s,((m=0/\s∈fK (bH d i).2.1 false)\/(m=1/\s∈fK (bH d i).2.1 true))/\0<=aJ d s/\j=(aJ d s).toNat:=by
 unfold eH;rw[List.mem_flatMap];constructor
 .rintro⟨k,hk,h⟩;rw[avl]at hk;rcases auL.1 h with h|h
  all_goals
   obtain⟨s,hs,e⟩:=awE.1 h;rw[cond_eq_ite]at e;split at e
   .next hp=>have hp:0<=aJ d s:=avN hp;cases e;exact⟨hk,s,by first|exact .inl ⟨rfl,hs⟩|exact .inr ⟨rfl,hs⟩,hp,rfl⟩
   .cases e
 .rintro⟨hi,s,h|h,hp,rfl⟩
  .obtain⟨rfl,hs⟩:=h;refine⟨i,avl.2 hi,auL.2 (.inl (awE.2 ⟨s,hs,?_⟩))⟩;rw[auB hp];rfl
  .obtain⟨rfl,hs⟩:=h;refine⟨i,avl.2 hi,auL.2 (.inr (awE.2 ⟨s,hs,?_⟩))⟩;rw[auB hp];rfl
theorem lG(d:List aF):ahA (eH d) d.length:=by
 rintro⟨i,j,m⟩ he;obtain⟨h1,s,h2,h3,h4⟩:=zC.1 he;have:=G5 h3;refine⟨h1,?_,?_⟩
 .show j<_;omega
 .show m<=1;rcases h2 with⟨h,_⟩|⟨h,_⟩<;>omega
def lv(l:List (Int×Unit))(i:Nat):Int:=(l.getD i (0,())).1
theorem ako{l:List (Int×Unit)}{i:Nat}(hi:i<l.length)(x:Int)(k:Nat):lv (l.set i (x,())) k=if k=i then x else lv l k:=by
 unfold lv;rw[aur,aur];by_cases h:k=i
 .subst h;rw[avG hi,if_pos rfl];rfl
 .rw[avn (λe=>h e.symm),if_neg h]
theorem Yq{l:List (Int×Unit)}{i:Nat}(hi:i<l.length):(lv l i,())∈l:=by unfold lv;rw[aur,auw hi];exact avA hi
theorem akn{l:List (Int×Unit)}{p:Int->Prop}(h:∀i,i<l.length->p (lv l i)):∀x∈l,p x.1:=by intro x hx;obtain⟨i,hi,e⟩:=au6 hx;have:=h i hi;unfold lv at this;rw[aur,auw hi]at this;rw[← e];exact this
theorem aoh{a b:List (Int×Unit)}(hl:a.length=b.length)(h:∀i,i<a.length->lv a i=lv b i):a=b:=by refine awJ hl λi h1 h2=>?_;have:=h i h1;unfold lv at this;rw[aur,aur,auw h1,auw h2]at this;exact aw4 this rfl
structure JY(d:List aF)(aH cur:List (Int×Unit))(g:Int)(P:Nat×Nat×Nat->Prop):Prop where
 len:cur.length=d.length
 up:∀i,i<d.length->lv aH i<=lv cur i
 grow:∀B,(∀i,i<d.length->lv aH i<=B)->∀i,i<d.length->lv cur i<=B+g
 fix:(∀i,i<d.length->lv cur i=lv aH i)->∀e,P e->lv aH e.2.1+e.2.2<=lv aH e.1
 below:∀M,jc (eH d) M->(∀i,i<d.length->lv aH i<=M i)->∀i,i<d.length->lv cur i<=M i
theorem JY.start{d:List aF}{aH:List (Int×Unit)}(h:aH.length=d.length):JY d aH aH 0 λ_=>False:=
 ⟨h,λ_ _=>au7 _,λB hB i hi=>by have:=hB i hi;omega,λ_ e he=>he.elim,λ_ _ h=>h⟩
theorem JY.weaken{d:List aF}{aH cur:List (Int×Unit)}{g g':Int}{P P':Nat×Nat×Nat->Prop}(h:JY d aH cur g P)(hg:g<=g')(hP:∀e,P' e->P e):JY d aH cur g' P':=
 ⟨h.len,h.up,λB hB i hi=>by have:=h.grow B hB i hi;omega,λhx e he=>h.fix hx e (hP e he),h.below⟩
theorem JY.still{d:List aF}{aH cur:List (Int×Unit)}{g:Int}{P:Nat×Nat×Nat->Prop}(h:JY d aH cur g P){i j m:Nat}(he:(i,j,m)∈eH d)(hle:lv cur j+m<=lv cur i):JY d aH cur g λe=>P e\/e=(i,j,m):=by
 obtain⟨h1,h2,_⟩:=lG d _ he;refine⟨h.len,h.up,h.grow,λhx e hp=>?_,h.below⟩;rcases hp with hp|rfl
 .exact h.fix hx e hp
 .have a:=hx i h1;have b:=hx j h2;show lv aH j+m<=lv aH i;omega
theorem JY.set{d:List aF}{aH cur:List (Int×Unit)}{g:Int}{P:Nat×Nat×Nat->Prop}(h:JY d aH cur g P){i j m:Nat}(he:(i,j,m)∈eH d)(hlt:lv cur i<lv cur j+m):JY d aH (cur.set i (lv cur j+m,())) (g+m) λe=>P e\/e=(i,j,m):=by
 obtain⟨h1,h2,_⟩:=lG d _ he;have h1:i<d.length:=h1;have h2:j<d.length:=h2;have hl:=h.len;have hs:=λk=>ako (l:=cur) (i:=i) (by omega) (lv cur j+m) k;refine⟨by simp;omega,λk hk=>?_,λB hB k hk=>?_,λhx e hp=>?_,λM hM hb k hk=>?_⟩
 .rw[hs];have a:=h.up k hk;split
  .next e=>subst e;omega
  .exact a
 .rw[hs];have a:=h.grow B hB k hk;have b:=h.grow B hB j h2;split<;>omega
 .have:=hx i h1;rw[hs,if_pos rfl]at this;have:=h.up i h1;omega
 .rw[hs];split
  .next e=>subst e;have a:=h.below M hM hb j h2;have b:=hM _ he;have b:M j+m<=M k:=b;omega
  .exact h.below M hM hb k hk
theorem JY.raised{d:List aF}{aH cur:List (Int×Unit)}{g:Int}{P:Nat×Nat×Nat->Prop}(h:JY d aH cur g P)(hg:g<=5000)(hP:∀e∈eH d,P e)(h0:∀i,i<d.length->0<=lv aH i):raised d aH cur:=by refine⟨h.len,h.up,λB hB i hi=>by have:=h.grow B hB i hi;show lv cur i<=_;omega,λhx e he=>?_,h.below⟩;have a:=h.fix hx e (hP e he);obtain⟨h1,h2,_⟩:=lG d _ he;have b:=h0 _ h1;have c:=h0 _ h2;show(lv aH e.2.1).toNat+e.2.2<=(lv aH e.1).toNat;omega
theorem af9(d:List aF)(aH:List (Int×Unit))(hl:aH.length=d.length):∀(E:VD),(∀e∈E,e∈eH d)->∃cur:List (Int×Unit),cur.length=d.length/\(∀i,i<d.length->lv aH i<=lv cur i/\(lv cur i=lv aH i\/∃e∈E,e.1=i/\lv cur i=lv aH e.2.1+e.2.2))/\∀e∈E,lv aH e.2.1+e.2.2<=lv cur e.1
 |[],_=>⟨aH,hl,λi hi=>⟨au7 _,.inl rfl⟩,λe he=>by cases he⟩
 |e::E,hE=>by
  obtain⟨cur,h1,h2,h3⟩:=af9 d aH hl E λx hx=>hE x (auH _ hx);obtain⟨g1,g2,_⟩:=lG d e (hE e auF);by_cases h:lv cur e.1<lv aH e.2.1+e.2.2
  .have hs:=λk=>ako (l:=cur) (i:=e.1) (by omega) (lv aH e.2.1+e.2.2) k;refine⟨cur.set e.1 (lv aH e.2.1+e.2.2,()),by simp;omega,λi hi=>?_,λx hx=>?_⟩
   .rw[hs];have:=h2 i hi;split
    .next hi'=>exact⟨by rw[hi']at this ⊢;omega,.inr ⟨e,auF,hi'.symm,rfl⟩⟩
    .refine⟨this.1,this.2.imp_right λ⟨x,hx,hy⟩=>⟨x,auH _ hx,hy⟩⟩
   .rw[hs];rcases au1.1 hx with rfl|hx
    .rw[if_pos rfl];omega
    .have:=h3 x hx;split
     .next he=>rw[he]at this;omega
     .exact this
  .refine⟨cur,h1,λi hi=>?_,λx hx=>?_⟩
   .have:=h2 i hi;exact⟨this.1,this.2.imp_right λ⟨x,hx,hy⟩=>⟨x,auH _ hx,hy⟩⟩
   .rcases au1.1 hx with rfl|hx
    .omega
    .exact h3 x hx
theorem als(d:List aF)(aH:List (Int×Unit))(hl:aH.length=d.length)(h0:∀i,i<d.length->0<=lv aH i):∃cur,raised d aH cur:=by
 obtain⟨cur,h1,h2,h3⟩:=af9 d aH hl (eH d) λ_ h=>h;refine⟨cur,h1,λi hi=>(h2 i hi).1,λB hB i hi=>?_,λhx e he=>?_,λM hM hb i hi=>?_⟩
 .show lv cur i<=_;rcases(h2 i hi).2 with h|⟨e,he,rfl,h⟩
  .rw[h];have:=hB i hi;show(aH.getD i (0,())).1<=_;omega
  .obtain⟨_,g2,g3⟩:=lG d e he;have:lv aH e.2.1<=B:=hB _ g2;omega
 .obtain⟨g1,g2,_⟩:=lG d e he;have a:=h3 e he;have b:=h0 _ g1;have c:=h0 _ g2;have x:lv cur e.1=lv aH e.1:=hx _ g1;show(lv aH e.2.1).toNat+e.2.2<=(lv aH e.1).toNat;omega
 .show lv cur i<=_;rcases(h2 i hi).2 with h|⟨e,he,rfl,h⟩
  .rw[h];exact hb i hi
  .obtain⟨_,g2,_⟩:=lG d e he;have a:lv aH e.2.1<=M e.2.1:=hb _ g2;have b:=hM e he;omega
theorem IG{d:List aF}{aH:List (Int×Unit)}{more:Int}:∀(r:LS)(B:Int),yQ d aH more r<=B↔0<=B/\∀x∈r,0<=aJ d x.1->lv aH (aJ d x.1).toNat+more<=B
 |[],B=>by simp[yQ]
 |x::r,B=>by
  have ih:=IG (d:=d) (aH:=aH) (more:=more) r B;rw[yQ];have e:∀a b:Int,max a b<=B↔a<=B/\b<=B:=λa b=>by omega
  rw[e,ih];simp only[au1,forall_eq_or_imp];by_cases h:0<=aJ d x.1
  .rw[auB h];show lv aH _+more<=B/\_↔_;constructor
   .exactλ⟨a,b,c⟩=>⟨b,λ_=>a,c⟩
   .exactλ⟨a,b,c⟩=>⟨b h,a,c⟩
  .rw[auD h];show(0:Int)<=B/\_↔_;constructor
   .exactλ⟨a,b,c⟩=>⟨b,λh'=>(h h').elim,c⟩
   .exactλ⟨a,b,c⟩=>⟨a,a,c⟩
def zB(l:List (Int×Unit)):Nat->Int
 |0=>0
 |n+1=>zB l n+lv l n
theorem acP{a b:List (Int×Unit)}:∀n,(∀i,i<n->lv a i<=lv b i)->zB a n<=zB b n
 |0,_=>au7 _
 |n+1,h=>Int.add_le_add (acP n λi hi=>h i (by omega)) (h n (by omega))
theorem acO{a b:List (Int×Unit)}:∀n,(∀i,i<n->lv a i<=lv b i)->(∃i,i<n/\lv a i<lv b i)->zB a n<zB b n
 |0,_,⟨i,hi,_⟩=>by omega
 |n+1,h,⟨i,hi,hl⟩=>by
  have h1:=acP n λj hj=>h j (awq hj);show zB a n+lv a n<zB b n+lv b n;by_cases e:i=n
  .subst e;omega
  .have:=acO n (λj hj=>h j (awq hj)) ⟨i,by omega,hl⟩;have:=h n (by omega);omega
theorem QW{a:List (Int×Unit)}{b:Nat}:∀n:Nat,(∀i,i<n->lv a i<=b)->zB a n<=(n*b:Nat)
 |0,_=>by simp[zB]
 |n+1,h=>by have h1:=QW n λi hi=>h i (awq hi);have h2:=h n (by omega);show zB a n+lv a n<=((n+1)*b:Nat);rw[Nat.succ_mul];omega
theorem Yg{a:List (Int×Unit)}:∀n:Nat,(∀i,i<n->0<=lv a i)->0<=zB a n
 |0,_=>au7 _
 |n+1,h=>Int.add_nonneg (Yg n λi hi=>h i (by omega)) (h n (by omega))
theorem kC{d:List aF}:aj d=true↔bI d=true/\∃L,jc (eH d) L:=by unfold aj;simp
theorem UG{d:List aF}(h:bI d=true):d.length<=5:=by unfold bI at h;simp only[auq,auK]at h;omega
end Sp
namespace Sp
abbrev Ext(ι α:Type):=ι->α->Bool
structure Sys(ι α:Type) where
 T:ι->Ext ι α->α->Prop
 pos:ι->ι->Prop
 neg:ι->ι->Prop
 mono:∀i X Y,(∀j,pos i j->∀x,X j x=true->Y j x=true)->(∀j,neg i j->∀x,X j x=Y j x)->∀x,T i X x->T i Y x
def ajc{ι α:Type}(S:Sys ι α)(N:ι->Prop)(aH:ι->Nat):Prop:=∀i j,N i->N j->(S.pos i j->aH j<=aH i)/\(S.neg i j->aH j<aH i)
structure Eval{ι α:Type}(S:Sys ι α)(N:ι->Prop)(aH:ι->Nat)(X:Ext ι α):Prop where
 fix:∀i,N i->∀x,X i x=true↔S.T i X x
 least:∀k(Y:Ext ι α),(∀i,¬(N i/\aH i=k)->∀x,Y i x=X i x)->(∀i,N i->aH i=k->∀x,S.T i Y x->Y i x=true)->∀i,N i->aH i=k->∀x,X i x=true->Y i x=true
open Classical in
theorem amb{ι α:Type}{P:ι->Prop}{A B:Ext ι α}:∃Y:Ext ι α,(∀i x,Y i x=true↔A i x=true/\(P i->B i x=true))/\∀i,¬P i->∀x,Y i x=A i x:=by have h:∀i x,decide (A i x=true/\(P i->B i x=true))=true↔A i x=true/\(P i->B i x=true):=λi x=>av3;refine⟨λi x=>decide (A i x=true/\(P i->B i x=true)),h,λi hi x=>?_⟩;rw[auS,h];exact⟨λh=>h.1,λh=>⟨h,λh'=>(hi h').elim⟩⟩
theorem Rx{ι α:Type}{S1 S2:Sys ι α}{N1 N2 U:ι->Prop}{l1 l2:ι->Nat}{X1 X2:Ext ι α}
 (h1:Eval S1 N1 l1 X1) (h2:Eval S2 N2 l2 X2) (s1:ajc S1 N1 l1) (s2:ajc S2 N2 l2) (u1:∀i,U i->N1 i) (u2:∀i,U i->N2 i)
 (hT:∀i,U i->∀X x,S1.T i X x↔S2.T i X x) (hp:∀i,U i->∀j,S2.pos i j->S1.pos i j) (hn:∀i,U i->∀j,S2.neg i j->S1.neg i j)
 (hc:∀i,U i->∀j,S1.pos i j\/S1.neg i j->U j\/∀x,X1 j x=X2 j x):∀i,U i->∀x,X1 i x=X2 i x:=by
 have key:∀k,∀i,U i->l1 i=k->∀x,X1 i x=X2 i x:=by
  intro k
  induction k using Nat.strongRecOn with
  |_ k ih=>
   have below:∀j,U j->l1 j<k->∀x,X1 j x=X2 j x:=λj hj hl=>ih (l1 j) hl j hj rfl;have asf:∀i,U i->l1 i=k->∀x,X1 i x=true->X2 i x=true:=by
    obtain⟨Y,hY,Xz⟩:=amb (P:=λi=>U i/\l1 i=k) (A:=X1) (B:=X2);have:=h1.least k Y (λi hi=>Xz i λh=>hi ⟨u1 i h.1,h.2⟩) λi hN hl x hx=>by
     have akK:∀j,S1.neg i j->∀x,Y j x=X1 j x:=λj hj=>Xz j λh=>by have:=(s1 i j hN (u1 j h.1)).2 hj;omega
     refine(hY i x).2 ⟨(h1.fix i hN x).2 (S1.mono i Y X1 (λj _ y hy=>((hY j y).1 hy).1) akK x hx),λhU=>?_⟩;refine(h2.fix i (u2 i hU.1) x).2 ((hT i hU.1 X2 x).1 (S1.mono i Y X2 (λj hj y hy=>?_) (λj hj y=>?_) x hx))
     .have hy:=(hY j y).1 hy;rcases hc i hU.1 j (.inl hj)with h|h
      .have hl2:=(s1 i j hN (u1 j h)).1 hj;rcases auJ (l1 j) k with h3|h3
       .rw[← below j h h3];exact hy.1
       .exact hy.2 ⟨h,by omega⟩
      .rw[← h];exact hy.1
     .rw[akK j hj];rcases hc i hU.1 j (.inr hj)with h|h
      .exact below j h (by have:=(s1 i j hN (u1 j h)).2 hj;omega) y
      .exact h y
    exactλi hU hl x hx=>((hY i x).1 (this i (u1 i hU) hl x hx)).2 ⟨hU,hl⟩
   have asg:∀m,∀i,U i->l1 i=k->l2 i=m->∀x,X2 i x=true->X1 i x=true:=by
    intro m
    induction m using Nat.strongRecOn with
    |_ m ih2=>
     obtain⟨Y,hY,Xz⟩:=amb (P:=λi=>U i/\l1 i=k/\l2 i=m) (A:=X2) (B:=X1);have:=h2.least m Y (λi hi=>Xz i λh=>hi ⟨u2 i h.1,h.2.2⟩) λi hN hl x hx=>by
      have akK:∀j,S2.neg i j->∀x,Y j x=X2 j x:=λj hj=>Xz j λh=>by have:=(s2 i j hN (u2 j h.1)).2 hj;omega
      refine(hY i x).2 ⟨(h2.fix i hN x).2 (S2.mono i Y X2 (λj _ y hy=>((hY j y).1 hy).1) akK x hx),λhU=>?_⟩;refine(h1.fix i (u1 i hU.1) x).2 ((hT i hU.1 X1 x).2 (S2.mono i Y X1 (λj hj y hy=>?_) (λj hj y=>?_) x hx))
      .have hy:=(hY j y).1 hy;have hj1:=hp i hU.1 j hj;rcases hc i hU.1 j (.inl hj1)with h|h
       .have g1:=(s1 i j (u1 i hU.1) (u1 j h)).1 hj1;have g2:=(s2 i j hN (u2 j h)).1 hj;rcases auJ (l1 j) k with h3|h3
        .rw[below j h h3];exact hy.1
        .rcases auJ (l2 j) m with h4|h4
         .exact ih2 (l2 j) h4 j h (by omega) rfl y hy.1
         .exact hy.2 ⟨h,by omega,by omega⟩
       .rw[h];exact hy.1
      .rw[akK j hj];have hj1:=hn i hU.1 j hj;rcases hc i hU.1 j (.inr hj1)with h|h
       .exact(below j h (by have:=(s1 i j (u1 i hU.1) (u1 j h)).2 hj1;omega) y).symm
       .exact(h y).symm
     exactλi hU hl1 hl2 x hx=>((hY i x).1 (this i (u2 i hU) hl2 x hx)).2 ⟨hU,hl1,hl2⟩
   exactλi hU hl x=>auS.2 ⟨asf i hU hl x,asg (l2 i) i hU hl rfl x⟩
 exactλi hU x=>key (l1 i) i hU rfl x
end Sp
namespace Sp
open Go
abbrev dR:=Bytes×List (Int×Unit)×Unit
abbrev BX:=Ext Bytes Int
def dJ:List dL->Bytes->akp
 |[],_=>(0,0,[],())
 |a::r,s=>bif a.1==s then(a.2.1,a.2.2.1,a.2.2.2.1,())else dJ r s
def fO:List dR->Bytes->List (Int×Unit)
 |[],_=>[]
 |x::r,s=>bif x.1==s then x.2.1 else fO r s
def fM(l:List (Int×Unit))(x:Int):Bool:=l.any λy=>y.1==x
def bD(r:List dR):BX:=λs x=>fM (fO r s) x
theorem IQ{l:List (Int×Unit)}{x:Int}:fM l x=true↔(x,())∈l:=by unfold fM;rw[avM];exact⟨λ⟨y,hy,h⟩=>by rw[← auE.1 h];exact hy,λh=>⟨_,h,auE.2 rfl⟩⟩
def iP(n:bK)(f:aK)(X:BX):Bool:=
 bif n.1==2 then !((dJ f.2.2.2.2.1 n.2.2.2.1).1==0)else
 bif n.1==3 then decide (dJ f.2.2.2.2.1 n.2.2.2.1=(n.2.2.2.2.1,n.2.2.2.2.2.1,n.2.2.2.2.2.2.1,()))else
 bif n.1==4 then(dJ f.2.2.2.2.1 n.2.2.2.1).1==1&&decide ((dJ f.2.2.2.2.1 n.2.2.2.1).2.1<n.2.2.2.2.2.1)else
 bif n.1==8 then X n.2.2.2.1 f.1 else
 bif n.1==9 then !(f.2.2.2.1==0)&&X n.2.2.2.1 f.2.2.2.1 else true
def val(q:List bK)(f:aK)(X:BX)(a:Nat):Bool:=
 if(nodeAt q a).1=5 then(if h:(nodeAt q a).2.1.toNat<a then !val q f X (nodeAt q a).2.1.toNat else true)
 else if(nodeAt q a).1=6 then(if h:(nodeAt q a).2.1.toNat<a/\(nodeAt q a).2.2.1.toNat<a then val q f X (nodeAt q a).2.1.toNat&&val q f X (nodeAt q a).2.2.1.toNat else true)
 else if(nodeAt q a).1=7 then(if h:(nodeAt q a).2.1.toNat<a/\(nodeAt q a).2.2.1.toNat<a then val q f X (nodeAt q a).2.1.toNat||val q f X (nodeAt q a).2.2.1.toNat else true)
 else iP (nodeAt q a) f X
termination_by a
decreasing_by all_goals omega
theorem Ls(q:List bK)(f:aK)(X:BX)(a:Nat):val q f X a=
 if(nodeAt q a).1=5 then(if h:(nodeAt q a).2.1.toNat<a then !val q f X (nodeAt q a).2.1.toNat else true)
 else if(nodeAt q a).1=6 then(if h:(nodeAt q a).2.1.toNat<a/\(nodeAt q a).2.2.1.toNat<a then val q f X (nodeAt q a).2.1.toNat&&val q f X (nodeAt q a).2.2.1.toNat else true)
 else if(nodeAt q a).1=7 then(if h:(nodeAt q a).2.1.toNat<a/\(nodeAt q a).2.2.1.toNat<a then val q f X (nodeAt q a).2.1.toNat||val q f X (nodeAt q a).2.2.1.toNat else true)
 else iP (nodeAt q a) f X:=by rw[val]
def iO(q:List bK)(f:aK)(X:BX):Bool:=bQ q&&val q f X (q.length-1)
def sel(fs:List aK)(q:List bK)(X:BX):List (Int×Unit):=(fs.filter λf=>iO q f X).map λf=>(f.1,())
def Dv(q:List bK)(i:Nat):Bool:=((negated q).getD i (false,())).1
theorem OT{q:List bK}(h:bQ q=true){i:Nat}(hi:i<q.length):kK (nodeAt q i) i=true/\((i:Int)<(q.length:Int)-1->nC q i=1):=by
 unfold bQ at h;rw[auq]at h;have h1:l9 q i=true:=by have:=h.1;unfold jd at this;exact auU.1 this i (avl.2 hi)
 unfold l9 at h1;rw[auq]at h1;refine⟨h1.1,λhl=>?_⟩;have h2:=h1.2;rw[auB hl]at h2;simpa using h2
theorem GX{q:List bK}(h:bQ q=true):1<=q.length/\q.length<=9:=by unfold bQ at h;simp only[auq,auK]at h;omega
theorem abO{n:bK}{a:Nat}(h:kK n a=true)(hn:n.1=5\/n.1=6\/n.1=7):0<=n.2.1/\n.2.1.toNat<a:=by unfold kK at h;rcases hn with e|e|e<;>simp[e]at h<;>omega
theorem NU{n:bK}{a:Nat}(h:kK n a=true)(hn:n.1=6\/n.1=7):0<=n.2.2.1/\n.2.2.1.toNat<a:=by unfold kK at h;rcases hn with e|e<;>simp[e]at h<;>omega
theorem amc{α:Type}(g:α->Nat):∀(l:List α),(l.map g).sum=1->∀i j,i<l.length->j<l.length->i≠j->∀d,1<=g (l.getD i d)->g (l.getD j d)=0
 |[],_,i,_,hi,_,_,_,_=>by simp at hi
 |x::r,h,i,j,hi,hj,hne,d,hg=>by
  rw[auW,awm]at h;have mem:∀(l:List α) k,k<l.length->g (l.getD k d)<=(l.map g).sum:=by
   intro l
   induction l with
   |nil=>intro k hk;simp at hk
   |cons y t ih=>
    intro k hk;rw[auW,awm];cases k with
    |zero=>exact Nat.le_add_right _ _
    |succ k=>exact auM (ih k (by simpa using hk)) (Nat.le_add_left _ _)
  cases i with
  |zero=>
   cases j with
   |zero=>exact(hne rfl).elim
   |succ j=>
    have h1:1<=g x:=hg;have:=mem r j (by simpa using hj);show g (r.getD j d)=0;omega
  |succ i=>
   have h1:1<=g (r.getD i d):=hg;have h2:=mem r i (by simpa using hi);cases j with
   |zero=>show g x=0;omega
   |succ j=>exact amc g r (by omega) i j (by simpa using hi) (by simpa using hj) (by omega) d hg
theorem JF{q:List bK}{p:Nat}:∀(n:Nat)(out:List (Bool×Unit)),(∀i,i<n->((nodeAt q i).1=5\/jG (nodeAt q i)=true->(nodeAt q i).2.1.toNat≠p)/\(jG (nodeAt q i)=true->(nodeAt q i).2.2.1.toNat≠p))->
 (je q n out).getD p (false,())=out.getD p (false,())
 |0,_,_=>rfl
 |n+1,out,h=>by
  have ih:=JF n (kP q n out) λi hi=>h i (by omega);show(je q n (kP q n out)).getD p (false,())=_;rw[ih];have hs:∀(l:List (Bool×Unit)) k x,k≠p->(l.set k x).getD p (false,())=l.getD p (false,()):=λl k x hk=>by rw[aur,avn hk,← aur]
  obtain⟨h1,h2⟩:=h n (by omega);unfold kP;dsimp only;cases e5:((nodeAt q n).1==5)with
  |true=>exact hs _ _ _ (h1 (.inl (auE.1 e5)))
  |false=>
   cases e2:jG (nodeAt q n)with
   |true=>exact(hs _ _ _ (h2 e2)).trans (hs _ _ _ (h1 (.inr e2)))
   |false=>rfl
theorem GZ(q:List bK):∀(n:Nat)(out:List (Bool×Unit)),(je q n out).length=out.length
 |0,_=>rfl
 |n+1,out=>by show(je q n (kP q n out)).length=_;rw[GZ q n];unfold kP;dsimp only;cases (nodeAt q n).1==5<;>cases jG (nodeAt q n)<;>simp
theorem zD{n:bK}:jG n=true↔n.1=6\/n.1=7:=by unfold jG;simp
theorem VX(q:List bK):∀(k m:Nat)(out:List (Bool×Unit)),∃mid:List (Bool×Unit),mid.length=out.length/\je q (m+k) out=je q m mid
 |0,_,out=>⟨out,rfl,rfl⟩
 |k+1,m,out=>by
  obtain⟨mid,h1,h2⟩:=VX q k m (kP q (m+k) out);have hl:(kP q (m+k) out).length=out.length:=by unfold kP;dsimp only;cases (nodeAt q (m+k)).1==5<;>cases jG (nodeAt q (m+k))<;>simp
  exact⟨mid,h1.trans hl,h2⟩
theorem OQ{q:List bK}(h:bQ q=true){i:Nat}(hi:i<q.length):((nodeAt q i).1=5\/jG (nodeAt q i)=true->0<=(nodeAt q i).2.1/\(nodeAt q i).2.1.toNat<i)/\(jG (nodeAt q i)=true->0<=(nodeAt q i).2.2.1/\(nodeAt q i).2.2.1.toNat<i):=by
 have h1:=(OT h hi).1;refine⟨λh2=>?_,λh2=>NU h1 (zD.1 h2)⟩;rcases h2 with h2|h2
 .exact abO h1 (.inl h2)
 .exact abO h1 (.inr (zD.1 h2))
theorem ani{q:List bK}(h:bQ q=true){i j p:Nat}(hi:i<q.length)(hj:j<q.length)(hne:i≠j)(hp:p<i)(hr:1<=refsOf p (nodeAt q i)):refsOf p (nodeAt q j)=0:=
 amc (refsOf p) q ((OT h (by omega)).2 (by omega)) i j hi hj hne _ hr
theorem alu{p:Nat}{n:bK}(h:refsOf p n=0)(h0:((n.1=5\/jG n=true)->0<=n.2.1)/\(jG n=true->0<=n.2.2.1)):(n.1=5\/jG n=true->n.2.1.toNat≠p)/\(jG n=true->n.2.2.1.toNat≠p):=by
 unfold refsOf at h;refine⟨λh1 h2=>?_,λh1 h2=>?_⟩
 .have h3:=h0.1 h1;have h4:((jG n||n.1==5)&&n.2.1==(p:Int))=true:=by
   have:(jG n||n.1==5)=true:=by rcases h1 with h1|h1<;>simp[h1]
   rw[this];simp;omega
  rw[h4]at h;simp at h
 .have h3:=h0.2 h1;have h4:(jG n&&n.2.2.1==(p:Int))=true:=by rw[h1];simp;omega
  rw[h4]at h;simp at h
theorem abP{p:Nat}{n:bK}(h:n.1=5\/jG n=true)(h0:0<=n.2.1)(e:n.2.1.toNat=p):1<=refsOf p n:=by
 unfold refsOf;have h4:((jG n||n.1==5)&&n.2.1==(p:Int))=true:=by
  have:(jG n||n.1==5)=true:=by rcases h with h1|h1<;>simp[h1]
  rw[this];simp;omega
 rw[h4];simp
theorem akL{p:Nat}{n:bK}(h:jG n=true)(h0:0<=n.2.2.1)(e:n.2.2.1.toNat=p):1<=refsOf p n:=by
 unfold refsOf;have h4:(jG n&&n.2.2.1==(p:Int))=true:=by rw[h];simp;omega
 rw[h4];simp
theorem VE{l:List (Bool×Unit)}{k p:Nat}{x:Bool×Unit}(hk:k<l.length):(l.set k x).getD p (false,())=if k=p then x else l.getD p (false,()):=by
 rw[aur,awG];by_cases h:k=p
 .subst h;simp[hk]
 .simp[h]
theorem anj{q:List bK}(h:bQ q=true){i:Nat}(hi:i<q.length):
 ((nodeAt q i).1=5->Dv q (nodeAt q i).2.1.toNat=true)/\(jG (nodeAt q i)=true->Dv q (nodeAt q i).2.1.toNat=Dv q i/\Dv q (nodeAt q i).2.2.1.toNat=Dv q i):=by
 have hn:negated q=je q q.length (List.replicate q.length (false,())):=by unfold negated;rw[h];rfl
 obtain⟨mid,hm1,hm2⟩:=VX q (q.length-(i+1)) (i+1) (List.replicate q.length (false,()));rw[show i+1+(q.length-(i+1))=q.length by omega,← hn]at hm2;have hml:mid.length=q.length:=by rw[hm1];simp
 have hm3:negated q=je q i (kP q i mid):=hm2;obtain⟨k1,k2⟩:=OQ h hi;have keep:∀p,p<i->1<=refsOf p (nodeAt q i)->Dv q p=((kP q i mid).getD p (false,())).1:=λp hp hr=>by
  unfold Dv;rw[hm3,JF i];intro j hj;have hjl:j<q.length:=by omega
  obtain⟨g1,g2⟩:=OQ h hjl;exact alu (ani h hi hjl (by omega) hp hr) ⟨λz=>(g1 z).1,λz=>(g2 z).1⟩
 have self:Dv q i=(mid.getD i (false,())).1:=by unfold Dv;rw[hm2,JF (i+1)];intro j hj;obtain⟨g1,g2⟩:=OQ h (show j<q.length by omega);exact⟨λz=>by have:=(g1 z).2;omega,λz=>by have:=(g2 z).2;omega⟩
 refine⟨λh5=>?_,λh2=>?_⟩
 .obtain⟨a,b⟩:=k1 (.inl h5);rw[keep _ b (abP (.inl h5) a rfl)];unfold kP;dsimp only;rw[auE.2 h5];show((mid.set _ (true,())).getD _ (false,())).1=true;rw[VE (by omega),if_pos rfl]
 .obtain⟨a,b⟩:=k1 (.inr h2);obtain⟨a',b'⟩:=k2 h2;have h5:((nodeAt q i).1==5)=false:=by rcases zD.1 h2 with e|e<;>rw[e]<;>rfl
  rw[keep _ b (abP (.inr h2) a rfl),keep _ b' (akL h2 a' rfl),self];unfold kP;dsimp only;rw[h5,h2];show(((mid.set _ ((mid.getD i (false,())).1,())).set _ ((mid.getD i (false,())).1,())).getD _ (false,())).1=_/\(((mid.set _ ((mid.getD i (false,())).1,())).set _ ((mid.getD i (false,())).1,())).getD _ (false,())).1=_;rw[VE (by rw[auR];omega),VE (by omega),VE (by rw[auR];omega),if_pos rfl,if_pos rfl];exact⟨by split<;>rfl,rfl⟩
theorem ank{q:List bK}(h:bQ q=true):Dv q (q.length-1)=false:=by
 have hn:negated q=je q q.length (List.replicate q.length (false,())):=by unfold negated;rw[h];rfl
 have hl:=GX h;unfold Dv;rw[hn,JF q.length]
 .rw[aur,awx];split<;>rfl
 .intro j hj;obtain⟨g1,g2⟩:=OQ h hj;exact⟨λz=>by have:=(g1 z).2;omega,λz=>by have:=(g2 z).2;omega⟩
theorem akM{q:List bK}(h:bQ q=true){i:Nat}(hi:i<q.length)(hd:jH (nodeAt q i)=true):(nodeAt q i).2.2.2.1∈fK q (Dv q i):=by
 have hl:(negated q).length=q.length:=by unfold negated;rw[h];show(je _ _ _).length=_;rw[GZ];simp
 unfold fK;rw[awE];refine⟨i,avl.2 (by omega),?_⟩;unfold Dv;rw[hd];simp
theorem apA{q:List bK}{f:aK}{X Y:BX}(h:bQ q=true)(hp:∀s∈fK q false,∀x,X s x=true->Y s x=true)(hn:∀s∈fK q true,∀x,X s x=Y s x):
 ∀a,a<q.length->(Dv q a=false->val q f X a=true->val q f Y a=true)/\(Dv q a=true->val q f X a=val q f Y a):=by
 intro a
 induction a using Nat.strongRecOn with
 |_ a ih=>
  intro ha;obtain⟨k1,k2⟩:=OQ h ha;obtain⟨n1,n2⟩:=anj h ha;rw[Ls q f X a,Ls q f Y a];by_cases h5:(nodeAt q a).1=5
  .have hk:=k1 (.inl h5);have i1:=(ih _ hk.2 (by omega)).2 (n1 h5);rw[if_pos h5,if_pos h5,dif_pos hk.2,dif_pos hk.2,i1];exact⟨λ_=>id,λ_=>rfl⟩
  rw[if_neg h5,if_neg h5];by_cases h6:(nodeAt q a).1=6
  .have h2:jG (nodeAt q a)=true:=zD.2 (.inl h6);have hk:=k1 (.inr h2);have hk':=k2 h2;have i1:=ih _ hk.2 (by omega);have i2:=ih _ hk'.2 (by omega);rw[(n2 h2).1]at i1;rw[(n2 h2).2]at i2;rw[if_pos h6,if_pos h6,dif_pos ⟨hk.2,hk'.2⟩,dif_pos ⟨hk.2,hk'.2⟩];refine⟨λhf hv=>?_,λht=>by rw[i1.2 ht,i2.2 ht]⟩;rw[auq]at hv ⊢;exact⟨i1.1 hf hv.1,i2.1 hf hv.2⟩
  rw[if_neg h6,if_neg h6];by_cases h7:(nodeAt q a).1=7
  .have h2:jG (nodeAt q a)=true:=zD.2 (.inr h7);have hk:=k1 (.inr h2);have hk':=k2 h2;have i1:=ih _ hk.2 (by omega);have i2:=ih _ hk'.2 (by omega);rw[(n2 h2).1]at i1;rw[(n2 h2).2]at i2;rw[if_pos h7,if_pos h7,dif_pos ⟨hk.2,hk'.2⟩,dif_pos ⟨hk.2,hk'.2⟩];refine⟨λhf hv=>?_,λht=>by rw[i1.2 ht,i2.2 ht]⟩;rw[avq]at hv ⊢;exact hv.imp (i1.1 hf) (i2.1 hf)
  rw[if_neg h7,if_neg h7];by_cases h8:(nodeAt q a).1=8
  .have hm:=akM h ha (by unfold jH;simp[h8]);unfold iP;simp only[h8];refine⟨λhf hv=>?_,λht=>?_⟩
   .rw[hf]at hm;exact hp _ hm _ hv
   .rw[ht]at hm;exact hn _ hm _
  by_cases h9:(nodeAt q a).1=9
  .have hm:=akM h ha (by unfold jH;simp[h9]);unfold iP;simp only[h9];refine⟨λhf hv=>?_,λht=>?_⟩
   .rw[hf]at hm;have hv:(!((f.2.2.2.1==0))&&X (nodeAt q a).2.2.2.1 f.2.2.2.1)=true:=hv;rw[auq]at hv;show(!((f.2.2.2.1==0))&&Y (nodeAt q a).2.2.2.1 f.2.2.2.1)=true;rw[auq];exact⟨hv.1,hp _ hm _ hv.2⟩
   .rw[ht]at hm;show(!((f.2.2.2.1==0))&&X (nodeAt q a).2.2.2.1 f.2.2.2.1)=(!((f.2.2.2.1==0))&&Y (nodeAt q a).2.2.2.1 f.2.2.2.1);rw[hn _ hm]
  .have:iP (nodeAt q a) f X=iP (nodeAt q a) f Y:=by unfold iP;rw[auu.2 h8,auu.2 h9];rfl
   rw[this];exact⟨λ_=>id,λ_=>rfl⟩
theorem PG{q:List bK}{f:aK}{X Y:BX}(hp:∀s∈fK q false,∀x,X s x=true->Y s x=true)(hn:∀s∈fK q true,∀x,X s x=Y s x)(hm:iO q f X=true):iO q f Y=true:=by unfold iO at hm ⊢;rw[auq]at hm ⊢;have hl:=GX hm.1;exact⟨hm.1,(apA hm.1 hp hn _ (by omega)).1 (ank hm.1) hm.2⟩
theorem ahB{fs:List aK}{q:List bK}{X:BX}{x:Int}:(x,())∈sel fs q X↔∃f∈fs,f.1=x/\iO q f X=true:=by
 unfold sel;rw[avL];constructor
 .rintro⟨f,hf,e⟩;rw[avv]at hf;exact⟨f,hf.1,congrArg Prod.fst e,hf.2⟩
 .rintro⟨f,hf,rfl,hm⟩;exact⟨f,avv.2 ⟨hf,hm⟩,rfl⟩
theorem Zu{fs:List aK}{q:List bK}{X Y:BX}(h:∀b,∀s∈fK q b,∀x,X s x=Y s x):sel fs q X=sel fs q Y:=by unfold sel;congr 1;apply axp;intro f _;rw[auS];exact⟨PG (λs hs x hx=>by rw[← h false s hs x];exact hx) (λs hs x=>h true s hs x),PG (λs hs x hx=>by rw[h false s hs x];exact hx) (λs hs x=>(h true s hs x).symm)⟩
def QG(fs:List aK)(d:List aF):Sys Bytes Int where
 T:=λs X x=>∃i,i<d.length/\(bH d i).1=s/\(x,())∈sel fs (bH d i).2.1 X
 pos:=λs t=>∃i,i<d.length/\(bH d i).1=s/\t∈fK (bH d i).2.1 false
 neg:=λs t=>∃i,i<d.length/\(bH d i).1=s/\t∈fK (bH d i).2.1 true
 mono:=λs X Y hp hn x⟨i,hi,e,hx⟩=>⟨i,hi,e,by obtain⟨f,hf,e2,hm⟩:=ahB.1 hx;exact ahB.2 ⟨f,hf,e2,PG (λt ht=>hp t ⟨i,hi,e,ht⟩) (λt ht=>hn t ⟨i,hi,e,ht⟩) hm⟩⟩
end Sp
namespace Go.Fw
open Go
end Go.Fw
namespace Go.Fw
open Go
theorem dn{p:Prop}[Decidable p]{A B:Prop}(h:p)(a:A):cond (decide p) A B:=by rw[auB h];exact a
theorem dw{p:Prop}[Decidable p]{A B:Prop}(h:¬p)(b:B):cond (decide p) A B:=by rw[auD h];exact b
theorem iL{B:((Int×Unit)×Unit->Prop)->((Int×Unit)×Unit->Nat)->(Int×Unit)×Unit->Prop}(len:Nat)(hlen:len<=9223372036854775807)(J:Nat->Prop)(h0:J 0)
 (hstep:∀I μ(n:Nat),n<len->J n->(J (n+1)->I ((IntKind.i64.wrap ((n:Int)+1),()),())/\μ ((IntKind.i64.wrap ((n:Int)+1),()),())<μ (((n:Int),()),()))->B I μ (((n:Int),()),()))
 (hend:∀I μ,J len->B I μ (((len:Int),()),())):∃I,∃μ,I (((0:Int),()),())/\∀y,I y->B I μ y:=by
 refine⟨λy=>∃n:Nat,y.1.1=n/\n<=len/\J n,λy=>((len:Int)-y.1.1).toNat,⟨0,rfl,auX _,h0⟩,?_⟩;rintro⟨⟨_,⟨⟩⟩,⟨⟩⟩ ⟨n,rfl,hn,hJ⟩;rcases auJ n len with h|h
 .refine hstep _ _ n h hJ λhJ'=>?_;have e:IntKind.i64.wrap ((n:Int)+1)=((n+1:Nat):Int):=eP _ (by omega);rw[e];exact⟨⟨n+1,rfl,h,hJ'⟩,by show((len:Int)-(n+1:Nat)).toNat<((len:Int)-n).toNat;omega⟩
 .have:n=len:=by omega
  subst this;exact hend _ _ hJ
theorem adC{S:Type}{B:((Int×Unit)×S×Unit->Prop)->((Int×Unit)×S×Unit->Nat)->(Int×Unit)×S×Unit->Prop}(len:Nat)(hlen:len<=9223372036854775807)(J:Nat->S->Prop){s0:S}(h0:J 0 s0)
 (hstep:∀I μ(n:Nat)(s:S),n<len->J n s->(∀s',J (n+1) s'->I ((IntKind.i64.wrap ((n:Int)+1),()),s',())/\μ ((IntKind.i64.wrap ((n:Int)+1),()),s',())<μ (((n:Int),()),s,()))->B I μ (((n:Int),()),s,()))
 (hend:∀I μ s,J len s->B I μ (((len:Int),()),s,())):∃I,∃μ,I (((0:Int),()),s0,())/\∀y,I y->B I μ y:=by
 refine⟨λy=>∃n:Nat,y.1.1=n/\n<=len/\J n y.2.1,λy=>((len:Int)-y.1.1).toNat,⟨0,rfl,auX _,h0⟩,?_⟩;rintro⟨⟨_,⟨⟩⟩,s,⟨⟩⟩ ⟨n,rfl,hn,hJ⟩;rcases auJ n len with h|h
 .refine hstep _ _ n s h hJ λs' hJ'=>?_;have e:IntKind.i64.wrap ((n:Int)+1)=((n+1:Nat):Int):=eP _ (by omega);rw[e];exact⟨⟨n+1,rfl,h,hJ'⟩,by show((len:Int)-(n+1:Nat)).toNat<((len:Int)-n).toNat;omega⟩
 .have:n=len:=by omega
  subst this;exact hend _ _ s hJ
theorem dM{Y S:Type}(mk:Int->S->Y)(idx:Y->Int)(hidx:∀i s,idx (mk i s)=i){B:(Y->Prop)->(Y->Nat)->Y->Prop}(len:Nat)(hlen:len<=9223372036854775807)(J:Nat->S->Prop){s0:S}(h0:J 0 s0)
 (hstep:∀I μ(n:Nat)(s:S),n<len->J n s->(∀s',J (n+1) s'->I (mk (IntKind.i64.wrap ((n:Int)+1)) s')/\μ (mk (IntKind.i64.wrap ((n:Int)+1)) s')<μ (mk n s))->B I μ (mk n s))
 (hend:∀I μ s,J len s->B I μ (mk len s)):∃I,∃μ,I (mk 0 s0)/\∀y,I y->B I μ y:=by
 refine⟨λy=>∃(n:Nat)(s:S),y=mk n s/\n<=len/\J n s,λy=>((len:Int)-idx y).toNat,⟨0,s0,rfl,auX _,h0⟩,?_⟩;rintro _ ⟨n,s,rfl,hn,hJ⟩;rcases auJ n len with h|h
 .refine hstep _ _ n s h hJ λs' hJ'=>?_;have e:IntKind.i64.wrap ((n:Int)+1)=((n+1:Nat):Int):=eP _ (by omega);rw[e];refine⟨⟨n+1,s',rfl,h,hJ'⟩,?_⟩;show((len:Int)-idx (mk (n+1:Nat) s')).toNat<((len:Int)-idx (mk n s)).toNat;rw[hidx,hidx];omega
 .have:n=len:=by omega
  subst this;exact hend _ _ s hJ
theorem DX{len:Nat}{f:Nat->Bool}{n:Nat}(hn:n<len)(h:f n=false):Sp.jd len f=false:=by unfold Sp.jd;rw[List.all_eq_false];exact⟨n,avl.2 hn,by rw[h];simp⟩
theorem oh{len:Nat}{f:Nat->Bool}(h:∀i,i<len->f i=true):Sp.jd len f=true:=by unfold Sp.jd;rw[auU];exactλi hi=>h i (avl.1 hi)
theorem abL{len:Nat}{f:Nat->Bool}:Sp.jd len f=true↔∀i,i<len->f i=true:=by unfold Sp.jd;rw[auU];exact⟨λh i hi=>h i (avl.2 hi),λh i hi=>h i (avl.1 hi)⟩
theorem fJ{n:Nat}{f:Nat->Bool}(h:∀i,i<n->f i=true)(hn:f n=true):∀i,i<n+1->f i=true:=λi hi=>by
 rcases auJ i n with h'|h'
 .exact h i h'
 .have:i=n:=by omega
  rw[this];exact hn
theorem dQ{b:Bool}(h:(!b)=true):b=false:=by cases b<;>first|rfl|cases h
theorem bP{b:Bool}(h:(!b)=false):b=true:=by cases b<;>first|rfl|cases h
theorem fG{p:Prop}[Decidable p](h:decide p=true):p:=avN h
theorem fZ{p:Prop}[Decidable p](h:decide p=false):¬p:=of_decide_eq_false h
theorem wU{n:Nat}(h:0<n)(hn:n<=9223372036854775807):IntKind.i64.wrap ((n:Int)-1)=((n-1:Nat):Int):=by rw[eP _ (by omega)];omega
theorem OU{α:Type}{d:α}{a b:List α}(hl:a.length=b.length)(h:∀i,i<a.length->a.getD i d=b.getD i d):a=b:=by refine awJ hl λi h1 h2=>?_;have:=h i h1;rw[aur,aur,auw h1,auw h2]at this;simpa using this
theorem SQ{α β:Type}(e:α->α->Bool)(he:∀x y,e x y=false↔x=y)(d:α)(a b:List α)(t:β)(hlen:a.length<=9223372036854775807)(hl:a.length=b.length){K:Bool×Unit->Prop}(hF:a≠b->K (false,()))(hT:a=b->K (true,())):
 ∃(I:(Int×Unit)×Unit->Prop),∃(μ:(Int×Unit)×Unit->Nat),I (((0:Int),()),())/\∀(y:(Int×Unit)×Unit),I y->
  bif decide (y.fst.fst<(a.length:Int))then
   ((0:Int)<=y.fst.fst/\y.fst.fst<(a.length:Int))/\((0:Int)<=y.fst.fst/\y.fst.fst<(b.length:Int))/\
     (bif e (a.getD (Int.toNat y.fst.fst) d) (b.getD (Int.toNat y.fst.fst) d)then K (false,())
     else t=t/\I ((IntKind.i64.wrap (y.fst.fst+(1:Int)),()),())/\μ ((IntKind.i64.wrap (y.fst.fst+(1:Int)),()),())<μ y)
  else K (true,()):=by
 refine iL a.length hlen (λn=>∀i,i<n->a.getD i d=b.getD i d) (λi hi=>by omega) (λI μ n hn hJ next=>?_) λI μ hJ=>(by dsimp only;exact dw (by omega) (hT (OU hl hJ)));dsimp only;refine dn (by omega) ⟨⟨by omega,by omega⟩,⟨by omega,by omega⟩,af (λh=>hF λh'=>?_) λh=>⟨rfl,next λi hi=>?_⟩⟩
 .subst h';have:=(he (a.getD n d) (a.getD n d)).2 rfl;have h:e (a.getD n d) (a.getD n d)=true:=h;rw[this]at h;cases h
 .rcases auJ i n with h'|h'
  .exact hJ i h'
  .have:i=n:=by omega
   rw[this];exact(he _ _).1 h
theorem acE{α β:Type}(e:α->α->Bool)(he:∀x y,e x y=false↔x=y)(d:α)(a b:List α)(t:β)(hlen:a.length<=9223372036854775807)(hl:a.length=b.length){K:Bool×Unit->Prop}(hF:a≠b->K (false,()))(hT:a=b->K (true,())):
 ∃(I:(Int×Unit)×Unit->Prop),∃(μ:(Int×Unit)×Unit->Nat),I (((0:Int),()),())/\∀(y:(Int×Unit)×Unit),I y->
  bif decide (y.fst.fst<(a.length:Int))then
   ((0:Int)<=y.fst.fst/\y.fst.fst<(a.length:Int))/\((0:Int)<=y.fst.fst/\y.fst.fst<(b.length:Int))/\True/\
     (bif e (a.getD (Int.toNat y.fst.fst) d) (b.getD (Int.toNat y.fst.fst) d)then K (false,())
     else t=t/\I ((IntKind.i64.wrap (y.fst.fst+(1:Int)),()),())/\μ ((IntKind.i64.wrap (y.fst.fst+(1:Int)),()),())<μ y)
  else K (true,()):=by
 refine iL a.length hlen (λn=>∀i,i<n->a.getD i d=b.getD i d) (λi hi=>by omega) (λI μ n hn hJ next=>?_) λI μ hJ=>(by dsimp only;exact dw (by omega) (hT (OU hl hJ)));dsimp only;refine dn (by omega) ⟨⟨by omega,by omega⟩,⟨by omega,by omega⟩,trivial,af (λh=>hF λh'=>?_) λh=>⟨rfl,next λi hi=>?_⟩⟩
 .subst h';have:=(he (a.getD n d) (a.getD n d)).2 rfl;have h:e (a.getD n d) (a.getD n d)=true:=h;rw[this]at h;cases h
 .rcases auJ i n with h'|h'
  .exact hJ i h'
  .have:i=n:=by omega
   rw[this];exact(he _ _).1 h
end Go.Fw
namespace Sp
open Go Go.Fw
theorem X7{name:Bytes}:∀(s:List ig)(n:Nat),n<s.length->(∀i,i<n->(s.getD i ([],0,())).1≠name)->(s.getD n ([],0,())).1=name->kindOf s name=(s.getD n ([],0,())).2.1
 |[],n,h,_,_=>by simp at h
 |f::r,0,_,_,he=>by
  have he:f.1=name:=he;show(bif decide (f.1=name)then f.2.1 else kindOf r name)=f.2.1;rw[auB he];rfl
 |f::r,n+1,h,hne,he=>by have h0:f.1≠name:=hne 0 (by omega);show(bif decide (f.1=name)then f.2.1 else kindOf r name)=_;rw[auD h0];exact X7 r n (by simpa using h) (λi hi=>hne (i+1) (by omega)) he
theorem QV{name:Bytes}:∀(s:List ig),(∀i,i<s.length->(s.getD i ([],0,())).1≠name)->kindOf s name=0
 |[],_=>rfl
 |f::r,hne=>by have h0:f.1≠name:=hne 0 (by simp);show(bif decide (f.1=name)then f.2.1 else kindOf r name)=_;rw[auD h0];exact QV r λi hi=>hne (i+1) (by simp;omega)
theorem Zv{id:Int}:∀(s:List aK)(k:Int)(n:Nat),n<s.length->(∀i,i<n->(fileAt s i).1≠id)->(fileAt s n).1=id->BU k s id=k+n
 |[],_,n,h,_,_=>by simp at h
 |f::r,k,0,_,_,he=>by
  have he:f.1=id:=he;show(bif decide (f.1=id)then k else BU (k+1) r id)=_;rw[auB he];simp
 |f::r,k,n+1,h,hne,he=>by have h0:f.1≠id:=hne 0 (by omega);show(bif decide (f.1=id)then k else BU (k+1) r id)=_;rw[auD h0];show BU (k+1) r id=_;rw[Zv r (k+1) n (by simpa using h) (λi hi=>hne (i+1) (by omega)) he];omega
theorem TL{id:Int}:∀(s:List aK)(k:Int),(∀i,i<s.length->(fileAt s i).1≠id)->BU k s id=-1
 |[],_,_=>rfl
 |f::r,k,hne=>by have h0:f.1≠id:=hne 0 (by simp);show(bif decide (f.1=id)then k else BU (k+1) r id)=_;rw[auD h0];exact TL r (k+1) λi hi=>hne (i+1) (by simp;omega)
theorem Kt{id:Int}{s:List aK}{n:Nat}(h:n<s.length)(hne:∀i,i<n->(fileAt s i).1≠id)(he:(fileAt s n).1=id):place s id=n:=by unfold place;rw[Zv s 0 n h hne he];omega
theorem UB{id:Int}{s:List aK}(hne:∀i,i<s.length->(fileAt s i).1≠id):place s id=-1:=TL s 0 hne
theorem qj(s:List aK)(id:Int):(place s id=-1/\∀i,i<s.length->(fileAt s i).1≠id)\/∃n,n<s.length/\place s id=n/\(fileAt s n).1=id/\∀i,i<n->(fileAt s i).1≠id:=by
 by_cases h:∃n,n<s.length/\(fileAt s n).1=id
 .obtain⟨n,h1,h2,h3⟩:=(least s.length (p:=λn=>(fileAt s n).1=id) h);exact .inr ⟨n,h1,Kt h1 (λi hi=>h3 i hi) h2,h2,λi hi=>h3 i hi⟩
 .have hne:∀i,i<s.length->(fileAt s i).1≠id:=λi hi e=>h ⟨i,hi,e⟩;exact .inl ⟨UB hne,hne⟩
theorem abD{s:List ig}{n:Nat}(h:n<s.length)(hn:kY s n=false):gy s=false:=by unfold gy;rw[DX h hn];rfl
theorem anl{fs:List ig}{s:List dL}{n:Nat}(h:n<s.length)(hn:kz fs s n=false):jY fs s=false:=DX h hn
theorem ah8{fs:List ig}{f:aK}{n:Nat}(h:n<f.2.2.2.2.1.length)(hn:kz fs f.2.2.2.2.1 n=false):dD fs f=false:=by unfold dD;rw[anl h hn];rfl
theorem aeF{s:bU}{n:Nat}(h:n<s.2.1.length)(hn:kR s n=false):aB s=false:=by unfold aB;rw[DX h hn];rfl
theorem l7{s:bU}{i:Nat}:kR s i=true↔dD s.1 (fileAt s.2.1 i)=true/\(fileAt s.2.1 i).1<s.2.2.1/\(0<i->(fileAt s.2.1 (i-1)).1<(fileAt s.2.1 i).1):=by
 unfold kR;rw[auq,auq,auK,and_assoc];refine awU λ_=>awU λ_=>?_;by_cases h:0<i
 .simp[h]
 .simp[h]
theorem kH{s:bU}:aB s=true↔(∀i,i<s.2.1.length->kR s i=true)/\gy s.1=true/\s.2.1.length<=12/\1<=s.2.2.1/\s.2.2.1<=61:=by
 unfold aB;rw[auq,auq,auq,auq,auK,auK,auK,abL];constructor
 .rintro⟨⟨⟨h1,h2⟩,h3⟩,h4,h5⟩;exact⟨h1,h2,by omega,h4,h5⟩
 .rintro⟨h1,h2,h3,h4,h5⟩;exact⟨⟨⟨h1,h2⟩,by omega⟩,h4,h5⟩
theorem aoB{fs:List ig}{f:aK}(h:dD fs f=true):1<=f.1/\f.1<=60:=by unfold dD at h;simp only[auq,auK]at h;exact h.1.1.2
theorem Ry{fs:List aK}{g:aK}{i:Nat}(h:i<fs.length):fileAt (fs++[g]) i=fileAt fs i:=by unfold fileAt;rw[aur,au3 h,← aur]
theorem alv{fs:List aK}{g:aK}:fileAt (fs++[g]) fs.length=g:=by unfold fileAt;rw[aur,auZ (auI _)];simp
theorem akN{s:bU}{g:aK}(h:aB s=true)(hl:s.2.1.length<12)(hg:dD s.1 g=true)(hid:g.1=s.2.2.1):aB (s.1,s.2.1++[g],s.2.2.1+1,())=true:=by
 obtain⟨h1,h2,h3,h4,h5⟩:=kH.1 h;have hg1:=aoB hg;refine kH.2 ⟨λi hi=>?_,h2,by show(s.2.1++[g]).length<=12;simp;omega,by show 1<=s.2.2.1+1;omega,by show s.2.2.1+1<=61;omega⟩;have hi:i<(s.2.1++[g]).length:=hi;rw[auy,auv,auz]at hi;refine l7.2 ?_;show dD s.1 (fileAt (s.2.1++[g]) i)=true/\(fileAt (s.2.1++[g]) i).1<s.2.2.1+1/\(0<i->(fileAt (s.2.1++[g]) (i-1)).1<(fileAt (s.2.1++[g]) i).1);rcases auJ i s.2.1.length with hlt|hge
 .obtain⟨k1,k2,k3⟩:=l7.1 (h1 i hlt);rw[Ry hlt];refine⟨k1,by omega,λh0=>?_⟩;rw[Ry (by omega)];exact k3 h0
 .have e:i=s.2.1.length:=by omega
  subst e;rw[alv];refine⟨hg,by omega,λh0=>?_⟩;rw[Ry (by omega)];have:=(l7.1 (h1 (s.2.1.length-1) (by omega))).2.1;omega
theorem kS(s:bU)(f:aK):(aI s f=(s,0,false)/\¬(aB s=true/\s.2.1.length<12/\dD s.1 (s.2.2.1,f.2)=true))\/
 (aB s=true/\s.2.1.length<12/\dD s.1 (s.2.2.1,f.2)=true/\aI s f=((s.1,s.2.1++[(s.2.2.1,f.2)],s.2.2.1+1,()),s.2.2.1,true)):=by
 by_cases h:aB s=true/\s.2.1.length<12/\dD s.1 (s.2.2.1,f.2)=true
 .right;refine⟨h.1,h.2.1,h.2.2,?_⟩;unfold aI;dsimp only;rw[h.1,h.2.2,auB (by omega)];rfl
 .left;refine⟨?_,h⟩;have:(aB s&&decide ((s.2.1.length:Int)<12)&&dD s.1 (s.2.2.1,f.2))=false:=by
   cases hb:(aB s&&decide ((s.2.1.length:Int)<12)&&dD s.1 (s.2.2.1,f.2))with
   |false=>rfl
   |true=>simp only[auq,auK]at hb;exact(h ⟨hb.1.1,by omega,hb.2⟩).elim
  unfold aI;dsimp only;rw[this];rfl
theorem FW{s:bU}(f:aK)(h:aB s=true):aB (aI s f).1=true:=by
 rcases kS s f with⟨e,_⟩|⟨h1,h2,h3,e⟩
 .rw[e];exact h
 .rw[e];exact akN h1 h2 h3 rfl
theorem L8{s:bU}{f:aK}(h:bg s)(hf:bV f):bg (aI s f).1:=by
 rcases kS s f with⟨e,_⟩|⟨h1,h2,h3,e⟩
 .rw[e];exact h
 .rw[e];refine⟨h.1,by show(s.2.1++[(s.2.2.1,f.2)]).length<=1000;simp;omega,λg hg=>?_⟩;have hg:g∈s.2.1++[(s.2.2.1,f.2)]:=hg;rcases auL.1 hg with hg|hg
  .exact h.2.2 g hg
  .have:g=(s.2.2.1,f.2):=by simpa using hg
   subst this;exact hf
theorem oN(s:bU)(id:Int):(aV s id=(s,false)/\¬(aB s=true/\0<=place s.2.1 id))\/
 ∃n,n<s.2.1.length/\place s.2.1 id=n/\aB s=true/\aV s id=((s.1,s.2.1.eraseIdx n,s.2.2.1,()),true):=by
 rcases qj s.2.1 id with⟨h,_⟩|⟨n,hn,h,_,_⟩
 .left;refine⟨?_,λh'=>by omega⟩;unfold aV;rw[h];simp
 .cases ho:aB s with
  |false=>
   left;refine⟨?_,λh'=>by cases h'.1⟩;unfold aV;rw[ho];rfl
  |true=>right;refine⟨n,hn,h,rfl,?_⟩;unfold aV;rw[ho,h,auD (by omega),auA];rfl
theorem Zw{fs:List aK}{n i:Nat}:fileAt (fs.eraseIdx n) i=if i<n then fileAt fs i else fileAt fs (i+1):=by unfold fileAt;rw[aur,List.getElem?_eraseIdx];split<;>rw[aur]
theorem ai2{s:bU}{n:Nat}(h:aB s=true)(hn:n<s.2.1.length):aB (s.1,s.2.1.eraseIdx n,s.2.2.1,())=true:=by
 obtain⟨h1,h2,h3,h4,h5⟩:=kH.1 h;have hlen:(s.2.1.eraseIdx n).length=s.2.1.length-1:=awQ hn;refine kH.2 ⟨λi hi=>?_,h2,by show(s.2.1.eraseIdx n).length<=12;omega,h4,h5⟩;have hi:i<(s.2.1.eraseIdx n).length:=hi;refine l7.2 ?_;show dD s.1 (fileAt (s.2.1.eraseIdx n) i)=true/\(fileAt (s.2.1.eraseIdx n) i).1<s.2.2.1/\(0<i->(fileAt (s.2.1.eraseIdx n) (i-1)).1<(fileAt (s.2.1.eraseIdx n) i).1);rw[Zw,Zw];rcases auJ i n with hlt|hge
 .rw[if_pos hlt];obtain⟨k1,k2,k3⟩:=l7.1 (h1 i (by omega));refine⟨k1,k2,λh0=>?_⟩;rw[if_pos (by omega)];exact k3 h0
 .rw[if_neg (by omega)];obtain⟨k1,k2,k3⟩:=l7.1 (h1 (i+1) (by omega));refine⟨k1,k2,λh0=>?_⟩;have k3:=k3 (by omega);rw[axi]at k3;split
  .have:=(l7.1 (h1 i (by omega))).2.2 h0;omega
  .rw[show i-1+1=i by omega];exact k3
theorem FX{s:bU}(id:Int)(h:aB s=true):aB (aV s id).1=true:=by
 rcases oN s id with⟨e,_⟩|⟨n,hn,_,ho,e⟩
 .rw[e];exact h
 .rw[e];exact ai2 ho hn
theorem L9{s:bU}(id:Int)(h:bg s):bg (aV s id).1:=by
 rcases oN s id with⟨e,_⟩|⟨n,hn,_,ho,e⟩
 .rw[e];exact h
 .rw[e];refine⟨h.1,?_,λg hg=>h.2.2 g (List.mem_of_mem_eraseIdx hg)⟩;show(s.2.1.eraseIdx n).length<=1000;have:=h.2.1;rw[awQ hn];omega
theorem jU(s:bU)(f:aK):(aT s f=(s,false)/\¬(aB s=true/\0<=place s.2.1 f.1/\dD s.1 f=true))\/
 ∃n,n<s.2.1.length/\place s.2.1 f.1=n/\aB s=true/\dD s.1 f=true/\aT s f=((s.1,s.2.1.set n f,s.2.2.1,()),true):=by
 rcases qj s.2.1 f.1 with⟨h,_⟩|⟨n,hn,h,_,_⟩
 .left;refine⟨?_,λh'=>by omega⟩;unfold aT;rw[h];simp
 .cases ho:aB s with
  |false=>
   left;refine⟨?_,λh'=>by cases h'.1⟩;unfold aT;rw[ho];rfl
  |true=>
   cases hf:dD s.1 f with
   |false=>
    left;refine⟨?_,λh'=>by cases h'.2.2⟩;unfold aT;rw[hf,au5];rfl
   |true=>right;refine⟨n,hn,h,rfl,rfl,?_⟩;unfold aT;rw[ho,hf,h,auD (by omega),auA];rfl
theorem Tt{s:bU}{f:aK}(h:bg s)(hf:bV f):bg (aT s f).1:=by
 rcases jU s f with⟨e,_⟩|⟨n,hn,_,ho,_,e⟩
 .rw[e];exact h
 .rw[e];refine⟨h.1,by show(s.2.1.set n f).length<=1000;rw[auR];exact h.2.1,λg hg=>?_⟩;rcases aws hg with hg|rfl
  .exact h.2.2 g hg
  .exact hf
theorem aga{s:List aK}{f:aK}(h:f∈s):∃i,i<s.length/\fileAt s i=f:=by obtain⟨i,hi,rfl⟩:=au6 h;refine⟨i,hi,?_⟩;unfold fileAt;rw[aur,auw hi];rfl
theorem Vk{s:List aK}{i:Nat}(h:i<s.length):fileAt s i∈s:=getD_mem h
theorem akO{s:bU}(h:aB s=true):∀(j i:Nat),i<j->j<s.2.1.length->(fileAt s.2.1 i).1<(fileAt s.2.1 j).1
 |0,i,hi,_=>by omega
 |j+1,i,hi,hj=>by
  have h1:=(l7.1 ((kH.1 h).1 (j+1) hj)).2.2 (by omega);rw[axi]at h1;rcases auJ i j with h2|h2
  .have:=akO h j i h2 (by omega);omega
  .have:i=j:=by omega
   rw[this];exact h1
theorem al5{s:bU}(h:aB s=true){f g:aK}(hf:f∈s.2.1)(hg:g∈s.2.1)(e:f.1=g.1):f=g:=by
 obtain⟨i,hi,rfl⟩:=aga hf;obtain⟨j,hj,rfl⟩:=aga hg;rcases awo i j with h1|h1|h1
 .have:=akO h j i h1 hj;omega
 .rw[h1]
 .have:=akO h i j h1 hi;omega
theorem OI{α:Type}{p:α->Bool}{d:α}:∀(l:List α)(n:Nat),n<=l.length->(∀i,i<n->p (l.getD i d)=true)->(n<l.length->p (l.getD n d)=false)->l.takeWhile p=l.take n/\l.dropWhile p=l.drop n
 |[],n,h,_,_=>by simp
 |x::r,0,_,_,h=>by
  have h:p x=false:=h (by simp);constructor<;>simp[h]
 |x::r,n+1,hn,h1,h2=>by have h0:p x=true:=h1 0 (by omega);have:=OI r n (by simpa using hn) (λi hi=>h1 (i+1) (by omega)) λhlt=>h2 (by simpa using hlt);constructor<;>simp[h0,this.1,this.2]
theorem agb{fs:List aK}{n i:Nat}{f:aK}(hn:n<fs.length):fileAt (fs.set n f) i=if n=i then f else fileAt fs i:=by
 unfold fileAt;rw[aur,awG,aur];split
 .rfl
 .rfl
theorem alx{s:bU}{n:Nat}{f:aK}(h:aB s=true)(hn:n<s.2.1.length)(hf:dD s.1 f=true)(he:(fileAt s.2.1 n).1=f.1):aB (s.1,s.2.1.set n f,s.2.2.1,())=true:=by
 obtain⟨h1,h2,h3,h4,h5⟩:=kH.1 h;have hid:∀i,(fileAt (s.2.1.set n f) i).1=(fileAt s.2.1 i).1:=λi=>by
  rw[agb hn];split
  · rename_i e;rw[← e,he]
  .rfl
 refine kH.2 ⟨λi hi=>?_,h2,by show(s.2.1.set n f).length<=12;rw[auR];exact h3,h4,h5⟩;have hi:i<(s.2.1.set n f).length:=hi;rw[auR]at hi;obtain⟨k1,k2,k3⟩:=l7.1 (h1 i hi);refine l7.2 ?_;show dD s.1 (fileAt (s.2.1.set n f) i)=true/\(fileAt (s.2.1.set n f) i).1<s.2.2.1/\(0<i->(fileAt (s.2.1.set n f) (i-1)).1<(fileAt (s.2.1.set n f) i).1);rw[hid,hid];refine⟨?_,k2,k3⟩;rw[agb hn];split
 .exact hf
 .exact k1
theorem Jz{s:bU}(f:aK)(h:aB s=true):aB (aT s f).1=true:=by
 rcases jU s f with⟨e,_⟩|⟨n,hn,hp,ho,hf,e⟩
 .rw[e];exact h
 .rw[e];refine alx ho hn hf ?_;rcases qj s.2.1 f.1 with⟨h',_⟩|⟨m,hm,h',h2,_⟩
  .omega
  .rw[← h2,show n=m by omega]
end Sp
namespace Sp
open Go Go.Fw
theorem abQ{α:Type}{p:α->Bool}{d:α}:∀(s:List α)(k:Int)(n:Nat),n<s.length->(∀i,i<n->p (s.getD i d)=false)->p (s.getD n d)=true->Fe p k s=k+n
 |[],_,n,h,_,_=>by simp at h
 |f::r,k,0,_,_,he=>by
  have he:p f=true:=he;show(bif p f then k else Fe p (k+1) r)=_;rw[he];simp
 |f::r,k,n+1,h,hne,he=>by have h0:p f=false:=hne 0 (by omega);show(bif p f then k else Fe p (k+1) r)=_;rw[h0];show Fe p (k+1) r=_;rw[abQ r (k+1) n (by simpa using h) (λi hi=>hne (i+1) (by omega)) he];omega
theorem VY{α:Type}{p:α->Bool}{d:α}:∀(s:List α)(k:Int),(∀i,i<s.length->p (s.getD i d)=false)->Fe p k s=-1
 |[],_,_=>rfl
 |f::r,k,hne=>by have h0:p f=false:=hne 0 (by simp);show(bif p f then k else Fe p (k+1) r)=_;rw[h0];exact VY r (k+1) λi hi=>hne (i+1) (by simp;omega)
theorem ain{α:Type}{p:α->Bool}{d:α}{s:List α}{n:Nat}(h:n<s.length)(hne:∀i,i<n->p (s.getD i d)=false)(he:p (s.getD n d)=true):findAt p s=n:=by unfold findAt;rw[abQ s 0 n h hne he];omega
theorem abR{α:Type}{p:α->Bool}{d:α}{s:List α}(hne:∀i,i<s.length->p (s.getD i d)=false):findAt p s=-1:=VY s 0 hne
theorem Pj{α:Type}(p:α->Bool)(d:α)(s:List α):(findAt p s=-1/\∀i,i<s.length->p (s.getD i d)=false)\/∃n,n<s.length/\findAt p s=n/\p (s.getD n d)=true/\∀i,i<n->p (s.getD i d)=false:=by
 by_cases h:∃n,n<s.length/\p (s.getD n d)=true
 .obtain⟨n,h1,h2,h3⟩:=least s.length (p:=λn=>p (s.getD n d)=true) h;have h3:∀i,i<n->p (s.getD i d)=false:=λi hi=>by simpa using h3 i hi
  exact .inr ⟨n,h1,ain h1 h3 h2,h2,h3⟩
 .have hne:∀i,i<s.length->p (s.getD i d)=false:=λi hi=>by
   cases hp:p (s.getD i d)with
   |false=>rfl
   |true=>exact(h ⟨i,hi,hp⟩).elim
  exact .inl ⟨abR hne,hne⟩
theorem G6:∀a:Bytes,Op.bytesLess a a=false
 |[]=>rfl
 |x::a=>by show(decide (x<x)||(x==x&&Op.bytesLess a a))=false;rw[G6 a,auD (UInt8.lt_irrefl x),au5];rfl
theorem NJ:∀a b:Bytes,Op.bytesLess a b=false->a≠b->Op.bytesLess b a=true
 |[],[],_,h=>(h rfl).elim
 |x::a,[],_,_=>rfl
 |[],y::b,h,_=>by cases h
 |x::a,y::b,h,hne=>by
  have h:(decide (x<y)||(x==y&&Op.bytesLess a b))=false:=h;show(decide (y<x)||(y==x&&Op.bytesLess b a))=true;rw[avU,avs]at h;by_cases e:x=y
  .subst e;have h2:Op.bytesLess a b=false:=by simpa using h.2
   rw[NJ a b h2 (λe=>hne (by rw[e]))];simp
  .have:y<x:=by have h1:¬x.toNat<y.toNat:=λhh=>h.1 (aw6.2 hh);have h2:x.toNat≠y.toNat:=λhh=>e (UInt8.toNat_inj.1 hh);exact aw6.2 (by omega)
   rw[auB this];rfl
theorem aoC{x y:UInt8}{a b:Bytes}:Op.bytesLess (x::a) (y::b)=true↔x.toNat<y.toNat\/(x=y/\Op.bytesLess a b=true):=by show(decide (x<y)||(x==y&&Op.bytesLess a b))=true↔_;rw[avq,auK,auq,auE,aw6]
theorem FZ:∀a b c:Bytes,Op.bytesLess a b=true->Op.bytesLess b c=true->Op.bytesLess a c=true
 |_,[],_,h,_=>by cases h':(‹Bytes›:Bytes)<;>simp_all [Op.bytesLess]
 |_,_::_,[],_,h=>by cases h
 |[],_::_,_::_,_,_=>rfl
 |x::a,y::b,z::c,h1,h2=>by
  rw[aoC]at h1 h2 ⊢;rcases h1 with h1|⟨rfl,h1⟩
  .rcases h2 with h2|⟨rfl,h2⟩
   .exact .inl (by omega)
   .exact .inl h1
  .rcases h2 with h2|⟨rfl,h2⟩
   .exact .inl h2
   .exact .inr ⟨rfl,FZ a b c h1 h2⟩
theorem IJ{a b:Bytes}(h:Op.bytesLess a b=true):a≠b:=λe=>by rw[e,G6]at h;cases h
theorem agc{a b:Bytes}(h:Op.bytesLess a b=true):Op.bytesLess b a=false:=by
 cases hb:Op.bytesLess b a with
 |false=>rfl
 |true=>have:=FZ a b a h hb;rw[G6]at this;cases this
theorem apu(a b:Bytes):(!(Op.bytesLess a b||a==b))=Op.bytesLess b a:=by
 cases h:Op.bytesLess a b with
 |true=>rw[agc h];rfl
 |false=>
  by_cases e:a=b
  .subst e;rw[G6];simp
  .rw[NJ a b h e];simp[e]
end Sp
namespace Sp
open Go
def nameOf(d:List aF)(i:Nat):Bytes:=(bH d i).1
def dW(d:List aF)(i:Nat):List bK:=(bH d i).2.1
def sZ(r:List dR)(i:Nat):dR:=r.getD i ([],[],())
def iM(r:List dR)(i:Nat):List (Int×Unit):=(sZ r i).2.1
def kF(d:List aF)(aH:List (Int×Unit)):Prop:=
 aH.length=d.length/\(∀i,i<d.length->0<=lv aH i/\lv aH i<=d.length)/\(jc (eH d) λi=>(lv aH i).toNat)/\∀M,jc (eH d) M->∀i,i<d.length->lv aH i<=M i
theorem Yu{d:List aF}{a b:List (Int×Unit)}(h1:kF d a)(h2:kF d b):a=b:=by
 refine aoh (h1.1.trans h2.1.symm) λi hi=>?_;have hi:i<d.length:=by rw[← h1.1];exact hi
 have a1:=h1.2.2.2 _ h2.2.2.1 i hi;have a2:=h2.2.2.2 _ h1.2.2.1 i hi;have:=(h1.2.1 i hi).1;have:=(h2.2.1 i hi).1;omega
theorem am6{d:List aF}(h:∃M,jc (eH d) M/\∀i,i<d.length->M i<d.length):∃s,kF d s:=by
 have hE:=lG d;have hmin:∀i,∃m,(∃M,jc (eH d) M/\M i=m)/\∀M,jc (eH d) M->m<=M i:=λi=>by
  obtain⟨M0,h0,_⟩:=h;have:∀n,(∃M,jc (eH d) M/\M i=n)->∃m,(∃M,jc (eH d) M/\M i=m)/\∀M,jc (eH d) M->m<=M i:=by
   intro n
   induction n using Nat.strongRecOn with
   |_ n ih=>
    intro hn;by_cases hl:∃M,jc (eH d) M/\M i<n
    .obtain⟨M,h1,h2⟩:=hl;exact ih _ h2 ⟨M,h1,rfl⟩
    .exact⟨n,hn,λM hM=>Nat.le_of_not_lt λhlt=>hl ⟨M,hM,hlt⟩⟩
  exact this (M0 i) ⟨M0,h0,rfl⟩
 obtain⟨L,hL⟩:=Classical.axiomOfChoice hmin;have hfix:jc (eH d) L:=λe he=>by obtain⟨⟨M,h1,h2⟩,_⟩:=hL e.1;have a:=(hL e.2.1).2 M h1;have b:=h1 e he;rw[← h2];omega
 have hlv:∀i,i<d.length->lv ((List.range d.length).map λi=>((L i:Int),())) i=L i:=λi hi=>by unfold lv;rw[aur,avE,List.getElem?_range hi];rfl
 refine⟨(List.range d.length).map λi=>((L i:Int),()),by simp,λi hi=>?_,λe he=>?_,λM hM i hi=>?_⟩
 .rw[hlv i hi];obtain⟨M,h1,h2⟩:=h;have:=(hL i).2 M h1;have:=h2 i hi;omega
 .obtain⟨h1,h2,_⟩:=hE e he;have:=hfix e he;dsimp only;rw[hlv _ h1,hlv _ h2];omega
 .rw[hlv i hi];have:=(hL i).2 M hM;omega
def MH(d:List aF)(aH:List (Int×Unit))(s:Bytes):Nat:=(lv aH (aJ d s).toNat).toNat
def due(d:List aF)(nm:Bytes->Bool)(s:Bytes):Prop:=nm s=true/\∃i,i<d.length/\nameOf d i=s
theorem aoD{d:List aF}(h:bI d=true){i:Nat}(hi:i<d.length):bQ (dW d i)=true/\(0<i->Op.bytesLess (nameOf d (i-1)) (nameOf d i)=true):=by
 unfold bI at h;rw[auq]at h;have h1:kE d i=true:=by have:=h.1;unfold jd at this;exact auU.1 this i (avl.2 hi)
 unfold kE at h1;rw[auq,auq]at h1;refine⟨h1.1.2,λh0=>?_⟩;have:=h1.2;rw[auB h0]at this;simpa[nameOf]using this
theorem TM{d:List aF}(h:bI d=true):∀(j i:Nat),i<j->j<d.length->Op.bytesLess (nameOf d i) (nameOf d j)=true
 |0,i,hi,_=>by omega
 |j+1,i,hi,hj=>by
  have h1:=(aoD h hj).2 (by omega);rcases auJ i j with h2|h2
  .exact FZ _ _ _ (TM h j i h2 (by omega)) h1
  .have:i=j:=by omega
   subst this;exact h1
theorem Ii{d:List aF}(h:bI d=true){i j:Nat}(hi:i<d.length)(hj:j<d.length)(e:nameOf d i=nameOf d j):i=j:=by
 rcases awo i j with h1|h1|h1
 .exact(IJ (TM h j i h1 hj) e).elim
 .exact h1
 .exact(IJ (TM h i j h1 hi) e.symm).elim
theorem NV{d:List aF}(h:bI d=true){i:Nat}(hi:i<d.length):aJ d (nameOf d i)=i:=by
 rcases pX d (nameOf d i)with⟨_,h2⟩|⟨n,h1,h2,h3,_⟩
 .refine(h2 (bH d i) ?_ rfl).elim;unfold bH;rw[aur,auw hi];exact avA hi
 .rw[h2,Ii h h1 hi h3]
theorem zM{d:List aF}(h:bI d=true){aH:List (Int×Unit)}{i:Nat}(hi:i<d.length):MH d aH (nameOf d i)=(lv aH i).toNat:=by unfold MH;rw[NV h hi];rfl
theorem Ij{fs:List aK}{d:List aF}(h:bI d=true){aH:List (Int×Unit)}(hl:kF d aH)(nm:Bytes->Bool):ajc (QG fs d) (due d nm) (MH d aH):=by
 intro s t _ ht;obtain⟨_,j,hj,rfl⟩:=ht;have edge:∀i,i<d.length->∀m b,(m=0/\b=false\/m=1/\b=true)->nameOf d j∈fK (dW d i) b->(lv aH j).toNat+m<=(lv aH i).toNat:=λi hi m b hm hd=>by
  refine hl.2.2.1 (i,j,m) (zC.2 ⟨hi,nameOf d j,?_,by rw[NV h hj];omega,by rw[NV h hj];rfl⟩);rcases hm with⟨a,b⟩|⟨a,b⟩
  .subst a b;exact .inl ⟨rfl,hd⟩
  .subst a b;exact .inr ⟨rfl,hd⟩
 refine⟨?_,?_⟩
 .rintro⟨i,hi,rfl,hd⟩;rw[show(bH d i).1=nameOf d i from rfl,zM h hi,zM h hj];exact edge i hi 0 false (.inl ⟨rfl,rfl⟩) hd
 .rintro⟨i,hi,rfl,hd⟩;rw[show(bH d i).1=nameOf d i from rfl,zM h hi,zM h hj];exact edge i hi 1 true (.inr ⟨rfl,rfl⟩) hd
def uz(d:List aF)(out:List dR):Prop:=out.length=d.length/\∀i,i<d.length->(sZ out i).1=nameOf d i
theorem KQ:∀{r:List dR}{s:Bytes},(∀i,i<r.length->(sZ r i).1≠s)->fO r s=[]
 |[],_,_=>rfl
 |x::r,s,h=>by have h0:x.1≠s:=h 0 (by simp);rw[fO,auu.2 h0];exact KQ λi hi=>h (i+1) (by simpa using hi)
theorem Ym:∀{r:List dR}{i:Nat},i<r.length->(∀j,j<i->(sZ r j).1≠(sZ r i).1)->fO r (sZ r i).1=iM r i
 |[],i,h,_=>by simp at h
 |x::r,0,_,_=>by
  show fO (x::r) x.1=x.2.1;rw[fO,auE.2 rfl];rfl
 |x::r,i+1,h,hn=>by have h0:x.1≠(sZ r i).1:=hn 0 (by omega);show fO (x::r) (sZ r i).1=iM r i;rw[fO,auu.2 h0];exact Ym (by simpa using h) λj hj=>hn (j+1) (by omega)
theorem vI{d:List aF}(h:bI d=true){out:List dR}(ho:uz d out){i:Nat}(hi:i<d.length):fO out (nameOf d i)=iM out i:=by rw[← ho.2 i hi];refine Ym (by rw[ho.1];exact hi) λj hj e=>?_;rw[ho.2 j (by omega),ho.2 i hi]at e;have:=Ii h (by omega) hi e;omega
theorem LM{d:List aF}{out:List dR}(ho:uz d out){s:Bytes}(hs:∀i,i<d.length->nameOf d i≠s):fO out s=[]:=
 KQ λi hi=>by rw[ho.1]at hi;rw[ho.2 i hi];exact hs i hi
structure fQ(fs:List aK)(d:List aF)(r:List dR)(nm:Bytes->Bool)(out:List dR):Prop where
 order:uz d out
 kept:∀i,i<d.length->nm (nameOf d i)=false->iM out i=fO r (nameOf d i)
 fix:∀i,i<d.length->nm (nameOf d i)=true->iM out i=sel fs (dW d i) (bD out)
 aH:∃aH,kF d aH/\Eval (QG fs d) (due d nm) (MH d aH) (bD out)
theorem ZW{a b:List (Int×Unit)}(h:a=b)(x:Int):fM a x=fM b x:=by rw[h]
theorem amd{d:List aF}{a b:List dR}(ha:uz d a)(hb:uz d b)(h:∀i,i<d.length->iM a i=iM b i):a=b:=by
 refine awJ (ha.1.trans hb.1.symm) λi h1 h2=>?_;have hi:i<d.length:=by rw[← ha.1];exact h1
 have e1:=ha.2 i hi;have e2:=hb.2 i hi;have e3:=h i hi;unfold iM at e3;unfold sZ at e1 e2 e3;rw[aur,auw h1]at e1 e3;rw[aur,auw h2]at e2 e3;simp only[axw]at e1 e2 e3;exact aw4 (e1.trans e2.symm) (aw4 e3 rfl)
theorem OZ{fs:List aK}{d:List aF}{r:List dR}{nm:Bytes->Bool}{a b:List dR}(h:bI d=true)(ha:fQ fs d r nm a)(hb:fQ fs d r nm b):a=b:=by
 obtain⟨l1,hl1,e1⟩:=ha.aH;obtain⟨l2,hl2,e2⟩:=hb.aH;have off:∀s,¬due d nm s->∀x,bD a s x=bD b s x:=λs hs x=>by
  by_cases hd:∃i,i<d.length/\nameOf d i=s
  .obtain⟨i,hi,rfl⟩:=hd;have hn:nm (nameOf d i)=false:=by rw[avF];exactλhn=>hs ⟨hn,i,hi,rfl⟩
   exact ZW (by rw[vI h ha.order hi,vI h hb.order hi,ha.kept i hi hn,hb.kept i hi hn]) x
  .have hd':∀i,i<d.length->nameOf d i≠s:=λi hi e=>hd ⟨i,hi,e⟩;exact ZW (by rw[LM ha.order hd',LM hb.order hd']) x
 have key:=Rx (U:=due d nm) e1 e2 (Ij h hl1 nm) (Ij h hl2 nm) (λ_ h=>h) (λ_ h=>h) (λ_ _ _ _=>Iff.rfl) (λ_ _ _ h=>h) (λ_ _ _ h=>h)
  λi _ j _=>Classical.or_iff_not_imp_left.2 (off j)
 have all:bD a=bD b:=by
  funext s x
  by_cases hs:due d nm s
  .exact key s hs x
  .exact off s hs x
 refine amd ha.order hb.order λi hi=>?_;cases hn:nm (nameOf d i)with
 |false=>rw[ha.kept i hi hn,hb.kept i hi hn]
 |true=>rw[ha.fix i hi hn,hb.fix i hi hn,all]
def ZX{ι α:Type}(S:Sys ι α)(N:ι->Prop)(aH:ι->Nat)(k:Nat)(X:Ext ι α):Prop:=
 ∀Y:Ext ι α,(∀i,¬(N i/\aH i=k)->∀x,Y i x=X i x)->(∀i,N i->aH i=k->∀x,S.T i Y x->Y i x=true)->∀i,N i->aH i=k->∀x,X i x=true->Y i x=true
open Classical in
theorem ahC{ι α:Type}{S:Sys ι α}{N:ι->Prop}{aH:ι->Nat}(hs:ajc S N aH){m:Nat}{X X':Ext ι α}(h:∀i,¬(N i/\m<aH i)->∀x,X i x=X' i x)(hX:ZX S N aH m X):ZX S N aH m X':=by
 intro Y hY hp i hi hl x hx;have key:=hX (λi x=>if N i/\m<aH i then X i x else Y i x) (λj hj y=>?_) (λj hj hlj y hy=>?_) i hi hl x (by rw[h i (by omega)];exact hx)
 .rw[if_neg (by omega)]at key;exact key
 .by_cases hc:N j/\m<aH j
  .rw[if_pos hc]
  .rw[if_neg hc,hY j hj,h j hc]
 .rw[if_neg (by omega)];have same:∀t,(S.pos j t\/S.neg j t)->¬(N t/\m<aH t):=λt ht hc=>by
   rcases ht with ht|ht
   .have:=(hs j t hj hc.1).1 ht;omega
   .have:=(hs j t hj hc.1).2 ht;omega
  refine hp j hj hlj y (S.mono j _ Y (λt ht z hz=>?_) (λt ht z=>?_) y hy)
  .rw[if_neg (same t (.inl ht))]at hz;exact hz
  .rw[if_neg (same t (.inr ht))]
def canon(fs:List aK)(l:List (Int×Unit)):Prop:=l=(fs.filter λf=>fM l f.1).map λf=>(f.1,())
def distinct(fs:List aK):Prop:=∀f∈fs,∀g∈fs,f.1=g.1->f=g
theorem aoE{fs:List aK}(hd:distinct fs)(q:List bK)(X:BX):canon fs (sel fs q X):=by
 show _=List.map _ (List.filter _ _)
 conv=>lhs;unfold sel
 congr 1;apply axp;intro f hf;rw[auS,IQ,ahB];exact⟨λh=>⟨f,hf,rfl,h⟩,λ⟨g,hg,e,hm⟩=>by rw[hd f hf g hg e.symm];exact hm⟩
theorem aio{fs:List aK}{l:List (Int×Unit)}(h:canon fs l):l.length<=fs.length:=by rw[h,auG];exact auV _ _
theorem filter_lt{α:Type}{p q:α->Bool}(h:∀x,p x=true->q x=true):∀{l:List α},(∃x∈l,q x=true/\p x=false)->(l.filter p).length<(l.filter q).length
 |[],h'=>by obtain⟨x,hx,_⟩:=h';cases hx
 |y::r,h'=>by
  have le:(r.filter p).length<=(r.filter q).length:=by
   clear h'
   induction r with
   |nil=>exact auI _
   |cons z t ih=>
    cases hp:p z with
    |true=>rw[avf hp,avf (h z hp)];simpa using ih
    |false=>
     rw[avg (by simp[hp])];cases hq:q z with
     |true=>rw[avf hq];exact Nat.le_succ_of_le ih
     |false=>rw[avg (by simp[hq])];exact ih
  obtain⟨x,hx,hq,hp⟩:=h';rcases au1.1 hx with rfl|hx
  .rw[avf hq,avg (by simp[hp])];exact Nat.lt_succ_of_le le
  .have ih:=filter_lt h ⟨x,hx,hq,hp⟩;cases hp':p y with
   |true=>rw[avf hp',avf (h y hp')];simpa using ih
   |false=>
    rw[avg (by simp[hp'])];cases hq':q y with
    |true=>rw[avf hq'];exact awq ih
    |false=>rw[avg (by simp[hq'])];exact ih
theorem anm{fs:List aK}{a b:List (Int×Unit)}(ha:canon fs a)(hb:canon fs b)(h:∀x,fM a x=true->fM b x=true)(hne:b≠a):a.length<b.length:=by
 rw[ha,hb,auG,auG];refine filter_lt (p:=λf:aK=>fM a f.1) (q:=λf:aK=>fM b f.1) (λf=>h f.1) (au8 λhno=>hne ?_);rw[ha,hb];congr 1;apply axp;intro f hf;cases hb':fM b f.1 with
 |false=>
  cases ha':fM a f.1 with
  |false=>rfl
  |true=>rw[h _ ha']at hb';cases hb'
 |true=>
  cases ha':fM a f.1 with
  |true=>rfl
  |false=>exact(hno ⟨f,hf,hb',ha'⟩).elim
structure nS(fs:List aK)(d:List aF)(r:List dR)(nm:Bytes->Bool)(aH:List (Int×Unit))(k:Nat)(out:List dR):Prop where
 order:uz d out
 kept:∀i,i<d.length->nm (nameOf d i)=false->iM out i=fO r (nameOf d i)
 later:∀i,i<d.length->nm (nameOf d i)=true->(k:Int)<lv aH i->iM out i=[]
 done:∀i,i<d.length->nm (nameOf d i)=true->lv aH i<k->iM out i=sel fs (dW d i) (bD out)
 Zx:∀m,m<k->ZX (QG fs d) (due d nm) (MH d aH) m (bD out)
 akP:∀i,i<d.length->nm (nameOf d i)=true->lv aH i=k->∀x,fM (iM out i) x=true->(x,())∈sel fs (dW d i) (bD out)
 least:ZX (QG fs d) (due d nm) (MH d aH) k (bD out)
 canon:∀i,i<d.length->nm (nameOf d i)=true->canon fs (iM out i)
theorem apB{fs:List aK}{d:List aF}{r:List dR}{nm:Bytes->Bool}{aH:List (Int×Unit)}(h:bI d=true)(hl:kF d aH){out:List dR}(ho:uz d out)
 (h1:∀i,i<d.length->nm (nameOf d i)=false->iM out i=fO r (nameOf d i)) (h2:∀i,i<d.length->nm (nameOf d i)=true->iM out i=[]):nS fs d r nm aH 0 out where
 order:=ho
 kept:=h1
 later:=λi hi hn _=>h2 i hi hn
 done:=λi hi _ hlt=>by have:=(hl.2.1 i hi).1;omega
 Zx:=λm hm=>by omega
 akP:=λi hi hn _ x hx=>by rw[h2 i hi hn]at hx;cases hx
 least:=λY _ _ s hs _ x hx=>by obtain⟨hn,i,hi,rfl⟩:=hs;have hx:fM (fO out (nameOf d i)) x=true:=hx;rw[vI h ho hi,h2 i hi hn]at hx;cases hx
 canon:=λi hi hn=>by rw[h2 i hi hn];show[]=List.map _ (List.filter _ _);rw[List.filter_eq_nil_iff.2 (λf _=>by simp[fM])];rfl
theorem QI{out:List dR}{i j:Nat}{x:dR}(hi:i<out.length):sZ (out.set i x) j=if j=i then x else sZ out j:=by
 unfold sZ;rw[aur,awG];by_cases h:j=i
 .subst h;rw[if_pos rfl,if_pos hi,if_pos rfl];rfl
 .rw[if_neg (λe=>h e.symm),if_neg h,← aur]
theorem aip{d:List aF}{out:List dR}(ho:uz d out){i:Nat}(hi:i<d.length)(l:List (Int×Unit)):uz d (out.set i (nameOf d i,l,())):=by
 refine⟨by rw[auR];exact ho.1,λj hj=>?_⟩;rw[QI (by rw[ho.1];exact hi)];split
 .next e=>rw[e]
 .exact ho.2 j hj
theorem aoF{d:List aF}(h:bI d=true){out:List dR}(ho:uz d out){i:Nat}(hi:i<d.length)(l:List (Int×Unit)):
 (∀x,bD (out.set i (nameOf d i,l,())) (nameOf d i) x=fM l x)/\∀s,s≠nameOf d i->∀x,bD (out.set i (nameOf d i,l,())) s x=bD out s x:=by
 have ho':=aip ho hi l;refine⟨λx=>?_,λs hs x=>?_⟩
 .refine ZW ?_ x;rw[vI h ho' hi];unfold iM;rw[QI (by rw[ho.1];exact hi),if_pos rfl]
 .refine ZW ?_ x;by_cases hd:∃j,j<d.length/\nameOf d j=s
  .obtain⟨j,hj,rfl⟩:=hd;rw[vI h ho' hj,vI h ho hj];unfold iM;rw[QI (by rw[ho.1];exact hi),if_neg (λe=>hs (by rw[e]))]
  .have hd':∀i,i<d.length->nameOf d i≠s:=λi hi e=>hd ⟨i,hi,e⟩;rw[LM ho' hd',LM ho hd']
theorem ZY{fs:List aK}{d:List aF}(h:bI d=true){i:Nat}(hi:i<d.length){X:BX}{x:Int}:(QG fs d).T (nameOf d i) X x↔(x,())∈sel fs (dW d i) X:=by
 constructor
 .rintro⟨j,hj,e,hx⟩;have:=Ii h hj hi e;subst this;exact hx
 .exactλhx=>⟨i,hi,rfl,hx⟩
theorem at_set{fs:List aK}{d:List aF}{r:List dR}{nm:Bytes->Bool}{aH:List (Int×Unit)}{k:Nat}{out:List dR}(h:bI d=true)(hl:kF d aH)(hf:distinct fs)(A:nS fs d r nm aH k out){i:Nat}(hi:i<d.length)(hn:nm (nameOf d i)=true)(hk:lv aH i=k):
 nS fs d r nm aH k (out.set i (nameOf d i,sel fs (dW d i) (bD out),()))/\(sel fs (dW d i) (bD out)≠iM out i->(iM out i).length<(sel fs (dW d i) (bD out)).length)/\(sel fs (dW d i) (bD out)).length<=fs.length:=by
 have hc:=aoE hf (dW d i) (bD out);have hol:i<out.length:=by rw[A.order.1];exact hi
 have hs:=Ij (fs:=fs) h hl nm;have hd:due d nm (nameOf d i):=⟨hn,i,hi,rfl⟩;have hlv:MH d aH (nameOf d i)=k:=by rw[zM h hi,hk];rfl
 obtain⟨g1,g2⟩:=aoF h A.order hi (sel fs (dW d i) (bD out));have up:∀s x,bD out s x=true->bD (out.set i (nameOf d i,sel fs (dW d i) (bD out),())) s x=true:=λs x hx=>by
  by_cases e:s=nameOf d i
  .subst e;rw[g1,IQ];refine A.akP i hi hn hk x ?_;have hx:fM (fO out (nameOf d i)) x=true:=hx;rw[vI h A.order hi]at hx;exact hx
  .rw[g2 s e];exact hx
 have off:∀s,¬(due d nm s/\MH d aH s=k)->∀x,bD out s x=bD (out.set i (nameOf d i,sel fs (dW d i) (bD out),())) s x:=λs hs' x=>(g2 s (λe=>hs' (by rw[e];exact⟨hd,hlv⟩)) x).symm;have ids:∀j,iM (out.set i (nameOf d i,sel fs (dW d i) (bD out),())) j=if j=i then sel fs (dW d i) (bD out)else iM out j:=λj=>by unfold iM;rw[QI hol];split<;>rfl
 refine⟨⟨aip A.order hi _,λj hj TN=>?_,λj hj TN hlj=>?_,λj hj TN hlj=>?_,λm hm=>?_,λj hj TN hlj x hx=>?_,?_,λj hj TN=>?_⟩,λhne=>?_,aio hc⟩
 .rw[ids,if_neg (λe=>by rw[e,hn]at TN;cases TN)];exact A.kept j hj TN
 .rw[ids,if_neg (λe=>by rw[e,hk]at hlj;omega)];exact A.later j hj TN hlj
 .rw[ids,if_neg (λe=>by rw[e,hk]at hlj;omega),A.done j hj TN hlj];refine Zu λb s hsd x=>off s (λhc=>?_) x;have hdj:due d nm (nameOf d j):=⟨TN,j,hj,rfl⟩;have:=hs (nameOf d j) s hdj hc.1;have ati:MH d aH (nameOf d j)<k:=by rw[zM h hj];have:=(hl.2.1 j hj).1;omega
  cases b with
  |false=>have:=this.1 ⟨j,hj,rfl,hsd⟩;omega
  |true=>have:=this.2 ⟨j,hj,rfl,hsd⟩;omega
 .exact ahC hs (λs hs'=>off s λhc=>hs' ⟨hc.1,by omega⟩) (A.Zx m hm)
 .have hT:(QG fs d).T (nameOf d j) (bD out) x:=by
   rw[ZY h hj];rw[ids]at hx;by_cases e:j=i
   .rw[if_pos e,IQ]at hx;rw[e];exact hx
   .rw[if_neg e]at hx;exact A.akP j hj TN hlj x hx
  rw[← ZY h hj];refine(QG fs d).mono _ _ _ (λs _=>up s) (λs hsd=>off s λhc=>?_) x hT;have:=(hs (nameOf d j) s ⟨TN,j,hj,rfl⟩ hc.1).2 hsd;have ati:MH d aH (nameOf d j)=k:=by rw[zM h hj,hlj];rfl
  omega
 .intro Y hY hp s hsd hls x hx;have Xz:∀t,¬(due d nm t/\MH d aH t=k)->∀x,Y t x=bD out t x:=λt ht x=>(hY t ht x).trans (off t ht x).symm;have base:=A.least Y Xz hp;by_cases e:s=nameOf d i
  .subst e;rw[g1,IQ,← ZY h hi]at hx;refine hp _ hsd hls x ((QG fs d).mono _ _ _ (λt _ y hy=>?_) (λt ht y=>?_) x hx)
   .by_cases ht:due d nm t/\MH d aH t=k
    .exact base t ht.1 ht.2 y hy
    .rw[Xz t ht];exact hy
   .refine(Xz t (λhc=>?_) y).symm;have:=(hs (nameOf d i) t hd hc.1).2 ht;omega
  .rw[g2 s e]at hx;exact base s hsd hls x hx
 .rw[ids];split
  .exact hc
  .exact A.canon j hj TN
 .refine anm (A.canon i hi hn) hc (λx hx=>?_) hne;rw[IQ];exact A.akP i hi hn hk x hx
theorem at_next{fs:List aK}{d:List aF}{r:List dR}{nm:Bytes->Bool}{aH:List (Int×Unit)}{k:Nat}{out:List dR}(h:bI d=true)(A:nS fs d r nm aH k out)(hstill:∀i,i<d.length->nm (nameOf d i)=true->lv aH i=k->sel fs (dW d i) (bD out)=iM out i):nS fs d r nm aH (k+1) out where
 order:=A.order
 kept:=A.kept
 later:=λi hi hn hlt=>A.later i hi hn (by omega)
 done:=λi hi hn hlt=>by
  by_cases e:lv aH i=k
  .exact(hstill i hi hn e).symm
  .exact A.done i hi hn (by omega)
 Zx:=λm hm=>by
  by_cases e:m=k
  .subst e;exact A.least
  .exact A.Zx m (by omega)
 akP:=λi hi hn hl x hx=>by rw[A.later i hi hn (by omega)]at hx;cases hx
 least:=λY _ _ s hs hls x hx=>by obtain⟨hn,i,hi,rfl⟩:=hs;rw[zM h hi]at hls;have hx:fM (fO out (nameOf d i)) x=true:=hx;rw[vI h A.order hi,A.later i hi hn (by omega)]at hx;cases hx
 canon:=A.canon
theorem at_end{fs:List aK}{d:List aF}{r:List dR}{nm:Bytes->Bool}{aH:List (Int×Unit)}{k:Nat}{out:List dR}(h:bI d=true)(hl:kF d aH)(A:nS fs d r nm aH k out)(hk:∀i,i<d.length->lv aH i<k):fQ fs d r nm out where
 order:=A.order
 kept:=A.kept
 fix:=λi hi hn=>A.done i hi hn (hk i hi)
 aH:=⟨aH,hl,{
  fix:=λs hs x=>by obtain⟨hn,i,hi,rfl⟩:=hs;rw[ZY h hi,← A.done i hi hn (hk i hi),← IQ,← vI h A.order hi];rfl
  least:=λm Y hY hp s hs hls=>by
   have hm:m<k:=by obtain⟨hn,i,hi,rfl⟩:=hs;rw[zM h hi]at hls;have:=hk i hi;have:=(hl.2.1 i hi).1;omega
   exact A.Zx m hm Y hY hp s hs hls}⟩
def room(n:Nat)(out:List dR):Nat:=(out.map λx=>n-x.2.1.length).sum
theorem adN{n:Nat}:∀{out:List dR}{i:Nat}{x:dR},i<out.length->(iM out i).length<x.2.1.length->x.2.1.length<=n->room n (out.set i x)<room n out
 |[],i,x,h,_,_=>by simp at h
 |y::r,0,x,_,h1,h2=>by
  have h1:y.2.1.length<x.2.1.length:=h1;show((x::r).map λx=>n-x.2.1.length).sum<((y::r).map λx=>n-x.2.1.length).sum;rw[auW,awm,auW,awm];omega
 |y::r,i+1,x,h,h1,h2=>by have ih:=adN (out:=r) (i:=i) (x:=x) (by simpa using h) h1 h2;show((y::r.set i x).map λx=>n-x.2.1.length).sum<((y::r).map λx=>n-x.2.1.length).sum;rw[auW,awm,auW,awm];unfold room at ih;omega
end Sp
namespace Sp
open Go
abbrev lJ:=Bytes×List (Int×Unit)×List (Int×Unit)×Unit
abbrev eF:=List ig×List aK×Int×List aF×List dR×Unit
instance:DecidableEq (List (Int×Unit)):=inferInstance
instance:DecidableEq dR:=inferInstance
instance:DecidableEq (List dR):=inferInstance
instance:DecidableEq (List dR×Unit):=inferInstance
instance:DecidableEq (List aF×List dR×Unit):=inferInstance
instance:DecidableEq (Int×List aF×List dR×Unit):=inferInstance
instance:DecidableEq (List aK×Int×List aF×List dR×Unit):=inferInstance
instance aug:DecidableEq eF:=(inferInstance:DecidableEq (List ig×List aK×Int×List aF×List dR×Unit))
def dI(l:LS)(s:Bytes):Bool:=l.any λx=>x.1==s
theorem gK{l:LS}{s:Bytes}:dI l s=true↔(s,())∈l:=by unfold dI;rw[avM];exact⟨λ⟨y,hy,h⟩=>by rw[← auE.1 h];exact hy,λh=>⟨_,h,auE.2 rfl⟩⟩
def bF(r:List dR):Prop:=r.length<=1000/\∀x∈r,x.2.1.length<=1000
def aX(c:eF):bU:=(c.1,c.2.1,c.2.2.1,())
def bG(c:eF):List aF:=c.2.2.2.1
def oQ(c:eF):List dR:=c.2.2.2.2.1
def dF(c:eF):Prop:=bg (aX c)/\aC (bG c)/\bF (oQ c)
def TV(f:aK):Prop:=f.2.2.2.2.1.length<=500
def ZE(c:eF):Prop:=∀f∈c.2.1,TV f
def fP(d:List aF):LS:=d.map λx=>(x.1,())
def Xg(d:List aF)(m:Int):Prop:=m<=1000/\∀aH,aj d=true->kF d aH->∀i,i<d.length->lv aH i<=m
open Classical in
noncomputable def cO (c:eF):Bool:=aj (bG c)&&aB (aX c)&&decide (fQ c.2.1 (bG c) [] (λ_=>true) (oQ c))
def gG(a:List dL):LS:=a.map λx=>(x.1,())
def jk(f g:aK):List Bytes:=((f.2.2.2.2.1++g.2.2.2.2.1).map λa=>a.1).filter λs=>!decide (dJ f.2.2.2.2.1 s=dJ g.2.2.2.2.1 s)
def kW(q:List bK):List Bytes:=(q.filter λn=>n.1==2||(n.1==3||n.1==4)).map λn=>n.2.2.2.1
def nX(q:List bK):List Bytes:=(q.filter jH).map λn=>n.2.2.2.1
def linked(q:List bK):Bool:=q.any λn=>n.1==9
def asking(d:List aF)(name:Bytes):LS:=(d.filter λx=>(nX x.2.1).contains name).map λx=>(x.1,())
inductive Reach(d:List aF)(P:Bytes->Prop):Bytes->Prop where
 |base {s}:P s->Reach d P s
 |step {s i}:Reach d P s->i<d.length->s∈nX (dW d i)->Reach d P (nameOf d i)
def isSet(r:LS)(P:Bytes->Prop):Prop:=r.length<=1000/\∀s,dI r s=true↔P s
def reached(d:List aF)(names r:LS):Prop:=isSet r (Reach d λs=>dI names s=true)
def KA(d:List aF)(f g:aK)(s:Bytes):Prop:=
 ∃i,i<d.length/\nameOf d i=s/\(f.1≠g.1\/(∃t,t∈kW (dW d i)/\t∈jk f g)\/(linked (dW d i)=true/\f.2.2.2.1≠g.2.2.2.1))
def touched(d:List aF)(f g:aK)(r:LS):Prop:=r.length<=d.length/\∀s,dI r s=true↔KA d f g s
def VJ(d:List aF)(f g:aK):Bytes->Prop:=Reach d (KA d f g)
open Classical in
noncomputable def ag8 (d:List aF) (f g:aK) (s:Bytes):Bool:=decide (VJ d f g s)
def without(a b:List (Int×Unit)):List (Int×Unit):=a.filter λx=>!fM b x.1
def uw(a:List dR)(x:dR):lJ:=(x.1,without x.2.1 (fO a x.1),without (fO a x.1) x.2.1,())
def zG(y:lJ):Bool:=decide (0<y.2.1.length+y.2.2.1.length)
def xW(a b:List dR):List lJ:=(b.map (uw a)).filter zG
def turned(c:eF)(s:bU)(d:List aF)(nm:Bytes->Bool)(c':eF)(df:List lJ)(ok:Bool):Prop:=
 ok=(aj d&&aB s)/\(ok=true->aX c'=s/\bG c'=d/\fQ s.2.1 d (oQ c) nm (oQ c')/\df=xW (oQ c) (oQ c'))/\(ok=false->c'=c/\df=[])
def updated(c:eF)(f:aK)(c':eF)(df:List lJ)(ok:Bool):Prop:=
 ok=(cO c&&(aT (aX c) f).2)/\
 (ok=true->aX c'=(aT (aX c) f).1/\bG c'=bG c/\fQ (aT (aX c) f).1.2.1 (bG c) (oQ c) (ag8 (bG c) (bf (aX c) f.1).1 f) (oQ c')/\df=xW (oQ c) (oQ c'))/\
 (ok=false->c'=c/\df=[])
def Qa(c:eF):Prop:=dF c/\c.1=usual/\0<c.2.1.length/\cO c=true
def Ky(fs:List aK)(d:List aF)(r:List dR)(nm:Bytes->Bool)(aH:List (Int×Unit))(k:Nat)(Zy:List dR)(i:Nat)(c:Bool)(out:List dR):Prop:=
 nS fs d r nm aH k out/\(c=true->room fs.length out<room fs.length Zy)/\
  (c=false->out=Zy/\∀j,j<i->j<d.length->nm (nameOf d j)=true->lv aH j=k->sel fs (dW d j) (bD out)=iM out j)
theorem BR{fs:List aK}{d:List aF}{r:List dR}{nm:Bytes->Bool}{aH:List (Int×Unit)}{k i:Nat}{Zy out:List dR}{c:Bool}(h:Ky fs d r nm aH k Zy i c out)(hs:nm (nameOf d i)=true->lv aH i=k->sel fs (dW d i) (bD out)=iM out i):Ky fs d r nm aH k Zy (i+1) c out:=
 ⟨h.1,h.2.1,λhc=>⟨(h.2.2 hc).1,λj hj hd hn hl=>by
   rcases auJ j i with h'|h'
   .exact(h.2.2 hc).2 j h' hd hn hl
   .have:j=i:=by omega
    subst this;exact hs hn hl⟩⟩
theorem acZ{fs:List aK}{d:List aF}{r:List dR}{nm:Bytes->Bool}{aH:List (Int×Unit)}{k i:Nat}{Zy out:List dR}{c:Bool}(hd:bI d=true)(hl:kF d aH)(hf:distinct fs)(h:Ky fs d r nm aH k Zy i c out)(hi:i<d.length)(hn:nm (nameOf d i)=true)(hk:lv aH i=k)(hne:sel fs (dW d i) (bD out)≠iM out i):
 Ky fs d r nm aH k Zy (i+1) true (out.set i ((sZ out i).1,sel fs (dW d i) (bD out),())):=by
 obtain⟨A,h1,h2⟩:=h;rw[A.order.2 i hi];obtain⟨g1,g2,g3⟩:=at_set hd hl hf A hi hn hk;refine⟨g1,λ_=>?_,λh=>by cases h⟩;have hr:room fs.length (out.set i (nameOf d i,sel fs (dW d i) (bD out),()))<room fs.length out:=adN (by rw[A.order.1];exact hi) (g2 hne) g3;cases c with
 |true=>have:=h1 rfl;omega
 |false=>rw[(h2 rfl).1]at hr ⊢;exact hr
theorem Q8{fs:List aK}{d:List aF}{r:List dR}{nm:Bytes->Bool}{aH:List (Int×Unit)}{k:Nat}{out:List dR}(A:nS fs d r nm aH k out)(hd:d.length<=1000)(hf:fs.length<=1000)(hr:bF r):bF out:=by
 refine⟨by rw[A.order.1];exact hd,λx hx=>?_⟩;obtain⟨i,hi,rfl⟩:=au6 hx;have hi':i<d.length:=by rw[← A.order.1];exact hi
 have e:(out[i]).2.1=iM out i:=by unfold iM sZ;rw[aur,auw hi];rfl
 rw[e];cases hn:nm (nameOf d i)with
 |true=>exact auM (aio (A.canon i hi' hn)) hf
 |false=>
  rw[A.kept i hi' hn];have:∀l:List dR,(∀x∈l,x.2.1.length<=1000)->(fO l (nameOf d i)).length<=1000:=by
   intro l
   induction l with
   |nil=>exactλ_=>auX _
   |cons x t ih=>
    intro hl;rw[fO];cases x.1==nameOf d i with
    |true=>exact hl x auF
    |false=>exact ih λy hy=>hl y (auH _ hy)
  exact this r hr.2
def qQ(r:List dR)(nm:Bytes->Bool)(x:aF):dR:=(x.1,bif nm x.1 then[]else fO r x.1,())
theorem adO{d:List aF}{r:List dR}{nm:Bytes->Bool}{i:Nat}(hi:i<d.length):sZ (d.map (qQ r nm)) i=qQ r nm (bH d i):=by unfold sZ bH;rw[aur,aur,avE,auw hi];rfl
theorem KR{fs:List aK}{d:List aF}{r:List dR}{nm:Bytes->Bool}{aH:List (Int×Unit)}(hd:bI d=true)(hl:kF d aH):nS fs d r nm aH 0 (d.map (qQ r nm)):=by
 refine apB hd hl ⟨by simp,λi hi=>?_⟩ (λi hi hn=>?_) λi hi hn=>?_
 .rw[adO hi];rfl
 .unfold iM;rw[adO hi];show(bif nm (nameOf d i)then[]else fO r (nameOf d i))=_;rw[hn];rfl
 .unfold iM;rw[adO hi];show(bif nm (nameOf d i)then[]else fO r (nameOf d i))=_;rw[hn];rfl
theorem U8{s:bU}(h:aB s=true):∀(j i:Nat),i<j->j<s.2.1.length->(fileAt s.2.1 i).1<(fileAt s.2.1 j).1:=by
 intro j
 induction j with
 |zero=>intro i hi;omega
 |succ j ih=>
  intro i hi hj;have h1:kR s (j+1)=true:=by unfold aB at h;rw[auq,auq,auq]at h;have:=h.1.1.1;unfold jd at this;exact auU.1 this (j+1) (avl.2 hj)
  have h2:(fileAt s.2.1 j).1<(fileAt s.2.1 (j+1)).1:=by unfold kR at h1;rw[auq]at h1;have:=h1.2;rw[auB (Nat.succ_pos j)]at this;simpa using this
  rcases auJ i j with h3|h3
  .exact Int.lt_trans (ih i h3 (by omega)) h2
  .have:i=j:=by omega
   subst this;exact h2
theorem sJ{s:bU}(h:aB s=true):distinct s.2.1:=by
 intro f hf g hg e;obtain⟨i,hi,rfl⟩:=au6 hf;obtain⟨j,hj,rfl⟩:=au6 hg;have at_:∀k(hk:k<s.2.1.length),fileAt s.2.1 k=s.2.1[k]:=λk hk=>by unfold fileAt;rw[aur,auw hk];rfl
 rcases awo i j with h1|h1|h1
 .have:=U8 h j i h1 hj;rw[at_ i hi,at_ j hj]at this;omega
 .subst h1;rfl
 .have:=U8 h i j h1 hi;rw[at_ i hi,at_ j hj]at this;omega
theorem KT{fs:List aK}{d:List aF}{r r':List dR}{nm nm':Bytes->Bool}{out:List dR}(h:fQ fs d r nm out)(hn:∀i,i<d.length->nm (nameOf d i)=nm' (nameOf d i))(hr:∀i,i<d.length->nm (nameOf d i)=false->fO r (nameOf d i)=fO r' (nameOf d i)):fQ fs d r' nm' out:=by
 have hd:∀s,due d nm s↔due d nm' s:=λs=>by
  constructor
  .rintro⟨a,i,hi,rfl⟩;exact⟨by rw[← hn i hi];exact a,i,hi,rfl⟩
  .rintro⟨a,i,hi,rfl⟩;exact⟨by rw[hn i hi];exact a,i,hi,rfl⟩
 obtain⟨aH,h1,h2⟩:=h.aH;exact⟨h.order,λi hi h'=>by rw[← hn i hi]at h';rw[h.kept i hi h',hr i hi h'],λi hi h'=>h.fix i hi (by rw[hn i hi];exact h'),aH,h1,
  λs hs=>h2.fix s ((hd s).2 hs),λk Y hY hp s hs=>h2.least k Y (λt ht=>hY t λh'=>ht ⟨(hd t).2 h'.1,h'.2⟩) (λt ht=>hp t ((hd t).1 ht)) s ((hd s).2 hs)⟩
theorem ann{fs:List aK}{d:List aF}{r:List dR}{nm:Bytes->Bool}{aH:List (Int×Unit)}{k:Nat}(hd:bI d=true)(hl:kF d aH)(hf:distinct fs):∀(n:Nat)(out:List dR),room fs.length out<=n->nS fs d r nm aH k out->∃out',nS fs d r nm aH (k+1) out':=by
 intro n
 induction n using Nat.strongRecOn with
 |_ n ih=>
  intro out hn A;by_cases hs:∀i,i<d.length->nm (nameOf d i)=true->lv aH i=k->sel fs (dW d i) (bD out)=iM out i
  .exact⟨out,at_next hd A hs⟩
  .obtain⟨i,hi⟩:=awP.1 hs;have h1:i<d.length:=au8 λh=>hi λh'=>(h h').elim;have h2:nm (nameOf d i)=true:=au8 λh=>hi λ_ h'=>(h h').elim;have h3:lv aH i=k:=au8 λh=>hi λ_ _ h'=>(h h').elim;have h4:sel fs (dW d i) (bD out)≠iM out i:=λh=>hi λ_ _ _=>h;obtain⟨g1,g2,g3⟩:=at_set hd hl hf A h1 h2 h3;have hr:room fs.length (out.set i (nameOf d i,sel fs (dW d i) (bD out),()))<room fs.length out:=adN (by rw[A.order.1];exact h1) (g2 h4) g3;exact ih _ (by omega) _ (auI _) g1
theorem ND{fs:List aK}{d:List aF}(r:List dR)(nm:Bytes->Bool){aH:List (Int×Unit)}(hd:bI d=true)(hl:kF d aH)(hf:distinct fs):∃out,fQ fs d r nm out:=by
 have:∀k,∃out,nS fs d r nm aH k out:=λk=>by
  induction k with
  |zero=>exact⟨_,KR hd hl⟩
  |succ k ih=>obtain⟨out,A⟩:=ih;exact ann hd hl hf _ out (auI _) A
 obtain⟨out,A⟩:=this (d.length+1);exact⟨out,at_end hd hl A λi hi=>by have:=(hl.2.1 i hi).2;omega⟩
end Sp
namespace Sp
open Go
theorem KH{d:List aF}{out:List dR}(ho:uz d out){s:Bytes}(hs:¬∃i,i<d.length/\nameOf d i=s)(x:Int):bD out s x=false:=by unfold bD;rw[LM ho λi hi e=>hs ⟨i,hi,e⟩];rfl
theorem incr{fs fs':List aK}{d d':List aF}{old R E:List dR}{nm:Bytes->Bool}(hd:bI d=true)(hd':bI d'=true)
 (h1:fQ fs d [] (λ_=>true) old) (h2:fQ fs' d' old nm R) (h3:fQ fs' d' [] (λ_=>true) E)
 (hcl:∀i,i<d'.length->nm (nameOf d' i)=false->(∃j,j<d.length/\nameOf d j=nameOf d' i/\dW d j=dW d' i)/\(∀X,sel fs (dW d' i) X=sel fs' (dW d' i) X)/\∀b,∀s∈fK (dW d' i) b,nm s=false)
 (hsub:∀j,j<d.length->nm (nameOf d j)=false->∃i,i<d'.length/\nameOf d' i=nameOf d j):R=E:=by
 obtain⟨l1,hl1,e1⟩:=h1.aH;obtain⟨l2,hl2,e2⟩:=h2.aH;obtain⟨l3,hl3,e3⟩:=h3.aH;have out1:∀s,nm s=false->(¬∃i,i<d'.length/\nameOf d' i=s)->∀x,bD old s x=false:=λs hn hs x=>
  KH h1.order (λ⟨j,hj,e⟩=>by obtain⟨i,hi,e'⟩:=hsub j hj (by rw[e];exact hn);exact hs ⟨i,hi,e'.trans e⟩) x
 have atj:=Rx (U:=λs=>nm s=false/\∃i,i<d'.length/\nameOf d' i=s) e1 e3 (Ij hd hl1 _) (Ij hd' hl3 _)
  (λs⟨hn,i,hi,e⟩=>by subst e;obtain⟨j,hj,e,_⟩:=(hcl i hi hn).1;exact⟨rfl,j,hj,e⟩) (λs⟨_,hs⟩=>⟨rfl,hs⟩)
  (λs⟨hn,i,hi,e⟩ X x=>by subst e;obtain⟨⟨j,hj,e,eq⟩,hsel,_⟩:=hcl i hi hn;rw[ZY hd' hi,← e,ZY hd hj,eq,hsel X])
  (λs⟨hn,i,hi,e⟩ t⟨i2,hi2,e2,ht⟩=>by subst e;obtain⟨⟨j,hj,e,eq⟩,_⟩:=hcl i hi hn;have:=Ii hd' hi2 hi e2;subst this;exact⟨j,hj,e,by unfold dW at eq;rw[eq];exact ht⟩)
  (λs⟨hn,i,hi,e⟩ t⟨i2,hi2,e2,ht⟩=>by subst e;obtain⟨⟨j,hj,e,eq⟩,_⟩:=hcl i hi hn;have:=Ii hd' hi2 hi e2;subst this;exact⟨j,hj,e,by unfold dW at eq;rw[eq];exact ht⟩)
  (λs⟨hn,i,hi,e⟩ t ht=>by
    subst e;obtain⟨⟨j,hj,e,eq⟩,_,ano⟩:=hcl i hi hn;have hnt:nm t=false:=by
     rcases ht with⟨j2,hj2,e2,ht⟩|⟨j2,hj2,e2,ht⟩
     .have:=Ii hd hj2 hj (e2.trans e.symm);subst this;exact ano false t (by rw[← eq];exact ht)
     .have:=Ii hd hj2 hj (e2.trans e.symm);subst this;exact ano true t (by rw[← eq];exact ht)
    by_cases hin:∃i,i<d'.length/\nameOf d' i=t
    .exact .inl ⟨hnt,hin⟩
    .exact .inr λx=>by rw[out1 t hnt hin,KH h3.order hin])
 have off:∀s,nm s=false->∀x,bD old s x=bD E s x:=λs hn x=>by
  by_cases hin:∃i,i<d'.length/\nameOf d' i=s
  .exact atj s ⟨hn,hin⟩ x
  .rw[out1 s hn hin,KH h3.order hin]
 have atl:=Rx (U:=due d' nm) e2 e3 (Ij hd' hl2 _) (Ij hd' hl3 _) (λ_ h=>h) (λs⟨_,h⟩=>⟨rfl,h⟩) (λ_ _ _ _=>Iff.rfl) (λ_ _ _ h=>h) (λ_ _ _ h=>h)
  λs _ t _=>by
   by_cases ht:due d' nm t
   .exact .inl ht
   .refine .inr λx=>?_;by_cases hin:∃i,i<d'.length/\nameOf d' i=t
    .obtain⟨i,hi,rfl⟩:=hin;have hn:nm (nameOf d' i)=false:=by rw[avF];exactλhn=>ht ⟨hn,i,hi,rfl⟩
     rw[← off _ hn];unfold bD;rw[vI hd' h2.order hi,h2.kept i hi hn]
    .rw[KH h2.order hin,KH h3.order hin]
 have all:∀s x,bD R s x=bD E s x:=λs x=>by
  by_cases hs:due d' nm s
  .exact atl s hs x
  .by_cases hin:∃i,i<d'.length/\nameOf d' i=s
   .obtain⟨i,hi,rfl⟩:=hin;have hn:nm (nameOf d' i)=false:=by rw[avF];exactλhn=>hs ⟨hn,i,hi,rfl⟩
    rw[← off _ hn];unfold bD;rw[vI hd' h2.order hi,h2.kept i hi hn]
   .rw[KH h2.order hin,KH h3.order hin]
 refine amd h2.order h3.order λi hi=>?_;cases hn:nm (nameOf d' i)with
 |true=>
  rw[h2.fix i hi hn,h3.fix i hi rfl];exact Zu λ_ s _ x=>all s x
 |false=>obtain⟨⟨j,hj,e,eq⟩,hsel,ano⟩:=hcl i hi hn;rw[h2.kept i hi hn,← e,vI hd h1.order hj,h1.fix j hj rfl,h3.fix i hi rfl,eq,hsel];exact Zu λb s hs x=>off s (ano b s hs) x
theorem KI:∀{l:List dL}{s:Bytes},(∀a∈l,a.1≠s)->dJ l s=(0,0,[],())
 |[],_,_=>rfl
 |x::r,s,h=>by rw[dJ,auu.2 (h x auF)];exact KI λa ha=>h a (auH _ ha)
theorem aoG{f g:aK}{t:Bytes}(h:t ∉ jk f g):dJ f.2.2.2.2.1 t=dJ g.2.2.2.2.1 t:=by
 by_cases hm:t∈(f.2.2.2.2.1++g.2.2.2.2.1).map λa=>a.1
 .refine au8 λhne=>h ?_;unfold jk;rw[avv];exact⟨hm,by rw[auD hne];rfl⟩
 .have:∀a∈f.2.2.2.2.1++g.2.2.2.2.1,a.1≠t:=λa ha e=>hm (avL.2 ⟨a,ha,e⟩);rw[KI λa ha=>this a (auL.2 (.inl ha)),KI λa ha=>this a (auL.2 (.inr ha))]
theorem adP{q:List bK}{a:Nat}(h:(nodeAt q a).1≠0):nodeAt q a∈q:=by
 unfold nodeAt at h ⊢;rw[aur]at h ⊢;by_cases ha:a<q.length
 .rw[auw ha];exact avA ha
 .rw[avi (by omega)]at h;exact(h rfl).elim
theorem aoH{q:List bK}{a:Nat}{f g:aK}{X:BX}(hid:f.1=g.1)(hat:∀t∈kW q,dJ f.2.2.2.2.1 t=dJ g.2.2.2.2.1 t)(hlk:linked q=true->f.2.2.2.1=g.2.2.2.1):iP (nodeAt q a) f X=iP (nodeAt q a) g X:=by
 have at_:(nodeAt q a).1=2\/(nodeAt q a).1=3\/(nodeAt q a).1=4->dJ f.2.2.2.2.1 (nodeAt q a).2.2.2.1=dJ g.2.2.2.2.1 (nodeAt q a).2.2.2.1:=λh=>by refine hat _ ?_;unfold kW;rw[avL];refine⟨nodeAt q a,avv.2 ⟨adP (by omega),?_⟩,rfl⟩;simp only[avq,auE];exact h
 unfold iP;by_cases h2:(nodeAt q a).1=2
 .rw[at_ (.inl h2),auE.2 h2];rfl
 rw[auu.2 h2];by_cases h3:(nodeAt q a).1=3
 .rw[at_ (.inr (.inl h3)),auE.2 h3];rfl
 rw[auu.2 h3];by_cases h4:(nodeAt q a).1=4
 .rw[at_ (.inr (.inr h4)),auE.2 h4];rfl
 rw[auu.2 h4];by_cases h8:(nodeAt q a).1=8
 .rw[auE.2 h8,hid];show(bif false then _ else _)=_;rfl
 rw[auu.2 h8];by_cases h9:(nodeAt q a).1=9
 .have:linked q=true:=by unfold linked;exact avM.2 ⟨_,adP (by omega),auE.2 h9⟩
  rw[auE.2 h9,hlk this];rfl
 rw[auu.2 h9];rfl
theorem apC{q:List bK}{f g:aK}{X:BX}(hid:f.1=g.1)(hat:∀t∈kW q,dJ f.2.2.2.2.1 t=dJ g.2.2.2.2.1 t)(hlk:linked q=true->f.2.2.2.1=g.2.2.2.1):∀a,val q f X a=val q g X a:=by
 intro a
 induction a using Nat.strongRecOn with
 |_ a ih=>
  rw[Ls q f X a,Ls q g X a];split
  .split
   .next h=>rw[ih _ h]
   .rfl
  .split
   .split
    .next h=>rw[ih _ h.1,ih _ h.2]
    .rfl
   .split
    .split
     .next h=>rw[ih _ h.1,ih _ h.2]
     .rfl
    .exact aoH hid hat hlk
theorem Zz{q:List bK}{b:Bool}{s:Bytes}(h:s∈fK q b):s∈nX q:=by
 unfold fK at h;rw[awE]at h;obtain⟨i,hi,e⟩:=h;cases hc:jH (nodeAt q i)&&((negated q).getD i (false,())).1==b with
 |false=>rw[hc]at e;cases e
 |true=>rw[hc]at e;rw[auq]at hc;have e:(nodeAt q i).2.2.2.1=s:=Option.some.inj e;unfold nX;rw[avL];refine⟨nodeAt q i,avv.2 ⟨adP λh0=>?_,hc.1⟩,e⟩;have:=hc.1;unfold jH at this;rw[h0]at this;cases this
theorem aqG{fs:List aK}{q:List bK}{X:BX}{n:Nat}{g:aK}(hn:n<fs.length)(hid:(fileAt fs n).1=g.1)(hm:iO q (fileAt fs n) X=iO q g X):sel (fs.set n g) q X=sel fs q X:=by
 have form:∀l:List aK,sel l q X=(l.map λf=>(iO q f X,f.1)).filterMap λp=>bif p.1 then some (p.2,())else none:=λl=>by
  unfold sel
  induction l with
  |nil=>rfl
  |cons f r ih=>
   rw[auW,axf];cases h:iO q f X with
   |true=>rw[avf (p:=λf=>iO q f X) h,auW,ih];rfl
   |false=>rw[avg (p:=λf=>iO q f X) (by simp[h]),ih];rfl
 rw[form,form,List.map_set];congr 1;have hat:fileAt fs n=fs[n]:=by unfold fileAt;rw[aur,auw hn];rfl
 rw[hat]at hid hm;have:(iO q g X,g.1)=(fs.map λf=>(iO q f X,f.1))[n]'(by rw[auG];exact hn):=by rw[List.getElem_map,hm,hid]
 rw[this,List.set_getElem_self]
theorem apo{fs:List aK}{d:List aF}{n:Nat}{g:aK}{old R E:List dR}(hd:bI d=true)(hn:n<fs.length)(hid:(fileAt fs n).1=g.1)
 (h1:fQ fs d [] (λ_=>true) old) (h2:fQ (fs.set n g) d old (ag8 d (fileAt fs n) g) R) (h3:fQ (fs.set n g) d [] (λ_=>true) E):R=E:=by
 have apD:∀s,ag8 d (fileAt fs n) g s=true↔VJ d (fileAt fs n) g s:=λs=>@av3 _ (Classical.propDecidable _);refine incr hd hd h1 h2 h3 (λi hi hna=>⟨⟨i,hi,rfl,rfl⟩,λX=>?_,λb s hs=>?_⟩) λj hj _=>⟨j,hj,rfl⟩
 .have hna:¬VJ d (fileAt fs n) g (nameOf d i):=λh=>by rw[(apD _).2 h]at hna;cases hna
  have hnt:¬KA d (fileAt fs n) g (nameOf d i):=λh=>hna (.base h);refine(aqG hn hid ?_).symm;unfold iO;rw[apC hid (λt ht=>?_) λhl=>?_]
  .exact aoG λhc=>hnt ⟨i,hi,rfl,.inr (.inl ⟨t,ht,hc⟩)⟩
  .exact au8 λhne=>hnt ⟨i,hi,rfl,.inr (.inr ⟨hl,hne⟩)⟩
 .rw[avF];intro hs';have:=(apD s).1 hs';have h':VJ d (fileAt fs n) g (nameOf d i):=.step this hi (Zz hs);rw[(apD _).2 h']at hna;cases hna
end Sp
namespace Sp
open Go
def atm(as:List dL):Prop:=as.Pairwise λx y=>Op.bytesLess x.1 y.1=true
theorem adQ{α:Type}{R:α->α->Prop}(ht:∀a b c,R a b->R b c->R a c)(d:α):∀(l:List α),(∀i,i+1<l.length->R (l.getD i d) (l.getD (i+1) d))->l.Pairwise R
 |[],_=>List.Pairwise.nil
 |[x],_=>List.pairwise_singleton _ _
 |x::y::r,h=>by
  have ih:=adQ ht d (y::r) λi hi=>h (i+1) (by simpa using hi);have h0:R x y:=h 0 (by simp);refine avH.2 ⟨λz hz=>?_,ih⟩;rcases au1.1 hz with rfl|hz
  .exact h0
  .exact ht _ _ _ h0 ((avH.1 ih).1 z hz)
theorem aly{fs:List ig}{as:List dL}:jY fs as=true↔(∀a∈as,jy fs a.1 a.2.1 a.2.2.1 a.2.2.2.1=true)/\atm as:=by
 have at_:∀i(hi:i<as.length),dG as i=as[i]:=λi hi=>by unfold dG;rw[aur,auw hi];rfl
 unfold jY;rw[show(jd as.length (kz fs as)=true)↔∀i,i<as.length->kz fs as i=true from by unfold jd;rw[auU];exact⟨λh i hi=>h i (avl.2 hi),λh i hi=>h i (avl.1 hi)⟩];have one:∀i,kz fs as i=true↔jy fs (dG as i).1 (dG as i).2.1 (dG as i).2.2.1 (dG as i).2.2.2.1=true/\(0<i->Op.bytesLess (dG as (i-1)).1 (dG as i).1=true):=λi=>by
  unfold kz;rw[auq];refine awU λ_=>?_;by_cases h0:0<i
  .rw[auB h0];simp[h0]
  .rw[auD h0];simp[h0]
 constructor
 .intro h;refine⟨λa ha=>?_,?_⟩
  .obtain⟨i,hi,rfl⟩:=au6 ha;have:=((one i).1 (h i hi)).1;rw[at_ i hi]at this;exact this
  .refine adQ (R:=λx y:dL=>Op.bytesLess x.1 y.1=true) (λa b c h1 h2=>FZ _ _ _ h1 h2) ([],0,0,[],()) as λi hi=>?_;exact((one (i+1)).1 (h (i+1) hi)).2 (by omega)
 .rintro⟨h1,h2⟩ i hi;refine(one i).2 ⟨?_,λh0=>?_⟩
  .rw[at_ i hi];exact h1 _ (avA hi)
  .rw[at_ i hi,at_ (i-1) (by omega)];exact axt.1 h2 (i-1) i (by omega) hi (by omega)
theorem akQ{α:Type}[BEq α][LawfulBEq α]:∀(a b:List α),a.Nodup->(∀x∈a,x∈b)->a.length<=b.length
 |[],_,_,_=>auX _
 |x::r,b,hn,h=>by
  rw[axD]at hn;have hx:=h x auF;have ih:=akQ r (b.erase x) hn.2 λy hy=>by
   have hne:y≠x:=λe=>by subst e;exact hn.1 hy
   rw[List.mem_erase_of_ne hne];exact h y (auH _ hy)
  rw[List.length_erase_of_mem hx]at ih;have:0<b.length:=List.length_pos_of_mem hx;rw[auv];omega
theorem agd:∀{fs:List ig}{s:Bytes},kindOf fs s≠0->s∈fs.map λf=>f.1
 |[],_,h=>(h rfl).elim
 |f::r,s,h=>by
  rw[kindOf]at h;by_cases e:f.1=s
  .rw[auW,e];exact auF
  .rw[auD e]at h;rw[auW];exact auH _ (agd h)
theorem apq{fs:List ig}{as:List dL}(h:jY fs as=true):as.length<=fs.length:=by
 obtain⟨h1,h2⟩:=aly.1 h;have:=akQ (as.map λa=>a.1) (fs.map λf=>f.1) ?_ λs hs=>?_
 .rw[auG,auG]at this;exact this
 .unfold List.Nodup;rw[List.pairwise_map];exact h2.imp λ{a b} hab=>IJ hab
 .obtain⟨a,ha,rfl⟩:=avL.1 hs;have hm:=h1 a ha;unfold jy at hm;simp only[auq,auK,axo,avs]at hm;exact agd (by rw[← hm.2];exact hm.1.2)
end Sp
namespace Sp
open Go
def belowD(name:Bytes)(x:aF):Bool:=Op.bytesLess x.1 name
def kD(name:Bytes)(x:aF):Bool:=!(x.1==name)
def jR(d:List aF)(x:aF):List aF:=d.takeWhile (belowD x.1)++x::(d.dropWhile (belowD x.1)).filter (kD x.1)
def cZ(d:List aF)(x:aF):List aF×Bool:=bif bI d&&bI (jR d x)then(jR d x,true)else(d,false)
theorem ap7{α:Type}(p:α->Bool):∀l:List α,l.dropWhile p=l.drop (l.takeWhile p).length
 |[]=>rfl
 |x::r=>by
  rw[List.dropWhile_cons,aww];cases p x with
  |true=>simp only[if_true,auv,List.drop_succ_cons];exact ap7 p r
  |false=>rfl
theorem ap8{α:Type}(p:α->Bool):∀l:List α,l.takeWhile p=l.take (l.takeWhile p).length
 |[]=>rfl
 |x::r=>by
  rw[aww];cases p x with
  |true=>simp only[if_true,auv,awS];exact congrArg (x::·) (ap8 p r)
  |false=>rfl
theorem ZA{α:Type}(p:α->Bool)(d:α):∀(l:List α)(k:Nat),k<=l.length->(∀i,i<k->p (l.getD i d)=true)->(k<l.length->p (l.getD k d)=false)->(l.takeWhile p).length=k
 |[],0,_,_,_=>rfl
 |[],_+1,h,_,_=>by simp at h
 |x::r,0,_,_,h=>by
  have:p x=false:=h (by simp);rw[aww,this];rfl
 |x::r,k+1,hk,h1,h2=>by have:p x=true:=h1 0 (by omega);rw[aww,this];simp only[if_true,auv];rw[ZA p d r k (by simpa using hk) (λi hi=>h1 (i+1) (by omega)) λh=>h2 (by simpa using h)]
theorem adR{α:Type}(p:α->Bool)(d:α):∀(l:List α),(∀i,i<(l.takeWhile p).length->p (l.getD i d)=true)/\((l.takeWhile p).length<l.length->p (l.getD (l.takeWhile p).length d)=false)
 |[]=>⟨λi h=>by simp at h,λh=>by simp at h⟩
 |x::r=>by
  obtain⟨h1,h2⟩:=adR p d r;rw[aww];cases hp:p x with
  |false=>exact⟨λi h=>by simp at h,λ_=>hp⟩
  |true=>
   simp only[if_true,auv];refine⟨λi hi=>?_,λh=>h2 (by omega)⟩;cases i with
   |zero=>exact hp
   |succ i=>exact h1 i (by omega)
theorem akR{α:Type}(p:α->Bool)(l:List α):(l.takeWhile p).length<=l.length:=by have:=congrArg List.length (aw9 (p:=p) (l:=l));rw[auy]at this;omega
def ni(d:List aF)(s:Bytes):Nat:=(d.takeWhile (belowD s)).length
theorem Fg(d:List aF)(x:aF):jR d x=d.take (ni d x.1)++x::(d.drop (ni d x.1)).filter (kD x.1):=by unfold jR ni;rw[← ap8,← ap7]
theorem anp(d:List aF)(x:aF):(jR d x).length<=d.length+1:=by rw[Fg,auy,aut,auv];have:=auV (kD x.1) (d.drop (ni d x.1));rw[au2]at this;have:=akR (belowD x.1) d;unfold ni at*;omega
theorem agf{d:List aF}{x y:aF}(h:y∈jR d x):y=x\/y∈d:=by
 rw[Fg]at h;rcases auL.1 h with h|h
 .exact .inr (avV h)
 .rcases au1.1 h with h|h
  .exact .inl h
  .exact .inr (awr (avv.1 h).1)
theorem anq{d:List aF}{x y:aF}(h:y∈d):y.1=x.1\/y∈jR d x:=by
 by_cases e:y.1=x.1
 .exact .inl e
 .right;rw[Fg];rw[← avJ (ni d x.1) d]at h;rcases auL.1 h with h|h
  .exact auL.2 (.inl h)
  .refine auL.2 (.inr (auH _ (avv.2 ⟨h,?_⟩)));unfold kD;rw[auu.2 e];rfl
theorem akS(d:List aF)(x:aF):x∈jR d x:=by rw[Fg];exact auL.2 (.inr auF)
theorem afy{d:List aF}{x:aF}(hd:aC d)(hl:d.length<=999)(hx:x.2.1.length<=1000):aC (jR d x):=by
 refine⟨by have:=anp d x;omega,λy hy=>?_⟩;rcases agf hy with rfl|h
 .exact hx
 .exact hd.2 y h
theorem aqD{d:List aF}{x:aF}(hd:bI d=true){n:Nat}(hn:n<d.length)(he:nameOf d n=x.1):d.set n x=jR d x:=by
 have hk:ni d x.1=n:=by
  refine ZA _ ([],[],()) d n (by omega) (λi hi=>?_) λ_=>?_
  .have:=TM hd n i hi hn;rw[he]at this;exact this
  .show Op.bytesLess (nameOf d n) x.1=false;rw[he];exact G6 _
 rw[Fg,hk,aw0,if_pos hn];congr 1;have e:d.drop n=bH d n::d.drop (n+1):=by unfold bH;rw[av4 hn,aur,auw hn];rfl
 rw[e,avg (by unfold kD;rw[show(bH d n).1=x.1 from he];simp)];rw[avR.2];intro y hy;obtain⟨i,hi,rfl⟩:=au6 hy;rw[au2]at hi;rw[List.getElem_drop];have h1:=TM hd (n+1+i) n (by omega) (by omega);have e2:nameOf d (n+1+i)=(d[n+1+i]'(by omega)).1:=by unfold nameOf bH;rw[aur,auw (by omega)];rfl
 rw[he,e2]at h1;unfold kD;rw[auu.2 (IJ h1).symm];rfl
theorem al9{d:List aF}{x:aF}(hd:bI d=true)(hno:∀y∈d,y.1≠x.1){k:Nat}(hk:k<=d.length)(h1:∀i,i<k->Op.bytesLess x.1 (nameOf d i)=false)(h2:k<d.length->Op.bytesLess x.1 (nameOf d k)=true):d.take k++([x]++d.drop k)=jR d x:=by
 have nm:∀i,i<d.length->nameOf d i≠x.1:=λi hi=>hno _ (by unfold bH;rw[aur,auw hi];exact avA hi);have hl:ni d x.1=k:=by
  refine ZA _ ([],[],()) d k hk (λi hi=>?_) λh=>?_
  .exact NJ _ _ (h1 i hi) (nm i (by omega)).symm
  .exact agc (h2 h)
 rw[Fg,hl,avR.2]
 .rfl
 .intro y hy;unfold kD;rw[auu.2 (hno y (awr hy))];rfl
def uy(d:List aF)(x:aF)(n:Nat):List aF:=
 if n<=ni d x.1 then d.take n else d.take (ni d x.1)++x::((d.take n).drop (ni d x.1)).filter (kD x.1)
theorem afz{d:List aF}{x:aF}{n:Nat}(hn:n<d.length)(h:n<ni d x.1):uy d x (n+1)=uy d x n++[bH d n]/\belowD x.1 (bH d n)=true:=by unfold uy;rw[if_pos (by omega),if_pos (by omega)];exact⟨take_succ' d n ([],[],()) hn,(adR (belowD x.1) ([],[],()) d).1 n h⟩
theorem aie{d:List aF}{x:aF}{n:Nat}(hn:n<d.length)(h:n=ni d x.1):uy d x (n+1)=uy d x n++x::(bif kD x.1 (bH d n)then[bH d n]else[])/\belowD x.1 (bH d n)=false:=by
 unfold uy;rw[if_neg (by omega),if_pos (by omega),← h];refine⟨?_,?_⟩
 .congr 2;rw[take_succ' d n ([],[],()) hn,avy (by rw[aut];omega),awe (by rw[aut];omega),avP];unfold bH;cases hc:kD x.1 (d.getD n ([],[],()))with
  |true=>rw[avf hc];rfl
  |false=>rw[avg (by rw[hc];exact Bool.false_ne_true)];rfl
 .have:=(adR (belowD x.1) ([],[],()) d).2;unfold ni at h;rw[← h]at this;exact this hn
theorem alq{d:List aF}{x:aF}{n:Nat}(hn:n<d.length)(h:ni d x.1<n):uy d x (n+1)=uy d x n++(bif kD x.1 (bH d n)then[bH d n]else[]):=by unfold uy;rw[if_neg (by omega),if_neg (by omega),take_succ' d n ([],[],()) hn,avy (by rw[aut];omega),avw,← avY,← avb];congr 1
theorem anf{d:List aF}{x:aF}:jR d x=if d.length<=ni d x.1 then uy d x d.length++[x]else uy d x d.length:=by
 have hle:=akR (belowD x.1) d;rw[Fg];unfold uy;by_cases h:d.length<=ni d x.1
 .have e:ni d x.1=d.length:=by unfold ni at h ⊢;omega
  rw[if_pos h,if_pos h,e,auO,List.drop_length];rfl
 .rw[if_neg h,if_neg h,auO]
theorem ane(d:List aF)(x:aF)(n:Nat):(uy d x n).length<=n+1:=by
 unfold uy;by_cases h:n<=ni d x.1
 .rw[if_pos h,aut];omega
 .rw[if_neg h,auy,aut,auv];have:=auV (kD x.1) ((d.take n).drop (ni d x.1));rw[au2,aut]at this;omega
theorem apv{fs:List aK}{d:List aF}{x:aF}{nm:Bytes->Bool}{old R E:List dR}(hd:bI d=true)(hd':bI (jR d x)=true)
 (hnm:∀s,nm s=true↔Reach (jR d x) (λt=>t=x.1) s)
 (h1:fQ fs d [] (λ_=>true) old) (h2:fQ fs (jR d x) old nm R) (h3:fQ fs (jR d x) [] (λ_=>true) E):R=E:=by
 have at_:∀(l:List aF) i,i<l.length->bH l i∈l:=λl i hi=>by unfold bH;rw[aur,auw hi];exact avA hi
 have of_:∀(l:List aF) y,y∈l->∃i,i<l.length/\bH l i=y:=λl y hy=>by obtain⟨i,hi,e⟩:=au6 hy;exact⟨i,hi,by unfold bH;rw[aur,auw hi];exact e⟩
 refine incr hd hd' h1 h2 h3 (λi hi hno=>⟨?_,λ_=>rfl,λb s hs=>?_⟩) λj hj _=>?_
 .rcases agf (at_ _ i hi)with e|h
  .have:nm (nameOf (jR d x) i)=true:=(hnm _).2 (.base (by unfold nameOf;rw[e]));rw[this]at hno;cases hno
  .obtain⟨j,hj,e⟩:=of_ d _ h;exact⟨j,hj,by unfold nameOf;rw[e],by unfold dW;rw[e]⟩
 .rw[avF];intro h;have:nm (nameOf (jR d x) i)=true:=(hnm _).2 (.step ((hnm s).1 h) hi (Zz hs));rw[this]at hno;cases hno
 .rcases anq (x:=x) (at_ d j hj)with e|h
  .obtain⟨i,hi,e'⟩:=of_ _ _ (akS d x);exact⟨i,hi,by unfold nameOf;rw[e',e]⟩
  .obtain⟨i,hi,e'⟩:=of_ _ _ h;exact⟨i,hi,by unfold nameOf;rw[e']⟩
theorem apw{fs:List aK}{d:List aF}{r out:List dR}(h:fQ fs d r (dI (fP d)) out):fQ fs d [] (λ_=>true) out:=by
 have e:∀i,i<d.length->dI (fP d) (nameOf d i)=true:=λi hi=>by rw[gK];unfold fP;exact avL.2 ⟨bH d i,by unfold bH;rw[aur,auw hi];exact avA hi,rfl⟩
 exact KT h (λi hi=>e i hi) λi hi h'=>by rw[e i hi]at h';cases h'
def became(c:eF)(s:bU)(d:List aF)(ok0:Bool)(c':eF)(df:List lJ)(ok:Bool):Prop:=
 ok=ok0/\(ok=true->aX c'=s/\bG c'=d/\cO c'=true/\df=xW (oQ c) (oQ c'))/\(ok=false->c'=c/\df=[])
def apt(c:eF):Prop:=∀f∈c.2.1,f.2.2.2.2.1.length<=400
theorem akE{c:eF}(h:apt c):ZE c:=λf hf=>auM (h f hf) (by decide)
def iU(c:eF):Prop:=dF c/\apt c/\(bG c).length<=10
def named(f:aK)(w:Bytes):aK:=(f.1,f.2.1,f.2.2.1,f.2.2.2.1,kN f.2.2.2.2.1 [110] 2 0 w,())
def Pm(c:eF)(u id:Int):Bool:=(bf (aX c) id).2&&lW (bf (aX c) id).1 u
end Sp
namespace Sp
open Go
theorem TP{l:List aF}{i:Nat}(hi:i<l.length):bH l i∈l:=by unfold bH;rw[aur,auw hi];exact avA hi
theorem Z4{l:List aF}{y:aF}(hy:y∈l):∃i,i<l.length/\bH l i=y:=by obtain⟨i,hi,e⟩:=au6 hy;exact⟨i,hi,by unfold bH;rw[aur,auw hi];exact e⟩
theorem VF{d:List aF}:bI d=true↔(∀x∈d,iD x.1=true/\bQ x.2.1=true)/\(d.Pairwise λx y=>Op.bytesLess x.1 y.1=true)/\d.length<=5:=by
 have one:∀i,kE d i=true↔(iD (bH d i).1=true/\bQ (bH d i).2.1=true)/\(0<i->Op.bytesLess (bH d (i-1)).1 (bH d i).1=true):=λi=>by
  unfold kE;rw[auq,auq];refine awU λ_=>?_;by_cases h0:0<i
  .rw[auB h0];simp[h0]
  .rw[auD h0];simp[h0]
 unfold bI;rw[auq,show(jd d.length (kE d)=true)↔∀i,i<d.length->kE d i=true from by unfold jd;rw[auU];exact⟨λh i hi=>h i (avl.2 hi),λh i hi=>h i (avl.1 hi)⟩,auK];constructor
 .rintro⟨h,hl⟩;refine⟨λx hx=>?_,?_,by omega⟩
  .obtain⟨i,hi,rfl⟩:=Z4 hx;exact((one i).1 (h i hi)).1
  .exact adQ (R:=λx y:aF=>Op.bytesLess x.1 y.1=true) (λa b c h1 h2=>FZ _ _ _ h1 h2) ([],[],()) d λi hi=>((one (i+1)).1 (h (i+1) hi)).2 (by omega)
 .rintro⟨h1,h2,hl⟩;refine⟨λi hi=>(one i).2 ⟨h1 _ (TP hi),λh0=>?_⟩,by omega⟩;have e:∀k(hk:k<d.length),bH d k=d[k]:=λk hk=>by unfold bH;rw[aur,auw hk];rfl
  rw[e i hi,e (i-1) (by omega)];exact axt.1 h2 (i-1) i (by omega) hi (by omega)
def lS(d:List aF)(name:Bytes):List aF:=d.filter (kD name)
def removeDir(d:List aF)(name:Bytes):List aF×Bool:=bif bI d&&decide (0<=aJ d name)then(lS d name,true)else(d,false)
theorem KE{d:List aF}{name:Bytes}{y:aF}:y∈lS d name↔y∈d/\y.1≠name:=by unfold lS kD;rw[avv];simp
theorem abS{d:List aF}(h:bI d=true)(name:Bytes):bI (lS d name)=true:=by obtain⟨h1,h2,h3⟩:=VF.1 h;exact VF.2 ⟨λx hx=>h1 x (KE.1 hx).1,List.Pairwise.filter _ h2,auM (auV _ _) h3⟩
theorem abT{d:List aF}(h:bI d=true){y:aF}(hy:y∈d):0<=aJ d y.1/\(aJ d y.1).toNat<d.length/\bH d (aJ d y.1).toNat=y:=by obtain⟨i,hi,rfl⟩:=Z4 hy;have:=NV h hi;unfold nameOf at this;rw[this,auA];exact⟨by omega,hi,rfl⟩
theorem EK{d:List aF}(h:aj d=true)(name:Bytes):aj (lS d name)=true:=by
 obtain⟨hd,L,hL⟩:=kC.1 h;have hd':=abS hd name;refine kC.2 ⟨hd',λi=>L (aJ d (nameOf (lS d name) i)).toNat,?_⟩;rintro⟨i,j,m⟩ he;obtain⟨hi,s,h2,h3,h4⟩:=zC.1 he;have mi:=(KE.1 (TP hi)).1;obtain⟨_,g2,g3⟩:=abT hd mi;have hj:=G5 h3;have ej:nameOf (lS d name) j=s:=by
  rcases pX (lS d name) s with⟨e,_⟩|⟨n,hn,e,en,_⟩
  .omega
  .have:j=n:=by omega
   subst this;exact en
 have hj':j<(lS d name).length:=by omega
 have mj:=(KE.1 (TP hj')).1;obtain⟨k1,_,_⟩:=abT hd mj;have ej2:(bH (lS d name) j).1=s:=ej;rw[ej2]at k1;have:=hL ((aJ d (nameOf (lS d name) i)).toNat,(aJ d s).toNat,m) (zC.2 ⟨g2,s,by unfold nameOf;rw[g3];exact h2,k1,rfl⟩);show L (aJ d (nameOf (lS d name) j)).toNat+m<=_;rw[ej];exact this
theorem aou{fs:List aK}{d:List aF}{name:Bytes}{nm:Bytes->Bool}{old R E:List dR}(hd:bI d=true)
 (hnm:∀s,nm s=true↔Reach d (λt=>t=name) s)
 (h1:fQ fs d [] (λ_=>true) old) (h2:fQ fs (lS d name) old nm R) (h3:fQ fs (lS d name) [] (λ_=>true) E):R=E:=by
 have hd':=abS hd name;refine incr hd hd' h1 h2 h3 (λi hi hno=>?_) λj hj hno=>?_
 .obtain⟨j,hj,e⟩:=Z4 (KE.1 (TP hi)).1;refine⟨⟨j,hj,by unfold nameOf;rw[e],by unfold dW;rw[e]⟩,λ_=>rfl,λb s hs=>?_⟩;rw[avF];intro h;have hs':s∈nX (dW d j):=by unfold dW;rw[e];exact Zz hs
  have:nm (nameOf d j)=true:=(hnm _).2 (.step ((hnm s).1 h) hj hs');rw[show nameOf d j=nameOf (lS d name) i by unfold nameOf;rw[e]]at this;rw[this]at hno;cases hno
 .have hne:(bH d j).1≠name:=λe=>by have:nm (nameOf d j)=true:=(hnm _).2 (.base e);rw[this]at hno;cases hno
  obtain⟨i,hi,e⟩:=Z4 (KE.2 ⟨TP hj,hne⟩);exact⟨i,hi,by unfold nameOf;rw[e]⟩
theorem drop_at{d:List aF}(hd:bI d=true){n:Nat}(hn:n<d.length):d.take n++d.drop (n+1)=lS d (nameOf d n):=by
 have hp:=(VF.1 hd).2.1;have e:d=d.take n++bH d n::d.drop (n+1):=by
  have:bH d n=d[n]:=by unfold bH;rw[aur,auw hn];rfl
  rw[this,← av4 hn,avJ]
 have hp':=hp;rw[e,awM,avH]at hp';have hnm:(bH d n).1=nameOf d n:=rfl;generalize nameOf d n=nm at hnm;unfold lS
 conv=>rhs;rw[e]
 rw[avw,avg (by unfold kD;rw[hnm];simp),avR.2,avR.2]
 .intro y hy;unfold kD;rw[← hnm,auu.2 (IJ (hp'.2.1.1 y hy)).symm];rfl
 .intro y hy;unfold kD;rw[← hnm,auu.2 (IJ (hp'.2.2 y hy _ auF))];rfl
def JD(u:Int):Bool:=decide (0<=u)&&decide (u<=2)
def xC(x:gq):aK:=(x.2.1,x.2.2.1,x.2.2.2.1,x.2.2.2.2.1,x.2.2.2.2.2.1,())
def aht(x:gq):Int:=x.2.2.2.2.2.2.1
def JC(x:gq):aF:=(x.2.2.2.2.2.2.2.1,x.2.2.2.2.2.2.2.2.1,())
def F5(c:eF)(x:gq):bU:=
 bif x.1==1 then(aI (aX c) (xC x)).1 else bif x.1==2 then(aT (aX c) (xC x)).1 else bif x.1==3 then(aV (aX c) (aht x)).1 else aX c
def E5(c:eF)(x:gq):List aF:=bif x.1==4 then(cZ (bG c) (JC x)).1 else bif x.1==5 then(removeDir (bG c) (JC x).1).1 else bG c
noncomputable def Du (c:eF) (u:Int) (x:gq):Bool:=
 bif x.1==1 then decide ((xC x).2.1=u)&&(aI (aX c) (xC x)).2.2 else
 bif x.1==2 then(Pm c u (xC x).1&&decide ((xC x).2.1=u))&&(aT (aX c) (xC x)).2 else
 bif x.1==3 then Pm c u (aht x)&&(aV (aX c) (aht x)).2 else
 bif x.1==4 then(cZ (bG c) (JC x)).2&&aj (cZ (bG c) (JC x)).1 else
 bif x.1==5 then(removeDir (bG c) (JC x).1).2 else false
noncomputable def Pn (c:eF) (u:Int) (x:gq):Bool:=(JD u&&cO c)&&Du c u x
def applied(c:eF)(u:Int)(x:gq)(c':eF)(df:List lJ)(ok:Bool):Prop:=became c (F5 c x) (E5 c x) (Pn c u x) c' df ok
def CW(f:aK):Int:=1+f.2.2.2.2.1.length
def jv(fs:List aK)(u:Int):Int:=((fs.filter λf=>decide (f.2.1=u)).map CW).sum
def uQ(q:List (Int×Unit))(u:Int):Int:=bif decide (0<=u)&&decide (u<=(q.length:Int)-1)then(q.getD u.toNat (0,())).1 else 0
def wP(fs:List aK)(q:List (Int×Unit)):Bool:=decide (jv fs 0<=uQ q 0)&&(decide (jv fs 1<=uQ q 1)&&decide (jv fs 2<=uQ q 2))
def pG(x:gq):Prop:=(xC x).2.2.2.2.1.length<=400/\(JC x).2.1.length<=1000
def qM(u:Int):eF->List gq->eF->Prop
 |c,[],c'=>c'=c
 |c,x::r,c'=>∃c1 df,applied c u x c1 df true/\qM u c1 r c'
def sS(c:eF)(u:Int)(l:List gq)(q:List (Int×Unit))(c':eF)(df:List lJ)(ok:Bool):Prop:=
 (ok=true↔cO c=true/\l.length<=6/\∃c2,qM u c l c2/\wP c2.2.1 q=true)/\(ok=true->qM u c l c'/\df=xW (oQ c) (oQ c'))/\(ok=false->c'=c/\df=[])
end Sp
namespace Sp
open Go
abbrev KW:=Bool×List dL×Unit
def PI:KW:=(false,[],())
def arq(l:List dL)(x:dL):Bool:=l.any λy=>y.1==x.1
def ars(l:List dL)(x:dL):Bool:=l.any λy=>y.1==x.1&&!decide (y.2=x.2)
def aoI(name:Bytes)(y:dL):Bool:=Op.bytesLess y.1 name
def atn(l:List dL)(x:dL):List dL:=l.takeWhile (aoI x.1)++x::l.dropWhile (aoI x.1)
def akT(a:List dL):List dL->List dL->Option (List dL)
 |acc,[]=>some acc
 |acc,x::r=>bif ars a x then none else bif arq a x then akT a acc r else akT a (atn acc x) r
def ash:Option (List dL)->KW
 |some l=>(true,l,())
 |none=>PI
def aru(a b:KW):KW:=bif a.1&&b.1 then ash (akT a.2.1 a.2.1 b.2.1)else PI
def ato(a b:KW):KW:=bif a.1==b.1 then PI else bif a.1 then a else b
def TQ(q:List bK)(f:aK)(X:BX)(a:Nat)(m:Bool):KW:=
 if val q f X a=m then(true,[],())
 else if(nodeAt q a).1=5 then(if h:(nodeAt q a).2.1.toNat<a then TQ q f X (nodeAt q a).2.1.toNat (!m)else PI)
 else if jG (nodeAt q a)=true then(if h:(nodeAt q a).2.1.toNat<a/\(nodeAt q a).2.2.1.toNat<a then
  (bif ((nodeAt q a).1==6)==m then aru (TQ q f X (nodeAt q a).2.1.toNat m) (TQ q f X (nodeAt q a).2.2.1.toNat m)
   else ato (TQ q f X (nodeAt q a).2.1.toNat m) (TQ q f X (nodeAt q a).2.2.1.toNat m))else PI)
 else if(nodeAt q a).1=3/\m=true then(true,[((nodeAt q a).2.2.2.1,(nodeAt q a).2.2.2.2.1,(nodeAt q a).2.2.2.2.2.1,(nodeAt q a).2.2.2.2.2.2.1,())],())
 else if(nodeAt q a).1=2/\m=false then(true,[((nodeAt q a).2.2.2.1,0,0,[],())],())
 else PI
termination_by a
decreasing_by all_goals omega
end Sp
namespace Sp
open Go
def arv(a l:List dL):List dL:=l.foldl (λa x=>kN a x.1 x.2.1 x.2.2.1 x.2.2.2.1) a
def aoJ(l:List dL)(i:Nat):List dL:=l.take i++l.drop (i+1)
def edited(f:aK)(l:List dL):aK:=(f.1,f.2.1,f.2.2.1,f.2.2.2.1,arv f.2.2.2.2.1 l,())
end Sp
namespace Sp
open Go
open Classical in
noncomputable def aoK (fs:List aK) (d:List aF):List dR:=if h:∃out,fQ fs d [] (λ_=>true) out then h.choose else[]
noncomputable def aqH (s:bU) (d:List aF) (u:Int) (name:Bytes):List (Int×Unit):=fO (aoK (visible s u).2.1 d) name
noncomputable def listed (s:bU) (d:List aF) (u:Int) (name:Bytes) (id:Int):Bool:=fM (aqH s d u name) id
def ame(d:List aF)(name:Bytes):aF×Bool:=bif decide (aJ d name<0)then(([],[],()),false)else(bH d (aJ d name).toNat,true)
def arw(s:bU)(u id:Int):aK:=(bf (visible s u) id).1
def asi(q:List bK)(f:aK)(X:BX)(m:Bool):KW:=bif bQ q then TQ q f X (q.length-1) m else PI
noncomputable def anr (c:eF) (u:Int) (name:Bytes) (id:Int) (b:Bool):KW:=
 asi (ame (bG c) name).1.2.1 (arw (aX c) u id) (bD (aoK (visible (aX c) u).2.1 (bG c))) b
def akU(c:eF)(id:Int)(l:List dL):bU×Bool:=aT (aX c) (edited (bf (aX c) id).1 l)
noncomputable def needed (c:eF) (u:Int) (name:Bytes) (id:Int) (b:Bool) (l:List dL) (i:Nat):Bool:=
 (akU c id (aoJ l i)).2&&!(listed (akU c id (aoJ l i)).1 (bG c) u name id==b)
noncomputable def arx (c:eF) (u:Int) (name:Bytes) (id:Int) (b:Bool) (w:KW):Bool:=
 w.1&&((akU c id w.2.1).2&&((listed (akU c id w.2.1).1 (bG c) u name id==b)&&jd w.2.1.length (needed c u name id b w.2.1)))
noncomputable def atp (c:eF) (u:Int) (name:Bytes) (id:Int) (b:Bool):Bool:=
 (cO c&&(Pm c u id&&(ame (bG c) name).2))&&arx c u name id b (anr c u name id b)
def written(c:eF)(u:Int)(name:Bytes)(id:Int)(b:Bool)(c':eF)(set:List dL)(ok:Bool):Prop:=
 ok=atp c u name id b/\(ok=true->aX c'=(akU c id (anr c u name id b).2.1).1/\bG c'=bG c/\cO c'=true/\set=(anr c u name id b).2.1)/\(ok=false->c'=c/\set=[])
end Sp
namespace Go.Fw
open Go
theorem Ku{α:Type}{l:List α}{lo:Nat}{news:List α}(h:lo+news.length<=l.length):(bZ l lo news).length=l.length:=by unfold bZ;simp only[auy,aut,au2];omega
theorem Qw{α:Type}{l:List α}{lo k:Nat}{news:List α}(hk:k<=lo)(h:lo<=l.length):(bZ l lo news).take k=l.take k:=by unfold bZ;rw[avb,avx (by rw[aut];omega),awd,awC hk]
theorem eqL{α β:Type}(e:α->α->Bool)(he:∀x y,e x y=false↔x=y)(d:α)(a b:List α)[Decidable (a=b)](t:β)(hlen:a.length<=maxLen){K:Bool×Unit->Prop}(hK:K (decide (a=b),())):
 bif ((a.length:Int)) !=(b.length:Int)then K (false,())else
 ∃(I:(Int×Unit)×Unit->Prop),∃(μ:(Int×Unit)×Unit->Nat),I (((0:Int),()),())/\∀(y:(Int×Unit)×Unit),I y->
  bif decide (y.fst.fst<(a.length:Int))then
   ((0:Int)<=y.fst.fst/\y.fst.fst<(a.length:Int))/\((0:Int)<=y.fst.fst/\y.fst.fst<(b.length:Int))/\
     (bif e (a.getD (Int.toNat y.fst.fst) d) (b.getD (Int.toNat y.fst.fst) d)then K (false,())
     else t=t/\I ((IntKind.i64.wrap (y.fst.fst+(1:Int)),()),())/\μ ((IntKind.i64.wrap (y.fst.fst+(1:Int)),()),())<μ y)
  else K (true,()):=by
 rw[maxLen_eq]at hlen;refine af (λh=>?_) λh=>?_
 .have h:(a.length:Int)≠b.length:=by simpa using h
  rw[auD λe=>h (by rw[e])]at hK;exact hK
 .have h:(a.length:Int)=b.length:=by simpa using h
  exact SQ e he d a b t hlen (by omega) (λe=>by rw[auD e]at hK;exact hK) λe=>by rw[auB e]at hK;exact hK
theorem apk{α β:Type}(e:α->α->Bool)(he:∀x y,e x y=false↔x=y)(d:α)(a b:List α)[Decidable (a=b)](t:β)(hlen:a.length<=maxLen){K:Bool×Unit->Prop}(hK:K (decide (a=b),())):
 bif ((a.length:Int)) !=(b.length:Int)then K (false,())else
 ∃(I:(Int×Unit)×Unit->Prop),∃(μ:(Int×Unit)×Unit->Nat),I (((0:Int),()),())/\∀(y:(Int×Unit)×Unit),I y->
  bif decide (y.fst.fst<(a.length:Int))then
   ((0:Int)<=y.fst.fst/\y.fst.fst<(a.length:Int))/\((0:Int)<=y.fst.fst/\y.fst.fst<(b.length:Int))/\True/\
     (bif e (a.getD (Int.toNat y.fst.fst) d) (b.getD (Int.toNat y.fst.fst) d)then K (false,())
     else t=t/\I ((IntKind.i64.wrap (y.fst.fst+(1:Int)),()),())/\μ ((IntKind.i64.wrap (y.fst.fst+(1:Int)),()),())<μ y)
  else K (true,()):=by
 rw[maxLen_eq]at hlen;refine af (λh=>?_) λh=>?_
 .have h:(a.length:Int)≠b.length:=by simpa using h
  rw[auD λe=>h (by rw[e])]at hK;exact hK
 .have h:(a.length:Int)=b.length:=by simpa using h
  exact acE e he d a b t hlen (by omega) (λe=>by rw[auD e]at hK;exact hK) λe=>by rw[auB e]at hK;exact hK
theorem YN{α β:Type}(p:α->Bool)(d:α)(a:List α)(t:β)(hlen:a.length<=maxLen){K:Int×Unit->Prop}(hK:K (Sp.findAt p a,())):
 ∃(I:(Int×Unit)×Unit->Prop),∃(μ:(Int×Unit)×Unit->Nat),I (((0:Int),()),())/\∀(y:(Int×Unit)×Unit),I y->
  bif decide (y.fst.fst<(a.length:Int))then
   ((0:Int)<=y.fst.fst/\y.fst.fst<(a.length:Int))/\True/\
     (bif p (a.getD (Int.toNat y.fst.fst) d)then K (y.fst.fst,())
     else t=t/\I ((IntKind.i64.wrap (y.fst.fst+(1:Int)),()),())/\μ ((IntKind.i64.wrap (y.fst.fst+(1:Int)),()),())<μ y)
  else K ((-1:Int),()):=by
 rw[maxLen_eq]at hlen;refine iL a.length hlen (λn=>∀i,i<n->p (a.getD i d)=false) (λi hi=>by omega) (λI μ n hn hJ next=>?_) λI μ hJ=>?_
 .dsimp only;refine dn (by omega) ⟨⟨by omega,by omega⟩,trivial,af (λh=>?_) λh=>⟨rfl,next λi hi=>?_⟩⟩
  .rw[Sp.ain hn hJ h]at hK;exact hK
  .rcases auJ i n with h'|h'
   .exact hJ i h'
   .have:i=n:=by omega
    rw[this];exact h
 .dsimp only;refine dw (by omega) ?_;rw[Sp.abR hJ]at hK;exact hK
theorem aoi{α β:Type}(p:α->Bool)(d:α)(a:List α)(t:β)(hlen:a.length<=maxLen){K:Int×Unit->Prop}(hK:K (Sp.findAt p a,())):
 ∃(I:(Int×Unit)×Unit->Prop),∃(μ:(Int×Unit)×Unit->Nat),I (((0:Int),()),())/\∀(y:(Int×Unit)×Unit),I y->
  bif decide (y.fst.fst<(a.length:Int))then
   ((0:Int)<=y.fst.fst/\y.fst.fst<(a.length:Int))/\
     (bif p (a.getD (Int.toNat y.fst.fst) d)then K (y.fst.fst,())
     else t=t/\I ((IntKind.i64.wrap (y.fst.fst+(1:Int)),()),())/\μ ((IntKind.i64.wrap (y.fst.fst+(1:Int)),()),())<μ y)
  else K ((-1:Int),()):=by
 obtain⟨I,μ,h0,h1⟩:=YN p d a t hlen hK;refine⟨I,μ,h0,λy hy=>?_⟩;have:=h1 y hy;revert this;cases decide (y.fst.fst<(a.length:Int))with
 |true=>exactλh=>⟨h.1,h.2.2⟩
 |false=>exact id
theorem aqw{α β:Type}(p:α->Bool)(d:α)(s:List α)(t:β)(hlen:s.length<=4611686018427387903){K:(List α×Unit)×Unit->Prop}(hK:K ((s.filter λx=>!p x,()),())):
 bif Sp.findAt p s==(-1:Int)then K ((s,()),())else
 ∃(I:(Int×Int×Unit)×List α×Unit->Prop),∃(μ:(Int×Int×Unit)×List α×Unit->Nat),
  I ((Sp.findAt p s,IntKind.i64.wrap (Sp.findAt p s+(1:Int)),()),s,())/\∀(y:(Int×Int×Unit)×List α×Unit),I y->
    bif decide (y.fst.snd.fst<(↑(List.length y.snd.fst):Int))then
     ((0:Int)<=y.fst.snd.fst/\y.fst.snd.fst<(↑(List.length y.snd.fst):Int))/\Int.toNat y.fst.snd.fst<List.length y.snd.fst/\True/\
       (bif !p (List.getD y.snd.fst (Int.toNat y.fst.snd.fst) d)then
         ((0:Int)<=y.fst.fst/\y.fst.fst<(↑(List.length y.snd.fst):Int))/\Int.toNat y.fst.fst<List.length y.snd.fst/\t=t/\
           I ((IntKind.i64.wrap (y.fst.fst+(1:Int)),IntKind.i64.wrap (y.fst.snd.fst+(1:Int)),()),List.set y.snd.fst (Int.toNat y.fst.fst) (List.getD y.snd.fst (Int.toNat y.fst.snd.fst) d),())/\
           μ ((IntKind.i64.wrap (y.fst.fst+(1:Int)),IntKind.i64.wrap (y.fst.snd.fst+(1:Int)),()),List.set y.snd.fst (Int.toNat y.fst.fst) (List.getD y.snd.fst (Int.toNat y.fst.snd.fst) d),())<μ y
       else t=t/\I ((y.fst.fst,IntKind.i64.wrap (y.fst.snd.fst+(1:Int)),()),y.snd.fst,())/\μ ((y.fst.fst,IntKind.i64.wrap (y.fst.snd.fst+(1:Int)),()),y.snd.fst,())<μ y)
    else
     (0:Nat)<List.length y.snd.fst/\((0:Int)<=y.fst.fst/\y.fst.fst<=(↑(List.length y.snd.fst):Int))/\
       (0:Nat)+Int.toNat y.fst.fst+(List.length y.snd.fst-Int.toNat y.fst.fst)<=List.length y.snd.fst/\
         ((0:Nat)<(bZ y.snd.fst ((0:Nat)+Int.toNat y.fst.fst) (List.replicate (List.length y.snd.fst-Int.toNat y.fst.fst) d)).length/\
           List.length y.snd.fst<=(bZ y.snd.fst ((0:Nat)+Int.toNat y.fst.fst) (List.replicate (List.length y.snd.fst-Int.toNat y.fst.fst) d)).length)/\
           ((0:Int)<=y.fst.fst/\y.fst.fst<=(↑(List.take (List.length y.snd.fst) (bZ y.snd.fst ((0:Nat)+Int.toNat y.fst.fst) (List.replicate (List.length y.snd.fst-Int.toNat y.fst.fst) d))).length:Int))/\
             K ((List.take (Int.toNat y.fst.fst) (List.take (List.length y.snd.fst) (bZ y.snd.fst ((0:Nat)+Int.toNat y.fst.fst) (List.replicate (List.length y.snd.fst-Int.toNat y.fst.fst) d))),()),()):=by
 rcases Sp.Pj p d s with⟨e,hno⟩|⟨n,hn,e,he,hne⟩
 .rw[e];have:s.filter (λx=>!p x)=s:=avR.2 λx hx=>by obtain⟨i,hi,rfl⟩:=au6 hx;have:=hno i hi;rw[aur,auw hi]at this;exact congrArg Bool.not this
  rw[this]at hK;exact hK
 .rw[e];have e1:(((n:Nat):Int)==-1)=false:=by rw[auu];omega
  rw[e1];have w1:∀k:Nat,k<=4611686018427387903->IntKind.i64.wrap ((k:Int)+1)=((k+1:Nat):Int):=λk hk=>eP _ (by omega);rw[w1 n (by omega)];refine⟨λy=>∃(i j:Nat)(l:List α),y=(((i:Int),(j:Int),()),l,())/\i<j/\j<=s.length/\l.length=s.length/\l.take i=(s.take j).filter (λx=>!p x)/\∀t,j<=t->l.getD t d=s.getD t d,
   λy=>((s.length:Int)-y.1.2.1).toNat,⟨n,n+1,s,rfl,by omega,by omega,rfl,?_,λ_ _=>rfl⟩,?_⟩
  .rw[Sp.take_succ' s n d hn,avw,awO];have h1:(!p (s.getD n d))=false:=congrArg Bool.not he;rw[h1];have h2:(s.take n).filter (λx=>!p x)=s.take n:=avR.2 λx hx=>by
    obtain⟨i,hi,rfl⟩:=au6 hx;have hi':i<n:=by rw[aut]at hi;omega
    have:=hne i hi';rw[aur,auw (by omega)]at this;rw[List.getElem_take];exact congrArg Bool.not this
   rw[h2];simp
  .rintro y ⟨i,j,l,rfl,hij,hj,hl,ht,hs⟩;dsimp only;refine af (λh=>?_) λh=>?_
   .have h:j<s.length:=by have h:=avN h;omega
    have hsj:=hs j (auI _);rw[auA,auA,hsj,w1 i (by omega),w1 j (by omega)];refine⟨⟨by omega,by omega⟩,by omega,trivial,af (λh2=>⟨⟨by omega,by omega⟩,by omega,rfl,⟨i+1,j+1,_,rfl,by omega,by omega,by rw[auR];exact hl,?_,λt ht=>?_⟩,by omega⟩) λh2=>⟨rfl,⟨i,j+1,l,rfl,by omega,by omega,hl,?_,λt ht=>hs t (by omega)⟩,by omega⟩⟩
    .rw[Sp.take_succ' _ i d (by rw[auR];omega),Sp.take_succ' s j d h,avw,awO,List.take_set_of_le (auI _),ht];have h3:(!p (s.getD j d))=true:=h2;rw[h3,aur,awG,if_pos rfl,if_pos (by omega)];rfl
    .rw[aur,awG,if_neg (by omega),← aur];exact hs t (by omega)
    .rw[Sp.take_succ' s j d h,avw,awO,ht];have h3:(!p (s.getD j d))=false:=h2;rw[h3];simp
   .have h:j=s.length:=by have h:=of_decide_eq_false h;omega
    rw[auA,auY];have l1:(bZ l i (List.replicate (l.length-i) d)).length=l.length:=Ku (by rw[awk];omega);refine⟨by omega,⟨by omega,by omega⟩,by omega,⟨by rw[l1];omega,by rw[l1];omega⟩,⟨by omega,by rw[aut,l1];omega⟩,?_⟩;rw[awd,awC (by omega),Qw (auI _) (by omega),ht,h,auO];exact hK
end Go.Fw
namespace Go.Fw
open Go
theorem apj{α β:Type}(p:α->Bool)(d:α)(a:List α)(t:β)(hlen:a.length<=maxLen){K:Bool×Unit->Prop}(hK:K (a.any p,())):
 ∃(I:(Int×Unit)×Unit->Prop),∃(μ:(Int×Unit)×Unit->Nat),I (((0:Int),()),())/\∀(y:(Int×Unit)×Unit),I y->
  bif decide (y.fst.fst<(a.length:Int))then
   ((0:Int)<=y.fst.fst/\y.fst.fst<(a.length:Int))/\
     (bif p (a.getD (Int.toNat y.fst.fst) d)then K (true,())
     else t=t/\I ((IntKind.i64.wrap (y.fst.fst+(1:Int)),()),())/\μ ((IntKind.i64.wrap (y.fst.fst+(1:Int)),()),())<μ y)
  else K (false,()):=by
 rw[maxLen_eq]at hlen;refine iL a.length hlen (λn=>∀i,i<n->p (a.getD i d)=false) (λi hi=>by omega) (λI μ n hn hJ next=>?_) λI μ hJ=>?_
 .dsimp only;refine dn (by omega) ⟨⟨by omega,by omega⟩,af (λh=>?_) λh=>⟨rfl,next λi hi=>?_⟩⟩
  .have:a.any p=true:=avM.2 ⟨a.getD n d,by rw[aur,auw hn];exact avA hn,h⟩;rw[this]at hK;exact hK
  .rcases auJ i n with h'|h'
   .exact hJ i h'
   .have:i=n:=by omega
    rw[this];exact h
 .dsimp only;refine dw (by omega) ?_;have:a.any p=false:=by rw[awF];intro x hx;obtain⟨i,hi,rfl⟩:=au6 hx;have:=hJ i hi;rw[aur,auw hi]at this;simpa using this
  rw[this]at hK;exact hK
theorem UN{α:Type}(p:α->Bool)(s:List α):decide (Sp.findAt p s>=0)=s.any p:=by
 cases hs:s with
 |nil=>rfl
 |cons d r=>
  rw[← hs];rcases Sp.Pj p d s with⟨e,h⟩|⟨n,hn,e,h1,h2⟩
  .rw[e,auD (by omega)]
   symm
   rw[awF];intro x hx;obtain⟨i,hi,rfl⟩:=au6 hx;have:=h i hi;rw[aur,auw hi]at this;simpa using this
  .rw[e,auB (by omega)]
   symm
   exact avM.2 ⟨s.getD n d,by rw[aur,auw hn];exact avA hn,h1⟩
theorem jL{α:Type}(p:α->Bool)(d:α)(l:List α){n:Nat}(h:n<l.length):(l.take (n+1)).filter p=(l.take n).filter p++(bif p (l.getD n d)then[l.getD n d]else[]):=by rw[Sp.take_succ' l n d h,avw,awO];cases p (l.getD n d)<;>rfl
theorem acT{α β δ:Type}(p:α->Bool)(g:α->β)(d:α)(a:List α)(t:δ){A:Int->Prop}(hA:∀n:Nat,n<a.length->A n)(hlen:a.length<=4000000){K:List β×Unit->Prop}(hK:K ((a.filter p).map g,())):
 ∃(I:(Unit×Int×Unit)×List β×Unit->Prop),∃(μ:(Unit×Int×Unit)×List β×Unit->Nat),I (((),(0:Int),()),[],())/\∀(y:(Unit×Int×Unit)×List β×Unit),I y->
  bif decide (y.1.2.1<(a.length:Int))then
   ((0:Int)<=y.1.2.1/\y.1.2.1<(a.length:Int))/\A y.1.2.1/\
     (bif p (a.getD (Int.toNat y.1.2.1) d)then List.length y.2.1+1<=big/\t=t/\I (((),IntKind.i64.wrap (y.1.2.1+(1:Int)),()),y.2.1++[g (a.getD (Int.toNat y.1.2.1) d)],())/\μ (((),IntKind.i64.wrap (y.1.2.1+(1:Int)),()),y.2.1++[g (a.getD (Int.toNat y.1.2.1) d)],())<μ y
     else t=t/\I (((),IntKind.i64.wrap (y.1.2.1+(1:Int)),()),y.2)/\μ (((),IntKind.i64.wrap (y.1.2.1+(1:Int)),()),y.2)<μ y)
  else K y.2:=by
 refine dM (λi(x:List β)=>(((),i,()),x,())) (λy=>y.1.2.1) (λ_ _=>rfl) a.length (by omega) (λn l=>l=((a.take n).filter p).map g) (by simp) (λI μ n l hn hJ next=>?_) λI μ l hJ=>?_
 .subst hJ;have hl:(((a.take n).filter p).map g).length<=n:=by have:=auV p (a.take n);rw[auG];rw[aut]at this;omega
  have step:=jL p d a hn;dsimp only;refine dn (by omega) ⟨⟨by omega,by omega⟩,hA n hn,af (λh=>⟨by rw[bY];omega,rfl,next _ ?_⟩) λh=>⟨rfl,next _ ?_⟩⟩
  .have h:p (a.getD n d)=true:=h;rw[step,h,avd];rfl
  .have h:p (a.getD n d)=false:=h;rw[step,h,avd];simp
 .subst hJ;dsimp only;refine dw (by omega) ?_;rw[auO];exact hK
theorem aks{α β δ:Type}(g:α->β)(d:α)(a:List α)(t:δ)(hlen:a.length<=4000000){K:List β×Unit->Prop}(hK:K (a.map g,())):
 ∃(I:(Unit×Int×Unit)×List β×Unit->Prop),∃(μ:(Unit×Int×Unit)×List β×Unit->Nat),I (((),(0:Int),()),[],())/\∀(y:(Unit×Int×Unit)×List β×Unit),I y->
  bif decide (y.1.2.1<(a.length:Int))then
   ((0:Int)<=y.1.2.1/\y.1.2.1<(a.length:Int))/\
     List.length y.2.1+1<=big/\t=t/\I (((),IntKind.i64.wrap (y.1.2.1+(1:Int)),()),y.2.1++[g (a.getD (Int.toNat y.1.2.1) d)],())/\μ (((),IntKind.i64.wrap (y.1.2.1+(1:Int)),()),y.2.1++[g (a.getD (Int.toNat y.1.2.1) d)],())<μ y
  else K y.2:=by
 obtain⟨I,μ,h0,h1⟩:=acT (λ_=>true) g d a t (A:=λ_=>True) (λ_ _=>trivial) hlen (K:=K) (by rw[avR.2 λ_ _=>rfl];exact hK);refine⟨I,μ,h0,λy hy=>?_⟩;have:=h1 y hy;revert this;cases decide (y.1.2.1<(a.length:Int))with
 |true=>exactλh=>⟨h.1,h.2.2⟩
 |false=>exact id
end Go.Fw
